/- A claim's own texts, laid together by wip/zip.py without what the claim does not use. Conditions: none. -/
import Derived.Test.YtkbfhonoamgjgaaZopx0
import Derived.Test.YtkbfhonoamgjgaaZopx1
import Derived.Test.YtkbfhonoamgjgaaZopx12
import Derived.Test.YtkbfhonoamgjgaaZopx15
import Derived.Test.YtkbfhonoamgjgaaZopx16
import Derived.Test.YtkbfhonoamgjgaaZopx17
import Derived.Test.YtkbfhonoamgjgaaZopx18
section
/- The Go functions of this claim as Lean functions, and the proofs that their calls answer so: written by wip/myprint.py over the kit's printer, hand-proved contracts laid in. Conditions: none. -/
namespace Go.Proofs.Ytkbfhonoamgjgaa.P
open Go.RowKit Go.Proofs.YtkbfhonoamgjgaaW.PrintWords Go.Proofs.YtkbfhonoamgjgaaW.PrintLast Go.Proofs.YtkbfhonoamgjgaaW.PrintMore
attribute [local go_sem] max2_int min2_int max_two min_two max_three min_three max_four min_four   -- for this text's walks alone
set_option linter.unusedVariables false
set_option linter.unusedSimpArgs false
attribute [local go_sem high] eqA25
/-! ### slotmeshlaw09_TimesyncRoot: function 8 -/
def slotmeshlaw09_TimesyncRoot.l0 : Nat → Int → Bool → List (S27) → Int → Int → Bool → Int → Int → Int → Int → Int → Int → Option (Bool)
  | 0, _, _, _, _, _, _, _, _, _, _, _, _ => none
  | k + 1, x1, x5, x21, x22, x23, x477000, x477001, x477002, x477003, x477004, x477005, x477006 => if x23 < x22 then (if 0 ≤ x23 then (if x23 < (x21.length : Int) then ((timesync_Hear.f k x477000 x477001 x477002 x477003 x477004 x477005 x477006 ((rd_T27 x21 x23).f0) ((rd_T27 x21 x23).f1) ((rd_T27 x21 x23).f2) ((rd_T27 x21 x23).f3) ((rd_T27 x21 x23).f4)).bind fun bt479 => (if (!(bt479.1 == x477000) || ((!(bt479.2.1 == x477001) || (!(bt479.2.2.1 == x477002) || (!(bt479.2.2.2.1 == x477003)))) || (!(bt479.2.2.2.2.1 == x477004) || (!(bt479.2.2.2.2.2.1 == x477005) || (!(bt479.2.2.2.2.2.2.1 == x477006)))))) = true then (none) else ((timesync_Tick.f k x477000 x477001 x477002 x477003 x477004 x477005 x477006 x1).bind fun bt488 => (if (!(bt488.1 == x477000) || ((!(bt488.2.1 == x477001) || (!(bt488.2.2.1 == x477002) || (!(bt488.2.2.2.1 == x477003)))) || (!(bt488.2.2.2.2.1 == x477004) || (!(bt488.2.2.2.2.2.1 == x477005) || (!(bt488.2.2.2.2.2.2 == x477006)))))) = true then (none) else (slotmeshlaw09_TimesyncRoot.l0 k x1 x5 x21 x22 (wrap64 (x23 + 1)) bt479.1 bt479.2.1 bt479.2.2.1 bt479.2.2.2.1 bt479.2.2.2.2.1 bt479.2.2.2.2.2.1 bt479.2.2.2.2.2.2.1))))) else (none)) else (none)) else ((timesync_Bound.f k x477000 x477001 x477002 x477003 x477004 x477005 x477006 x1).bind fun bt495 => ((timesync_Start.f false).bind fun bt497 => ((timesync_Bound.f k bt497.1 bt497.2.1 bt497.2.2.1 bt497.2.2.2.1 bt497.2.2.2.2.1 bt497.2.2.2.2.2.1 bt497.2.2.2.2.2.2 x1).bind fun bt504 => (if x5 = true then (if bt495.1 = 0 then (if bt495.2 = 0 then (if bt504.2 = 16 then ((timesync_Start.f false).bind fun bt506 => ((timesync_Tick.f k bt506.1 bt506.2.1 bt506.2.2.1 bt506.2.2.2.1 bt506.2.2.2.2.1 bt506.2.2.2.2.2.1 bt506.2.2.2.2.2.2 x1).bind fun bt513 => ((timesync_Start.f false).bind fun bt520 => (some (bt513.1 == bt520.1 && ((bt513.2.1 == bt520.2.1 && (bt513.2.2.1 == bt520.2.2.1 && (bt513.2.2.2.1 == bt520.2.2.2.1))) && (bt513.2.2.2.2.1 == bt520.2.2.2.2.1 && (bt513.2.2.2.2.2.1 == bt520.2.2.2.2.2.1 && (bt513.2.2.2.2.2.2 == bt520.2.2.2.2.2.2))))))))) else (none)) else (none)) else (none)) else (none)))))
def slotmeshlaw09_TimesyncRoot.f (k : Nat) (l0 : List (S27)) (a1 : Int) : Option (Bool) := (slotmeshlaw09_head.f k).bind fun t468 => (if (l0.length : Int) > 40 then (some t468) else ((timesync_Start.f true).bind fun bt469 => (slotmeshlaw09_TimesyncRoot.l0 k a1 t468 l0 (l0.length : Int) 0 bt469.1 bt469.2.1 bt469.2.2.1 bt469.2.2.2.1 bt469.2.2.2.2.1 bt469.2.2.2.2.2.1 bt469.2.2.2.2.2.2)))
theorem slotmeshlaw09_TimesyncRoot.mono_l : ∀ k, (∀ y0 y1 y2 y3 y4 y5 y6 y7 y8 y9 y10 y11, LeO (slotmeshlaw09_TimesyncRoot.l0 k y0 y1 y2 y3 y4 y5 y6 y7 y8 y9 y10 y11) (slotmeshlaw09_TimesyncRoot.l0 (k + 1) y0 y1 y2 y3 y4 y5 y6 y7 y8 y9 y10 y11))
  | 0 => fun _ _ _ _ _ _ _ _ _ _ _ _ r h => by simp [slotmeshlaw09_TimesyncRoot.l0] at h
  | k + 1 => by
    have ih0 := slotmeshlaw09_TimesyncRoot.mono_l k
    · intro y0 y1 y2 y3 y4 y5 y6 y7 y8 y9 y10 y11
      unfold slotmeshlaw09_TimesyncRoot.l0
      repeat' first
      | (with_reducible exact ih0 _ _ _ _ _ _ _ _ _ _ _ _)
      | (with_reducible exact slotmeshlaw09_head.mono _)
      | (with_reducible exact timesync_Bound.mono _ _ _ _ _ _ _ _ _)
      | (with_reducible exact timesync_Hear.mono _ _ _ _ _ _ _ _ _ _ _ _ _)
      | (with_reducible exact timesync_Tick.mono _ _ _ _ _ _ _ _ _)
      | (with_reducible exact LeO.refl _)
      | (with_reducible exact LeO.none _)
      | (with_reducible refine LeO.ite ?_ ?_)
      | (with_reducible refine LeO.bind ?_ (fun _ => ?_))
      | exact ih0 _ _ _ _ _ _ _ _ _ _ _ _
      | exact slotmeshlaw09_head.mono _
      | exact timesync_Bound.mono _ _ _ _ _ _ _ _ _
      | exact timesync_Hear.mono _ _ _ _ _ _ _ _ _ _ _ _ _
      | exact timesync_Tick.mono _ _ _ _ _ _ _ _ _
      | exact LeO.none _
      | refine LeO.ite ?_ ?_
      | refine LeO.bind ?_ (fun _ => ?_)
def slotmeshlaw09_TimesyncRoot.T9 : Bool × List (List Nat × List Nat) := (true, [([], []), ([], []), ([0, 1], [0, 1]), ([2], [2]), ([3], [3]), ([3], [3]), ([4, 5, 3, 3], [3, 4, 5]), ([3], [3]), ([6, 7, 3], [3, 6, 7]), ([3, 8], [3, 8])])
def slotmeshlaw09_TimesyncRoot.B9 : List Nat := [0, 0, 3, 7, 15, 15, 63, 15, 255, 511]
theorem slotmeshlaw09_TimesyncRoot.tab9 : rtab .any (opsOf Try.f8 9) = slotmeshlaw09_TimesyncRoot.T9 := by kernel_rfl
theorem slotmeshlaw09_TimesyncRoot.bits9 : waitsOk slotmeshlaw09_TimesyncRoot.T9.2 slotmeshlaw09_TimesyncRoot.B9 = true := by kernel_rfl
set_option maxHeartbeats 8000000 in
set_option maxRecDepth 100000 in
theorem slotmeshlaw09_TimesyncRoot.calls (k : Nat) (A0 : Option Addr) (c0 : Nat) (l0 : List (S27)) (a1 : Int) (r : Bool) (w : World) (hr0 : Kd.C k27 w A0 l0.length l0) (hc0 : l0.length ≤ c0) (h : slotmeshlaw09_TimesyncRoot.f k l0 a1 = some r) :
    Calls Try.prog 8 #[.slice A0 l0.length c0, .int .i64 a1] w fun e w' => e = .returned (.bool r) ∧ Below w.heap.size w w' := by
  have hu25 := Try.underlying25
  have hu27 := Try.underlying27
  have HR0 := Aside0.mk hr0
  have HC0 := Aside0.mk hc0
  clear hr0 hc0
  have HB := Aside0.mk (Below.refl w.heap.size w)
  have H : ((slotmeshlaw09_head.f k).bind fun t468 => (if (l0.length : Int) > 40 then (some t468) else ((timesync_Start.f true).bind fun bt469 => (slotmeshlaw09_TimesyncRoot.l0 k a1 t468 l0 (l0.length : Int) 0 bt469.1 bt469.2.1 bt469.2.2.1 bt469.2.2.2.1 bt469.2.2.2.2.1 bt469.2.2.2.2.2.1 bt469.2.2.2.2.2.2)))) = some r := h
  clear h
  replace H := Option.bind_eq_some_iff.mp H
  obtain ⟨t468, A30, H⟩ := H
  replace H : (if (l0.length : Int) > 40 then (some t468) else ((timesync_Start.f true).bind fun bt469 => (slotmeshlaw09_TimesyncRoot.l0 k a1 t468 l0 (l0.length : Int) 0 bt469.1 bt469.2.1 bt469.2.2.1 bt469.2.2.2.1 bt469.2.2.2.2.1 bt469.2.2.2.2.2.1 bt469.2.2.2.2.2.2))) = some r := H
  have A3 := Aside0.mk A30
  clear A30
  by_cases c4 : (l0.length : Int) > 40
  · rw [if_pos c4] at H
    have c4b0 : decide (40 < (l0.length : Int)) = true := decide_eq_true c4
    have c4b1 : decide (40 < l0.length) = true := decide_eq_true (by omega)
    clear c4
    obtain rfl := Option.some.inj H
    go_enter Try.func8, Try.ntmps8
    go_wp2_with (first | ((with_reducible refine gate_callee (f := 11) rfl ?_); refine goesL_ (some 15) rfl rfl Try.func11 (by kernel_rfl) rfl #[] rfl (by (try simp only [List.map_toArray, List.map_cons, List.map_nil]); first | done | rfl | (simp only [List.length_drop, List.length_take]; rfl)) ?_; (with_reducible refine (slotmeshlaw09_head.calls k  t468 _ A3.out).mono ?_); rintro e w5 ⟨rfl, hb⟩; refine ⟨_, rfl, ?_⟩; have n0_ := Aside0.mk (below_step (by repeat (first | (with_reducible first | exact HB.out | apply below_alloc | apply pw_below_drewN | apply below_drew1) | exact HB.out)) hb); clear HB; have HB := n0_; clear n0_; (try clear hb); (try clear hb2); (try clear hk); (try clear hi)))
    go_ret
    exact ⟨by first | rfl | (simp [errW_none, errW_some] <;> rfl) | (simp [*, errW_none, errW_some] <;> rfl), by repeat (first | (with_reducible first | exact HB.out | apply below_alloc | apply pw_below_drewN | apply below_drew1) | exact HB.out)⟩
  · rw [if_neg c4] at H
    have c4b0 : decide (40 < (l0.length : Int)) = false := decide_eq_false c4
    have c4b1 : decide (40 < l0.length) = false := decide_eq_false (by omega)
    clear c4
    replace H := Option.bind_eq_some_iff.mp H
    obtain ⟨⟨t469, t470, t471, t472, t473, t474, t475⟩, A60, H⟩ := H
    replace H : (slotmeshlaw09_TimesyncRoot.l0 k a1 t468 l0 (l0.length : Int) 0 t469 t470 t471 t472 t473 t474 t475) = some r := H
    have A6 := Aside0.mk A60
    clear A60
    have H' := Aside0.mk H
    clear H
    go_enter Try.func8, Try.ntmps8
    go_wp2_with (first | ((with_reducible refine gate_callee (f := 11) rfl ?_); refine goesL_ (some 15) rfl rfl Try.func11 (by kernel_rfl) rfl #[] rfl (by (try simp only [List.map_toArray, List.map_cons, List.map_nil]); first | done | rfl | (simp only [List.length_drop, List.length_take]; rfl)) ?_; (with_reducible refine (slotmeshlaw09_head.calls k  t468 _ A3.out).mono ?_); rintro e w7 ⟨rfl, hb⟩; refine ⟨_, rfl, ?_⟩; have n0_ := Aside0.mk (below_step (by repeat (first | (with_reducible first | exact HB.out | apply below_alloc | apply pw_below_drewN | apply below_drew1) | exact HB.out)) hb); clear HB; have HB := n0_; clear n0_; (try clear hb); (try clear hb2); (try clear hk); (try clear hi)) | ((with_reducible refine gate_callee (f := 18) rfl ?_); refine goesL_ (some 20) rfl rfl Try.func18 (by kernel_rfl) rfl #[.bool true] rfl (by (try simp only [List.map_toArray, List.map_cons, List.map_nil]); first | done | rfl | (simp only [List.length_drop, List.length_take]; rfl)) ?_; (with_reducible refine (timesync_Start.calls true t469 t470 t471 t472 t473 t474 t475 _ A6.out).mono ?_); rintro e w8 ⟨rfl, hb⟩; refine ⟨_, rfl, ?_⟩; have n0_ := Aside0.mk (below_step (by repeat (first | (with_reducible first | exact HB.out | apply below_alloc | apply pw_below_drewN | apply below_drew1) | exact HB.out)) hb); clear HB; have HB := n0_; clear n0_; (try clear hb); (try clear hb2); (try clear hk); (try clear hi)) | ((with_reducible refine gate_dst (N := 6) rfl ?_); refine box_event ?hg (N := 6) ?hd (cs := #[.bool false, .int .i64 0, .int .i64 0, .int .i64 0, .int .i64 0, .int .i64 0, .int .i64 0]) (t := 25) ?hr ?_; (case hd => rfl); (case hg => rfl); (case hr => first | (go_simp; done) | (go_simp; rfl)); intro gb476 hg w9 hbox hb; have n0_ := Aside0.mk (below_step (by repeat (first | (with_reducible first | exact HB.out | apply below_alloc | apply pw_below_drewN | apply below_drew1) | exact HB.out)) hb); have n1_ := Aside0.mk (hbox); have n2_ := Aside0.mk ((by rw [hg]; exact (below_size (by repeat (first | (with_reducible first | exact HB.out | apply below_alloc | apply pw_below_drewN | apply below_drew1) | exact HB.out))) : w.heap.size ≤ gb476)); have n3_ := Aside0.mk ((by rw [hg]; exact (below_size (by repeat (first | (with_reducible first | exact HB.out | apply below_alloc | apply pw_below_drewN | apply below_drew1) | exact HB.out))) : w.heap.size ≤ gb476)); clear HB; have HB := n0_; have BK476 := n1_; have GW476 := n2_; have GE476 := n3_; clear n0_ n1_ n2_ n3_; clear hb hbox hg; have hcz10_0 : w9.cell? ⟨gb476, 0, none⟩ = some (.bool false) := (blk_cell BK476.out 0).trans rfl; have hcz10_1 : w9.cell? ⟨gb476, 1, none⟩ = some (.int .i64 0) := (blk_cell BK476.out 1).trans rfl; have hcz10_2 : w9.cell? ⟨gb476, 2, none⟩ = some (.int .i64 0) := (blk_cell BK476.out 2).trans rfl; have hcz10_3 : w9.cell? ⟨gb476, 3, none⟩ = some (.int .i64 0) := (blk_cell BK476.out 3).trans rfl; have hcz10_4 : w9.cell? ⟨gb476, 4, none⟩ = some (.int .i64 0) := (blk_cell BK476.out 4).trans rfl; have hcz10_5 : w9.cell? ⟨gb476, 5, none⟩ = some (.int .i64 0) := (blk_cell BK476.out 5).trans rfl; have hcz10_6 : w9.cell? ⟨gb476, 6, none⟩ = some (.int .i64 0) := (blk_cell BK476.out 6).trans rfl; have hfz10_0 := blk_frozen BK476.out 0; have hfz10_1 := blk_frozen BK476.out 1; have hfz10_2 := blk_frozen BK476.out 2; have hfz10_3 := blk_frozen BK476.out 3; have hfz10_4 := blk_frozen BK476.out 4; have hfz10_5 := blk_frozen BK476.out 5; have hfz10_6 := blk_frozen BK476.out 6))
    go_loopg [23] k (fun kq v23 w' => ∃ (x23_1 : Int) (x477000_1 : Bool) (x477001_1 : Int) (x477002_1 : Int) (x477003_1 : Int) (x477004_1 : Int) (x477005_1 : Int) (x477006_1 : Int), v23 = .int .i64 x23_1 ∧ Aside0 (slotmeshlaw09_TimesyncRoot.l0 kq a1 t468 l0 (l0.length : Int) x23_1 x477000_1 x477001_1 x477002_1 x477003_1 x477004_1 x477005_1 x477006_1 = some r) ∧ Aside0 (kq ≤ k) ∧ Aside0 (w'.heap[gb476]? = some (.cells #[.bool x477000_1, .int .i64 x477001_1, .int .i64 x477002_1, .int .i64 x477003_1, .int .i64 x477004_1, .int .i64 x477005_1, .int .i64 x477006_1] 25 (0, 0))) ∧ Aside0 (Below w.heap.size w w'))
    case atStart => exact ⟨(0), (t469), (t470), (t471), (t472), (t473), (t474), (t475), (by first | rfl | (simp; done) | (simp [*]; done)), H', ⟨Nat.le_refl _⟩, ⟨by (with_reducible repeat (first | refine blk_drewN ?_ _ | refine blk_drew ?_ | refine blk_alloc ?_ _)); refine blk_put (cs := #[.bool t469, .int .i64 t470, .int .i64 t471, .int .i64 t472, .int .i64 t473, .int .i64 t474, .int .i64 0]) ?_ 6 _ rfl; (with_reducible repeat (first | refine blk_drewN ?_ _ | refine blk_drew ?_ | refine blk_alloc ?_ _)); refine blk_put (cs := #[.bool t469, .int .i64 t470, .int .i64 t471, .int .i64 t472, .int .i64 t473, .int .i64 0, .int .i64 0]) ?_ 5 _ rfl; (with_reducible repeat (first | refine blk_drewN ?_ _ | refine blk_drew ?_ | refine blk_alloc ?_ _)); refine blk_put (cs := #[.bool t469, .int .i64 t470, .int .i64 t471, .int .i64 t472, .int .i64 0, .int .i64 0, .int .i64 0]) ?_ 4 _ rfl; (with_reducible repeat (first | refine blk_drewN ?_ _ | refine blk_drew ?_ | refine blk_alloc ?_ _)); refine blk_put (cs := #[.bool t469, .int .i64 t470, .int .i64 t471, .int .i64 0, .int .i64 0, .int .i64 0, .int .i64 0]) ?_ 3 _ rfl; (with_reducible repeat (first | refine blk_drewN ?_ _ | refine blk_drew ?_ | refine blk_alloc ?_ _)); refine blk_put (cs := #[.bool t469, .int .i64 t470, .int .i64 0, .int .i64 0, .int .i64 0, .int .i64 0, .int .i64 0]) ?_ 2 _ rfl; (with_reducible repeat (first | refine blk_drewN ?_ _ | refine blk_drew ?_ | refine blk_alloc ?_ _)); refine blk_put (cs := #[.bool t469, .int .i64 0, .int .i64 0, .int .i64 0, .int .i64 0, .int .i64 0, .int .i64 0]) ?_ 1 _ rfl; (with_reducible repeat (first | refine blk_drewN ?_ _ | refine blk_drew ?_ | refine blk_alloc ?_ _)); refine blk_put (cs := #[.bool false, .int .i64 0, .int .i64 0, .int .i64 0, .int .i64 0, .int .i64 0, .int .i64 0]) ?_ 0 _ rfl; (with_reducible repeat (first | refine blk_drewN ?_ _ | refine blk_drew ?_ | refine blk_alloc ?_ _)); exact BK476.out⟩, ⟨by repeat (first | (with_reducible first | exact HB.out | apply below_alloc | apply pw_below_drewN | apply below_drew1 | refine below_set ?_ GE476.out) | exact HB.out)⟩⟩
    case round =>
      clear H'
      try clear c1
      try clear p2
      try clear c4
      try clear c4b0
      try clear c4b1
      try clear c8
      try clear hcz10_0
      try clear hcz10_1
      try clear hcz10_2
      try clear hcz10_3
      try clear hcz10_4
      try clear hcz10_5
      try clear hcz10_6
      try clear hfz10_0
      try clear hfz10_1
      try clear hfz10_2
      try clear hfz10_3
      try clear hfz10_4
      try clear hfz10_5
      try clear hfz10_6
      obtain ⟨x23_1, x477000_1, x477001_1, x477002_1, x477003_1, x477004_1, x477005_1, x477006_1, rfl, HA, HK1, BK476, HB⟩ := hrel
      cases gk with
      | zero => exact absurd HA.out (by simp [slotmeshlaw09_TimesyncRoot.l0])
      | succ k1 =>
        have H := HA.out
        clear HA
        simp only [slotmeshlaw09_TimesyncRoot.l0] at H
        by_cases c11 : x23_1 < (l0.length : Int)
        · rw [if_pos c11] at H
          have c11b0 : decide (x23_1 < (l0.length : Int)) = true := decide_eq_true c11
          clear c11
          by_cases c12 : 0 ≤ x23_1
          · rw [if_pos c12] at H
            have c12b0 : decide (0 ≤ x23_1) = true := decide_eq_true c12
            clear c12
            by_cases c13 : x23_1 < (l0.length : Int)
            · rw [if_pos c13] at H
              have c13b0 : decide (x23_1 < (l0.length : Int)) = true := decide_eq_true c13
              clear c13
              replace H := Option.bind_eq_some_iff.mp H
              obtain ⟨⟨t479, t480, t481, t482, t483, t484, t485, t486⟩, A140, H⟩ := H
              replace H : (if (!(t479 == x477000_1) || ((!(t480 == x477001_1) || (!(t481 == x477002_1) || (!(t482 == x477003_1)))) || (!(t483 == x477004_1) || (!(t484 == x477005_1) || (!(t485 == x477006_1)))))) = true then (none) else ((timesync_Tick.f k1 x477000_1 x477001_1 x477002_1 x477003_1 x477004_1 x477005_1 x477006_1 a1).bind fun bt488 => (if (!(bt488.1 == x477000_1) || ((!(bt488.2.1 == x477001_1) || (!(bt488.2.2.1 == x477002_1) || (!(bt488.2.2.2.1 == x477003_1)))) || (!(bt488.2.2.2.2.1 == x477004_1) || (!(bt488.2.2.2.2.2.1 == x477005_1) || (!(bt488.2.2.2.2.2.2 == x477006_1)))))) = true then (none) else (slotmeshlaw09_TimesyncRoot.l0 k1 a1 t468 l0 (l0.length : Int) (wrap64 (x23_1 + 1)) t479 t480 t481 t482 t483 t484 t485)))) = some r := H
              have A14 := Aside0.mk A140
              clear A140
              by_cases c15 : (!(t479 == x477000_1) || ((!(t480 == x477001_1) || (!(t481 == x477002_1) || (!(t482 == x477003_1)))) || (!(t483 == x477004_1) || (!(t484 == x477005_1) || (!(t485 == x477006_1)))))) = true
              · rw [if_pos c15] at H
                have c15b0 : (!(t479 == x477000_1) || ((!(t480 == x477001_1) || (!(t481 == x477002_1) || (!(t482 == x477003_1)))) || (!(t483 == x477004_1) || (!(t484 == x477005_1) || (!(t485 == x477006_1)))))) = true := c15
                clear c15
                exact absurd H (by simp)
              · rw [if_neg c15] at H
                have c15b0 : (!(t479 == x477000_1) || ((!(t480 == x477001_1) || (!(t481 == x477002_1) || (!(t482 == x477003_1)))) || (!(t483 == x477004_1) || (!(t484 == x477005_1) || (!(t485 == x477006_1)))))) = false := by simpa using c15
                clear c15
                replace H := Option.bind_eq_some_iff.mp H
                obtain ⟨⟨t488, t489, t490, t491, t492, t493, t494⟩, A160, H⟩ := H
                replace H : (if (!(t488 == x477000_1) || ((!(t489 == x477001_1) || (!(t490 == x477002_1) || (!(t491 == x477003_1)))) || (!(t492 == x477004_1) || (!(t493 == x477005_1) || (!(t494 == x477006_1)))))) = true then (none) else (slotmeshlaw09_TimesyncRoot.l0 k1 a1 t468 l0 (l0.length : Int) (wrap64 (x23_1 + 1)) t479 t480 t481 t482 t483 t484 t485)) = some r := H
                have A16 := Aside0.mk A160
                clear A160
                by_cases c17 : (!(t488 == x477000_1) || ((!(t489 == x477001_1) || (!(t490 == x477002_1) || (!(t491 == x477003_1)))) || (!(t492 == x477004_1) || (!(t493 == x477005_1) || (!(t494 == x477006_1)))))) = true
                · rw [if_pos c17] at H
                  exact absurd H (by simp)
                · rw [if_neg c17] at H
                  have c17b0 : (!(t488 == x477000_1) || ((!(t489 == x477001_1) || (!(t490 == x477002_1) || (!(t491 == x477003_1)))) || (!(t492 == x477004_1) || (!(t493 == x477005_1) || (!(t494 == x477006_1)))))) = false := by simpa using c17
                  clear c17
                  have H' := Aside0.mk H
                  clear H
                  have p477 : 0 ≤ (x23_1 : Int) := of_decide_eq_true (by first | (with_reducible assumption) | assumption)
                  have q477 : x23_1 < (l0.length : Int) := of_decide_eq_true (by first | (with_reducible assumption) | assumption)
                  obtain ⟨ad477, e477, hx477_0, hx477_1, hx477_2, hx477_3, hx477_4⟩ := at_T27 HR0.out x23_1 p477 q477
                  cases e477
                  replace hx477_0 := (HB.out.cell (World.block_lt_of_cell? w _ hx477_0)).trans hx477_0
                  replace hx477_1 := (HB.out.cell (World.block_lt_of_cell? w _ hx477_1)).trans hx477_1
                  replace hx477_2 := (HB.out.cell (World.block_lt_of_cell? w _ hx477_2)).trans hx477_2
                  replace hx477_3 := (HB.out.cell (World.block_lt_of_cell? w _ hx477_3)).trans hx477_3
                  replace hx477_4 := (HB.out.cell (World.block_lt_of_cell? w _ hx477_4)).trans hx477_4
                  replace p477 := eq_true p477
                  replace q477 := eq_true q477
                  try go_wp2_with (first | ((with_reducible refine gate_dst (N := 8) rfl ?_); refine box_event ?hg (N := 8) ?hd (cs := #[.int .i64 0, .int .i64 0, .int .i64 0, .int .i64 0, .int .i64 0]) (t := 27) ?hr ?_; (case hd => rfl); (case hg => rfl); (case hr => first | (go_simp; done) | (go_simp; rfl)); intro gb478 hg w18 hbox hb; have n0_ := Aside0.mk (blk_below (g := gb476) (o := .cells #[.bool x477000_1, .int .i64 x477001_1, .int .i64 x477002_1, .int .i64 x477003_1, .int .i64 x477004_1, .int .i64 x477005_1, .int .i64 x477006_1] 25 (0, 0)) (by (with_reducible repeat (first | refine blk_drewN ?_ _ | refine blk_drew ?_ | refine blk_alloc ?_ _)); exact BK476.out) hb); have n1_ := Aside0.mk (below_step (by repeat (first | (with_reducible first | exact HB.out | apply below_alloc | apply pw_below_drewN | apply below_drew1 | refine below_set ?_ GE476.out) | exact HB.out)) hb); have n2_ := Aside0.mk (hbox); have n3_ := Aside0.mk ((by rw [hg]; exact (below_size (by repeat (first | (with_reducible first | exact HB.out | apply below_alloc | apply pw_below_drewN | apply below_drew1 | refine below_set ?_ GE476.out) | exact HB.out))) : w.heap.size ≤ gb478)); have n4_ := Aside0.mk ((by rw [hg]; exact (below_size (by repeat (first | (with_reducible first | exact HB.out | apply below_alloc | apply pw_below_drewN | apply below_drew1 | refine below_set ?_ GE476.out) | exact HB.out))) : w.heap.size ≤ gb478)); have n5_ := Aside0.mk ((by rw [hg]; exact Nat.ne_of_lt (blk_lt (g := gb476) (o := .cells #[.bool x477000_1, .int .i64 x477001_1, .int .i64 x477002_1, .int .i64 x477003_1, .int .i64 x477004_1, .int .i64 x477005_1, .int .i64 x477006_1] 25 (0, 0)) (by (with_reducible repeat (first | refine blk_drewN ?_ _ | refine blk_drew ?_ | refine blk_alloc ?_ _)); exact BK476.out)) : gb476 ≠ gb478)); have n6_ := Aside0.mk ((by rw [hg]; exact Nat.ne_of_gt (blk_lt (g := gb476) (o := .cells #[.bool x477000_1, .int .i64 x477001_1, .int .i64 x477002_1, .int .i64 x477003_1, .int .i64 x477004_1, .int .i64 x477005_1, .int .i64 x477006_1] 25 (0, 0)) (by (with_reducible repeat (first | refine blk_drewN ?_ _ | refine blk_drew ?_ | refine blk_alloc ?_ _)); exact BK476.out)) : gb478 ≠ gb476)); clear BK476; clear HB; have BK476 := n0_; have HB := n1_; have BK478 := n2_; have GW478 := n3_; have GE478 := n4_; have NB476_478 := n5_; have NB478_476 := n6_; clear n0_ n1_ n2_ n3_ n4_ n5_ n6_; clear hb hbox hg; have hnb19 := NB478_476.out; have hnc19 := NB476_478.out; have hcz20_0 : w18.cell? ⟨gb478, 0, none⟩ = some (.int .i64 0) := (blk_cell BK478.out 0).trans rfl; have hcz20_1 : w18.cell? ⟨gb478, 1, none⟩ = some (.int .i64 0) := (blk_cell BK478.out 1).trans rfl; have hcz20_2 : w18.cell? ⟨gb478, 2, none⟩ = some (.int .i64 0) := (blk_cell BK478.out 2).trans rfl; have hcz20_3 : w18.cell? ⟨gb478, 3, none⟩ = some (.int .i64 0) := (blk_cell BK478.out 3).trans rfl; have hcz20_4 : w18.cell? ⟨gb478, 4, none⟩ = some (.int .i64 0) := (blk_cell BK478.out 4).trans rfl; have hfz20_0 := blk_frozen BK478.out 0; have hfz20_1 := blk_frozen BK478.out 1; have hfz20_2 := blk_frozen BK478.out 2; have hfz20_3 := blk_frozen BK478.out 3; have hfz20_4 := blk_frozen BK478.out 4; have hcz21_0 : w18.cell? ⟨gb476, 0, none⟩ = some (.bool x477000_1) := (blk_cell BK476.out 0).trans rfl; have hcz21_1 : w18.cell? ⟨gb476, 1, none⟩ = some (.int .i64 x477001_1) := (blk_cell BK476.out 1).trans rfl; have hcz21_2 : w18.cell? ⟨gb476, 2, none⟩ = some (.int .i64 x477002_1) := (blk_cell BK476.out 2).trans rfl; have hcz21_3 : w18.cell? ⟨gb476, 3, none⟩ = some (.int .i64 x477003_1) := (blk_cell BK476.out 3).trans rfl; have hcz21_4 : w18.cell? ⟨gb476, 4, none⟩ = some (.int .i64 x477004_1) := (blk_cell BK476.out 4).trans rfl; have hcz21_5 : w18.cell? ⟨gb476, 5, none⟩ = some (.int .i64 x477005_1) := (blk_cell BK476.out 5).trans rfl; have hcz21_6 : w18.cell? ⟨gb476, 6, none⟩ = some (.int .i64 x477006_1) := (blk_cell BK476.out 6).trans rfl; have hfz21_0 := blk_frozen BK476.out 0; have hfz21_1 := blk_frozen BK476.out 1; have hfz21_2 := blk_frozen BK476.out 2; have hfz21_3 := blk_frozen BK476.out 3; have hfz21_4 := blk_frozen BK476.out 4; have hfz21_5 := blk_frozen BK476.out 5; have hfz21_6 := blk_frozen BK476.out 6) | ((with_reducible refine gate_callee (f := 12) rfl ?_); refine goesL_ (some 30) rfl rfl Try.func12 (by kernel_rfl) rfl #[.agg #[.bool x477000_1, .int .i64 x477001_1, .int .i64 x477002_1, .int .i64 x477003_1, .int .i64 x477004_1, .int .i64 x477005_1, .int .i64 x477006_1], .agg #[.int .i64 ((rd_T27 l0 x23_1).f0), .int .i64 ((rd_T27 l0 x23_1).f1), .int .i64 ((rd_T27 l0 x23_1).f2), .int .i64 ((rd_T27 l0 x23_1).f3), .int .i64 ((rd_T27 l0 x23_1).f4)]] rfl (by (try simp only [List.map_toArray, List.map_cons, List.map_nil]); first | done | rfl | (simp only [List.length_drop, List.length_take]; rfl)) ?_; (with_reducible refine (timesync_Hear.calls k1 x477000_1 x477001_1 x477002_1 x477003_1 x477004_1 x477005_1 x477006_1 ((rd_T27 l0 x23_1).f0) ((rd_T27 l0 x23_1).f1) ((rd_T27 l0 x23_1).f2) ((rd_T27 l0 x23_1).f3) ((rd_T27 l0 x23_1).f4) t479 t480 t481 t482 t483 t484 t485 t486 _ A14.out).mono ?_); rintro e w22 ⟨rfl, hb⟩; refine ⟨_, rfl, ?_⟩; have n0_ := Aside0.mk (blk_below (g := gb476) (o := .cells #[.bool x477000_1, .int .i64 x477001_1, .int .i64 x477002_1, .int .i64 x477003_1, .int .i64 x477004_1, .int .i64 x477005_1, .int .i64 x477006_1] 25 (0, 0)) (by (with_reducible repeat (first | refine blk_drewN ?_ _ | refine blk_drew ?_ | refine blk_alloc ?_ _)); refine blk_far ?_ NB476_478.out _; (with_reducible repeat (first | refine blk_drewN ?_ _ | refine blk_drew ?_ | refine blk_alloc ?_ _)); refine blk_far ?_ NB476_478.out _; (with_reducible repeat (first | refine blk_drewN ?_ _ | refine blk_drew ?_ | refine blk_alloc ?_ _)); refine blk_far ?_ NB476_478.out _; (with_reducible repeat (first | refine blk_drewN ?_ _ | refine blk_drew ?_ | refine blk_alloc ?_ _)); refine blk_far ?_ NB476_478.out _; (with_reducible repeat (first | refine blk_drewN ?_ _ | refine blk_drew ?_ | refine blk_alloc ?_ _)); refine blk_far ?_ NB476_478.out _; (with_reducible repeat (first | refine blk_drewN ?_ _ | refine blk_drew ?_ | refine blk_alloc ?_ _)); exact BK476.out) hb); have n1_ := Aside0.mk (blk_below (g := gb478) (o := .cells #[.int .i64 ((rd_T27 l0 x23_1).f0), .int .i64 ((rd_T27 l0 x23_1).f1), .int .i64 ((rd_T27 l0 x23_1).f2), .int .i64 ((rd_T27 l0 x23_1).f3), .int .i64 ((rd_T27 l0 x23_1).f4)] 27 (0, 0)) (by (with_reducible repeat (first | refine blk_drewN ?_ _ | refine blk_drew ?_ | refine blk_alloc ?_ _)); refine blk_put (cs := #[.int .i64 ((rd_T27 l0 x23_1).f0), .int .i64 ((rd_T27 l0 x23_1).f1), .int .i64 ((rd_T27 l0 x23_1).f2), .int .i64 ((rd_T27 l0 x23_1).f3), .int .i64 0]) ?_ 4 _ rfl; (with_reducible repeat (first | refine blk_drewN ?_ _ | refine blk_drew ?_ | refine blk_alloc ?_ _)); refine blk_put (cs := #[.int .i64 ((rd_T27 l0 x23_1).f0), .int .i64 ((rd_T27 l0 x23_1).f1), .int .i64 ((rd_T27 l0 x23_1).f2), .int .i64 0, .int .i64 0]) ?_ 3 _ rfl; (with_reducible repeat (first | refine blk_drewN ?_ _ | refine blk_drew ?_ | refine blk_alloc ?_ _)); refine blk_put (cs := #[.int .i64 ((rd_T27 l0 x23_1).f0), .int .i64 ((rd_T27 l0 x23_1).f1), .int .i64 0, .int .i64 0, .int .i64 0]) ?_ 2 _ rfl; (with_reducible repeat (first | refine blk_drewN ?_ _ | refine blk_drew ?_ | refine blk_alloc ?_ _)); refine blk_put (cs := #[.int .i64 ((rd_T27 l0 x23_1).f0), .int .i64 0, .int .i64 0, .int .i64 0, .int .i64 0]) ?_ 1 _ rfl; (with_reducible repeat (first | refine blk_drewN ?_ _ | refine blk_drew ?_ | refine blk_alloc ?_ _)); refine blk_put (cs := #[.int .i64 0, .int .i64 0, .int .i64 0, .int .i64 0, .int .i64 0]) ?_ 0 _ rfl; (with_reducible repeat (first | refine blk_drewN ?_ _ | refine blk_drew ?_ | refine blk_alloc ?_ _)); exact BK478.out) hb); have n2_ := Aside0.mk (below_step (by repeat (first | (with_reducible first | exact HB.out | apply below_alloc | apply pw_below_drewN | apply below_drew1 | refine below_set ?_ GE476.out | refine below_set ?_ GE478.out) | exact HB.out)) hb); clear BK476; clear BK478; clear HB; have BK476 := n0_; have BK478 := n1_; have HB := n2_; clear n0_ n1_ n2_; (try clear hb); (try clear hb2); (try clear hk); (try clear hi)) | ((with_reducible refine gate_dst (N := 9) rfl ?_); refine box_event ?hg (N := 9) ?hd (cs := #[.bool false, .int .i64 0, .int .i64 0, .int .i64 0, .int .i64 0, .int .i64 0, .int .i64 0]) (t := 25) ?hr ?_; (case hd => rfl); (case hg => rfl); (case hr => first | (go_simp; done) | (go_simp; rfl)); intro gb487 hg w23 hbox hb; have n0_ := Aside0.mk (blk_below (g := gb476) (o := .cells #[.bool x477000_1, .int .i64 x477001_1, .int .i64 x477002_1, .int .i64 x477003_1, .int .i64 x477004_1, .int .i64 x477005_1, .int .i64 x477006_1] 25 (0, 0)) (by (with_reducible repeat (first | refine blk_drewN ?_ _ | refine blk_drew ?_ | refine blk_alloc ?_ _)); exact BK476.out) hb); have n1_ := Aside0.mk (blk_below (g := gb478) (o := .cells #[.int .i64 ((rd_T27 l0 x23_1).f0), .int .i64 ((rd_T27 l0 x23_1).f1), .int .i64 ((rd_T27 l0 x23_1).f2), .int .i64 ((rd_T27 l0 x23_1).f3), .int .i64 ((rd_T27 l0 x23_1).f4)] 27 (0, 0)) (by (with_reducible repeat (first | refine blk_drewN ?_ _ | refine blk_drew ?_ | refine blk_alloc ?_ _)); exact BK478.out) hb); have n2_ := Aside0.mk (below_step (by repeat (first | (with_reducible first | exact HB.out | apply below_alloc | apply pw_below_drewN | apply below_drew1 | refine below_set ?_ GE476.out | refine below_set ?_ GE478.out) | exact HB.out)) hb); have n3_ := Aside0.mk (hbox); have n4_ := Aside0.mk ((by rw [hg]; exact (below_size (by repeat (first | (with_reducible first | exact HB.out | apply below_alloc | apply pw_below_drewN | apply below_drew1 | refine below_set ?_ GE476.out | refine below_set ?_ GE478.out) | exact HB.out))) : w.heap.size ≤ gb487)); have n5_ := Aside0.mk ((by rw [hg]; exact (below_size (by repeat (first | (with_reducible first | exact HB.out | apply below_alloc | apply pw_below_drewN | apply below_drew1 | refine below_set ?_ GE476.out | refine below_set ?_ GE478.out) | exact HB.out))) : w.heap.size ≤ gb487)); have n6_ := Aside0.mk ((by rw [hg]; exact Nat.ne_of_lt (blk_lt (g := gb476) (o := .cells #[.bool x477000_1, .int .i64 x477001_1, .int .i64 x477002_1, .int .i64 x477003_1, .int .i64 x477004_1, .int .i64 x477005_1, .int .i64 x477006_1] 25 (0, 0)) (by (with_reducible repeat (first | refine blk_drewN ?_ _ | refine blk_drew ?_ | refine blk_alloc ?_ _)); exact BK476.out)) : gb476 ≠ gb487)); have n7_ := Aside0.mk ((by rw [hg]; exact Nat.ne_of_gt (blk_lt (g := gb476) (o := .cells #[.bool x477000_1, .int .i64 x477001_1, .int .i64 x477002_1, .int .i64 x477003_1, .int .i64 x477004_1, .int .i64 x477005_1, .int .i64 x477006_1] 25 (0, 0)) (by (with_reducible repeat (first | refine blk_drewN ?_ _ | refine blk_drew ?_ | refine blk_alloc ?_ _)); exact BK476.out)) : gb487 ≠ gb476)); have n8_ := Aside0.mk ((by rw [hg]; exact Nat.ne_of_lt (blk_lt (g := gb478) (o := .cells #[.int .i64 ((rd_T27 l0 x23_1).f0), .int .i64 ((rd_T27 l0 x23_1).f1), .int .i64 ((rd_T27 l0 x23_1).f2), .int .i64 ((rd_T27 l0 x23_1).f3), .int .i64 ((rd_T27 l0 x23_1).f4)] 27 (0, 0)) (by (with_reducible repeat (first | refine blk_drewN ?_ _ | refine blk_drew ?_ | refine blk_alloc ?_ _)); exact BK478.out)) : gb478 ≠ gb487)); have n9_ := Aside0.mk ((by rw [hg]; exact Nat.ne_of_gt (blk_lt (g := gb478) (o := .cells #[.int .i64 ((rd_T27 l0 x23_1).f0), .int .i64 ((rd_T27 l0 x23_1).f1), .int .i64 ((rd_T27 l0 x23_1).f2), .int .i64 ((rd_T27 l0 x23_1).f3), .int .i64 ((rd_T27 l0 x23_1).f4)] 27 (0, 0)) (by (with_reducible repeat (first | refine blk_drewN ?_ _ | refine blk_drew ?_ | refine blk_alloc ?_ _)); exact BK478.out)) : gb487 ≠ gb478)); clear BK476; clear BK478; clear HB; have BK476 := n0_; have BK478 := n1_; have HB := n2_; have BK487 := n3_; have GW487 := n4_; have GE487 := n5_; have NB476_487 := n6_; have NB487_476 := n7_; have NB478_487 := n8_; have NB487_478 := n9_; clear n0_ n1_ n2_ n3_ n4_ n5_ n6_ n7_ n8_ n9_; clear hb hbox hg; have hnb24 := NB487_476.out; have hnc24 := NB476_487.out; have hnb25 := NB487_478.out; have hnc25 := NB478_487.out; have hcz26_0 : w23.cell? ⟨gb487, 0, none⟩ = some (.bool false) := (blk_cell BK487.out 0).trans rfl; have hcz26_1 : w23.cell? ⟨gb487, 1, none⟩ = some (.int .i64 0) := (blk_cell BK487.out 1).trans rfl; have hcz26_2 : w23.cell? ⟨gb487, 2, none⟩ = some (.int .i64 0) := (blk_cell BK487.out 2).trans rfl; have hcz26_3 : w23.cell? ⟨gb487, 3, none⟩ = some (.int .i64 0) := (blk_cell BK487.out 3).trans rfl; have hcz26_4 : w23.cell? ⟨gb487, 4, none⟩ = some (.int .i64 0) := (blk_cell BK487.out 4).trans rfl; have hcz26_5 : w23.cell? ⟨gb487, 5, none⟩ = some (.int .i64 0) := (blk_cell BK487.out 5).trans rfl; have hcz26_6 : w23.cell? ⟨gb487, 6, none⟩ = some (.int .i64 0) := (blk_cell BK487.out 6).trans rfl; have hfz26_0 := blk_frozen BK487.out 0; have hfz26_1 := blk_frozen BK487.out 1; have hfz26_2 := blk_frozen BK487.out 2; have hfz26_3 := blk_frozen BK487.out 3; have hfz26_4 := blk_frozen BK487.out 4; have hfz26_5 := blk_frozen BK487.out 5; have hfz26_6 := blk_frozen BK487.out 6))
                  have n0_ : Aside0 ((((((((w23.setCell ⟨gb487, 0, none⟩ (.bool t479)).setCell ⟨gb487, 1, none⟩ (.int .i64 t480)).setCell ⟨gb487, 2, none⟩ (.int .i64 t481)).setCell ⟨gb487, 3, none⟩ (.int .i64 t482)).setCell ⟨gb487, 4, none⟩ (.int .i64 t483)).setCell ⟨gb487, 5, none⟩ (.int .i64 t484)).setCell ⟨gb487, 6, none⟩ (.int .i64 t485)).heap[gb476]? = some (.cells #[.bool x477000_1, .int .i64 x477001_1, .int .i64 x477002_1, .int .i64 x477003_1, .int .i64 x477004_1, .int .i64 x477005_1, .int .i64 x477006_1] 25 (0, 0))) := ⟨by (with_reducible repeat (first | refine blk_drewN ?_ _ | refine blk_drew ?_ | refine blk_alloc ?_ _)); refine blk_far ?_ NB476_487.out _; (with_reducible repeat (first | refine blk_drewN ?_ _ | refine blk_drew ?_ | refine blk_alloc ?_ _)); refine blk_far ?_ NB476_487.out _; (with_reducible repeat (first | refine blk_drewN ?_ _ | refine blk_drew ?_ | refine blk_alloc ?_ _)); refine blk_far ?_ NB476_487.out _; (with_reducible repeat (first | refine blk_drewN ?_ _ | refine blk_drew ?_ | refine blk_alloc ?_ _)); refine blk_far ?_ NB476_487.out _; (with_reducible repeat (first | refine blk_drewN ?_ _ | refine blk_drew ?_ | refine blk_alloc ?_ _)); refine blk_far ?_ NB476_487.out _; (with_reducible repeat (first | refine blk_drewN ?_ _ | refine blk_drew ?_ | refine blk_alloc ?_ _)); refine blk_far ?_ NB476_487.out _; (with_reducible repeat (first | refine blk_drewN ?_ _ | refine blk_drew ?_ | refine blk_alloc ?_ _)); refine blk_far ?_ NB476_487.out _; (with_reducible repeat (first | refine blk_drewN ?_ _ | refine blk_drew ?_ | refine blk_alloc ?_ _)); exact BK476.out⟩
                  have n1_ : Aside0 ((((((((w23.setCell ⟨gb487, 0, none⟩ (.bool t479)).setCell ⟨gb487, 1, none⟩ (.int .i64 t480)).setCell ⟨gb487, 2, none⟩ (.int .i64 t481)).setCell ⟨gb487, 3, none⟩ (.int .i64 t482)).setCell ⟨gb487, 4, none⟩ (.int .i64 t483)).setCell ⟨gb487, 5, none⟩ (.int .i64 t484)).setCell ⟨gb487, 6, none⟩ (.int .i64 t485)).heap[gb478]? = some (.cells #[.int .i64 ((rd_T27 l0 x23_1).f0), .int .i64 ((rd_T27 l0 x23_1).f1), .int .i64 ((rd_T27 l0 x23_1).f2), .int .i64 ((rd_T27 l0 x23_1).f3), .int .i64 ((rd_T27 l0 x23_1).f4)] 27 (0, 0))) := ⟨by (with_reducible repeat (first | refine blk_drewN ?_ _ | refine blk_drew ?_ | refine blk_alloc ?_ _)); refine blk_far ?_ NB478_487.out _; (with_reducible repeat (first | refine blk_drewN ?_ _ | refine blk_drew ?_ | refine blk_alloc ?_ _)); refine blk_far ?_ NB478_487.out _; (with_reducible repeat (first | refine blk_drewN ?_ _ | refine blk_drew ?_ | refine blk_alloc ?_ _)); refine blk_far ?_ NB478_487.out _; (with_reducible repeat (first | refine blk_drewN ?_ _ | refine blk_drew ?_ | refine blk_alloc ?_ _)); refine blk_far ?_ NB478_487.out _; (with_reducible repeat (first | refine blk_drewN ?_ _ | refine blk_drew ?_ | refine blk_alloc ?_ _)); refine blk_far ?_ NB478_487.out _; (with_reducible repeat (first | refine blk_drewN ?_ _ | refine blk_drew ?_ | refine blk_alloc ?_ _)); refine blk_far ?_ NB478_487.out _; (with_reducible repeat (first | refine blk_drewN ?_ _ | refine blk_drew ?_ | refine blk_alloc ?_ _)); refine blk_far ?_ NB478_487.out _; (with_reducible repeat (first | refine blk_drewN ?_ _ | refine blk_drew ?_ | refine blk_alloc ?_ _)); exact BK478.out⟩
                  have n2_ : Aside0 ((((((((w23.setCell ⟨gb487, 0, none⟩ (.bool t479)).setCell ⟨gb487, 1, none⟩ (.int .i64 t480)).setCell ⟨gb487, 2, none⟩ (.int .i64 t481)).setCell ⟨gb487, 3, none⟩ (.int .i64 t482)).setCell ⟨gb487, 4, none⟩ (.int .i64 t483)).setCell ⟨gb487, 5, none⟩ (.int .i64 t484)).setCell ⟨gb487, 6, none⟩ (.int .i64 t485)).heap[gb487]? = some (.cells #[.bool t479, .int .i64 t480, .int .i64 t481, .int .i64 t482, .int .i64 t483, .int .i64 t484, .int .i64 t485] 25 (0, 0))) := ⟨by (with_reducible repeat (first | refine blk_drewN ?_ _ | refine blk_drew ?_ | refine blk_alloc ?_ _)); refine blk_put (cs := #[.bool t479, .int .i64 t480, .int .i64 t481, .int .i64 t482, .int .i64 t483, .int .i64 t484, .int .i64 0]) ?_ 6 _ rfl; (with_reducible repeat (first | refine blk_drewN ?_ _ | refine blk_drew ?_ | refine blk_alloc ?_ _)); refine blk_put (cs := #[.bool t479, .int .i64 t480, .int .i64 t481, .int .i64 t482, .int .i64 t483, .int .i64 0, .int .i64 0]) ?_ 5 _ rfl; (with_reducible repeat (first | refine blk_drewN ?_ _ | refine blk_drew ?_ | refine blk_alloc ?_ _)); refine blk_put (cs := #[.bool t479, .int .i64 t480, .int .i64 t481, .int .i64 t482, .int .i64 0, .int .i64 0, .int .i64 0]) ?_ 4 _ rfl; (with_reducible repeat (first | refine blk_drewN ?_ _ | refine blk_drew ?_ | refine blk_alloc ?_ _)); refine blk_put (cs := #[.bool t479, .int .i64 t480, .int .i64 t481, .int .i64 0, .int .i64 0, .int .i64 0, .int .i64 0]) ?_ 3 _ rfl; (with_reducible repeat (first | refine blk_drewN ?_ _ | refine blk_drew ?_ | refine blk_alloc ?_ _)); refine blk_put (cs := #[.bool t479, .int .i64 t480, .int .i64 0, .int .i64 0, .int .i64 0, .int .i64 0, .int .i64 0]) ?_ 2 _ rfl; (with_reducible repeat (first | refine blk_drewN ?_ _ | refine blk_drew ?_ | refine blk_alloc ?_ _)); refine blk_put (cs := #[.bool t479, .int .i64 0, .int .i64 0, .int .i64 0, .int .i64 0, .int .i64 0, .int .i64 0]) ?_ 1 _ rfl; (with_reducible repeat (first | refine blk_drewN ?_ _ | refine blk_drew ?_ | refine blk_alloc ?_ _)); refine blk_put (cs := #[.bool false, .int .i64 0, .int .i64 0, .int .i64 0, .int .i64 0, .int .i64 0, .int .i64 0]) ?_ 0 _ rfl; (with_reducible repeat (first | refine blk_drewN ?_ _ | refine blk_drew ?_ | refine blk_alloc ?_ _)); exact BK487.out⟩
                  have n3_ : Aside0 (Below w.heap.size w (((((((w23.setCell ⟨gb487, 0, none⟩ (.bool t479)).setCell ⟨gb487, 1, none⟩ (.int .i64 t480)).setCell ⟨gb487, 2, none⟩ (.int .i64 t481)).setCell ⟨gb487, 3, none⟩ (.int .i64 t482)).setCell ⟨gb487, 4, none⟩ (.int .i64 t483)).setCell ⟨gb487, 5, none⟩ (.int .i64 t484)).setCell ⟨gb487, 6, none⟩ (.int .i64 t485))) := ⟨by repeat (first | (with_reducible first | exact HB.out | apply below_alloc | apply pw_below_drewN | apply below_drew1 | refine below_set ?_ GE476.out | refine below_set ?_ GE478.out | refine below_set ?_ GE487.out) | exact HB.out)⟩
                  (try clear BK476)
                  (try clear BK478)
                  (try clear BK487)
                  (try clear HB)
                  generalize (((((((w23.setCell ⟨gb487, 0, none⟩ (.bool t479)).setCell ⟨gb487, 1, none⟩ (.int .i64 t480)).setCell ⟨gb487, 2, none⟩ (.int .i64 t481)).setCell ⟨gb487, 3, none⟩ (.int .i64 t482)).setCell ⟨gb487, 4, none⟩ (.int .i64 t483)).setCell ⟨gb487, 5, none⟩ (.int .i64 t484)).setCell ⟨gb487, 6, none⟩ (.int .i64 t485)) = w27 at n0_ n1_ n2_ n3_ ⊢
                  have BK476 := n0_
                  have BK478 := n1_
                  have BK487 := n2_
                  have HB := n3_
                  clear n0_ n1_ n2_ n3_
                  have n0_ := Aside0.mk (blk_drew BK476.out)
                  have n1_ := Aside0.mk (blk_drew BK478.out)
                  have n2_ := Aside0.mk (blk_drew BK487.out)
                  have n3_ := Aside0.mk (below_drew1 HB.out)
                  clear BK476
                  clear BK478
                  clear BK487
                  clear HB
                  have BK476 := n0_
                  have BK478 := n1_
                  have BK487 := n2_
                  have HB := n3_
                  clear n0_ n1_ n2_ n3_
                  refine start_ (n := 10) (S := fun w' => w'.cell? ⟨gb487, 0, none⟩ = some (.bool t479) ∧ w'.cell? ⟨gb487, 1, none⟩ = some (.int .i64 t480) ∧ w'.cell? ⟨gb487, 2, none⟩ = some (.int .i64 t481) ∧ w'.cell? ⟨gb487, 3, none⟩ = some (.int .i64 t482) ∧ w'.cell? ⟨gb487, 4, none⟩ = some (.int .i64 t483) ∧ w'.cell? ⟨gb487, 5, none⟩ = some (.int .i64 t484) ∧ w'.cell? ⟨gb487, 6, none⟩ = some (.int .i64 t485) ∧ w'.cell? ⟨gb476, 0, none⟩ = some (.bool x477000_1) ∧ w'.cell? ⟨gb476, 1, none⟩ = some (.int .i64 x477001_1) ∧ w'.cell? ⟨gb476, 2, none⟩ = some (.int .i64 x477002_1) ∧ w'.cell? ⟨gb476, 3, none⟩ = some (.int .i64 x477003_1) ∧ w'.cell? ⟨gb476, 4, none⟩ = some (.int .i64 x477004_1) ∧ w'.cell? ⟨gb476, 5, none⟩ = some (.int .i64 x477005_1) ∧ w'.cell? ⟨gb476, 6, none⟩ = some (.int .i64 x477006_1)) (ds := []) #[false, false, false, false, false, false, false, false, false, false] (by kernel_rfl) rfl rfl ⟨(blk_cell BK487.out 0).trans rfl, (blk_cell BK487.out 1).trans rfl, (blk_cell BK487.out 2).trans rfl, (blk_cell BK487.out 3).trans rfl, (blk_cell BK487.out 4).trans rfl, (blk_cell BK487.out 5).trans rfl, (blk_cell BK487.out 6).trans rfl, (blk_cell BK476.out 0).trans rfl, (blk_cell BK476.out 1).trans rfl, (blk_cell BK476.out 2).trans rfl, (blk_cell BK476.out 3).trans rfl, (blk_cell BK476.out 4).trans rfl, (blk_cell BK476.out 5).trans rfl, (blk_cell BK476.out 6).trans rfl⟩ (fun hHeld => ?_); refine with_tabW slotmeshlaw09_TimesyncRoot.tab9 slotmeshlaw09_TimesyncRoot.bits9 (fun HT_ HW_ => ?_)
                  generalize w27.drew = w28 at BK476 BK478 BK487 HB hHeld ⊢
                  refine take_ (i := 0) (N := some 33) (v := ?_) (a' := ?_) #[true, false, false, false, false, false, false, false, false, false] rfl rfl (take_ofW HT_.out HW_.out (by kernel_rfl)) (fun _ _ _ h => h) (Or.inl ⟨by rfl, ?_⟩) hHeld ?_ ?_
                  rotate_left
                  · rintro w' ⟨s0, s1, s2, s3, s4, s5, s6, s7, s8, s9, s10, s11, s12, s13⟩
                    go_simp
                    with_reducible rfl
                  rotate_left
                  · simp only [Act.put, List.setIfInBounds_toArray, List.set_cons_zero, List.set_cons_succ, i64_w, i32_w]
                    rfl
                  refine take_ (i := 1) (N := some 34) (v := ?_) (a' := ?_) #[true, true, false, false, false, false, false, false, false, false] rfl rfl (take_ofW HT_.out HW_.out (by kernel_rfl)) (fun _ _ _ h => h) (Or.inl ⟨by rfl, ?_⟩) hHeld ?_ ?_
                  rotate_left
                  · rintro w' ⟨s0, s1, s2, s3, s4, s5, s6, s7, s8, s9, s10, s11, s12, s13⟩
                    go_simp
                    with_reducible rfl
                  rotate_left
                  · simp only [Act.put, List.setIfInBounds_toArray, List.set_cons_zero, List.set_cons_succ, i64_w, i32_w]
                    rfl
                  refine pure_ (i := 2) (N := some 35) (v := ?_) (a' := ?_) #[true, true, true, false, false, false, false, false, false, false] rfl rfl (any_of HT_.out (by kernel_rfl)) (fun _ _ _ h => h) (Or.inl ⟨by rfl, ?_⟩) ?_ ?_
                  rotate_left
                  · intro w'
                    go_simp
                    with_reducible rfl
                  rotate_left
                  · simp only [Act.put, List.setIfInBounds_toArray, List.set_cons_zero, List.set_cons_succ, i64_w, i32_w]
                    rfl
                  refine pure_ (i := 3) (N := some 36) (v := ?_) (a' := ?_) #[true, true, true, true, false, false, false, false, false, false] rfl rfl (any_of HT_.out (by kernel_rfl)) (fun _ _ _ h => h) (Or.inl ⟨by rfl, ?_⟩) ?_ ?_
                  rotate_left
                  · intro w'
                    go_simp
                    with_reducible rfl
                  rotate_left
                  · simp only [Act.put, List.setIfInBounds_toArray, List.set_cons_zero, List.set_cons_succ, i64_w, i32_w]
                    rfl
                  refine pure_ (i := 5) (N := some 38) (v := ?_) (a' := ?_) #[true, true, true, true, false, true, false, false, false, false] rfl rfl (any_of HT_.out (by kernel_rfl)) (fun _ _ _ h => h) (Or.inl ⟨by rfl, ?_⟩) ?_ ?_
                  rotate_left
                  · intro w'
                    go_simp
                    with_reducible rfl
                  rotate_left
                  · simp only [Act.put, List.setIfInBounds_toArray, List.set_cons_zero, List.set_cons_succ, i64_w, i32_w]
                    rfl
                  refine take_ (i := 4) (N := some 37) (v := ?_) (a' := ?_) #[true, true, true, true, true, true, false, false, false, false] rfl rfl (take_ofW HT_.out HW_.out (by kernel_rfl)) (fun _ _ _ h => h) (Or.inl ⟨by rfl, ?_⟩) hHeld ?_ ?_
                  rotate_left
                  · rintro w' ⟨s0, s1, s2, s3, s4, s5, s6, s7, s8, s9, s10, s11, s12, s13⟩
                    go_simp
                    with_reducible rfl
                  rotate_left
                  · simp only [Act.put, List.setIfInBounds_toArray, List.set_cons_zero, List.set_cons_succ, i64_w, i32_w]
                    rfl
                  refine take_ (i := 7) (N := some 40) (v := ?_) (a' := ?_) #[true, true, true, true, true, true, false, true, false, false] rfl rfl (take_ofW HT_.out HW_.out (by kernel_rfl)) (fun _ _ _ h => h) (Or.inl ⟨by rfl, ?_⟩) hHeld ?_ ?_
                  rotate_left
                  · rintro w' ⟨s0, s1, s2, s3, s4, s5, s6, s7, s8, s9, s10, s11, s12, s13⟩
                    go_simp
                    with_reducible rfl
                  rotate_left
                  · simp only [Act.put, List.setIfInBounds_toArray, List.set_cons_zero, List.set_cons_succ, i64_w, i32_w]
                    rfl
                  refine one_ (i := 6) (N := some 39) #[true, true, true, true, true, true, true, true, false, false] rfl rfl (one_of HT_.out (by kernel_rfl)) (by decide) (fun K hK => ?_)
                  refine goes_ Try.func16 (by kernel_rfl) rfl #[.agg #[.bool x477000_1, .int .i64 x477001_1, .int .i64 x477002_1, .int .i64 x477003_1, .int .i64 x477004_1, .int .i64 x477005_1, .int .i64 x477006_1], .int .i64 a1] (by rfl) rfl rfl (by (try simp only [List.map_toArray, List.map_cons, List.map_nil]); first | done | rfl | (simp only [List.length_drop, List.length_take]; rfl)) ?_
                  with_reducible refine (timesync_Tick.calls k1 x477000_1 x477001_1 x477002_1 x477003_1 x477004_1 x477005_1 x477006_1 a1 t488 t489 t490 t491 t492 t493 t494 _ A16.out).mono ?_
                  rintro e w29 ⟨rfl, hb⟩
                  refine ⟨_, rfl, ?_⟩
                  have n0_ := Aside0.mk (blk_below (g := gb476) (o := .cells #[.bool x477000_1, .int .i64 x477001_1, .int .i64 x477002_1, .int .i64 x477003_1, .int .i64 x477004_1, .int .i64 x477005_1, .int .i64 x477006_1] 25 (0, 0)) (by (with_reducible repeat (first | refine blk_drewN ?_ _ | refine blk_drew ?_ | refine blk_alloc ?_ _)); exact BK476.out) hb)
                  have n1_ := Aside0.mk (blk_below (g := gb478) (o := .cells #[.int .i64 ((rd_T27 l0 x23_1).f0), .int .i64 ((rd_T27 l0 x23_1).f1), .int .i64 ((rd_T27 l0 x23_1).f2), .int .i64 ((rd_T27 l0 x23_1).f3), .int .i64 ((rd_T27 l0 x23_1).f4)] 27 (0, 0)) (by (with_reducible repeat (first | refine blk_drewN ?_ _ | refine blk_drew ?_ | refine blk_alloc ?_ _)); exact BK478.out) hb)
                  have n2_ := Aside0.mk (blk_below (g := gb487) (o := .cells #[.bool t479, .int .i64 t480, .int .i64 t481, .int .i64 t482, .int .i64 t483, .int .i64 t484, .int .i64 t485] 25 (0, 0)) (by (with_reducible repeat (first | refine blk_drewN ?_ _ | refine blk_drew ?_ | refine blk_alloc ?_ _)); exact BK487.out) hb)
                  have n3_ := Aside0.mk (below_step (by repeat (first | (with_reducible first | exact HB.out | apply below_alloc | apply pw_below_drewN | apply below_drew1 | refine below_set ?_ GE476.out | refine below_set ?_ GE478.out | refine below_set ?_ GE487.out) | exact HB.out)) hb)
                  clear BK476
                  clear BK478
                  clear BK487
                  clear HB
                  have BK476 := n0_
                  have BK478 := n1_
                  have BK487 := n2_
                  have HB := n3_
                  clear n0_ n1_ n2_ n3_
                  (try clear hb)
                  (try clear hb2)
                  (try clear hk)
                  (try clear hi)
                  refine hK.out _ _ ⟨(blk_cell BK487.out 0).trans rfl, (blk_cell BK487.out 1).trans rfl, (blk_cell BK487.out 2).trans rfl, (blk_cell BK487.out 3).trans rfl, (blk_cell BK487.out 4).trans rfl, (blk_cell BK487.out 5).trans rfl, (blk_cell BK487.out 6).trans rfl, (blk_cell BK476.out 0).trans rfl, (blk_cell BK476.out 1).trans rfl, (blk_cell BK476.out 2).trans rfl, (blk_cell BK476.out 3).trans rfl, (blk_cell BK476.out 4).trans rfl, (blk_cell BK476.out 5).trans rfl, (blk_cell BK476.out 6).trans rfl⟩ (fun hHeld => ?_)
                  clear hK K
                  refine norm_ (a' := ?_) ?_ ?_
                  rotate_left
                  · show Act.put _ (some 39) _ = _
                    simp only [Act.put, List.setIfInBounds_toArray, List.set_cons_zero, List.set_cons_succ, i64_w, i32_w]
                    rfl
                  refine pure_ (i := 8) (N := some 41) (v := ?_) (a' := ?_) #[true, true, true, true, true, true, true, true, true, false] rfl rfl (any_of HT_.out (by kernel_rfl)) (fun _ _ _ h => h) (Or.inl ⟨by rfl, ?_⟩) ?_ ?_
                  rotate_left
                  · intro w'
                    go_simp
                    with_reducible rfl
                  rotate_left
                  · simp only [Act.put, List.setIfInBounds_toArray, List.set_cons_zero, List.set_cons_succ, i64_w, i32_w]
                    rfl
                  refine pure_ (i := 9) (N := some 42) (v := ?_) (a' := ?_) #[true, true, true, true, true, true, true, true, true, true] rfl rfl (any_of HT_.out (by kernel_rfl)) (fun _ _ _ h => h) (Or.inl ⟨by rfl, ?_⟩) ?_ ?_
                  rotate_left
                  · intro w'
                    go_simp
                    with_reducible rfl
                  rotate_left
                  · simp only [Act.put, List.setIfInBounds_toArray, List.set_cons_zero, List.set_cons_succ, i64_w, i32_w]
                    rfl
                  refine done_ (done_of HT_.out (by kernel_rfl)) ?_
                  have hcz30_0 : w29.cell? ⟨gb487, 0, none⟩ = some (.bool t479) := (blk_cell BK487.out 0).trans rfl
                  have hcz30_1 : w29.cell? ⟨gb487, 1, none⟩ = some (.int .i64 t480) := (blk_cell BK487.out 1).trans rfl
                  have hcz30_2 : w29.cell? ⟨gb487, 2, none⟩ = some (.int .i64 t481) := (blk_cell BK487.out 2).trans rfl
                  have hcz30_3 : w29.cell? ⟨gb487, 3, none⟩ = some (.int .i64 t482) := (blk_cell BK487.out 3).trans rfl
                  have hcz30_4 : w29.cell? ⟨gb487, 4, none⟩ = some (.int .i64 t483) := (blk_cell BK487.out 4).trans rfl
                  have hcz30_5 : w29.cell? ⟨gb487, 5, none⟩ = some (.int .i64 t484) := (blk_cell BK487.out 5).trans rfl
                  have hcz30_6 : w29.cell? ⟨gb487, 6, none⟩ = some (.int .i64 t485) := (blk_cell BK487.out 6).trans rfl
                  have hfz30_0 := blk_frozen BK487.out 0
                  have hfz30_1 := blk_frozen BK487.out 1
                  have hfz30_2 := blk_frozen BK487.out 2
                  have hfz30_3 := blk_frozen BK487.out 3
                  have hfz30_4 := blk_frozen BK487.out 4
                  have hfz30_5 := blk_frozen BK487.out 5
                  have hfz30_6 := blk_frozen BK487.out 6
                  have hcz31_0 : w29.cell? ⟨gb476, 0, none⟩ = some (.bool x477000_1) := (blk_cell BK476.out 0).trans rfl
                  have hcz31_1 : w29.cell? ⟨gb476, 1, none⟩ = some (.int .i64 x477001_1) := (blk_cell BK476.out 1).trans rfl
                  have hcz31_2 : w29.cell? ⟨gb476, 2, none⟩ = some (.int .i64 x477002_1) := (blk_cell BK476.out 2).trans rfl
                  have hcz31_3 : w29.cell? ⟨gb476, 3, none⟩ = some (.int .i64 x477003_1) := (blk_cell BK476.out 3).trans rfl
                  have hcz31_4 : w29.cell? ⟨gb476, 4, none⟩ = some (.int .i64 x477004_1) := (blk_cell BK476.out 4).trans rfl
                  have hcz31_5 : w29.cell? ⟨gb476, 5, none⟩ = some (.int .i64 x477005_1) := (blk_cell BK476.out 5).trans rfl
                  have hcz31_6 : w29.cell? ⟨gb476, 6, none⟩ = some (.int .i64 x477006_1) := (blk_cell BK476.out 6).trans rfl
                  have hfz31_0 := blk_frozen BK476.out 0
                  have hfz31_1 := blk_frozen BK476.out 1
                  have hfz31_2 := blk_frozen BK476.out 2
                  have hfz31_3 := blk_frozen BK476.out 3
                  have hfz31_4 := blk_frozen BK476.out 4
                  have hfz31_5 := blk_frozen BK476.out 5
                  have hfz31_6 := blk_frozen BK476.out 6
                  try go_wp2
                  go_roundg k1
                  case measure => have := HK1.out; omega
                  case rel => exact ⟨(wrap64 (x23_1 + 1)), (t479), (t480), (t481), (t482), (t483), (t484), (t485), (by first | rfl | (simp; done) | (simp [*]; done)), H', ⟨by have := HK1.out; omega⟩, ⟨by (with_reducible repeat (first | refine blk_drewN ?_ _ | refine blk_drew ?_ | refine blk_alloc ?_ _)); refine blk_put (cs := #[.bool t479, .int .i64 t480, .int .i64 t481, .int .i64 t482, .int .i64 t483, .int .i64 t484, .int .i64 x477006_1]) ?_ 6 _ rfl; (with_reducible repeat (first | refine blk_drewN ?_ _ | refine blk_drew ?_ | refine blk_alloc ?_ _)); refine blk_put (cs := #[.bool t479, .int .i64 t480, .int .i64 t481, .int .i64 t482, .int .i64 t483, .int .i64 x477005_1, .int .i64 x477006_1]) ?_ 5 _ rfl; (with_reducible repeat (first | refine blk_drewN ?_ _ | refine blk_drew ?_ | refine blk_alloc ?_ _)); refine blk_put (cs := #[.bool t479, .int .i64 t480, .int .i64 t481, .int .i64 t482, .int .i64 x477004_1, .int .i64 x477005_1, .int .i64 x477006_1]) ?_ 4 _ rfl; (with_reducible repeat (first | refine blk_drewN ?_ _ | refine blk_drew ?_ | refine blk_alloc ?_ _)); refine blk_put (cs := #[.bool t479, .int .i64 t480, .int .i64 t481, .int .i64 x477003_1, .int .i64 x477004_1, .int .i64 x477005_1, .int .i64 x477006_1]) ?_ 3 _ rfl; (with_reducible repeat (first | refine blk_drewN ?_ _ | refine blk_drew ?_ | refine blk_alloc ?_ _)); refine blk_put (cs := #[.bool t479, .int .i64 t480, .int .i64 x477002_1, .int .i64 x477003_1, .int .i64 x477004_1, .int .i64 x477005_1, .int .i64 x477006_1]) ?_ 2 _ rfl; (with_reducible repeat (first | refine blk_drewN ?_ _ | refine blk_drew ?_ | refine blk_alloc ?_ _)); refine blk_put (cs := #[.bool t479, .int .i64 x477001_1, .int .i64 x477002_1, .int .i64 x477003_1, .int .i64 x477004_1, .int .i64 x477005_1, .int .i64 x477006_1]) ?_ 1 _ rfl; (with_reducible repeat (first | refine blk_drewN ?_ _ | refine blk_drew ?_ | refine blk_alloc ?_ _)); refine blk_put (cs := #[.bool x477000_1, .int .i64 x477001_1, .int .i64 x477002_1, .int .i64 x477003_1, .int .i64 x477004_1, .int .i64 x477005_1, .int .i64 x477006_1]) ?_ 0 _ rfl; (with_reducible repeat (first | refine blk_drewN ?_ _ | refine blk_drew ?_ | refine blk_alloc ?_ _)); exact BK476.out⟩, ⟨by repeat (first | (with_reducible first | exact HB.out | apply below_alloc | apply pw_below_drewN | apply below_drew1 | refine below_set ?_ GE476.out | refine below_set ?_ GE478.out | refine below_set ?_ GE487.out) | exact HB.out)⟩⟩
            · rw [if_neg c13] at H
              exact absurd H (by simp)
          · rw [if_neg c12] at H
            exact absurd H (by simp)
        · rw [if_neg c11] at H
          have c11b0 : decide (x23_1 < (l0.length : Int)) = false := decide_eq_false c11
          clear c11
          replace H := Option.bind_eq_some_iff.mp H
          obtain ⟨⟨t495, t496⟩, A320, H⟩ := H
          replace H : ((timesync_Start.f false).bind fun bt497 => ((timesync_Bound.f k1 bt497.1 bt497.2.1 bt497.2.2.1 bt497.2.2.2.1 bt497.2.2.2.2.1 bt497.2.2.2.2.2.1 bt497.2.2.2.2.2.2 a1).bind fun bt504 => (if t468 = true then (if t495 = 0 then (if t496 = 0 then (if bt504.2 = 16 then ((timesync_Start.f false).bind fun bt506 => ((timesync_Tick.f k1 bt506.1 bt506.2.1 bt506.2.2.1 bt506.2.2.2.1 bt506.2.2.2.2.1 bt506.2.2.2.2.2.1 bt506.2.2.2.2.2.2 a1).bind fun bt513 => ((timesync_Start.f false).bind fun bt520 => (some (bt513.1 == bt520.1 && ((bt513.2.1 == bt520.2.1 && (bt513.2.2.1 == bt520.2.2.1 && (bt513.2.2.2.1 == bt520.2.2.2.1))) && (bt513.2.2.2.2.1 == bt520.2.2.2.2.1 && (bt513.2.2.2.2.2.1 == bt520.2.2.2.2.2.1 && (bt513.2.2.2.2.2.2 == bt520.2.2.2.2.2.2))))))))) else (none)) else (none)) else (none)) else (none)))) = some r := H
          have A32 := Aside0.mk A320
          clear A320
          replace H := Option.bind_eq_some_iff.mp H
          obtain ⟨⟨t497, t498, t499, t500, t501, t502, t503⟩, A330, H⟩ := H
          replace H : ((timesync_Bound.f k1 t497 t498 t499 t500 t501 t502 t503 a1).bind fun bt504 => (if t468 = true then (if t495 = 0 then (if t496 = 0 then (if bt504.2 = 16 then ((timesync_Start.f false).bind fun bt506 => ((timesync_Tick.f k1 bt506.1 bt506.2.1 bt506.2.2.1 bt506.2.2.2.1 bt506.2.2.2.2.1 bt506.2.2.2.2.2.1 bt506.2.2.2.2.2.2 a1).bind fun bt513 => ((timesync_Start.f false).bind fun bt520 => (some (bt513.1 == bt520.1 && ((bt513.2.1 == bt520.2.1 && (bt513.2.2.1 == bt520.2.2.1 && (bt513.2.2.2.1 == bt520.2.2.2.1))) && (bt513.2.2.2.2.1 == bt520.2.2.2.2.1 && (bt513.2.2.2.2.2.1 == bt520.2.2.2.2.2.1 && (bt513.2.2.2.2.2.2 == bt520.2.2.2.2.2.2))))))))) else (none)) else (none)) else (none)) else (none))) = some r := H
          have A33 := Aside0.mk A330
          clear A330
          replace H := Option.bind_eq_some_iff.mp H
          obtain ⟨⟨t504, t505⟩, A340, H⟩ := H
          replace H : (if t468 = true then (if t495 = 0 then (if t496 = 0 then (if t505 = 16 then ((timesync_Start.f false).bind fun bt506 => ((timesync_Tick.f k1 bt506.1 bt506.2.1 bt506.2.2.1 bt506.2.2.2.1 bt506.2.2.2.2.1 bt506.2.2.2.2.2.1 bt506.2.2.2.2.2.2 a1).bind fun bt513 => ((timesync_Start.f false).bind fun bt520 => (some (bt513.1 == bt520.1 && ((bt513.2.1 == bt520.2.1 && (bt513.2.2.1 == bt520.2.2.1 && (bt513.2.2.2.1 == bt520.2.2.2.1))) && (bt513.2.2.2.2.1 == bt520.2.2.2.2.1 && (bt513.2.2.2.2.2.1 == bt520.2.2.2.2.2.1 && (bt513.2.2.2.2.2.2 == bt520.2.2.2.2.2.2))))))))) else (none)) else (none)) else (none)) else (none)) = some r := H
          have A34 := Aside0.mk A340
          clear A340
          by_cases c35 : t468 = true
          · subst c35
            have H1 : (if t495 = 0 then (if t496 = 0 then (if t505 = 16 then ((timesync_Start.f false).bind fun bt506 => ((timesync_Tick.f k1 bt506.1 bt506.2.1 bt506.2.2.1 bt506.2.2.2.1 bt506.2.2.2.2.1 bt506.2.2.2.2.2.1 bt506.2.2.2.2.2.2 a1).bind fun bt513 => ((timesync_Start.f false).bind fun bt520 => (some (bt513.1 == bt520.1 && ((bt513.2.1 == bt520.2.1 && (bt513.2.2.1 == bt520.2.2.1 && (bt513.2.2.2.1 == bt520.2.2.2.1))) && (bt513.2.2.2.2.1 == bt520.2.2.2.2.1 && (bt513.2.2.2.2.2.1 == bt520.2.2.2.2.2.1 && (bt513.2.2.2.2.2.2 == bt520.2.2.2.2.2.2))))))))) else (none)) else (none)) else (none)) = some r := by rw [if_pos rfl] at H; exact H
            clear H
            have H := H1
            clear H1
            by_cases c36 : t495 = 0
            · rw [if_pos c36] at H
              have c36b0 : (t495 == 0) = true := beq_iff_eq.mpr c36
              have c36b1 : (t495 != 0) = false := bne_eq_false_iff_eq.mpr c36
              clear c36
              by_cases c37 : t496 = 0
              · rw [if_pos c37] at H
                have c37b0 : (t496 == 0) = true := beq_iff_eq.mpr c37
                have c37b1 : (t496 != 0) = false := bne_eq_false_iff_eq.mpr c37
                clear c37
                by_cases c38 : t505 = 16
                · rw [if_pos c38] at H
                  have c38b0 : (t505 == 16) = true := beq_iff_eq.mpr c38
                  have c38b1 : (t505 != 16) = false := bne_eq_false_iff_eq.mpr c38
                  clear c38
                  replace H := Option.bind_eq_some_iff.mp H
                  obtain ⟨⟨t506, t507, t508, t509, t510, t511, t512⟩, A390, H⟩ := H
                  replace H : ((timesync_Tick.f k1 t506 t507 t508 t509 t510 t511 t512 a1).bind fun bt513 => ((timesync_Start.f false).bind fun bt520 => (some (bt513.1 == bt520.1 && ((bt513.2.1 == bt520.2.1 && (bt513.2.2.1 == bt520.2.2.1 && (bt513.2.2.2.1 == bt520.2.2.2.1))) && (bt513.2.2.2.2.1 == bt520.2.2.2.2.1 && (bt513.2.2.2.2.2.1 == bt520.2.2.2.2.2.1 && (bt513.2.2.2.2.2.2 == bt520.2.2.2.2.2.2)))))))) = some r := H
                  have A39 := Aside0.mk A390
                  clear A390
                  replace H := Option.bind_eq_some_iff.mp H
                  obtain ⟨⟨t513, t514, t515, t516, t517, t518, t519⟩, A400, H⟩ := H
                  replace H : ((timesync_Start.f false).bind fun bt520 => (some (t513 == bt520.1 && ((t514 == bt520.2.1 && (t515 == bt520.2.2.1 && (t516 == bt520.2.2.2.1))) && (t517 == bt520.2.2.2.2.1 && (t518 == bt520.2.2.2.2.2.1 && (t519 == bt520.2.2.2.2.2.2))))))) = some r := H
                  have A40 := Aside0.mk A400
                  clear A400
                  replace H := Option.bind_eq_some_iff.mp H
                  obtain ⟨⟨t520, t521, t522, t523, t524, t525, t526⟩, A410, H⟩ := H
                  replace H : (some (t513 == t520 && ((t514 == t521 && (t515 == t522 && (t516 == t523))) && (t517 == t524 && (t518 == t525 && (t519 == t526)))))) = some r := H
                  have A41 := Aside0.mk A410
                  clear A410
                  have hSS := A39.out.symm.trans A41.out
                  simp only [Option.some.injEq, Prod.mk.injEq] at hSS
                  obtain ⟨rfl, rfl, rfl, rfl, rfl, rfl, rfl⟩ := hSS
                  obtain rfl := Option.some.inj H
                  have hcz42_0 : wr.cell? ⟨gb476, 0, none⟩ = some (.bool x477000_1) := (blk_cell BK476.out 0).trans rfl
                  have hcz42_1 : wr.cell? ⟨gb476, 1, none⟩ = some (.int .i64 x477001_1) := (blk_cell BK476.out 1).trans rfl
                  have hcz42_2 : wr.cell? ⟨gb476, 2, none⟩ = some (.int .i64 x477002_1) := (blk_cell BK476.out 2).trans rfl
                  have hcz42_3 : wr.cell? ⟨gb476, 3, none⟩ = some (.int .i64 x477003_1) := (blk_cell BK476.out 3).trans rfl
                  have hcz42_4 : wr.cell? ⟨gb476, 4, none⟩ = some (.int .i64 x477004_1) := (blk_cell BK476.out 4).trans rfl
                  have hcz42_5 : wr.cell? ⟨gb476, 5, none⟩ = some (.int .i64 x477005_1) := (blk_cell BK476.out 5).trans rfl
                  have hcz42_6 : wr.cell? ⟨gb476, 6, none⟩ = some (.int .i64 x477006_1) := (blk_cell BK476.out 6).trans rfl
                  have hfz42_0 := blk_frozen BK476.out 0
                  have hfz42_1 := blk_frozen BK476.out 1
                  have hfz42_2 := blk_frozen BK476.out 2
                  have hfz42_3 := blk_frozen BK476.out 3
                  have hfz42_4 := blk_frozen BK476.out 4
                  have hfz42_5 := blk_frozen BK476.out 5
                  have hfz42_6 := blk_frozen BK476.out 6
                  go_wp2_with (first | ((with_reducible refine gate_callee (f := 14) rfl ?_); refine goesL_ (some 48) rfl rfl Try.func14 (by kernel_rfl) rfl #[.agg #[.bool x477000_1, .int .i64 x477001_1, .int .i64 x477002_1, .int .i64 x477003_1, .int .i64 x477004_1, .int .i64 x477005_1, .int .i64 x477006_1], .int .i64 a1] rfl (by (try simp only [List.map_toArray, List.map_cons, List.map_nil]); first | done | rfl | (simp only [List.length_drop, List.length_take]; rfl)) ?_; (with_reducible refine (timesync_Bound.calls k1 x477000_1 x477001_1 x477002_1 x477003_1 x477004_1 x477005_1 x477006_1 a1 t495 t496 _ A32.out).mono ?_); rintro e w43 ⟨rfl, hb⟩; refine ⟨_, rfl, ?_⟩; have n0_ := Aside0.mk (blk_below (g := gb476) (o := .cells #[.bool x477000_1, .int .i64 x477001_1, .int .i64 x477002_1, .int .i64 x477003_1, .int .i64 x477004_1, .int .i64 x477005_1, .int .i64 x477006_1] 25 (0, 0)) (by (with_reducible repeat (first | refine blk_drewN ?_ _ | refine blk_drew ?_ | refine blk_alloc ?_ _)); exact BK476.out) hb); have n1_ := Aside0.mk (below_step (by repeat (first | (with_reducible first | exact HB.out | apply below_alloc | apply pw_below_drewN | apply below_drew1 | refine below_set ?_ GE476.out) | exact HB.out)) hb); clear BK476; clear HB; have BK476 := n0_; have HB := n1_; clear n0_ n1_; (try clear hb); (try clear hb2); (try clear hk); (try clear hi)) | ((with_reducible refine gate_callee (f := 18) rfl ?_); refine goesL_ (some 52) rfl rfl Try.func18 (by kernel_rfl) rfl #[.bool false] rfl (by (try simp only [List.map_toArray, List.map_cons, List.map_nil]); first | done | rfl | (simp only [List.length_drop, List.length_take]; rfl)) ?_; (with_reducible refine (timesync_Start.calls false t497 t498 t499 t500 t501 t502 t503 _ A33.out).mono ?_); rintro e w44 ⟨rfl, hb⟩; refine ⟨_, rfl, ?_⟩; have n0_ := Aside0.mk (blk_below (g := gb476) (o := .cells #[.bool x477000_1, .int .i64 x477001_1, .int .i64 x477002_1, .int .i64 x477003_1, .int .i64 x477004_1, .int .i64 x477005_1, .int .i64 x477006_1] 25 (0, 0)) (by (with_reducible repeat (first | refine blk_drewN ?_ _ | refine blk_drew ?_ | refine blk_alloc ?_ _)); exact BK476.out) hb); have n1_ := Aside0.mk (below_step (by repeat (first | (with_reducible first | exact HB.out | apply below_alloc | apply pw_below_drewN | apply below_drew1 | refine below_set ?_ GE476.out) | exact HB.out)) hb); clear BK476; clear HB; have BK476 := n0_; have HB := n1_; clear n0_ n1_; (try clear hb); (try clear hb2); (try clear hk); (try clear hi)) | ((with_reducible refine gate_callee (f := 14) rfl ?_); refine goesL_ (some 54) rfl rfl Try.func14 (by kernel_rfl) rfl #[.agg #[.bool t497, .int .i64 t498, .int .i64 t499, .int .i64 t500, .int .i64 t501, .int .i64 t502, .int .i64 t503], .int .i64 a1] rfl (by (try simp only [List.map_toArray, List.map_cons, List.map_nil]); first | done | rfl | (simp only [List.length_drop, List.length_take]; rfl)) ?_; (with_reducible refine (timesync_Bound.calls k1 t497 t498 t499 t500 t501 t502 t503 a1 t504 t505 _ A34.out).mono ?_); rintro e w45 ⟨rfl, hb⟩; refine ⟨_, rfl, ?_⟩; have n0_ := Aside0.mk (blk_below (g := gb476) (o := .cells #[.bool x477000_1, .int .i64 x477001_1, .int .i64 x477002_1, .int .i64 x477003_1, .int .i64 x477004_1, .int .i64 x477005_1, .int .i64 x477006_1] 25 (0, 0)) (by (with_reducible repeat (first | refine blk_drewN ?_ _ | refine blk_drew ?_ | refine blk_alloc ?_ _)); exact BK476.out) hb); have n1_ := Aside0.mk (below_step (by repeat (first | (with_reducible first | exact HB.out | apply below_alloc | apply pw_below_drewN | apply below_drew1 | refine below_set ?_ GE476.out) | exact HB.out)) hb); clear BK476; clear HB; have BK476 := n0_; have HB := n1_; clear n0_ n1_; (try clear hb); (try clear hb2); (try clear hk); (try clear hi)) | (go_at_call 18; (with_reducible refine (timesync_Start.calls false t506 t507 t508 t509 t510 t511 t512 _ A39.out).mono ?_); rintro e w46 ⟨rfl, hb⟩; have n0_ := Aside0.mk (blk_below (g := gb476) (o := .cells #[.bool x477000_1, .int .i64 x477001_1, .int .i64 x477002_1, .int .i64 x477003_1, .int .i64 x477004_1, .int .i64 x477005_1, .int .i64 x477006_1] 25 (0, 0)) (by (with_reducible repeat (first | refine blk_drewN ?_ _ | refine blk_drew ?_ | refine blk_alloc ?_ _)); exact BK476.out) hb); have n1_ := Aside0.mk (below_step (by repeat (first | (with_reducible first | exact HB.out | apply below_alloc | apply pw_below_drewN | apply below_drew1 | refine below_set ?_ GE476.out) | exact HB.out)) hb); clear BK476; clear HB; have BK476 := n0_; have HB := n1_; clear n0_ n1_; (try clear hb); (try clear hb2); (try clear hk); (try clear hi)) | (go_at_call 16; (with_reducible refine (timesync_Tick.calls k1 t506 t507 t508 t509 t510 t511 t512 a1 t513 t514 t515 t516 t517 t518 t519 _ A40.out).mono ?_); rintro e w47 ⟨rfl, hb⟩; have n0_ := Aside0.mk (blk_below (g := gb476) (o := .cells #[.bool x477000_1, .int .i64 x477001_1, .int .i64 x477002_1, .int .i64 x477003_1, .int .i64 x477004_1, .int .i64 x477005_1, .int .i64 x477006_1] 25 (0, 0)) (by (with_reducible repeat (first | refine blk_drewN ?_ _ | refine blk_drew ?_ | refine blk_alloc ?_ _)); exact BK476.out) hb); have n1_ := Aside0.mk (below_step (by repeat (first | (with_reducible first | exact HB.out | apply below_alloc | apply pw_below_drewN | apply below_drew1 | refine below_set ?_ GE476.out) | exact HB.out)) hb); clear BK476; clear HB; have BK476 := n0_; have HB := n1_; clear n0_ n1_; (try clear hb); (try clear hb2); (try clear hk); (try clear hi)) | (go_at_call 18; (with_reducible refine (timesync_Start.calls false t520 t521 t522 t523 t524 t525 t526 _ A41.out).mono ?_); rintro e w48 ⟨rfl, hb⟩; have n0_ := Aside0.mk (blk_below (g := gb476) (o := .cells #[.bool x477000_1, .int .i64 x477001_1, .int .i64 x477002_1, .int .i64 x477003_1, .int .i64 x477004_1, .int .i64 x477005_1, .int .i64 x477006_1] 25 (0, 0)) (by (with_reducible repeat (first | refine blk_drewN ?_ _ | refine blk_drew ?_ | refine blk_alloc ?_ _)); exact BK476.out) hb); have n1_ := Aside0.mk (below_step (by repeat (first | (with_reducible first | exact HB.out | apply below_alloc | apply pw_below_drewN | apply below_drew1 | refine below_set ?_ GE476.out) | exact HB.out)) hb); clear BK476; clear HB; have BK476 := n0_; have HB := n1_; clear n0_ n1_; (try clear hb); (try clear hb2); (try clear hk); (try clear hi)))
                  go_ret
                  exact ⟨by first | rfl | (simp [errW_none, errW_some] <;> rfl) | (simp [*, errW_none, errW_some] <;> rfl), by repeat (first | (with_reducible first | exact HB.out | apply below_alloc | apply pw_below_drewN | apply below_drew1 | refine below_set ?_ GE476.out) | exact HB.out)⟩
                · rw [if_neg c38] at H
                  exact absurd H (by simp)
              · rw [if_neg c37] at H
                exact absurd H (by simp)
            · rw [if_neg c36] at H
              exact absurd H (by simp)
          · replace c35 := Bool.eq_false_iff.mpr c35
            subst c35
            have H1 : (none) = some r := by rw [if_neg (show ¬ (false = true) by decide)] at H; exact H
            clear H
            have H := H1
            clear H1
            exact absurd H (by simp)
end Go.Proofs.Ytkbfhonoamgjgaa.P
end
