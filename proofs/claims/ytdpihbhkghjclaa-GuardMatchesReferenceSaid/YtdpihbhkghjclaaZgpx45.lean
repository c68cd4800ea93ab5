/- A claim's own texts, laid together by wip/zip.py without what the claim does not use. Conditions: none. -/
import Derived.Test.YtdpihbhkghjclaaZgpx0
import Derived.Test.YtdpihbhkghjclaaZgpx40
import Derived.Test.YtdpihbhkghjclaaZgpx33
import Derived.Test.YtdpihbhkghjclaaZgpx35
import Derived.Test.YtdpihbhkghjclaaZgpx42
section
/- The Go functions of this claim as Lean functions, and the proofs that their calls answer so: written by wip/myprint.py over the kit's printer, hand-proved contracts laid in. Conditions: none. -/
namespace Go.Proofs.Ytdpihbhkghjclaa.P
open Go.RowKit Go.Proofs.YtdpihbhkghjclaaW.PrintWords Go.Proofs.YtdpihbhkghjclaaW.PrintLast Go.Proofs.YtdpihbhkghjclaaW.PrintMore
attribute [local go_sem] max2_int min2_int max_two min_two max_three min_three max_four min_four   -- for this text's walks alone
set_option linter.unusedVariables false
set_option linter.unusedSimpArgs false
/-! ### slotmeshref10_first: function 46 -/
def slotmeshref10_first.l0 : Nat → Int → Int → Int → Int → Int → Option (Int)
  | 0, _, _, _, _, _ => none
  | k + 1, x1, x5, x6, x253000, x253001 => if x6 > 0 then (if (wrap64 (x5 + x6)) ≤ 10000000000001 then ((slotmeshref07_At.f x253000 x253001 (wrap64 ((wrap64 (x5 + x6)) - 1))).bind fun t253 => (if t253 < x1 then (slotmeshref10_first.l0 k x1 (wrap64 (x5 + x6)) (wrap64 (Int.tdiv x6 2)) x253000 x253001) else (slotmeshref10_first.l0 k x1 x5 (wrap64 (Int.tdiv x6 2)) x253000 x253001))) else (slotmeshref10_first.l0 k x1 x5 (wrap64 (Int.tdiv x6 2)) x253000 x253001)) else (some x5)
def slotmeshref10_first.f (k : Nat) (a0_0 : Int) (a0_1 : Int) (a1 : Int) : Option (Int) := slotmeshref10_first.l0 k a1 0 17592186044416 a0_0 a0_1
theorem slotmeshref10_first.mono_l : ∀ k, (∀ y0 y1 y2 y3 y4, LeO (slotmeshref10_first.l0 k y0 y1 y2 y3 y4) (slotmeshref10_first.l0 (k + 1) y0 y1 y2 y3 y4))
  | 0 => fun _ _ _ _ _ r h => by simp [slotmeshref10_first.l0] at h
  | k + 1 => by
    have ih0 := slotmeshref10_first.mono_l k
    · intro y0 y1 y2 y3 y4
      unfold slotmeshref10_first.l0
      repeat' first
      | (with_reducible exact ih0 _ _ _ _ _)
      | (with_reducible exact LeO.refl _)
      | (with_reducible exact LeO.none _)
      | (with_reducible refine LeO.ite ?_ ?_)
      | (with_reducible refine LeO.bind ?_ (fun _ => ?_))
      | exact ih0 _ _ _ _ _
      | exact LeO.none _
      | refine LeO.ite ?_ ?_
      | refine LeO.bind ?_ (fun _ => ?_)
set_option maxHeartbeats 8000000 in
set_option maxRecDepth 100000 in
theorem slotmeshref10_first.calls (k : Nat) (a0_0 : Int) (a0_1 : Int) (a1 : Int) (r : Int) (w : World) (h : slotmeshref10_first.f k a0_0 a0_1 a1 = some r) :
    Calls Try.prog 46 #[.agg #[.int .i64 a0_0, .int .i64 a0_1], .int .i64 a1] w fun e w' => e = .returned (.int .i64 r) ∧ Below w.heap.size w w' := by
  have hu27 := Try.underlying27
  have HB := Aside0.mk (Below.refl w.heap.size w)
  have H : (slotmeshref10_first.l0 k a1 0 17592186044416 a0_0 a0_1) = some r := h
  clear h
  have H' := Aside0.mk H
  clear H
  go_enter Try.func46, Try.ntmps46
  go_wp2_with (first | ((with_reducible refine gate_dst (N := 2) rfl ?_); refine box_event ?hg (N := 2) ?hd (cs := #[.int .i64 a0_0, .int .i64 a0_1]) (t := 27) ?hr ?_; (case hd => rfl); (case hg => rfl); (case hr => first | (go_simp; done) | (go_simp; rfl)); intro gb252 hg w3 hbox hb; have n0_ := Aside0.mk (below_step (by repeat (first | (with_reducible first | exact HB.out | apply below_alloc | apply pw_below_drewN | apply below_drew1) | exact HB.out)) hb); have n1_ := Aside0.mk (hbox); have n2_ := Aside0.mk ((by rw [hg]; exact (below_size (by repeat (first | (with_reducible first | exact HB.out | apply below_alloc | apply pw_below_drewN | apply below_drew1) | exact HB.out))) : w.heap.size ≤ gb252)); have n3_ := Aside0.mk ((by rw [hg]; exact (below_size (by repeat (first | (with_reducible first | exact HB.out | apply below_alloc | apply pw_below_drewN | apply below_drew1) | exact HB.out))) : w.heap.size ≤ gb252)); clear HB; have HB := n0_; have BK252 := n1_; have GW252 := n2_; have GE252 := n3_; clear n0_ n1_ n2_ n3_; clear hb hbox hg))
  go_loopg [5, 6] k (fun kq v5 v6 w' => ∃ (x5_1 : Int) (x6_1 : Int), v5 = .int .i64 x5_1 ∧ v6 = .int .i64 x6_1 ∧ Aside0 (slotmeshref10_first.l0 kq a1 x5_1 x6_1 a0_0 a0_1 = some r) ∧ Aside0 (kq ≤ k) ∧ Aside0 (w'.heap[gb252]? = some (.cells #[.int .i64 a0_0, .int .i64 a0_1] 27 (0, 0))) ∧ Aside0 (Below w.heap.size w w'))
  case atStart => exact ⟨(0), (17592186044416), (by first | rfl | (simp; done) | (simp [*]; done)), (by first | rfl | (simp; done) | (simp [*]; done)), H', ⟨Nat.le_refl _⟩, ⟨by (with_reducible repeat (first | refine blk_drewN ?_ _ | refine blk_drew ?_ | refine blk_alloc ?_ _)); exact BK252.out⟩, ⟨by repeat (first | (with_reducible first | exact HB.out | apply below_alloc | apply pw_below_drewN | apply below_drew1 | refine below_set ?_ GE252.out) | exact HB.out)⟩⟩
  case round =>
    clear H'
    try clear p2
    obtain ⟨x5_1, x6_1, rfl, rfl, HA, HK1, BK252, HB⟩ := hrel
    cases gk with
    | zero => exact absurd HA.out (by simp [slotmeshref10_first.l0])
    | succ k1 =>
      have H := HA.out
      clear HA
      simp only [slotmeshref10_first.l0] at H
      by_cases c4 : x6_1 > 0
      · rw [if_pos c4] at H
        have c4b0 : decide (0 < x6_1) = true := decide_eq_true c4
        clear c4
        by_cases c5 : (wrap64 (x5_1 + x6_1)) ≤ 10000000000001
        · rw [if_pos c5] at H
          have c5b0 : decide ((wrap64 (x5_1 + x6_1)) ≤ 10000000000001) = true := decide_eq_true c5
          clear c5
          replace H := Option.bind_eq_some_iff.mp H
          obtain ⟨t253, A60, H⟩ := H
          replace H : (if t253 < a1 then (slotmeshref10_first.l0 k1 a1 (wrap64 (x5_1 + x6_1)) (wrap64 (Int.tdiv x6_1 2)) a0_0 a0_1) else (slotmeshref10_first.l0 k1 a1 x5_1 (wrap64 (Int.tdiv x6_1 2)) a0_0 a0_1)) = some r := H
          have A6 := Aside0.mk A60
          clear A60
          by_cases c7 : t253 < a1
          · rw [if_pos c7] at H
            have c7b0 : decide (t253 < a1) = true := decide_eq_true c7
            clear c7
            have H' := Aside0.mk H
            clear H
            have hcz8_0 : wr.cell? ⟨gb252, 0, none⟩ = some (.int .i64 a0_0) := (blk_cell BK252.out 0).trans rfl
            have hcz8_1 : wr.cell? ⟨gb252, 1, none⟩ = some (.int .i64 a0_1) := (blk_cell BK252.out 1).trans rfl
            have hfz8_0 := blk_frozen BK252.out 0
            have hfz8_1 := blk_frozen BK252.out 1
            go_wp2_with (first | (go_at_call 47; (with_reducible refine (slotmeshref07_At.calls a0_0 a0_1 (wrap64 ((wrap64 (x5_1 + x6_1)) - 1)) t253 _ A6.out).mono ?_); rintro e w9 ⟨rfl, hb⟩; have n0_ := Aside0.mk (blk_below (g := gb252) (o := .cells #[.int .i64 a0_0, .int .i64 a0_1] 27 (0, 0)) (by (with_reducible repeat (first | refine blk_drewN ?_ _ | refine blk_drew ?_ | refine blk_alloc ?_ _)); exact BK252.out) hb); have n1_ := Aside0.mk (below_step (by repeat (first | (with_reducible first | exact HB.out | apply below_alloc | apply pw_below_drewN | apply below_drew1 | refine below_set ?_ GE252.out) | exact HB.out)) hb); clear BK252; clear HB; have BK252 := n0_; have HB := n1_; clear n0_ n1_; (try clear hb); (try clear hb2); (try clear hk); (try clear hi)))
            go_roundg k1
            case measure => have := HK1.out; omega
            case rel => exact ⟨(wrap64 (x5_1 + x6_1)), (wrap64 (Int.tdiv x6_1 2)), (by first | rfl | (simp; done) | (simp [*]; done)), (by first | rfl | (simp; done) | (simp [*]; done)), H', ⟨by have := HK1.out; omega⟩, ⟨by (with_reducible repeat (first | refine blk_drewN ?_ _ | refine blk_drew ?_ | refine blk_alloc ?_ _)); exact BK252.out⟩, ⟨by repeat (first | (with_reducible first | exact HB.out | apply below_alloc | apply pw_below_drewN | apply below_drew1 | refine below_set ?_ GE252.out) | exact HB.out)⟩⟩
          · rw [if_neg c7] at H
            have c7b0 : decide (t253 < a1) = false := decide_eq_false c7
            clear c7
            have H' := Aside0.mk H
            clear H
            have hcz10_0 : wr.cell? ⟨gb252, 0, none⟩ = some (.int .i64 a0_0) := (blk_cell BK252.out 0).trans rfl
            have hcz10_1 : wr.cell? ⟨gb252, 1, none⟩ = some (.int .i64 a0_1) := (blk_cell BK252.out 1).trans rfl
            have hfz10_0 := blk_frozen BK252.out 0
            have hfz10_1 := blk_frozen BK252.out 1
            go_wp2_with (first | (go_at_call 47; (with_reducible refine (slotmeshref07_At.calls a0_0 a0_1 (wrap64 ((wrap64 (x5_1 + x6_1)) - 1)) t253 _ A6.out).mono ?_); rintro e w11 ⟨rfl, hb⟩; have n0_ := Aside0.mk (blk_below (g := gb252) (o := .cells #[.int .i64 a0_0, .int .i64 a0_1] 27 (0, 0)) (by (with_reducible repeat (first | refine blk_drewN ?_ _ | refine blk_drew ?_ | refine blk_alloc ?_ _)); exact BK252.out) hb); have n1_ := Aside0.mk (below_step (by repeat (first | (with_reducible first | exact HB.out | apply below_alloc | apply pw_below_drewN | apply below_drew1 | refine below_set ?_ GE252.out) | exact HB.out)) hb); clear BK252; clear HB; have BK252 := n0_; have HB := n1_; clear n0_ n1_; (try clear hb); (try clear hb2); (try clear hk); (try clear hi)))
            go_roundg k1
            case measure => have := HK1.out; omega
            case rel => exact ⟨(x5_1), (wrap64 (Int.tdiv x6_1 2)), (by first | rfl | (simp; done) | (simp [*]; done)), (by first | rfl | (simp; done) | (simp [*]; done)), H', ⟨by have := HK1.out; omega⟩, ⟨by (with_reducible repeat (first | refine blk_drewN ?_ _ | refine blk_drew ?_ | refine blk_alloc ?_ _)); exact BK252.out⟩, ⟨by repeat (first | (with_reducible first | exact HB.out | apply below_alloc | apply pw_below_drewN | apply below_drew1 | refine below_set ?_ GE252.out) | exact HB.out)⟩⟩
        · rw [if_neg c5] at H
          have c5b0 : decide ((wrap64 (x5_1 + x6_1)) ≤ 10000000000001) = false := decide_eq_false c5
          clear c5
          have H' := Aside0.mk H
          clear H
          go_wp2
          go_roundg k1
          case measure => have := HK1.out; omega
          case rel => exact ⟨(x5_1), (wrap64 (Int.tdiv x6_1 2)), (by first | rfl | (simp; done) | (simp [*]; done)), (by first | rfl | (simp; done) | (simp [*]; done)), H', ⟨by have := HK1.out; omega⟩, ⟨by (with_reducible repeat (first | refine blk_drewN ?_ _ | refine blk_drew ?_ | refine blk_alloc ?_ _)); exact BK252.out⟩, ⟨by repeat (first | (with_reducible first | exact HB.out | apply below_alloc | apply pw_below_drewN | apply below_drew1 | refine below_set ?_ GE252.out) | exact HB.out)⟩⟩
      · rw [if_neg c4] at H
        have c4b0 : decide (0 < x6_1) = false := decide_eq_false c4
        clear c4
        obtain rfl := Option.some.inj H
        go_wp2
        go_ret
        exact ⟨by first | rfl | (simp [errW_none, errW_some] <;> rfl) | (simp [*, errW_none, errW_some] <;> rfl), by repeat (first | (with_reducible first | exact HB.out | apply below_alloc | apply pw_below_drewN | apply below_drew1 | refine below_set ?_ GE252.out) | exact HB.out)⟩
end Go.Proofs.Ytdpihbhkghjclaa.P
end
section
/- The Go functions of this claim as Lean functions, and the proofs that their calls answer so: written by wip/myprint.py over the kit's printer, hand-proved contracts laid in. Conditions: none. -/
namespace Go.Proofs.Ytdpihbhkghjclaa.P
open Go.RowKit Go.Proofs.YtdpihbhkghjclaaW.PrintWords Go.Proofs.YtdpihbhkghjclaaW.PrintLast Go.Proofs.YtdpihbhkghjclaaW.PrintMore
attribute [local go_sem] max2_int min2_int max_two min_two max_three min_three max_four min_four   -- for this text's walks alone
set_option linter.unusedVariables false
set_option linter.unusedSimpArgs false
/-! ### slotmeshref10_Send: function 24 -/
def slotmeshref10_Send.j0 : Nat → Int → Bool → Bool → Int → Int → Int → Int → Int → Int → Int → Int → Option (Int × Int)
  | 0, _, _, _, _, _, _, _, _, _, _, _ => none
  | k + 1, x2, x31, x255000, x255001, x255002, x255003, x255004, x255005, x255006, x256000, x256001 => if x31 = true then (some (0, 1)) else (if x255000 = true then ((slotmeshref10_Own.f x255000 x255001 x255002 x255003 x255004 x255005 x255006 x2).bind fun t258 => ((slotmeshref09_Bound.f k x255000 x255001 x255002 x255003 x255004 x255005 x255006 t258).bind fun bt259 => (if bt259.2 = 0 then ((slotmeshref10_first.f k x256000 x256001 t258).bind fun t261 => (if t261 > 10000000000000 then (some (0, 3)) else (some (wrap64 (t261 - (wrap64 (10000 * x2))), 0)))) else (some (0, bt259.2))))) else (some (0, 16)))
def slotmeshref10_Send.f (k : Nat) (a0_0 : Bool) (a0_1 : Int) (a0_2 : Int) (a0_3 : Int) (a0_4 : Int) (a0_5 : Int) (a0_6 : Int) (a1_0 : Int) (a1_1 : Int) (a2 : Int) : Option (Int × Int) := (slotmeshref07_Valid.f a1_0 a1_1).bind fun t256 => ((slotmeshref09_Valid.f k a0_0 a0_1 a0_2 a0_3 a0_4 a0_5 a0_6).bind fun t257 => (if t256 = true then (if t257 = true then (if a2 < 0 then (slotmeshref10_Send.j0 k a2 true a0_0 a0_1 a0_2 a0_3 a0_4 a0_5 a0_6 a1_0 a1_1) else (slotmeshref10_Send.j0 k a2 (decide (a2 > 999999999)) a0_0 a0_1 a0_2 a0_3 a0_4 a0_5 a0_6 a1_0 a1_1)) else (slotmeshref10_Send.j0 k a2 true a0_0 a0_1 a0_2 a0_3 a0_4 a0_5 a0_6 a1_0 a1_1)) else (slotmeshref10_Send.j0 k a2 true a0_0 a0_1 a0_2 a0_3 a0_4 a0_5 a0_6 a1_0 a1_1)))
set_option maxHeartbeats 8000000 in
set_option maxRecDepth 100000 in
theorem slotmeshref10_Send.calls (k : Nat) (a0_0 : Bool) (a0_1 : Int) (a0_2 : Int) (a0_3 : Int) (a0_4 : Int) (a0_5 : Int) (a0_6 : Int) (a1_0 : Int) (a1_1 : Int) (a2 : Int) (r1 : Int) (r2 : Int) (w : World) (h : slotmeshref10_Send.f k a0_0 a0_1 a0_2 a0_3 a0_4 a0_5 a0_6 a1_0 a1_1 a2 = some (r1, r2)) :
    Calls Try.prog 24 #[.agg #[.bool a0_0, .int .i64 a0_1, .int .i64 a0_2, .int .i64 a0_3, .int .i64 a0_4, .int .i64 a0_5, .int .i64 a0_6], .agg #[.int .i64 a1_0, .int .i64 a1_1], .int .i64 a2] w fun e w' => e = .returned (.tuple #[.int .i64 r1, .int .i64 r2]) ∧ Below w.heap.size w w' := by
  have hu25 := Try.underlying25
  have hu27 := Try.underlying27
  have HB := Aside0.mk (Below.refl w.heap.size w)
  have H : ((slotmeshref07_Valid.f a1_0 a1_1).bind fun t256 => ((slotmeshref09_Valid.f k a0_0 a0_1 a0_2 a0_3 a0_4 a0_5 a0_6).bind fun t257 => (if t256 = true then (if t257 = true then (if a2 < 0 then (slotmeshref10_Send.j0 k a2 true a0_0 a0_1 a0_2 a0_3 a0_4 a0_5 a0_6 a1_0 a1_1) else (slotmeshref10_Send.j0 k a2 (decide (a2 > 999999999)) a0_0 a0_1 a0_2 a0_3 a0_4 a0_5 a0_6 a1_0 a1_1)) else (slotmeshref10_Send.j0 k a2 true a0_0 a0_1 a0_2 a0_3 a0_4 a0_5 a0_6 a1_0 a1_1)) else (slotmeshref10_Send.j0 k a2 true a0_0 a0_1 a0_2 a0_3 a0_4 a0_5 a0_6 a1_0 a1_1)))) = some (r1, r2) := h
  clear h
  replace H := Option.bind_eq_some_iff.mp H
  obtain ⟨t256, A40, H⟩ := H
  replace H : ((slotmeshref09_Valid.f k a0_0 a0_1 a0_2 a0_3 a0_4 a0_5 a0_6).bind fun t257 => (if t256 = true then (if t257 = true then (if a2 < 0 then (slotmeshref10_Send.j0 k a2 true a0_0 a0_1 a0_2 a0_3 a0_4 a0_5 a0_6 a1_0 a1_1) else (slotmeshref10_Send.j0 k a2 (decide (a2 > 999999999)) a0_0 a0_1 a0_2 a0_3 a0_4 a0_5 a0_6 a1_0 a1_1)) else (slotmeshref10_Send.j0 k a2 true a0_0 a0_1 a0_2 a0_3 a0_4 a0_5 a0_6 a1_0 a1_1)) else (slotmeshref10_Send.j0 k a2 true a0_0 a0_1 a0_2 a0_3 a0_4 a0_5 a0_6 a1_0 a1_1))) = some (r1, r2) := H
  have A4 := Aside0.mk A40
  clear A40
  replace H := Option.bind_eq_some_iff.mp H
  obtain ⟨t257, A50, H⟩ := H
  replace H : (if t256 = true then (if t257 = true then (if a2 < 0 then (slotmeshref10_Send.j0 k a2 true a0_0 a0_1 a0_2 a0_3 a0_4 a0_5 a0_6 a1_0 a1_1) else (slotmeshref10_Send.j0 k a2 (decide (a2 > 999999999)) a0_0 a0_1 a0_2 a0_3 a0_4 a0_5 a0_6 a1_0 a1_1)) else (slotmeshref10_Send.j0 k a2 true a0_0 a0_1 a0_2 a0_3 a0_4 a0_5 a0_6 a1_0 a1_1)) else (slotmeshref10_Send.j0 k a2 true a0_0 a0_1 a0_2 a0_3 a0_4 a0_5 a0_6 a1_0 a1_1)) = some (r1, r2) := H
  have A5 := Aside0.mk A50
  clear A50
  have HC6 := Aside0.mk H
  clear H
  go_enter Try.func24, Try.ntmps24
  go_upto_region 3 with (first | ((with_reducible refine gate_dst (N := 3) rfl ?_); refine box_event ?hg (N := 3) ?hd (cs := #[.bool a0_0, .int .i64 a0_1, .int .i64 a0_2, .int .i64 a0_3, .int .i64 a0_4, .int .i64 a0_5, .int .i64 a0_6]) (t := 25) ?hr ?_; (case hd => rfl); (case hg => rfl); (case hr => first | (go_simp; done) | (go_simp; rfl)); intro gb254 hg w7 hbox hb; have n0_ := Aside0.mk (below_step (by repeat (first | (with_reducible first | exact HB.out | apply below_alloc | apply pw_below_drewN | apply below_drew1) | exact HB.out)) hb); have n1_ := Aside0.mk (hbox); have n2_ := Aside0.mk ((by rw [hg]; exact (below_size (by repeat (first | (with_reducible first | exact HB.out | apply below_alloc | apply pw_below_drewN | apply below_drew1) | exact HB.out))) : w.heap.size ≤ gb254)); have n3_ := Aside0.mk ((by rw [hg]; exact (below_size (by repeat (first | (with_reducible first | exact HB.out | apply below_alloc | apply pw_below_drewN | apply below_drew1) | exact HB.out))) : w.heap.size ≤ gb254)); clear HB; have HB := n0_; have BK254 := n1_; have GW254 := n2_; have GE254 := n3_; clear n0_ n1_ n2_ n3_; clear hb hbox hg) | ((with_reducible refine gate_dst (N := 4) rfl ?_); refine box_event ?hg (N := 4) ?hd (cs := #[.int .i64 a1_0, .int .i64 a1_1]) (t := 27) ?hr ?_; (case hd => rfl); (case hg => rfl); (case hr => first | (go_simp; done) | (go_simp; rfl)); intro gb255 hg w8 hbox hb; have n0_ := Aside0.mk (blk_below (g := gb254) (o := .cells #[.bool a0_0, .int .i64 a0_1, .int .i64 a0_2, .int .i64 a0_3, .int .i64 a0_4, .int .i64 a0_5, .int .i64 a0_6] 25 (0, 0)) (by (with_reducible repeat (first | refine blk_drewN ?_ _ | refine blk_drew ?_ | refine blk_alloc ?_ _)); exact BK254.out) hb); have n1_ := Aside0.mk (below_step (by repeat (first | (with_reducible first | exact HB.out | apply below_alloc | apply pw_below_drewN | apply below_drew1 | refine below_set ?_ GE254.out) | exact HB.out)) hb); have n2_ := Aside0.mk (hbox); have n3_ := Aside0.mk ((by rw [hg]; exact (below_size (by repeat (first | (with_reducible first | exact HB.out | apply below_alloc | apply pw_below_drewN | apply below_drew1 | refine below_set ?_ GE254.out) | exact HB.out))) : w.heap.size ≤ gb255)); have n4_ := Aside0.mk ((by rw [hg]; exact (below_size (by repeat (first | (with_reducible first | exact HB.out | apply below_alloc | apply pw_below_drewN | apply below_drew1 | refine below_set ?_ GE254.out) | exact HB.out))) : w.heap.size ≤ gb255)); have n5_ := Aside0.mk ((by rw [hg]; exact Nat.ne_of_lt (blk_lt (g := gb254) (o := .cells #[.bool a0_0, .int .i64 a0_1, .int .i64 a0_2, .int .i64 a0_3, .int .i64 a0_4, .int .i64 a0_5, .int .i64 a0_6] 25 (0, 0)) (by (with_reducible repeat (first | refine blk_drewN ?_ _ | refine blk_drew ?_ | refine blk_alloc ?_ _)); exact BK254.out)) : gb254 ≠ gb255)); have n6_ := Aside0.mk ((by rw [hg]; exact Nat.ne_of_gt (blk_lt (g := gb254) (o := .cells #[.bool a0_0, .int .i64 a0_1, .int .i64 a0_2, .int .i64 a0_3, .int .i64 a0_4, .int .i64 a0_5, .int .i64 a0_6] 25 (0, 0)) (by (with_reducible repeat (first | refine blk_drewN ?_ _ | refine blk_drew ?_ | refine blk_alloc ?_ _)); exact BK254.out)) : gb255 ≠ gb254)); clear BK254; clear HB; have BK254 := n0_; have HB := n1_; have BK255 := n2_; have GW255 := n3_; have GE255 := n4_; have NB254_255 := n5_; have NB255_254 := n6_; clear n0_ n1_ n2_ n3_ n4_ n5_ n6_; clear hb hbox hg; have hnb9 := NB255_254.out; have hnc9 := NB254_255.out; have hcz10_0 : w8.cell? ⟨gb255, 0, none⟩ = some (.int .i64 a1_0) := (blk_cell BK255.out 0).trans rfl; have hcz10_1 : w8.cell? ⟨gb255, 1, none⟩ = some (.int .i64 a1_1) := (blk_cell BK255.out 1).trans rfl; have hfz10_0 := blk_frozen BK255.out 0; have hfz10_1 := blk_frozen BK255.out 1) | ((with_reducible refine gate_callee (f := 15) rfl ?_); refine goesL_ (some 15) rfl rfl Try.func15 (by kernel_rfl) rfl #[.agg #[.int .i64 a1_0, .int .i64 a1_1]] rfl (by (try simp only [List.map_toArray, List.map_cons, List.map_nil]); first | done | rfl | (simp only [List.length_drop, List.length_take]; rfl)) ?_; (with_reducible refine (slotmeshref07_Valid.calls a1_0 a1_1 t256 _ A4.out).mono ?_); rintro e w11 ⟨rfl, hb⟩; refine ⟨_, rfl, ?_⟩; have n0_ := Aside0.mk (blk_below (g := gb254) (o := .cells #[.bool a0_0, .int .i64 a0_1, .int .i64 a0_2, .int .i64 a0_3, .int .i64 a0_4, .int .i64 a0_5, .int .i64 a0_6] 25 (0, 0)) (by (with_reducible repeat (first | refine blk_drewN ?_ _ | refine blk_drew ?_ | refine blk_alloc ?_ _)); exact BK254.out) hb); have n1_ := Aside0.mk (blk_below (g := gb255) (o := .cells #[.int .i64 a1_0, .int .i64 a1_1] 27 (0, 0)) (by (with_reducible repeat (first | refine blk_drewN ?_ _ | refine blk_drew ?_ | refine blk_alloc ?_ _)); exact BK255.out) hb); have n2_ := Aside0.mk (below_step (by repeat (first | (with_reducible first | exact HB.out | apply below_alloc | apply pw_below_drewN | apply below_drew1 | refine below_set ?_ GE254.out | refine below_set ?_ GE255.out) | exact HB.out)) hb); clear BK254; clear BK255; clear HB; have BK254 := n0_; have BK255 := n1_; have HB := n2_; clear n0_ n1_ n2_; (try clear hb); (try clear hb2); (try clear hk); (try clear hi); have hcz12_0 : w11.cell? ⟨gb254, 0, none⟩ = some (.bool a0_0) := (blk_cell BK254.out 0).trans rfl; have hcz12_1 : w11.cell? ⟨gb254, 1, none⟩ = some (.int .i64 a0_1) := (blk_cell BK254.out 1).trans rfl; have hcz12_2 : w11.cell? ⟨gb254, 2, none⟩ = some (.int .i64 a0_2) := (blk_cell BK254.out 2).trans rfl; have hcz12_3 : w11.cell? ⟨gb254, 3, none⟩ = some (.int .i64 a0_3) := (blk_cell BK254.out 3).trans rfl; have hcz12_4 : w11.cell? ⟨gb254, 4, none⟩ = some (.int .i64 a0_4) := (blk_cell BK254.out 4).trans rfl; have hcz12_5 : w11.cell? ⟨gb254, 5, none⟩ = some (.int .i64 a0_5) := (blk_cell BK254.out 5).trans rfl; have hcz12_6 : w11.cell? ⟨gb254, 6, none⟩ = some (.int .i64 a0_6) := (blk_cell BK254.out 6).trans rfl; have hfz12_0 := blk_frozen BK254.out 0; have hfz12_1 := blk_frozen BK254.out 1; have hfz12_2 := blk_frozen BK254.out 2; have hfz12_3 := blk_frozen BK254.out 3; have hfz12_4 := blk_frozen BK254.out 4; have hfz12_5 := blk_frozen BK254.out 5; have hfz12_6 := blk_frozen BK254.out 6) | ((with_reducible refine gate_callee (f := 44) rfl ?_); refine goesL_ (some 17) rfl rfl Try.func44 (by kernel_rfl) rfl #[.agg #[.bool a0_0, .int .i64 a0_1, .int .i64 a0_2, .int .i64 a0_3, .int .i64 a0_4, .int .i64 a0_5, .int .i64 a0_6]] rfl (by (try simp only [List.map_toArray, List.map_cons, List.map_nil]); first | done | rfl | (simp only [List.length_drop, List.length_take]; rfl)) ?_; (with_reducible refine (slotmeshref09_Valid.calls k a0_0 a0_1 a0_2 a0_3 a0_4 a0_5 a0_6 t257 _ A5.out).mono ?_); rintro e w13 ⟨rfl, hb⟩; refine ⟨_, rfl, ?_⟩; have n0_ := Aside0.mk (blk_below (g := gb254) (o := .cells #[.bool a0_0, .int .i64 a0_1, .int .i64 a0_2, .int .i64 a0_3, .int .i64 a0_4, .int .i64 a0_5, .int .i64 a0_6] 25 (0, 0)) (by (with_reducible repeat (first | refine blk_drewN ?_ _ | refine blk_drew ?_ | refine blk_alloc ?_ _)); exact BK254.out) hb); have n1_ := Aside0.mk (blk_below (g := gb255) (o := .cells #[.int .i64 a1_0, .int .i64 a1_1] 27 (0, 0)) (by (with_reducible repeat (first | refine blk_drewN ?_ _ | refine blk_drew ?_ | refine blk_alloc ?_ _)); exact BK255.out) hb); have n2_ := Aside0.mk (below_step (by repeat (first | (with_reducible first | exact HB.out | apply below_alloc | apply pw_below_drewN | apply below_drew1 | refine below_set ?_ GE254.out | refine below_set ?_ GE255.out) | exact HB.out)) hb); clear BK254; clear BK255; clear HB; have BK254 := n0_; have BK255 := n1_; have HB := n2_; clear n0_ n1_ n2_; (try clear hb); (try clear hb2); (try clear hk); (try clear hi)))
  (try simp only [Act.put, List.setIfInBounds_toArray, List.set_cons_zero, List.set_cons_succ])
  go_cut [31] (fun v31 wc => ∃ (kq : Nat) (x31_5 : Bool), v31 = .bool x31_5 ∧ Aside0 (slotmeshref10_Send.j0 kq a2 x31_5 a0_0 a0_1 a0_2 a0_3 a0_4 a0_5 a0_6 a1_0 a1_1 = some (r1, r2)) ∧ Aside0 (kq ≤ k) ∧ Aside0 (wc.heap[gb254]? = some (.cells #[.bool a0_0, .int .i64 a0_1, .int .i64 a0_2, .int .i64 a0_3, .int .i64 a0_4, .int .i64 a0_5, .int .i64 a0_6] 25 (0, 0))) ∧ Aside0 (wc.heap[gb255]? = some (.cells #[.int .i64 a1_0, .int .i64 a1_1] 27 (0, 0))) ∧ Aside0 (Below w.heap.size w wc))
  case first =>
    have H := HC6.out
    clear HC6
    by_cases c14 : t256 = true
    · subst c14
      have H1 : (if t257 = true then (if a2 < 0 then (slotmeshref10_Send.j0 k a2 true a0_0 a0_1 a0_2 a0_3 a0_4 a0_5 a0_6 a1_0 a1_1) else (slotmeshref10_Send.j0 k a2 (decide (a2 > 999999999)) a0_0 a0_1 a0_2 a0_3 a0_4 a0_5 a0_6 a1_0 a1_1)) else (slotmeshref10_Send.j0 k a2 true a0_0 a0_1 a0_2 a0_3 a0_4 a0_5 a0_6 a1_0 a1_1)) = some (r1, r2) := by rw [if_pos rfl] at H; exact H
      clear H
      have H := H1
      clear H1
      by_cases c15 : t257 = true
      · subst c15
        have H1 : (if a2 < 0 then (slotmeshref10_Send.j0 k a2 true a0_0 a0_1 a0_2 a0_3 a0_4 a0_5 a0_6 a1_0 a1_1) else (slotmeshref10_Send.j0 k a2 (decide (a2 > 999999999)) a0_0 a0_1 a0_2 a0_3 a0_4 a0_5 a0_6 a1_0 a1_1)) = some (r1, r2) := by rw [if_pos rfl] at H; exact H
        clear H
        have H := H1
        clear H1
        by_cases c16 : a2 < 0
        · rw [if_pos c16] at H
          have c16b0 : decide (a2 < 0) = true := decide_eq_true c16
          clear c16
          (first | rw [c16b0] | (simp only [i64_w, i32_w]; rw [c16b0]) | skip)
          have H' := Aside0.mk H
          clear H
          go_wp2
          go_meet
          case rel => exact ⟨_, (true), (by first | rfl | (simp; done) | (simp [*]; done)), H', ⟨by first | omega | exact Nat.le_refl _⟩, ⟨by (with_reducible repeat (first | refine blk_drewN ?_ _ | refine blk_drew ?_ | refine blk_alloc ?_ _)); exact BK254.out⟩, ⟨by (with_reducible repeat (first | refine blk_drewN ?_ _ | refine blk_drew ?_ | refine blk_alloc ?_ _)); exact BK255.out⟩, ⟨by repeat (first | (with_reducible first | exact HB.out | apply below_alloc | apply pw_below_drewN | apply below_drew1 | refine below_set ?_ GE254.out | refine below_set ?_ GE255.out) | exact HB.out)⟩⟩
        · rw [if_neg c16] at H
          have c16b0 : decide (a2 < 0) = false := decide_eq_false c16
          clear c16
          (first | rw [c16b0] | (simp only [i64_w, i32_w]; rw [c16b0]) | skip)
          have H' := Aside0.mk H
          clear H
          go_wp2
          go_meet
          case rel => exact ⟨_, (decide (a2 > 999999999)), (by first | rfl | (simp; done) | (simp [*]; done)), H', ⟨by first | omega | exact Nat.le_refl _⟩, ⟨by (with_reducible repeat (first | refine blk_drewN ?_ _ | refine blk_drew ?_ | refine blk_alloc ?_ _)); exact BK254.out⟩, ⟨by (with_reducible repeat (first | refine blk_drewN ?_ _ | refine blk_drew ?_ | refine blk_alloc ?_ _)); exact BK255.out⟩, ⟨by repeat (first | (with_reducible first | exact HB.out | apply below_alloc | apply pw_below_drewN | apply below_drew1 | refine below_set ?_ GE254.out | refine below_set ?_ GE255.out) | exact HB.out)⟩⟩
      · replace c15 := Bool.eq_false_iff.mpr c15
        subst c15
        have H1 : (slotmeshref10_Send.j0 k a2 true a0_0 a0_1 a0_2 a0_3 a0_4 a0_5 a0_6 a1_0 a1_1) = some (r1, r2) := by rw [if_neg (show ¬ (false = true) by decide)] at H; exact H
        clear H
        have H := H1
        clear H1
        have H' := Aside0.mk H
        clear H
        go_wp2
        go_meet
        case rel => exact ⟨_, (true), (by first | rfl | (simp; done) | (simp [*]; done)), H', ⟨by first | omega | exact Nat.le_refl _⟩, ⟨by (with_reducible repeat (first | refine blk_drewN ?_ _ | refine blk_drew ?_ | refine blk_alloc ?_ _)); exact BK254.out⟩, ⟨by (with_reducible repeat (first | refine blk_drewN ?_ _ | refine blk_drew ?_ | refine blk_alloc ?_ _)); exact BK255.out⟩, ⟨by repeat (first | (with_reducible first | exact HB.out | apply below_alloc | apply pw_below_drewN | apply below_drew1 | refine below_set ?_ GE254.out | refine below_set ?_ GE255.out) | exact HB.out)⟩⟩
    · replace c14 := Bool.eq_false_iff.mpr c14
      subst c14
      have H1 : (slotmeshref10_Send.j0 k a2 true a0_0 a0_1 a0_2 a0_3 a0_4 a0_5 a0_6 a1_0 a1_1) = some (r1, r2) := by rw [if_neg (show ¬ (false = true) by decide)] at H; exact H
      clear H
      have H := H1
      clear H1
      have H' := Aside0.mk H
      clear H
      go_wp2
      go_meet
      case rel => exact ⟨_, (true), (by first | rfl | (simp; done) | (simp [*]; done)), H', ⟨by first | omega | exact Nat.le_refl _⟩, ⟨by (with_reducible repeat (first | refine blk_drewN ?_ _ | refine blk_drew ?_ | refine blk_alloc ?_ _)); exact BK254.out⟩, ⟨by (with_reducible repeat (first | refine blk_drewN ?_ _ | refine blk_drew ?_ | refine blk_alloc ?_ _)); exact BK255.out⟩, ⟨by repeat (first | (with_reducible first | exact HB.out | apply below_alloc | apply pw_below_drewN | apply below_drew1 | refine below_set ?_ GE254.out | refine below_set ?_ GE255.out) | exact HB.out)⟩⟩
  case rest =>
    clear HC6
    try clear c1
    try clear c2
    try clear p2
    try clear c4
    try clear c9
    try clear c14
    try clear c15
    try clear c16
    try clear c16b0
    try clear hcz10_0
    try clear hcz10_1
    try clear hcz12_0
    try clear hcz12_1
    try clear hcz12_2
    try clear hcz12_3
    try clear hcz12_4
    try clear hcz12_5
    try clear hcz12_6
    try clear hfz10_0
    try clear hfz10_1
    try clear hfz12_0
    try clear hfz12_1
    try clear hfz12_2
    try clear hfz12_3
    try clear hfz12_4
    try clear hfz12_5
    try clear hfz12_6
    obtain ⟨kq, x31_5, rfl, HA, HJ5, BK254, BK255, HB⟩ := hcut
    cases kq with
    | zero => exact absurd HA.out (by simp [slotmeshref10_Send.j0])
    | succ kj5 =>
      have H := HA.out
      clear HA
      simp only [slotmeshref10_Send.j0] at H
      by_cases c17 : x31_5 = true
      · subst c17
        have H1 : (some (0, 1)) = some (r1, r2) := by rw [if_pos rfl] at H; exact H
        clear H
        have H := H1
        clear H1
        simp only [Option.some.injEq, Prod.mk.injEq] at H
        obtain ⟨rfl, rfl⟩ := H
        go_wp2
        go_ret2
        exact ⟨by first | rfl | (simp [errW_none, errW_some] <;> rfl) | (simp [*, errW_none, errW_some] <;> rfl), by repeat (first | (with_reducible first | exact HB.out | apply below_alloc | apply pw_below_drewN | apply below_drew1 | refine below_set ?_ GE254.out | refine below_set ?_ GE255.out) | exact HB.out)⟩
      · replace c17 := Bool.eq_false_iff.mpr c17
        subst c17
        have H1 : (if a0_0 = true then ((slotmeshref10_Own.f a0_0 a0_1 a0_2 a0_3 a0_4 a0_5 a0_6 a2).bind fun t258 => ((slotmeshref09_Bound.f kj5 a0_0 a0_1 a0_2 a0_3 a0_4 a0_5 a0_6 t258).bind fun bt259 => (if bt259.2 = 0 then ((slotmeshref10_first.f kj5 a1_0 a1_1 t258).bind fun t261 => (if t261 > 10000000000000 then (some (0, 3)) else (some (wrap64 (t261 - (wrap64 (10000 * a2))), 0)))) else (some (0, bt259.2))))) else (some (0, 16))) = some (r1, r2) := by rw [if_neg (show ¬ (false = true) by decide)] at H; exact H
        clear H
        have H := H1
        clear H1
        by_cases c18 : a0_0 = true
        · subst c18
          have H1 : ((slotmeshref10_Own.f true a0_1 a0_2 a0_3 a0_4 a0_5 a0_6 a2).bind fun t258 => ((slotmeshref09_Bound.f kj5 true a0_1 a0_2 a0_3 a0_4 a0_5 a0_6 t258).bind fun bt259 => (if bt259.2 = 0 then ((slotmeshref10_first.f kj5 a1_0 a1_1 t258).bind fun t261 => (if t261 > 10000000000000 then (some (0, 3)) else (some (wrap64 (t261 - (wrap64 (10000 * a2))), 0)))) else (some (0, bt259.2))))) = some (r1, r2) := by rw [if_pos rfl] at H; exact H
          clear H
          have H := H1
          clear H1
          replace H := Option.bind_eq_some_iff.mp H
          obtain ⟨t258, A190, H⟩ := H
          replace H : ((slotmeshref09_Bound.f kj5 true a0_1 a0_2 a0_3 a0_4 a0_5 a0_6 t258).bind fun bt259 => (if bt259.2 = 0 then ((slotmeshref10_first.f kj5 a1_0 a1_1 t258).bind fun t261 => (if t261 > 10000000000000 then (some (0, 3)) else (some (wrap64 (t261 - (wrap64 (10000 * a2))), 0)))) else (some (0, bt259.2)))) = some (r1, r2) := H
          have A19 := Aside0.mk A190
          clear A190
          replace H := Option.bind_eq_some_iff.mp H
          obtain ⟨⟨t259, t260⟩, A200, H⟩ := H
          replace H : (if t260 = 0 then ((slotmeshref10_first.f kj5 a1_0 a1_1 t258).bind fun t261 => (if t261 > 10000000000000 then (some (0, 3)) else (some (wrap64 (t261 - (wrap64 (10000 * a2))), 0)))) else (some (0, t260))) = some (r1, r2) := H
          have A20 := Aside0.mk A200
          clear A200
          by_cases c21 : t260 = 0
          · rw [if_pos c21] at H
            have c21b0 : (t260 == 0) = true := beq_iff_eq.mpr c21
            have c21b1 : (t260 != 0) = false := bne_eq_false_iff_eq.mpr c21
            clear c21
            replace H := Option.bind_eq_some_iff.mp H
            obtain ⟨t261, A220, H⟩ := H
            replace H : (if t261 > 10000000000000 then (some (0, 3)) else (some (wrap64 (t261 - (wrap64 (10000 * a2))), 0))) = some (r1, r2) := H
            have A22 := Aside0.mk A220
            clear A220
            by_cases c23 : t261 > 10000000000000
            · rw [if_pos c23] at H
              have c23b0 : decide (10000000000000 < t261) = true := decide_eq_true c23
              clear c23
              simp only [Option.some.injEq, Prod.mk.injEq] at H
              obtain ⟨rfl, rfl⟩ := H
              have hnb24 := NB254_255.out
              have hnc24 := NB255_254.out
              have hcz25_0 : wc.cell? ⟨gb254, 0, none⟩ = some (.bool true) := (blk_cell BK254.out 0).trans rfl
              have hcz25_1 : wc.cell? ⟨gb254, 1, none⟩ = some (.int .i64 a0_1) := (blk_cell BK254.out 1).trans rfl
              have hcz25_2 : wc.cell? ⟨gb254, 2, none⟩ = some (.int .i64 a0_2) := (blk_cell BK254.out 2).trans rfl
              have hcz25_3 : wc.cell? ⟨gb254, 3, none⟩ = some (.int .i64 a0_3) := (blk_cell BK254.out 3).trans rfl
              have hcz25_4 : wc.cell? ⟨gb254, 4, none⟩ = some (.int .i64 a0_4) := (blk_cell BK254.out 4).trans rfl
              have hcz25_5 : wc.cell? ⟨gb254, 5, none⟩ = some (.int .i64 a0_5) := (blk_cell BK254.out 5).trans rfl
              have hcz25_6 : wc.cell? ⟨gb254, 6, none⟩ = some (.int .i64 a0_6) := (blk_cell BK254.out 6).trans rfl
              have hfz25_0 := blk_frozen BK254.out 0
              have hfz25_1 := blk_frozen BK254.out 1
              have hfz25_2 := blk_frozen BK254.out 2
              have hfz25_3 := blk_frozen BK254.out 3
              have hfz25_4 := blk_frozen BK254.out 4
              have hfz25_5 := blk_frozen BK254.out 5
              have hfz25_6 := blk_frozen BK254.out 6
              go_wp2_with (first | ((with_reducible refine gate_callee (f := 14) rfl ?_); refine goesL_ (some 37) rfl rfl Try.func14 (by kernel_rfl) rfl #[.agg #[.bool true, .int .i64 a0_1, .int .i64 a0_2, .int .i64 a0_3, .int .i64 a0_4, .int .i64 a0_5, .int .i64 a0_6], .int .i64 a2] rfl (by (try simp only [List.map_toArray, List.map_cons, List.map_nil]); first | done | rfl | (simp only [List.length_drop, List.length_take]; rfl)) ?_; (with_reducible refine (slotmeshref10_Own.calls true a0_1 a0_2 a0_3 a0_4 a0_5 a0_6 a2 t258 _ A19.out).mono ?_); rintro e w26 ⟨rfl, hb⟩; refine ⟨_, rfl, ?_⟩; have n0_ := Aside0.mk (blk_below (g := gb254) (o := .cells #[.bool true, .int .i64 a0_1, .int .i64 a0_2, .int .i64 a0_3, .int .i64 a0_4, .int .i64 a0_5, .int .i64 a0_6] 25 (0, 0)) (by (with_reducible repeat (first | refine blk_drewN ?_ _ | refine blk_drew ?_ | refine blk_alloc ?_ _)); exact BK254.out) hb); have n1_ := Aside0.mk (blk_below (g := gb255) (o := .cells #[.int .i64 a1_0, .int .i64 a1_1] 27 (0, 0)) (by (with_reducible repeat (first | refine blk_drewN ?_ _ | refine blk_drew ?_ | refine blk_alloc ?_ _)); exact BK255.out) hb); have n2_ := Aside0.mk (below_step (by repeat (first | (with_reducible first | exact HB.out | apply below_alloc | apply pw_below_drewN | apply below_drew1 | refine below_set ?_ GE254.out | refine below_set ?_ GE255.out) | exact HB.out)) hb); clear BK254; clear BK255; clear HB; have BK254 := n0_; have BK255 := n1_; have HB := n2_; clear n0_ n1_ n2_; (try clear hb); (try clear hb2); (try clear hk); (try clear hi); have hcz27_0 : w26.cell? ⟨gb254, 0, none⟩ = some (.bool true) := (blk_cell BK254.out 0).trans rfl; have hcz27_1 : w26.cell? ⟨gb254, 1, none⟩ = some (.int .i64 a0_1) := (blk_cell BK254.out 1).trans rfl; have hcz27_2 : w26.cell? ⟨gb254, 2, none⟩ = some (.int .i64 a0_2) := (blk_cell BK254.out 2).trans rfl; have hcz27_3 : w26.cell? ⟨gb254, 3, none⟩ = some (.int .i64 a0_3) := (blk_cell BK254.out 3).trans rfl; have hcz27_4 : w26.cell? ⟨gb254, 4, none⟩ = some (.int .i64 a0_4) := (blk_cell BK254.out 4).trans rfl; have hcz27_5 : w26.cell? ⟨gb254, 5, none⟩ = some (.int .i64 a0_5) := (blk_cell BK254.out 5).trans rfl; have hcz27_6 : w26.cell? ⟨gb254, 6, none⟩ = some (.int .i64 a0_6) := (blk_cell BK254.out 6).trans rfl; have hfz27_0 := blk_frozen BK254.out 0; have hfz27_1 := blk_frozen BK254.out 1; have hfz27_2 := blk_frozen BK254.out 2; have hfz27_3 := blk_frozen BK254.out 3; have hfz27_4 := blk_frozen BK254.out 4; have hfz27_5 := blk_frozen BK254.out 5; have hfz27_6 := blk_frozen BK254.out 6) | ((with_reducible refine gate_callee (f := 45) rfl ?_); refine goesL_ (some 41) rfl rfl Try.func45 (by kernel_rfl) rfl #[.agg #[.bool true, .int .i64 a0_1, .int .i64 a0_2, .int .i64 a0_3, .int .i64 a0_4, .int .i64 a0_5, .int .i64 a0_6], .int .i64 t258] rfl (by (try simp only [List.map_toArray, List.map_cons, List.map_nil]); first | done | rfl | (simp only [List.length_drop, List.length_take]; rfl)) ?_; (with_reducible refine (slotmeshref09_Bound.calls kj5 true a0_1 a0_2 a0_3 a0_4 a0_5 a0_6 t258 t259 t260 _ A20.out).mono ?_); rintro e w28 ⟨rfl, hb⟩; refine ⟨_, rfl, ?_⟩; have n0_ := Aside0.mk (blk_below (g := gb254) (o := .cells #[.bool true, .int .i64 a0_1, .int .i64 a0_2, .int .i64 a0_3, .int .i64 a0_4, .int .i64 a0_5, .int .i64 a0_6] 25 (0, 0)) (by (with_reducible repeat (first | refine blk_drewN ?_ _ | refine blk_drew ?_ | refine blk_alloc ?_ _)); exact BK254.out) hb); have n1_ := Aside0.mk (blk_below (g := gb255) (o := .cells #[.int .i64 a1_0, .int .i64 a1_1] 27 (0, 0)) (by (with_reducible repeat (first | refine blk_drewN ?_ _ | refine blk_drew ?_ | refine blk_alloc ?_ _)); exact BK255.out) hb); have n2_ := Aside0.mk (below_step (by repeat (first | (with_reducible first | exact HB.out | apply below_alloc | apply pw_below_drewN | apply below_drew1 | refine below_set ?_ GE254.out | refine below_set ?_ GE255.out) | exact HB.out)) hb); clear BK254; clear BK255; clear HB; have BK254 := n0_; have BK255 := n1_; have HB := n2_; clear n0_ n1_ n2_; (try clear hb); (try clear hb2); (try clear hk); (try clear hi); have hcz29_0 : w28.cell? ⟨gb255, 0, none⟩ = some (.int .i64 a1_0) := (blk_cell BK255.out 0).trans rfl; have hcz29_1 : w28.cell? ⟨gb255, 1, none⟩ = some (.int .i64 a1_1) := (blk_cell BK255.out 1).trans rfl; have hfz29_0 := blk_frozen BK255.out 0; have hfz29_1 := blk_frozen BK255.out 1) | ((with_reducible refine gate_callee (f := 46) rfl ?_); refine goesL_ (some 49) rfl rfl Try.func46 (by kernel_rfl) rfl #[.agg #[.int .i64 a1_0, .int .i64 a1_1], .int .i64 t258] rfl (by (try simp only [List.map_toArray, List.map_cons, List.map_nil]); first | done | rfl | (simp only [List.length_drop, List.length_take]; rfl)) ?_; (with_reducible refine (slotmeshref10_first.calls kj5 a1_0 a1_1 t258 t261 _ A22.out).mono ?_); rintro e w30 ⟨rfl, hb⟩; refine ⟨_, rfl, ?_⟩; have n0_ := Aside0.mk (blk_below (g := gb254) (o := .cells #[.bool true, .int .i64 a0_1, .int .i64 a0_2, .int .i64 a0_3, .int .i64 a0_4, .int .i64 a0_5, .int .i64 a0_6] 25 (0, 0)) (by (with_reducible repeat (first | refine blk_drewN ?_ _ | refine blk_drew ?_ | refine blk_alloc ?_ _)); exact BK254.out) hb); have n1_ := Aside0.mk (blk_below (g := gb255) (o := .cells #[.int .i64 a1_0, .int .i64 a1_1] 27 (0, 0)) (by (with_reducible repeat (first | refine blk_drewN ?_ _ | refine blk_drew ?_ | refine blk_alloc ?_ _)); exact BK255.out) hb); have n2_ := Aside0.mk (below_step (by repeat (first | (with_reducible first | exact HB.out | apply below_alloc | apply pw_below_drewN | apply below_drew1 | refine below_set ?_ GE254.out | refine below_set ?_ GE255.out) | exact HB.out)) hb); clear BK254; clear BK255; clear HB; have BK254 := n0_; have BK255 := n1_; have HB := n2_; clear n0_ n1_ n2_; (try clear hb); (try clear hb2); (try clear hk); (try clear hi)))
              go_ret2
              exact ⟨by first | rfl | (simp [errW_none, errW_some] <;> rfl) | (simp [*, errW_none, errW_some] <;> rfl), by repeat (first | (with_reducible first | exact HB.out | apply below_alloc | apply pw_below_drewN | apply below_drew1 | refine below_set ?_ GE254.out | refine below_set ?_ GE255.out) | exact HB.out)⟩
            · rw [if_neg c23] at H
              have c23b0 : decide (10000000000000 < t261) = false := decide_eq_false c23
              clear c23
              simp only [Option.some.injEq, Prod.mk.injEq] at H
              obtain ⟨rfl, rfl⟩ := H
              have hnb31 := NB254_255.out
              have hnc31 := NB255_254.out
              have hcz32_0 : wc.cell? ⟨gb254, 0, none⟩ = some (.bool true) := (blk_cell BK254.out 0).trans rfl
              have hcz32_1 : wc.cell? ⟨gb254, 1, none⟩ = some (.int .i64 a0_1) := (blk_cell BK254.out 1).trans rfl
              have hcz32_2 : wc.cell? ⟨gb254, 2, none⟩ = some (.int .i64 a0_2) := (blk_cell BK254.out 2).trans rfl
              have hcz32_3 : wc.cell? ⟨gb254, 3, none⟩ = some (.int .i64 a0_3) := (blk_cell BK254.out 3).trans rfl
              have hcz32_4 : wc.cell? ⟨gb254, 4, none⟩ = some (.int .i64 a0_4) := (blk_cell BK254.out 4).trans rfl
              have hcz32_5 : wc.cell? ⟨gb254, 5, none⟩ = some (.int .i64 a0_5) := (blk_cell BK254.out 5).trans rfl
              have hcz32_6 : wc.cell? ⟨gb254, 6, none⟩ = some (.int .i64 a0_6) := (blk_cell BK254.out 6).trans rfl
              have hfz32_0 := blk_frozen BK254.out 0
              have hfz32_1 := blk_frozen BK254.out 1
              have hfz32_2 := blk_frozen BK254.out 2
              have hfz32_3 := blk_frozen BK254.out 3
              have hfz32_4 := blk_frozen BK254.out 4
              have hfz32_5 := blk_frozen BK254.out 5
              have hfz32_6 := blk_frozen BK254.out 6
              go_wp2_with (first | ((with_reducible refine gate_callee (f := 14) rfl ?_); refine goesL_ (some 37) rfl rfl Try.func14 (by kernel_rfl) rfl #[.agg #[.bool true, .int .i64 a0_1, .int .i64 a0_2, .int .i64 a0_3, .int .i64 a0_4, .int .i64 a0_5, .int .i64 a0_6], .int .i64 a2] rfl (by (try simp only [List.map_toArray, List.map_cons, List.map_nil]); first | done | rfl | (simp only [List.length_drop, List.length_take]; rfl)) ?_; (with_reducible refine (slotmeshref10_Own.calls true a0_1 a0_2 a0_3 a0_4 a0_5 a0_6 a2 t258 _ A19.out).mono ?_); rintro e w33 ⟨rfl, hb⟩; refine ⟨_, rfl, ?_⟩; have n0_ := Aside0.mk (blk_below (g := gb254) (o := .cells #[.bool true, .int .i64 a0_1, .int .i64 a0_2, .int .i64 a0_3, .int .i64 a0_4, .int .i64 a0_5, .int .i64 a0_6] 25 (0, 0)) (by (with_reducible repeat (first | refine blk_drewN ?_ _ | refine blk_drew ?_ | refine blk_alloc ?_ _)); exact BK254.out) hb); have n1_ := Aside0.mk (blk_below (g := gb255) (o := .cells #[.int .i64 a1_0, .int .i64 a1_1] 27 (0, 0)) (by (with_reducible repeat (first | refine blk_drewN ?_ _ | refine blk_drew ?_ | refine blk_alloc ?_ _)); exact BK255.out) hb); have n2_ := Aside0.mk (below_step (by repeat (first | (with_reducible first | exact HB.out | apply below_alloc | apply pw_below_drewN | apply below_drew1 | refine below_set ?_ GE254.out | refine below_set ?_ GE255.out) | exact HB.out)) hb); clear BK254; clear BK255; clear HB; have BK254 := n0_; have BK255 := n1_; have HB := n2_; clear n0_ n1_ n2_; (try clear hb); (try clear hb2); (try clear hk); (try clear hi); have hcz34_0 : w33.cell? ⟨gb254, 0, none⟩ = some (.bool true) := (blk_cell BK254.out 0).trans rfl; have hcz34_1 : w33.cell? ⟨gb254, 1, none⟩ = some (.int .i64 a0_1) := (blk_cell BK254.out 1).trans rfl; have hcz34_2 : w33.cell? ⟨gb254, 2, none⟩ = some (.int .i64 a0_2) := (blk_cell BK254.out 2).trans rfl; have hcz34_3 : w33.cell? ⟨gb254, 3, none⟩ = some (.int .i64 a0_3) := (blk_cell BK254.out 3).trans rfl; have hcz34_4 : w33.cell? ⟨gb254, 4, none⟩ = some (.int .i64 a0_4) := (blk_cell BK254.out 4).trans rfl; have hcz34_5 : w33.cell? ⟨gb254, 5, none⟩ = some (.int .i64 a0_5) := (blk_cell BK254.out 5).trans rfl; have hcz34_6 : w33.cell? ⟨gb254, 6, none⟩ = some (.int .i64 a0_6) := (blk_cell BK254.out 6).trans rfl; have hfz34_0 := blk_frozen BK254.out 0; have hfz34_1 := blk_frozen BK254.out 1; have hfz34_2 := blk_frozen BK254.out 2; have hfz34_3 := blk_frozen BK254.out 3; have hfz34_4 := blk_frozen BK254.out 4; have hfz34_5 := blk_frozen BK254.out 5; have hfz34_6 := blk_frozen BK254.out 6) | ((with_reducible refine gate_callee (f := 45) rfl ?_); refine goesL_ (some 41) rfl rfl Try.func45 (by kernel_rfl) rfl #[.agg #[.bool true, .int .i64 a0_1, .int .i64 a0_2, .int .i64 a0_3, .int .i64 a0_4, .int .i64 a0_5, .int .i64 a0_6], .int .i64 t258] rfl (by (try simp only [List.map_toArray, List.map_cons, List.map_nil]); first | done | rfl | (simp only [List.length_drop, List.length_take]; rfl)) ?_; (with_reducible refine (slotmeshref09_Bound.calls kj5 true a0_1 a0_2 a0_3 a0_4 a0_5 a0_6 t258 t259 t260 _ A20.out).mono ?_); rintro e w35 ⟨rfl, hb⟩; refine ⟨_, rfl, ?_⟩; have n0_ := Aside0.mk (blk_below (g := gb254) (o := .cells #[.bool true, .int .i64 a0_1, .int .i64 a0_2, .int .i64 a0_3, .int .i64 a0_4, .int .i64 a0_5, .int .i64 a0_6] 25 (0, 0)) (by (with_reducible repeat (first | refine blk_drewN ?_ _ | refine blk_drew ?_ | refine blk_alloc ?_ _)); exact BK254.out) hb); have n1_ := Aside0.mk (blk_below (g := gb255) (o := .cells #[.int .i64 a1_0, .int .i64 a1_1] 27 (0, 0)) (by (with_reducible repeat (first | refine blk_drewN ?_ _ | refine blk_drew ?_ | refine blk_alloc ?_ _)); exact BK255.out) hb); have n2_ := Aside0.mk (below_step (by repeat (first | (with_reducible first | exact HB.out | apply below_alloc | apply pw_below_drewN | apply below_drew1 | refine below_set ?_ GE254.out | refine below_set ?_ GE255.out) | exact HB.out)) hb); clear BK254; clear BK255; clear HB; have BK254 := n0_; have BK255 := n1_; have HB := n2_; clear n0_ n1_ n2_; (try clear hb); (try clear hb2); (try clear hk); (try clear hi); have hcz36_0 : w35.cell? ⟨gb255, 0, none⟩ = some (.int .i64 a1_0) := (blk_cell BK255.out 0).trans rfl; have hcz36_1 : w35.cell? ⟨gb255, 1, none⟩ = some (.int .i64 a1_1) := (blk_cell BK255.out 1).trans rfl; have hfz36_0 := blk_frozen BK255.out 0; have hfz36_1 := blk_frozen BK255.out 1) | ((with_reducible refine gate_callee (f := 46) rfl ?_); refine goesL_ (some 49) rfl rfl Try.func46 (by kernel_rfl) rfl #[.agg #[.int .i64 a1_0, .int .i64 a1_1], .int .i64 t258] rfl (by (try simp only [List.map_toArray, List.map_cons, List.map_nil]); first | done | rfl | (simp only [List.length_drop, List.length_take]; rfl)) ?_; (with_reducible refine (slotmeshref10_first.calls kj5 a1_0 a1_1 t258 t261 _ A22.out).mono ?_); rintro e w37 ⟨rfl, hb⟩; refine ⟨_, rfl, ?_⟩; have n0_ := Aside0.mk (blk_below (g := gb254) (o := .cells #[.bool true, .int .i64 a0_1, .int .i64 a0_2, .int .i64 a0_3, .int .i64 a0_4, .int .i64 a0_5, .int .i64 a0_6] 25 (0, 0)) (by (with_reducible repeat (first | refine blk_drewN ?_ _ | refine blk_drew ?_ | refine blk_alloc ?_ _)); exact BK254.out) hb); have n1_ := Aside0.mk (blk_below (g := gb255) (o := .cells #[.int .i64 a1_0, .int .i64 a1_1] 27 (0, 0)) (by (with_reducible repeat (first | refine blk_drewN ?_ _ | refine blk_drew ?_ | refine blk_alloc ?_ _)); exact BK255.out) hb); have n2_ := Aside0.mk (below_step (by repeat (first | (with_reducible first | exact HB.out | apply below_alloc | apply pw_below_drewN | apply below_drew1 | refine below_set ?_ GE254.out | refine below_set ?_ GE255.out) | exact HB.out)) hb); clear BK254; clear BK255; clear HB; have BK254 := n0_; have BK255 := n1_; have HB := n2_; clear n0_ n1_ n2_; (try clear hb); (try clear hb2); (try clear hk); (try clear hi)))
              go_ret2
              exact ⟨by first | rfl | (simp [errW_none, errW_some] <;> rfl) | (simp [*, errW_none, errW_some] <;> rfl), by repeat (first | (with_reducible first | exact HB.out | apply below_alloc | apply pw_below_drewN | apply below_drew1 | refine below_set ?_ GE254.out | refine below_set ?_ GE255.out) | exact HB.out)⟩
          · rw [if_neg c21] at H
            have c21b0 : (t260 == 0) = false := beq_eq_false_iff_ne.mpr c21
            have c21b1 : (t260 != 0) = true := bne_iff_ne.mpr c21
            simp only [Option.some.injEq, Prod.mk.injEq] at H
            obtain ⟨rfl, rfl⟩ := H
            have hnb38 := NB254_255.out
            have hnc38 := NB255_254.out
            have hcz39_0 : wc.cell? ⟨gb254, 0, none⟩ = some (.bool true) := (blk_cell BK254.out 0).trans rfl
            have hcz39_1 : wc.cell? ⟨gb254, 1, none⟩ = some (.int .i64 a0_1) := (blk_cell BK254.out 1).trans rfl
            have hcz39_2 : wc.cell? ⟨gb254, 2, none⟩ = some (.int .i64 a0_2) := (blk_cell BK254.out 2).trans rfl
            have hcz39_3 : wc.cell? ⟨gb254, 3, none⟩ = some (.int .i64 a0_3) := (blk_cell BK254.out 3).trans rfl
            have hcz39_4 : wc.cell? ⟨gb254, 4, none⟩ = some (.int .i64 a0_4) := (blk_cell BK254.out 4).trans rfl
            have hcz39_5 : wc.cell? ⟨gb254, 5, none⟩ = some (.int .i64 a0_5) := (blk_cell BK254.out 5).trans rfl
            have hcz39_6 : wc.cell? ⟨gb254, 6, none⟩ = some (.int .i64 a0_6) := (blk_cell BK254.out 6).trans rfl
            have hfz39_0 := blk_frozen BK254.out 0
            have hfz39_1 := blk_frozen BK254.out 1
            have hfz39_2 := blk_frozen BK254.out 2
            have hfz39_3 := blk_frozen BK254.out 3
            have hfz39_4 := blk_frozen BK254.out 4
            have hfz39_5 := blk_frozen BK254.out 5
            have hfz39_6 := blk_frozen BK254.out 6
            go_wp2_with (first | ((with_reducible refine gate_callee (f := 14) rfl ?_); refine goesL_ (some 37) rfl rfl Try.func14 (by kernel_rfl) rfl #[.agg #[.bool true, .int .i64 a0_1, .int .i64 a0_2, .int .i64 a0_3, .int .i64 a0_4, .int .i64 a0_5, .int .i64 a0_6], .int .i64 a2] rfl (by (try simp only [List.map_toArray, List.map_cons, List.map_nil]); first | done | rfl | (simp only [List.length_drop, List.length_take]; rfl)) ?_; (with_reducible refine (slotmeshref10_Own.calls true a0_1 a0_2 a0_3 a0_4 a0_5 a0_6 a2 t258 _ A19.out).mono ?_); rintro e w40 ⟨rfl, hb⟩; refine ⟨_, rfl, ?_⟩; have n0_ := Aside0.mk (blk_below (g := gb254) (o := .cells #[.bool true, .int .i64 a0_1, .int .i64 a0_2, .int .i64 a0_3, .int .i64 a0_4, .int .i64 a0_5, .int .i64 a0_6] 25 (0, 0)) (by (with_reducible repeat (first | refine blk_drewN ?_ _ | refine blk_drew ?_ | refine blk_alloc ?_ _)); exact BK254.out) hb); have n1_ := Aside0.mk (blk_below (g := gb255) (o := .cells #[.int .i64 a1_0, .int .i64 a1_1] 27 (0, 0)) (by (with_reducible repeat (first | refine blk_drewN ?_ _ | refine blk_drew ?_ | refine blk_alloc ?_ _)); exact BK255.out) hb); have n2_ := Aside0.mk (below_step (by repeat (first | (with_reducible first | exact HB.out | apply below_alloc | apply pw_below_drewN | apply below_drew1 | refine below_set ?_ GE254.out | refine below_set ?_ GE255.out) | exact HB.out)) hb); clear BK254; clear BK255; clear HB; have BK254 := n0_; have BK255 := n1_; have HB := n2_; clear n0_ n1_ n2_; (try clear hb); (try clear hb2); (try clear hk); (try clear hi); have hcz41_0 : w40.cell? ⟨gb254, 0, none⟩ = some (.bool true) := (blk_cell BK254.out 0).trans rfl; have hcz41_1 : w40.cell? ⟨gb254, 1, none⟩ = some (.int .i64 a0_1) := (blk_cell BK254.out 1).trans rfl; have hcz41_2 : w40.cell? ⟨gb254, 2, none⟩ = some (.int .i64 a0_2) := (blk_cell BK254.out 2).trans rfl; have hcz41_3 : w40.cell? ⟨gb254, 3, none⟩ = some (.int .i64 a0_3) := (blk_cell BK254.out 3).trans rfl; have hcz41_4 : w40.cell? ⟨gb254, 4, none⟩ = some (.int .i64 a0_4) := (blk_cell BK254.out 4).trans rfl; have hcz41_5 : w40.cell? ⟨gb254, 5, none⟩ = some (.int .i64 a0_5) := (blk_cell BK254.out 5).trans rfl; have hcz41_6 : w40.cell? ⟨gb254, 6, none⟩ = some (.int .i64 a0_6) := (blk_cell BK254.out 6).trans rfl; have hfz41_0 := blk_frozen BK254.out 0; have hfz41_1 := blk_frozen BK254.out 1; have hfz41_2 := blk_frozen BK254.out 2; have hfz41_3 := blk_frozen BK254.out 3; have hfz41_4 := blk_frozen BK254.out 4; have hfz41_5 := blk_frozen BK254.out 5; have hfz41_6 := blk_frozen BK254.out 6) | ((with_reducible refine gate_callee (f := 45) rfl ?_); refine goesL_ (some 41) rfl rfl Try.func45 (by kernel_rfl) rfl #[.agg #[.bool true, .int .i64 a0_1, .int .i64 a0_2, .int .i64 a0_3, .int .i64 a0_4, .int .i64 a0_5, .int .i64 a0_6], .int .i64 t258] rfl (by (try simp only [List.map_toArray, List.map_cons, List.map_nil]); first | done | rfl | (simp only [List.length_drop, List.length_take]; rfl)) ?_; (with_reducible refine (slotmeshref09_Bound.calls kj5 true a0_1 a0_2 a0_3 a0_4 a0_5 a0_6 t258 t259 t260 _ A20.out).mono ?_); rintro e w42 ⟨rfl, hb⟩; refine ⟨_, rfl, ?_⟩; have n0_ := Aside0.mk (blk_below (g := gb254) (o := .cells #[.bool true, .int .i64 a0_1, .int .i64 a0_2, .int .i64 a0_3, .int .i64 a0_4, .int .i64 a0_5, .int .i64 a0_6] 25 (0, 0)) (by (with_reducible repeat (first | refine blk_drewN ?_ _ | refine blk_drew ?_ | refine blk_alloc ?_ _)); exact BK254.out) hb); have n1_ := Aside0.mk (blk_below (g := gb255) (o := .cells #[.int .i64 a1_0, .int .i64 a1_1] 27 (0, 0)) (by (with_reducible repeat (first | refine blk_drewN ?_ _ | refine blk_drew ?_ | refine blk_alloc ?_ _)); exact BK255.out) hb); have n2_ := Aside0.mk (below_step (by repeat (first | (with_reducible first | exact HB.out | apply below_alloc | apply pw_below_drewN | apply below_drew1 | refine below_set ?_ GE254.out | refine below_set ?_ GE255.out) | exact HB.out)) hb); clear BK254; clear BK255; clear HB; have BK254 := n0_; have BK255 := n1_; have HB := n2_; clear n0_ n1_ n2_; (try clear hb); (try clear hb2); (try clear hk); (try clear hi)))
            go_ret2
            exact ⟨by first | rfl | (simp [errW_none, errW_some] <;> rfl) | (simp [*, errW_none, errW_some] <;> rfl), by repeat (first | (with_reducible first | exact HB.out | apply below_alloc | apply pw_below_drewN | apply below_drew1 | refine below_set ?_ GE254.out | refine below_set ?_ GE255.out) | exact HB.out)⟩
        · replace c18 := Bool.eq_false_iff.mpr c18
          subst c18
          have H1 : (some (0, 16)) = some (r1, r2) := by rw [if_neg (show ¬ (false = true) by decide)] at H; exact H
          clear H
          have H := H1
          clear H1
          simp only [Option.some.injEq, Prod.mk.injEq] at H
          obtain ⟨rfl, rfl⟩ := H
          have hnb43 := NB254_255.out
          have hnc43 := NB255_254.out
          have hcz44_0 : wc.cell? ⟨gb254, 0, none⟩ = some (.bool false) := (blk_cell BK254.out 0).trans rfl
          have hcz44_1 : wc.cell? ⟨gb254, 1, none⟩ = some (.int .i64 a0_1) := (blk_cell BK254.out 1).trans rfl
          have hcz44_2 : wc.cell? ⟨gb254, 2, none⟩ = some (.int .i64 a0_2) := (blk_cell BK254.out 2).trans rfl
          have hcz44_3 : wc.cell? ⟨gb254, 3, none⟩ = some (.int .i64 a0_3) := (blk_cell BK254.out 3).trans rfl
          have hcz44_4 : wc.cell? ⟨gb254, 4, none⟩ = some (.int .i64 a0_4) := (blk_cell BK254.out 4).trans rfl
          have hcz44_5 : wc.cell? ⟨gb254, 5, none⟩ = some (.int .i64 a0_5) := (blk_cell BK254.out 5).trans rfl
          have hcz44_6 : wc.cell? ⟨gb254, 6, none⟩ = some (.int .i64 a0_6) := (blk_cell BK254.out 6).trans rfl
          have hfz44_0 := blk_frozen BK254.out 0
          have hfz44_1 := blk_frozen BK254.out 1
          have hfz44_2 := blk_frozen BK254.out 2
          have hfz44_3 := blk_frozen BK254.out 3
          have hfz44_4 := blk_frozen BK254.out 4
          have hfz44_5 := blk_frozen BK254.out 5
          have hfz44_6 := blk_frozen BK254.out 6
          go_wp2
          go_ret2
          exact ⟨by first | rfl | (simp [errW_none, errW_some] <;> rfl) | (simp [*, errW_none, errW_some] <;> rfl), by repeat (first | (with_reducible first | exact HB.out | apply below_alloc | apply pw_below_drewN | apply below_drew1 | refine below_set ?_ GE254.out | refine below_set ?_ GE255.out) | exact HB.out)⟩
end Go.Proofs.Ytdpihbhkghjclaa.P
end
section
/- The bound of a state by the reference implementation of layer 9. Conditions: none. -/
namespace Go.Proofs.Ytdpihbhkghjclaa.P
open Go.RowKit Go.Proofs.YtdpihbhkghjclaaW.PrintWords Go.Proofs.YtdpihbhkghjclaaW.PrintLast Go.Proofs.YtdpihbhkghjclaaW.PrintMore
set_option linter.unusedVariables false
set_option linter.unusedSimpArgs false
theorem rbound_eq (k : Nat) (sy : Bool) (l h a ho so he now : Int) : slotmeshref09_Bound.f (k + 1) sy l h a ho so he now = some (BO sy l h a ho so he now) := by
  unfold slotmeshref09_Bound.f BO slotmeshref09_Root.f slotmeshref09_Half.f
  rw [rsvalid_eq, rgrow_eq]
  by_cases h1 : SV sy l h a ho so he
  · rw [decide_eq_true h1, if_pos h1]
    cases sy
    · simp
    · by_cases h2 : ho = 0
      · simp [h2]
      · simp only [Option.bind_some, if_true, h2, beq_iff_eq, if_false]
        rcases G_form l h a now with ⟨e, _, _, _, hv⟩ | e | ⟨e, _⟩
        · rw [e]
          simp only [if_true]
          unfold VP at hv
          have hd : 0 ≤ h + MO (now - a) - (l - MO (now - a)) ∧ h + MO (now - a) - (l - MO (now - a)) ≤ 40000000000000 := by omega
          rw [w64 (x := h + MO (now - a) - (l - MO (now - a))) (by omega)]
          generalize h + MO (now - a) - (l - MO (now - a)) = d at *
          rw [w64 (x := d + 1) (by omega), Int.tdiv_eq_ediv_of_nonneg (by omega), w64 (by omega)]
          split <;> rfl
        · rw [e]; simp
        · rw [e]; simp
  · rw [decide_eq_false h1, if_neg h1]; rfl
end Go.Proofs.Ytdpihbhkghjclaa.P
end
