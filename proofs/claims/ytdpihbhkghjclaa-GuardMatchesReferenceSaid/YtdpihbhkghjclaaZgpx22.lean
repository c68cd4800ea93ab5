/- A claim's own texts, laid together by wip/zip.py without what the claim does not use. Conditions: none. -/
import Derived.Test.YtdpihbhkghjclaaZgpx0
import Derived.Test.YtdpihbhkghjclaaZgpx8
import Derived.BigRegion
import Derived.Defers
import Derived.Recover
import Derived.LaidEql
import Derived.Stop.Asserts
import Derived.WalkLawsBesides
import Derived.RowKitTokens
import Derived.Test.YtdpihbhkghjclaaZgpx13
import Derived.Test.YtdpihbhkghjclaaZgpx12
import Derived.Test.YtdpihbhkghjclaaZgpx7
import Derived.Test.YtdpihbhkghjclaaZgpx14
import Derived.Test.YtdpihbhkghjclaaZgpx17
section
/- The Go functions of this claim as Lean functions, and the proofs that their calls answer so: written by wip/myprint.py over the kit's printer, hand-proved contracts laid in. Conditions: none. -/
namespace Go.Proofs.Ytdpihbhkghjclaa.P
open Go.RowKit Go.Proofs.YtdpihbhkghjclaaW.PrintWords Go.Proofs.YtdpihbhkghjclaaW.PrintLast Go.Proofs.YtdpihbhkghjclaaW.PrintMore
attribute [local go_sem] max2_int min2_int max_two min_two max_three min_three max_four min_four   -- for this text's walks alone
set_option linter.unusedVariables false
set_option linter.unusedSimpArgs false
/-! ### clock_Show: function 19 -/
def clock_Show.f (a0_0 : Int) (a0_1 : Int) (a1 : Int) : Option (Int × Int) := (clock_Valid.f a0_0 a0_1).bind fun t170 => (if t170 = true then (if a1 < 0 then (some (0, 1)) else (if a1 > 10000000000000 then (some (0, 1)) else ((clock_clock_at.f a0_0 a0_1 a1).bind fun t171 => (some (t171, 0))))) else (some (0, 1)))
set_option maxHeartbeats 8000000 in
set_option maxRecDepth 100000 in
theorem clock_Show.calls (a0_0 : Int) (a0_1 : Int) (a1 : Int) (r1 : Int) (r2 : Int) (w : World) (h : clock_Show.f a0_0 a0_1 a1 = some (r1, r2)) :
    Calls Try.prog 19 #[.agg #[.int .i64 a0_0, .int .i64 a0_1], .int .i64 a1] w fun e w' => e = .returned (.tuple #[.int .i64 r1, .int .i64 r2]) ∧ Below w.heap.size w w' := by
  have hu27 := Try.underlying27
  have hu72 := Try.underlying72
  have HB := Aside0.mk (Below.refl w.heap.size w)
  have H : ((clock_Valid.f a0_0 a0_1).bind fun t170 => (if t170 = true then (if a1 < 0 then (some (0, 1)) else (if a1 > 10000000000000 then (some (0, 1)) else ((clock_clock_at.f a0_0 a0_1 a1).bind fun t171 => (some (t171, 0))))) else (some (0, 1)))) = some (r1, r2) := h
  clear h
  replace H := Option.bind_eq_some_iff.mp H
  obtain ⟨t170, A30, H⟩ := H
  replace H : (if t170 = true then (if a1 < 0 then (some (0, 1)) else (if a1 > 10000000000000 then (some (0, 1)) else ((clock_clock_at.f a0_0 a0_1 a1).bind fun t171 => (some (t171, 0))))) else (some (0, 1))) = some (r1, r2) := H
  have A3 := Aside0.mk A30
  clear A30
  by_cases c4 : t170 = true
  · subst c4
    have H1 : (if a1 < 0 then (some (0, 1)) else (if a1 > 10000000000000 then (some (0, 1)) else ((clock_clock_at.f a0_0 a0_1 a1).bind fun t171 => (some (t171, 0))))) = some (r1, r2) := by rw [if_pos rfl] at H; exact H
    clear H
    have H := H1
    clear H1
    by_cases c5 : a1 < 0
    · rw [if_pos c5] at H
      have c5b0 : decide (a1 < 0) = true := decide_eq_true c5
      clear c5
      simp only [Option.some.injEq, Prod.mk.injEq] at H
      obtain ⟨rfl, rfl⟩ := H
      go_enter Try.func19, Try.ntmps19
      go_wp2_with (first | ((with_reducible refine gate_dst (N := 2) rfl ?_); refine box_event ?hg (N := 2) ?hd (cs := #[.int .i64 a0_0, .int .i64 a0_1]) (t := 27) ?hr ?_; (case hd => rfl); (case hg => rfl); (case hr => first | (go_simp; done) | (go_simp; rfl)); intro gb169 hg w6 hbox hb; have n0_ := Aside0.mk (below_step (by repeat (first | (with_reducible first | exact HB.out | apply below_alloc | apply pw_below_drewN | apply below_drew1) | exact HB.out)) hb); have n1_ := Aside0.mk (hbox); have n2_ := Aside0.mk ((by rw [hg]; exact (below_size (by repeat (first | (with_reducible first | exact HB.out | apply below_alloc | apply pw_below_drewN | apply below_drew1) | exact HB.out))) : w.heap.size ≤ gb169)); have n3_ := Aside0.mk ((by rw [hg]; exact (below_size (by repeat (first | (with_reducible first | exact HB.out | apply below_alloc | apply pw_below_drewN | apply below_drew1) | exact HB.out))) : w.heap.size ≤ gb169)); clear HB; have HB := n0_; have BK169 := n1_; have GW169 := n2_; have GE169 := n3_; clear n0_ n1_ n2_ n3_; clear hb hbox hg; have hcz7_0 : w6.cell? ⟨gb169, 0, none⟩ = some (.int .i64 a0_0) := (blk_cell BK169.out 0).trans rfl; have hcz7_1 : w6.cell? ⟨gb169, 1, none⟩ = some (.int .i64 a0_1) := (blk_cell BK169.out 1).trans rfl; have hfz7_0 := blk_frozen BK169.out 0; have hfz7_1 := blk_frozen BK169.out 1) | ((with_reducible refine gate_callee (f := 34) rfl ?_); refine goesL_ (some 7) rfl rfl Try.func34 (by kernel_rfl) rfl #[.agg #[.int .i64 a0_0, .int .i64 a0_1]] rfl (by (try simp only [List.map_toArray, List.map_cons, List.map_nil]); first | done | rfl | (simp only [List.length_drop, List.length_take]; rfl)) ?_; (with_reducible refine (clock_Valid.calls a0_0 a0_1 true _ A3.out).mono ?_); rintro e w8 ⟨rfl, hb⟩; refine ⟨_, rfl, ?_⟩; have n0_ := Aside0.mk (blk_below (g := gb169) (o := .cells #[.int .i64 a0_0, .int .i64 a0_1] 27 (0, 0)) (by (with_reducible repeat (first | refine blk_drewN ?_ _ | refine blk_drew ?_ | refine blk_alloc ?_ _)); exact BK169.out) hb); have n1_ := Aside0.mk (below_step (by repeat (first | (with_reducible first | exact HB.out | apply below_alloc | apply pw_below_drewN | apply below_drew1 | refine below_set ?_ GE169.out) | exact HB.out)) hb); clear BK169; clear HB; have BK169 := n0_; have HB := n1_; clear n0_ n1_; (try clear hb); (try clear hb2); (try clear hk); (try clear hi)))
      go_ret2
      exact ⟨by first | rfl | (simp [errW_none, errW_some] <;> rfl) | (simp [*, errW_none, errW_some] <;> rfl), by repeat (first | (with_reducible first | exact HB.out | apply below_alloc | apply pw_below_drewN | apply below_drew1 | refine below_set ?_ GE169.out) | exact HB.out)⟩
    · rw [if_neg c5] at H
      have c5b0 : decide (a1 < 0) = false := decide_eq_false c5
      clear c5
      by_cases c9 : a1 > 10000000000000
      · rw [if_pos c9] at H
        have c9b0 : decide (10000000000000 < a1) = true := decide_eq_true c9
        clear c9
        simp only [Option.some.injEq, Prod.mk.injEq] at H
        obtain ⟨rfl, rfl⟩ := H
        go_enter Try.func19, Try.ntmps19
        go_wp2_with (first | ((with_reducible refine gate_dst (N := 2) rfl ?_); refine box_event ?hg (N := 2) ?hd (cs := #[.int .i64 a0_0, .int .i64 a0_1]) (t := 27) ?hr ?_; (case hd => rfl); (case hg => rfl); (case hr => first | (go_simp; done) | (go_simp; rfl)); intro gb169 hg w10 hbox hb; have n0_ := Aside0.mk (below_step (by repeat (first | (with_reducible first | exact HB.out | apply below_alloc | apply pw_below_drewN | apply below_drew1) | exact HB.out)) hb); have n1_ := Aside0.mk (hbox); have n2_ := Aside0.mk ((by rw [hg]; exact (below_size (by repeat (first | (with_reducible first | exact HB.out | apply below_alloc | apply pw_below_drewN | apply below_drew1) | exact HB.out))) : w.heap.size ≤ gb169)); have n3_ := Aside0.mk ((by rw [hg]; exact (below_size (by repeat (first | (with_reducible first | exact HB.out | apply below_alloc | apply pw_below_drewN | apply below_drew1) | exact HB.out))) : w.heap.size ≤ gb169)); clear HB; have HB := n0_; have BK169 := n1_; have GW169 := n2_; have GE169 := n3_; clear n0_ n1_ n2_ n3_; clear hb hbox hg; have hcz11_0 : w10.cell? ⟨gb169, 0, none⟩ = some (.int .i64 a0_0) := (blk_cell BK169.out 0).trans rfl; have hcz11_1 : w10.cell? ⟨gb169, 1, none⟩ = some (.int .i64 a0_1) := (blk_cell BK169.out 1).trans rfl; have hfz11_0 := blk_frozen BK169.out 0; have hfz11_1 := blk_frozen BK169.out 1) | ((with_reducible refine gate_callee (f := 34) rfl ?_); refine goesL_ (some 7) rfl rfl Try.func34 (by kernel_rfl) rfl #[.agg #[.int .i64 a0_0, .int .i64 a0_1]] rfl (by (try simp only [List.map_toArray, List.map_cons, List.map_nil]); first | done | rfl | (simp only [List.length_drop, List.length_take]; rfl)) ?_; (with_reducible refine (clock_Valid.calls a0_0 a0_1 true _ A3.out).mono ?_); rintro e w12 ⟨rfl, hb⟩; refine ⟨_, rfl, ?_⟩; have n0_ := Aside0.mk (blk_below (g := gb169) (o := .cells #[.int .i64 a0_0, .int .i64 a0_1] 27 (0, 0)) (by (with_reducible repeat (first | refine blk_drewN ?_ _ | refine blk_drew ?_ | refine blk_alloc ?_ _)); exact BK169.out) hb); have n1_ := Aside0.mk (below_step (by repeat (first | (with_reducible first | exact HB.out | apply below_alloc | apply pw_below_drewN | apply below_drew1 | refine below_set ?_ GE169.out) | exact HB.out)) hb); clear BK169; clear HB; have BK169 := n0_; have HB := n1_; clear n0_ n1_; (try clear hb); (try clear hb2); (try clear hk); (try clear hi)))
        go_ret2
        exact ⟨by first | rfl | (simp [errW_none, errW_some] <;> rfl) | (simp [*, errW_none, errW_some] <;> rfl), by repeat (first | (with_reducible first | exact HB.out | apply below_alloc | apply pw_below_drewN | apply below_drew1 | refine below_set ?_ GE169.out) | exact HB.out)⟩
      · rw [if_neg c9] at H
        have c9b0 : decide (10000000000000 < a1) = false := decide_eq_false c9
        clear c9
        replace H := Option.bind_eq_some_iff.mp H
        obtain ⟨t171, A130, H⟩ := H
        replace H : (some (t171, 0)) = some (r1, r2) := H
        have A13 := Aside0.mk A130
        clear A130
        simp only [Option.some.injEq, Prod.mk.injEq] at H
        obtain ⟨rfl, rfl⟩ := H
        go_enter Try.func19, Try.ntmps19
        go_wp2_with (first | ((with_reducible refine gate_dst (N := 2) rfl ?_); refine box_event ?hg (N := 2) ?hd (cs := #[.int .i64 a0_0, .int .i64 a0_1]) (t := 27) ?hr ?_; (case hd => rfl); (case hg => rfl); (case hr => first | (go_simp; done) | (go_simp; rfl)); intro gb169 hg w14 hbox hb; have n0_ := Aside0.mk (below_step (by repeat (first | (with_reducible first | exact HB.out | apply below_alloc | apply pw_below_drewN | apply below_drew1) | exact HB.out)) hb); have n1_ := Aside0.mk (hbox); have n2_ := Aside0.mk ((by rw [hg]; exact (below_size (by repeat (first | (with_reducible first | exact HB.out | apply below_alloc | apply pw_below_drewN | apply below_drew1) | exact HB.out))) : w.heap.size ≤ gb169)); have n3_ := Aside0.mk ((by rw [hg]; exact (below_size (by repeat (first | (with_reducible first | exact HB.out | apply below_alloc | apply pw_below_drewN | apply below_drew1) | exact HB.out))) : w.heap.size ≤ gb169)); clear HB; have HB := n0_; have BK169 := n1_; have GW169 := n2_; have GE169 := n3_; clear n0_ n1_ n2_ n3_; clear hb hbox hg; have hcz15_0 : w14.cell? ⟨gb169, 0, none⟩ = some (.int .i64 a0_0) := (blk_cell BK169.out 0).trans rfl; have hcz15_1 : w14.cell? ⟨gb169, 1, none⟩ = some (.int .i64 a0_1) := (blk_cell BK169.out 1).trans rfl; have hfz15_0 := blk_frozen BK169.out 0; have hfz15_1 := blk_frozen BK169.out 1) | ((with_reducible refine gate_callee (f := 34) rfl ?_); refine goesL_ (some 7) rfl rfl Try.func34 (by kernel_rfl) rfl #[.agg #[.int .i64 a0_0, .int .i64 a0_1]] rfl (by (try simp only [List.map_toArray, List.map_cons, List.map_nil]); first | done | rfl | (simp only [List.length_drop, List.length_take]; rfl)) ?_; (with_reducible refine (clock_Valid.calls a0_0 a0_1 true _ A3.out).mono ?_); rintro e w16 ⟨rfl, hb⟩; refine ⟨_, rfl, ?_⟩; have n0_ := Aside0.mk (blk_below (g := gb169) (o := .cells #[.int .i64 a0_0, .int .i64 a0_1] 27 (0, 0)) (by (with_reducible repeat (first | refine blk_drewN ?_ _ | refine blk_drew ?_ | refine blk_alloc ?_ _)); exact BK169.out) hb); have n1_ := Aside0.mk (below_step (by repeat (first | (with_reducible first | exact HB.out | apply below_alloc | apply pw_below_drewN | apply below_drew1 | refine below_set ?_ GE169.out) | exact HB.out)) hb); clear BK169; clear HB; have BK169 := n0_; have HB := n1_; clear n0_ n1_; (try clear hb); (try clear hb2); (try clear hk); (try clear hi); have hcz17_0 : w16.cell? ⟨gb169, 0, none⟩ = some (.int .i64 a0_0) := (blk_cell BK169.out 0).trans rfl; have hcz17_1 : w16.cell? ⟨gb169, 1, none⟩ = some (.int .i64 a0_1) := (blk_cell BK169.out 1).trans rfl; have hfz17_0 := blk_frozen BK169.out 0; have hfz17_1 := blk_frozen BK169.out 1) | ((with_reducible refine gate_callee (f := 35) rfl ?_); refine goesL_ (some 20) rfl rfl Try.func35 (by kernel_rfl) rfl #[.agg #[.int .i64 a0_0, .int .i64 a0_1], .int .i64 a1] rfl (by (try simp only [List.map_toArray, List.map_cons, List.map_nil]); first | done | rfl | (simp only [List.length_drop, List.length_take]; rfl)) ?_; (with_reducible refine (clock_clock_at.calls a0_0 a0_1 a1 t171 _ A13.out).mono ?_); rintro e w18 ⟨rfl, hb⟩; refine ⟨_, rfl, ?_⟩; have n0_ := Aside0.mk (blk_below (g := gb169) (o := .cells #[.int .i64 a0_0, .int .i64 a0_1] 27 (0, 0)) (by (with_reducible repeat (first | refine blk_drewN ?_ _ | refine blk_drew ?_ | refine blk_alloc ?_ _)); exact BK169.out) hb); have n1_ := Aside0.mk (below_step (by repeat (first | (with_reducible first | exact HB.out | apply below_alloc | apply pw_below_drewN | apply below_drew1 | refine below_set ?_ GE169.out) | exact HB.out)) hb); clear BK169; clear HB; have BK169 := n0_; have HB := n1_; clear n0_ n1_; (try clear hb); (try clear hb2); (try clear hk); (try clear hi)))
        go_ret2
        exact ⟨by first | rfl | (simp [errW_none, errW_some] <;> rfl) | (simp [*, errW_none, errW_some] <;> rfl), by repeat (first | (with_reducible first | exact HB.out | apply below_alloc | apply pw_below_drewN | apply below_drew1 | refine below_set ?_ GE169.out) | exact HB.out)⟩
  · replace c4 := Bool.eq_false_iff.mpr c4
    subst c4
    have H1 : (some (0, 1)) = some (r1, r2) := by rw [if_neg (show ¬ (false = true) by decide)] at H; exact H
    clear H
    have H := H1
    clear H1
    simp only [Option.some.injEq, Prod.mk.injEq] at H
    obtain ⟨rfl, rfl⟩ := H
    go_enter Try.func19, Try.ntmps19
    go_wp2_with (first | ((with_reducible refine gate_dst (N := 2) rfl ?_); refine box_event ?hg (N := 2) ?hd (cs := #[.int .i64 a0_0, .int .i64 a0_1]) (t := 27) ?hr ?_; (case hd => rfl); (case hg => rfl); (case hr => first | (go_simp; done) | (go_simp; rfl)); intro gb169 hg w19 hbox hb; have n0_ := Aside0.mk (below_step (by repeat (first | (with_reducible first | exact HB.out | apply below_alloc | apply pw_below_drewN | apply below_drew1) | exact HB.out)) hb); have n1_ := Aside0.mk (hbox); have n2_ := Aside0.mk ((by rw [hg]; exact (below_size (by repeat (first | (with_reducible first | exact HB.out | apply below_alloc | apply pw_below_drewN | apply below_drew1) | exact HB.out))) : w.heap.size ≤ gb169)); have n3_ := Aside0.mk ((by rw [hg]; exact (below_size (by repeat (first | (with_reducible first | exact HB.out | apply below_alloc | apply pw_below_drewN | apply below_drew1) | exact HB.out))) : w.heap.size ≤ gb169)); clear HB; have HB := n0_; have BK169 := n1_; have GW169 := n2_; have GE169 := n3_; clear n0_ n1_ n2_ n3_; clear hb hbox hg; have hcz20_0 : w19.cell? ⟨gb169, 0, none⟩ = some (.int .i64 a0_0) := (blk_cell BK169.out 0).trans rfl; have hcz20_1 : w19.cell? ⟨gb169, 1, none⟩ = some (.int .i64 a0_1) := (blk_cell BK169.out 1).trans rfl; have hfz20_0 := blk_frozen BK169.out 0; have hfz20_1 := blk_frozen BK169.out 1) | ((with_reducible refine gate_callee (f := 34) rfl ?_); refine goesL_ (some 7) rfl rfl Try.func34 (by kernel_rfl) rfl #[.agg #[.int .i64 a0_0, .int .i64 a0_1]] rfl (by (try simp only [List.map_toArray, List.map_cons, List.map_nil]); first | done | rfl | (simp only [List.length_drop, List.length_take]; rfl)) ?_; (with_reducible refine (clock_Valid.calls a0_0 a0_1 false _ A3.out).mono ?_); rintro e w21 ⟨rfl, hb⟩; refine ⟨_, rfl, ?_⟩; have n0_ := Aside0.mk (blk_below (g := gb169) (o := .cells #[.int .i64 a0_0, .int .i64 a0_1] 27 (0, 0)) (by (with_reducible repeat (first | refine blk_drewN ?_ _ | refine blk_drew ?_ | refine blk_alloc ?_ _)); exact BK169.out) hb); have n1_ := Aside0.mk (below_step (by repeat (first | (with_reducible first | exact HB.out | apply below_alloc | apply pw_below_drewN | apply below_drew1 | refine below_set ?_ GE169.out) | exact HB.out)) hb); clear BK169; clear HB; have BK169 := n0_; have HB := n1_; clear n0_ n1_; (try clear hb); (try clear hb2); (try clear hk); (try clear hi)))
    go_ret2
    exact ⟨by first | rfl | (simp [errW_none, errW_some] <;> rfl) | (simp [*, errW_none, errW_some] <;> rfl), by repeat (first | (with_reducible first | exact HB.out | apply below_alloc | apply pw_below_drewN | apply below_drew1 | refine below_set ?_ GE169.out) | exact HB.out)⟩
end Go.Proofs.Ytdpihbhkghjclaa.P
end
section
/- The Go functions of this claim as Lean functions, and the proofs that their calls answer so: written by wip/myprint.py over the kit's printer, hand-proved contracts laid in. Conditions: none. -/
namespace Go.Proofs.Ytdpihbhkghjclaa.P
open Go.RowKit Go.Proofs.YtdpihbhkghjclaaW.PrintWords Go.Proofs.YtdpihbhkghjclaaW.PrintLast Go.Proofs.YtdpihbhkghjclaaW.PrintMore
attribute [local go_sem] max2_int min2_int max_two min_two max_three min_three max_four min_four   -- for this text's walks alone
set_option linter.unusedVariables false
set_option linter.unusedSimpArgs false
/-! ### clock_first: function 68 (proved by hand) -/
def clock_first.l0 : Nat → Int → Int → Int → Int → Int → Option Int
  | 0, _, _, _, _, _ => none
  | k + 1, off, d, low, high, least => if low < high then ((clock_clock_at.f off d (wrap64 (low + (wrap64 (Int.tdiv (wrap64 (high - low)) 2))))).bind fun v => if v ≥ least then clock_first.l0 k off d low (wrap64 (low + (wrap64 (Int.tdiv (wrap64 (high - low)) 2)))) least else clock_first.l0 k off d (wrap64 ((wrap64 (low + (wrap64 (Int.tdiv (wrap64 (high - low)) 2)))) + 1)) high least) else some low
set_option maxHeartbeats 8000000 in
set_option maxRecDepth 100000 in
theorem clock_first.calls (k : Nat) (off d low high least r : Int) (w : World) (h : clock_first.l0 k off d low high least = some r) :
    Calls Try.prog 68 #[.int .i64 low, .int .i64 high, .func (Fn.func 35) #[.agg #[.int .i64 off, .int .i64 d]] #[], .int .i64 least] w fun e w' => e = .returned (.int .i64 r) ∧ Below w.heap.size w w' := by
  have H' := Aside0.mk h
  clear h
  go_enter Try.func68, Try.ntmps68
  go_wp2
  go_loopg [0, 1] k (fun kq v0 v1 w' => ∃ (x0 x1 : Int), v0 = .int .i64 x0 ∧ v1 = .int .i64 x1 ∧ Aside0 (clock_first.l0 kq off d x0 x1 least = some r) ∧ Aside0 (kq ≤ k) ∧ Aside0 (Below w.heap.size w w'))
  case atStart => exact ⟨low, high, rfl, rfl, H', ⟨Nat.le_refl _⟩, ⟨Below.refl _ _⟩⟩
  case round =>
    clear H'
    obtain ⟨x0, x1, rfl, rfl, HA, HK1, HB⟩ := hrel
    cases gk with
    | zero => exact absurd HA.out (by simp [clock_first.l0])
    | succ k1 =>
      have H := HA.out
      clear HA
      simp only [clock_first.l0] at H
      by_cases c1 : x0 < x1
      · rw [if_pos c1] at H
        have c1b := decide_eq_true c1
        clear c1
        replace H := Option.bind_eq_some_iff.mp H
        obtain ⟨v, A1, H⟩ := H
        have A1 := Aside0.mk A1
        by_cases c2 : v ≥ least
        · rw [if_pos c2] at H
          have H' := Aside0.mk H
          clear H
          have c2b : decide (least ≤ v) = true := decide_eq_true c2
          clear c2
          go_wp2_with (go_at_call 35; (with_reducible refine (clock_clock_at.calls off d _ v _ A1.out).mono ?_); rintro e w1 ⟨rfl, hb⟩; have HB1 := Aside0.mk (below_step HB.out hb); clear hb)
          go_roundg k1
          case measure => have := HK1.out; omega
          case rel => exact ⟨_, _, rfl, rfl, H', ⟨by have := HK1.out; omega⟩, HB1⟩
        · rw [if_neg c2] at H
          have H' := Aside0.mk H
          clear H
          have c2b : decide (least ≤ v) = false := decide_eq_false c2
          clear c2
          go_wp2_with (go_at_call 35; (with_reducible refine (clock_clock_at.calls off d _ v _ A1.out).mono ?_); rintro e w1 ⟨rfl, hb⟩; have HB1 := Aside0.mk (below_step HB.out hb); clear hb)
          go_roundg k1
          case measure => have := HK1.out; omega
          case rel => exact ⟨_, _, rfl, rfl, H', ⟨by have := HK1.out; omega⟩, HB1⟩
      · rw [if_neg c1] at H
        have c1b := decide_eq_false c1
        clear c1
        obtain rfl := Option.some.inj H
        go_wp2
        go_ret
        exact ⟨rfl, HB.out⟩
theorem clock_first.mono_l0 : ∀ off d k low high least, LeO (clock_first.l0 k off d low high least) (clock_first.l0 (k + 1) off d low high least) := by
  intro off d k
  induction k with
  | zero => intro low high least; exact LeO.none _
  | succ k ih =>
    intro low high least
    rw [clock_first.l0, clock_first.l0]
    exact LeO.ite (LeO.bind (LeO.refl _) (fun v => LeO.ite (ih _ _ _) (ih _ _ _))) (LeO.refl _)
/-! ### clock_When: function 66 (proved by hand) -/
def clock_When.f (k : Nat) (a0_0 a0_1 a1 : Int) : Option (Int × Int × Int) :=
  (clock_Valid.f a0_0 a0_1).bind fun v => if v = true then ((clock_clock_at.f a0_0 a0_1 0).bind fun z => if a1 < z then some (0, 0, 4) else ((clock_clock_at.f a0_0 a0_1 10000000000000).bind fun m => if a1 > m then some (0, 0, 4) else
    ((clock_first.l0 k a0_0 a0_1 0 10000000000001 a1).bind fun lo => (clock_first.l0 k a0_0 a0_1 0 10000000000001 (wrap64 (a1 + 1))).bind fun hi => if lo > wrap64 (hi - 1) then some (0, 0, 4) else some (lo, wrap64 (hi - 1), 0)))) else some (0, 0, 1)
theorem clock_When.blk_at_new_ {W : World} {o : Obj} {g : Nat} (h : g = W.heap.size) : (W.alloc o).heap[g]? = some o := by subst h; exact blk_new W o
theorem clock_When.c2_ {w : World} {g : Nat} {t : TypeId} {c0 c1 : Value} (h : w.heap[g]? = some (.cells #[c0, c1] t (0, 0))) : w.cell? ⟨g, 0, none⟩ = some c0 ∧ w.cell? ⟨g, 1, none⟩ = some c1 ∧ (∀ i, w.frozen? ⟨g, i, none⟩ = false) ∧ g < w.heap.size :=
  ⟨(blk_cell h 0).trans rfl, (blk_cell h 1).trans rfl, blk_frozen h, blk_lt h⟩
section
open clock_When (blk_at_new_ c2_)
set_option maxHeartbeats 8000000 in
set_option maxRecDepth 100000 in
theorem clock_When.bad (k : Nat) (a0_0 a0_1 a1 z m lo hi : Int) (w : World) (V : clock_Valid.f a0_0 a0_1 = some false)  :
    Calls Try.prog 66 #[.agg #[.int .i64 a0_0, .int .i64 a0_1], .int .i64 a1] w fun e w' => e = .returned (.tuple #[.agg #[.int .i64 0, .int .i64 0], .int .i64 1]) ∧ Below w.heap.size w w' := by
  replace V := Aside0.mk V
  have hu27 := Try.underlying27
  have hu55 := Try.underlying55
  have hu72 := Try.underlying72
  have hmf : ∀ (fn : Fn) (first cap : Array Value) (w : World), (Instr.makeFunc fn first cap).run Try.prog w = .ok (.func fn first cap) w := fun _ _ _ _ => rfl
  have HB := Aside0.mk (Below.refl w.heap.size w)
  go_enter Try.func66, Try.ntmps66
  go_wp2_with (first | (go_at_call 34; (with_reducible refine (clock_Valid.calls a0_0 a0_1 false _ V.out).mono ?_); rintro e w1 ⟨rfl, hb1⟩; have C_1 : Aside0 ((w1).heap[w.heap.size]? = some (.cells #[.int .i64 a0_0, .int .i64 a0_1] 27 (0, 0))) := ⟨blk_below (by refine blk_alloc ?_ _; exact blk_at_new_ (by simp)) hb1⟩; have R_1 : Aside0 ((w1).heap[w.heap.size + 1]? = some (.cells #[.int .i64 0, .int .i64 0] 55 (0, 0))) := ⟨blk_below (by exact blk_at_new_ (by simp)) hb1⟩; have HBL1 : Aside0 (Below w.heap.size w w1) := ⟨below_step (by apply below_alloc; apply below_alloc; exact HB.out) hb1⟩; have HBL1s : w.heap.size ≤ w1.heap.size := HBL1.out.size; clear hb1; obtain ⟨qC_1_0, qC_1_1, qC_1_f, lC_1⟩ := c2_ C_1.out; obtain ⟨qR_1_0, qR_1_1, qR_1_f, lR_1⟩ := c2_ R_1.out))
  refine bodyPost_ret (results_ct rfl _ _ (w.heap.size + 1) 55 #[.int .i64 0, .int .i64 0] (0, 0) _ rfl (by refine blk_put (cs := #[.int .i64 0, .int .i64 0]) ?_ 1 _ rfl; refine blk_put (cs := #[.int .i64 0, .int .i64 0]) ?_ 0 _ rfl; exact R_1.out) Try.underlying55 rfl (by kernel_rfl)) rfl ?_
  exact ⟨by first | rfl | (simp; done), by refine below_set ?_ (by omega); refine below_set ?_ (by omega); exact HBL1.out⟩
set_option maxHeartbeats 8000000 in
set_option maxRecDepth 100000 in
theorem clock_When.low (k : Nat) (a0_0 a0_1 a1 z m lo hi : Int) (w : World) (V : clock_Valid.f a0_0 a0_1 = some true) (A0 : clock_clock_at.f a0_0 a0_1 0 = some z) (c0 : decide (a1 < z) = true) :
    Calls Try.prog 66 #[.agg #[.int .i64 a0_0, .int .i64 a0_1], .int .i64 a1] w fun e w' => e = .returned (.tuple #[.agg #[.int .i64 0, .int .i64 0], .int .i64 4]) ∧ Below w.heap.size w w' := by
  replace V := Aside0.mk V
  replace A0 := Aside0.mk A0
  have hu27 := Try.underlying27
  have hu55 := Try.underlying55
  have hu72 := Try.underlying72
  have hmf : ∀ (fn : Fn) (first cap : Array Value) (w : World), (Instr.makeFunc fn first cap).run Try.prog w = .ok (.func fn first cap) w := fun _ _ _ _ => rfl
  have HB := Aside0.mk (Below.refl w.heap.size w)
  go_enter Try.func66, Try.ntmps66
  go_wp2_with (first | (go_at_call 34; (with_reducible refine (clock_Valid.calls a0_0 a0_1 true _ V.out).mono ?_); rintro e w1 ⟨rfl, hb1⟩; have C_1 : Aside0 ((w1).heap[w.heap.size]? = some (.cells #[.int .i64 a0_0, .int .i64 a0_1] 27 (0, 0))) := ⟨blk_below (by refine blk_alloc ?_ _; exact blk_at_new_ (by simp)) hb1⟩; have R_1 : Aside0 ((w1).heap[w.heap.size + 1]? = some (.cells #[.int .i64 0, .int .i64 0] 55 (0, 0))) := ⟨blk_below (by exact blk_at_new_ (by simp)) hb1⟩; have HBL1 : Aside0 (Below w.heap.size w w1) := ⟨below_step (by apply below_alloc; apply below_alloc; exact HB.out) hb1⟩; have HBL1s : w.heap.size ≤ w1.heap.size := HBL1.out.size; clear hb1; obtain ⟨qC_1_0, qC_1_1, qC_1_f, lC_1⟩ := c2_ C_1.out; obtain ⟨qR_1_0, qR_1_1, qR_1_f, lR_1⟩ := c2_ R_1.out) | (go_at_call 35; (with_reducible refine (clock_clock_at.calls a0_0 a0_1 0 z _ A0.out).mono ?_); rintro e w2 ⟨rfl, hb2⟩; have C_2 : Aside0 ((w2).heap[w.heap.size]? = some (.cells #[.int .i64 a0_0, .int .i64 a0_1] 27 (0, 0))) := ⟨blk_below (by exact C_1.out) hb2⟩; have R_2 : Aside0 ((w2).heap[w.heap.size + 1]? = some (.cells #[.int .i64 0, .int .i64 0] 55 (0, 0))) := ⟨blk_below (by exact R_1.out) hb2⟩; have HBL2 : Aside0 (Below w.heap.size w w2) := ⟨below_step (by exact HBL1.out) hb2⟩; have HBL2s : w.heap.size ≤ w2.heap.size := HBL2.out.size; clear hb2; clear qC_1_0 qC_1_1 qC_1_f lC_1; clear qR_1_0 qR_1_1 qR_1_f lR_1; obtain ⟨qC_2_0, qC_2_1, qC_2_f, lC_2⟩ := c2_ C_2.out; obtain ⟨qR_2_0, qR_2_1, qR_2_f, lR_2⟩ := c2_ R_2.out))
  refine bodyPost_ret (results_ct rfl _ _ (w.heap.size + 1) 55 #[.int .i64 0, .int .i64 0] (0, 0) _ rfl (by refine blk_put (cs := #[.int .i64 0, .int .i64 0]) ?_ 1 _ rfl; refine blk_put (cs := #[.int .i64 0, .int .i64 0]) ?_ 0 _ rfl; exact R_2.out) Try.underlying55 rfl (by kernel_rfl)) rfl ?_
  exact ⟨by first | rfl | (simp; done), by refine below_set ?_ (by omega); refine below_set ?_ (by omega); exact HBL2.out⟩
set_option maxHeartbeats 8000000 in
set_option maxRecDepth 100000 in
theorem clock_When.high (k : Nat) (a0_0 a0_1 a1 z m lo hi : Int) (w : World) (V : clock_Valid.f a0_0 a0_1 = some true) (A0 : clock_clock_at.f a0_0 a0_1 0 = some z) (A1 : clock_clock_at.f a0_0 a0_1 10000000000000 = some m) (c0 : decide (a1 < z) = false) (c1 : decide (m < a1) = true) :
    Calls Try.prog 66 #[.agg #[.int .i64 a0_0, .int .i64 a0_1], .int .i64 a1] w fun e w' => e = .returned (.tuple #[.agg #[.int .i64 0, .int .i64 0], .int .i64 4]) ∧ Below w.heap.size w w' := by
  replace V := Aside0.mk V
  replace A0 := Aside0.mk A0
  replace A1 := Aside0.mk A1
  have hu27 := Try.underlying27
  have hu55 := Try.underlying55
  have hu72 := Try.underlying72
  have hmf : ∀ (fn : Fn) (first cap : Array Value) (w : World), (Instr.makeFunc fn first cap).run Try.prog w = .ok (.func fn first cap) w := fun _ _ _ _ => rfl
  have HB := Aside0.mk (Below.refl w.heap.size w)
  go_enter Try.func66, Try.ntmps66
  go_wp2_with (first | (go_at_call 34; (with_reducible refine (clock_Valid.calls a0_0 a0_1 true _ V.out).mono ?_); rintro e w1 ⟨rfl, hb1⟩; have C_1 : Aside0 ((w1).heap[w.heap.size]? = some (.cells #[.int .i64 a0_0, .int .i64 a0_1] 27 (0, 0))) := ⟨blk_below (by refine blk_alloc ?_ _; exact blk_at_new_ (by simp)) hb1⟩; have R_1 : Aside0 ((w1).heap[w.heap.size + 1]? = some (.cells #[.int .i64 0, .int .i64 0] 55 (0, 0))) := ⟨blk_below (by exact blk_at_new_ (by simp)) hb1⟩; have HBL1 : Aside0 (Below w.heap.size w w1) := ⟨below_step (by apply below_alloc; apply below_alloc; exact HB.out) hb1⟩; have HBL1s : w.heap.size ≤ w1.heap.size := HBL1.out.size; clear hb1; obtain ⟨qC_1_0, qC_1_1, qC_1_f, lC_1⟩ := c2_ C_1.out; obtain ⟨qR_1_0, qR_1_1, qR_1_f, lR_1⟩ := c2_ R_1.out) | (go_at_call 35; (with_reducible refine (clock_clock_at.calls a0_0 a0_1 0 z _ A0.out).mono ?_); rintro e w2 ⟨rfl, hb2⟩; have C_2 : Aside0 ((w2).heap[w.heap.size]? = some (.cells #[.int .i64 a0_0, .int .i64 a0_1] 27 (0, 0))) := ⟨blk_below (by exact C_1.out) hb2⟩; have R_2 : Aside0 ((w2).heap[w.heap.size + 1]? = some (.cells #[.int .i64 0, .int .i64 0] 55 (0, 0))) := ⟨blk_below (by exact R_1.out) hb2⟩; have HBL2 : Aside0 (Below w.heap.size w w2) := ⟨below_step (by exact HBL1.out) hb2⟩; have HBL2s : w.heap.size ≤ w2.heap.size := HBL2.out.size; clear hb2; clear qC_1_0 qC_1_1 qC_1_f lC_1; clear qR_1_0 qR_1_1 qR_1_f lR_1; obtain ⟨qC_2_0, qC_2_1, qC_2_f, lC_2⟩ := c2_ C_2.out; obtain ⟨qR_2_0, qR_2_1, qR_2_f, lR_2⟩ := c2_ R_2.out) | (go_at_call 35; (with_reducible refine (clock_clock_at.calls a0_0 a0_1 10000000000000 m _ A1.out).mono ?_); rintro e w3 ⟨rfl, hb3⟩; have C_3 : Aside0 ((w3).heap[w.heap.size]? = some (.cells #[.int .i64 a0_0, .int .i64 a0_1] 27 (0, 0))) := ⟨blk_below (by exact C_2.out) hb3⟩; have R_3 : Aside0 ((w3).heap[w.heap.size + 1]? = some (.cells #[.int .i64 0, .int .i64 0] 55 (0, 0))) := ⟨blk_below (by exact R_2.out) hb3⟩; have HBL3 : Aside0 (Below w.heap.size w w3) := ⟨below_step (by exact HBL2.out) hb3⟩; have HBL3s : w.heap.size ≤ w3.heap.size := HBL3.out.size; clear hb3; clear qC_2_0 qC_2_1 qC_2_f lC_2; clear qR_2_0 qR_2_1 qR_2_f lR_2; obtain ⟨qC_3_0, qC_3_1, qC_3_f, lC_3⟩ := c2_ C_3.out; obtain ⟨qR_3_0, qR_3_1, qR_3_f, lR_3⟩ := c2_ R_3.out))
  refine bodyPost_ret (results_ct rfl _ _ (w.heap.size + 1) 55 #[.int .i64 0, .int .i64 0] (0, 0) _ rfl (by refine blk_put (cs := #[.int .i64 0, .int .i64 0]) ?_ 1 _ rfl; refine blk_put (cs := #[.int .i64 0, .int .i64 0]) ?_ 0 _ rfl; exact R_3.out) Try.underlying55 rfl (by kernel_rfl)) rfl ?_
  exact ⟨by first | rfl | (simp; done), by refine below_set ?_ (by omega); refine below_set ?_ (by omega); exact HBL3.out⟩
set_option maxHeartbeats 8000000 in
set_option maxRecDepth 100000 in
theorem clock_When.no (k : Nat) (a0_0 a0_1 a1 z m lo hi : Int) (w : World) (V : clock_Valid.f a0_0 a0_1 = some true) (A0 : clock_clock_at.f a0_0 a0_1 0 = some z) (A1 : clock_clock_at.f a0_0 a0_1 10000000000000 = some m) (F0 : clock_first.l0 k a0_0 a0_1 0 10000000000001 a1 = some lo) (F1 : clock_first.l0 k a0_0 a0_1 0 10000000000001 (wrap64 (a1 + 1)) = some hi) (c0 : decide (a1 < z) = false) (c1 : decide (m < a1) = false) (c2 : decide (wrap64 (hi - 1) < lo) = true) :
    Calls Try.prog 66 #[.agg #[.int .i64 a0_0, .int .i64 a0_1], .int .i64 a1] w fun e w' => e = .returned (.tuple #[.agg #[.int .i64 0, .int .i64 0], .int .i64 4]) ∧ Below w.heap.size w w' := by
  replace V := Aside0.mk V
  replace A0 := Aside0.mk A0
  replace A1 := Aside0.mk A1
  replace F0 := Aside0.mk F0
  replace F1 := Aside0.mk F1
  have hu27 := Try.underlying27
  have hu55 := Try.underlying55
  have hu72 := Try.underlying72
  have hmf : ∀ (fn : Fn) (first cap : Array Value) (w : World), (Instr.makeFunc fn first cap).run Try.prog w = .ok (.func fn first cap) w := fun _ _ _ _ => rfl
  have HB := Aside0.mk (Below.refl w.heap.size w)
  go_enter Try.func66, Try.ntmps66
  go_wp2_with (first | (go_at_call 34; (with_reducible refine (clock_Valid.calls a0_0 a0_1 true _ V.out).mono ?_); rintro e w1 ⟨rfl, hb1⟩; have C_1 : Aside0 ((w1).heap[w.heap.size]? = some (.cells #[.int .i64 a0_0, .int .i64 a0_1] 27 (0, 0))) := ⟨blk_below (by refine blk_alloc ?_ _; exact blk_at_new_ (by simp)) hb1⟩; have R_1 : Aside0 ((w1).heap[w.heap.size + 1]? = some (.cells #[.int .i64 0, .int .i64 0] 55 (0, 0))) := ⟨blk_below (by exact blk_at_new_ (by simp)) hb1⟩; have HBL1 : Aside0 (Below w.heap.size w w1) := ⟨below_step (by apply below_alloc; apply below_alloc; exact HB.out) hb1⟩; have HBL1s : w.heap.size ≤ w1.heap.size := HBL1.out.size; clear hb1; obtain ⟨qC_1_0, qC_1_1, qC_1_f, lC_1⟩ := c2_ C_1.out; obtain ⟨qR_1_0, qR_1_1, qR_1_f, lR_1⟩ := c2_ R_1.out) | (go_at_call 35; (with_reducible refine (clock_clock_at.calls a0_0 a0_1 0 z _ A0.out).mono ?_); rintro e w2 ⟨rfl, hb2⟩; have C_2 : Aside0 ((w2).heap[w.heap.size]? = some (.cells #[.int .i64 a0_0, .int .i64 a0_1] 27 (0, 0))) := ⟨blk_below (by exact C_1.out) hb2⟩; have R_2 : Aside0 ((w2).heap[w.heap.size + 1]? = some (.cells #[.int .i64 0, .int .i64 0] 55 (0, 0))) := ⟨blk_below (by exact R_1.out) hb2⟩; have HBL2 : Aside0 (Below w.heap.size w w2) := ⟨below_step (by exact HBL1.out) hb2⟩; have HBL2s : w.heap.size ≤ w2.heap.size := HBL2.out.size; clear hb2; clear qC_1_0 qC_1_1 qC_1_f lC_1; clear qR_1_0 qR_1_1 qR_1_f lR_1; obtain ⟨qC_2_0, qC_2_1, qC_2_f, lC_2⟩ := c2_ C_2.out; obtain ⟨qR_2_0, qR_2_1, qR_2_f, lR_2⟩ := c2_ R_2.out) | (go_at_call 35; (with_reducible refine (clock_clock_at.calls a0_0 a0_1 10000000000000 m _ A1.out).mono ?_); rintro e w3 ⟨rfl, hb3⟩; have C_3 : Aside0 ((w3).heap[w.heap.size]? = some (.cells #[.int .i64 a0_0, .int .i64 a0_1] 27 (0, 0))) := ⟨blk_below (by exact C_2.out) hb3⟩; have R_3 : Aside0 ((w3).heap[w.heap.size + 1]? = some (.cells #[.int .i64 0, .int .i64 0] 55 (0, 0))) := ⟨blk_below (by exact R_2.out) hb3⟩; have HBL3 : Aside0 (Below w.heap.size w w3) := ⟨below_step (by exact HBL2.out) hb3⟩; have HBL3s : w.heap.size ≤ w3.heap.size := HBL3.out.size; clear hb3; clear qC_2_0 qC_2_1 qC_2_f lC_2; clear qR_2_0 qR_2_1 qR_2_f lR_2; obtain ⟨qC_3_0, qC_3_1, qC_3_f, lC_3⟩ := c2_ C_3.out; obtain ⟨qR_3_0, qR_3_1, qR_3_f, lR_3⟩ := c2_ R_3.out) | (go_at_call 68; (with_reducible refine (clock_first.calls k a0_0 a0_1 0 10000000000001 a1 lo _ F0.out).mono ?_); rintro e w4 ⟨rfl, hb4⟩; have C_4 : Aside0 ((w4).heap[w.heap.size]? = some (.cells #[.int .i64 a0_0, .int .i64 a0_1] 27 (0, 0))) := ⟨blk_below (by exact C_3.out) hb4⟩; have R_4 : Aside0 ((w4).heap[w.heap.size + 1]? = some (.cells #[.int .i64 0, .int .i64 0] 55 (0, 0))) := ⟨blk_below (by exact R_3.out) hb4⟩; have HBL4 : Aside0 (Below w.heap.size w w4) := ⟨below_step (by exact HBL3.out) hb4⟩; have HBL4s : w.heap.size ≤ w4.heap.size := HBL4.out.size; clear hb4; clear qC_3_0 qC_3_1 qC_3_f lC_3; clear qR_3_0 qR_3_1 qR_3_f lR_3; obtain ⟨qC_4_0, qC_4_1, qC_4_f, lC_4⟩ := c2_ C_4.out; obtain ⟨qR_4_0, qR_4_1, qR_4_f, lR_4⟩ := c2_ R_4.out) | (go_at_call 68; (with_reducible refine (clock_first.calls k a0_0 a0_1 0 10000000000001 (wrap64 (a1 + 1)) hi _ F1.out).mono ?_); rintro e w5 ⟨rfl, hb5⟩; have C_5 : Aside0 ((w5).heap[w.heap.size]? = some (.cells #[.int .i64 a0_0, .int .i64 a0_1] 27 (0, 0))) := ⟨blk_below (by exact C_4.out) hb5⟩; have R_5 : Aside0 ((w5).heap[w.heap.size + 1]? = some (.cells #[.int .i64 0, .int .i64 0] 55 (0, 0))) := ⟨blk_below (by exact R_4.out) hb5⟩; have HBL5 : Aside0 (Below w.heap.size w w5) := ⟨below_step (by exact HBL4.out) hb5⟩; have HBL5s : w.heap.size ≤ w5.heap.size := HBL5.out.size; clear hb5; clear qC_4_0 qC_4_1 qC_4_f lC_4; clear qR_4_0 qR_4_1 qR_4_f lR_4; obtain ⟨qC_5_0, qC_5_1, qC_5_f, lC_5⟩ := c2_ C_5.out; obtain ⟨qR_5_0, qR_5_1, qR_5_f, lR_5⟩ := c2_ R_5.out))
  refine bodyPost_ret (results_ct rfl _ _ (w.heap.size + 1) 55 #[.int .i64 0, .int .i64 0] (0, 0) _ rfl (by refine blk_alloc ?_ _; refine blk_put (cs := #[.int .i64 0, .int .i64 0]) ?_ 1 _ rfl; refine blk_put (cs := #[.int .i64 0, .int .i64 0]) ?_ 0 _ rfl; exact R_5.out) Try.underlying55 rfl (by kernel_rfl)) rfl ?_
  exact ⟨by first | rfl | (simp; done), by apply below_alloc; refine below_set ?_ (by omega); refine below_set ?_ (by omega); exact HBL5.out⟩
set_option maxHeartbeats 8000000 in
set_option maxRecDepth 100000 in
theorem clock_When.yes (k : Nat) (a0_0 a0_1 a1 z m lo hi : Int) (w : World) (V : clock_Valid.f a0_0 a0_1 = some true) (A0 : clock_clock_at.f a0_0 a0_1 0 = some z) (A1 : clock_clock_at.f a0_0 a0_1 10000000000000 = some m) (F0 : clock_first.l0 k a0_0 a0_1 0 10000000000001 a1 = some lo) (F1 : clock_first.l0 k a0_0 a0_1 0 10000000000001 (wrap64 (a1 + 1)) = some hi) (c0 : decide (a1 < z) = false) (c1 : decide (m < a1) = false) (c2 : decide (wrap64 (hi - 1) < lo) = false) :
    Calls Try.prog 66 #[.agg #[.int .i64 a0_0, .int .i64 a0_1], .int .i64 a1] w fun e w' => e = .returned (.tuple #[.agg #[.int .i64 lo, .int .i64 (wrap64 (hi - 1))], .int .i64 0]) ∧ Below w.heap.size w w' := by
  replace V := Aside0.mk V
  replace A0 := Aside0.mk A0
  replace A1 := Aside0.mk A1
  replace F0 := Aside0.mk F0
  replace F1 := Aside0.mk F1
  have hu27 := Try.underlying27
  have hu55 := Try.underlying55
  have hu72 := Try.underlying72
  have hmf : ∀ (fn : Fn) (first cap : Array Value) (w : World), (Instr.makeFunc fn first cap).run Try.prog w = .ok (.func fn first cap) w := fun _ _ _ _ => rfl
  have HB := Aside0.mk (Below.refl w.heap.size w)
  go_enter Try.func66, Try.ntmps66
  go_wp2_with (first | (go_at_call 34; (with_reducible refine (clock_Valid.calls a0_0 a0_1 true _ V.out).mono ?_); rintro e w1 ⟨rfl, hb1⟩; have C_1 : Aside0 ((w1).heap[w.heap.size]? = some (.cells #[.int .i64 a0_0, .int .i64 a0_1] 27 (0, 0))) := ⟨blk_below (by refine blk_alloc ?_ _; exact blk_at_new_ (by simp)) hb1⟩; have R_1 : Aside0 ((w1).heap[w.heap.size + 1]? = some (.cells #[.int .i64 0, .int .i64 0] 55 (0, 0))) := ⟨blk_below (by exact blk_at_new_ (by simp)) hb1⟩; have HBL1 : Aside0 (Below w.heap.size w w1) := ⟨below_step (by apply below_alloc; apply below_alloc; exact HB.out) hb1⟩; have HBL1s : w.heap.size ≤ w1.heap.size := HBL1.out.size; clear hb1; obtain ⟨qC_1_0, qC_1_1, qC_1_f, lC_1⟩ := c2_ C_1.out; obtain ⟨qR_1_0, qR_1_1, qR_1_f, lR_1⟩ := c2_ R_1.out) | (go_at_call 35; (with_reducible refine (clock_clock_at.calls a0_0 a0_1 0 z _ A0.out).mono ?_); rintro e w2 ⟨rfl, hb2⟩; have C_2 : Aside0 ((w2).heap[w.heap.size]? = some (.cells #[.int .i64 a0_0, .int .i64 a0_1] 27 (0, 0))) := ⟨blk_below (by exact C_1.out) hb2⟩; have R_2 : Aside0 ((w2).heap[w.heap.size + 1]? = some (.cells #[.int .i64 0, .int .i64 0] 55 (0, 0))) := ⟨blk_below (by exact R_1.out) hb2⟩; have HBL2 : Aside0 (Below w.heap.size w w2) := ⟨below_step (by exact HBL1.out) hb2⟩; have HBL2s : w.heap.size ≤ w2.heap.size := HBL2.out.size; clear hb2; clear qC_1_0 qC_1_1 qC_1_f lC_1; clear qR_1_0 qR_1_1 qR_1_f lR_1; obtain ⟨qC_2_0, qC_2_1, qC_2_f, lC_2⟩ := c2_ C_2.out; obtain ⟨qR_2_0, qR_2_1, qR_2_f, lR_2⟩ := c2_ R_2.out) | (go_at_call 35; (with_reducible refine (clock_clock_at.calls a0_0 a0_1 10000000000000 m _ A1.out).mono ?_); rintro e w3 ⟨rfl, hb3⟩; have C_3 : Aside0 ((w3).heap[w.heap.size]? = some (.cells #[.int .i64 a0_0, .int .i64 a0_1] 27 (0, 0))) := ⟨blk_below (by exact C_2.out) hb3⟩; have R_3 : Aside0 ((w3).heap[w.heap.size + 1]? = some (.cells #[.int .i64 0, .int .i64 0] 55 (0, 0))) := ⟨blk_below (by exact R_2.out) hb3⟩; have HBL3 : Aside0 (Below w.heap.size w w3) := ⟨below_step (by exact HBL2.out) hb3⟩; have HBL3s : w.heap.size ≤ w3.heap.size := HBL3.out.size; clear hb3; clear qC_2_0 qC_2_1 qC_2_f lC_2; clear qR_2_0 qR_2_1 qR_2_f lR_2; obtain ⟨qC_3_0, qC_3_1, qC_3_f, lC_3⟩ := c2_ C_3.out; obtain ⟨qR_3_0, qR_3_1, qR_3_f, lR_3⟩ := c2_ R_3.out) | (go_at_call 68; (with_reducible refine (clock_first.calls k a0_0 a0_1 0 10000000000001 a1 lo _ F0.out).mono ?_); rintro e w4 ⟨rfl, hb4⟩; have C_4 : Aside0 ((w4).heap[w.heap.size]? = some (.cells #[.int .i64 a0_0, .int .i64 a0_1] 27 (0, 0))) := ⟨blk_below (by exact C_3.out) hb4⟩; have R_4 : Aside0 ((w4).heap[w.heap.size + 1]? = some (.cells #[.int .i64 0, .int .i64 0] 55 (0, 0))) := ⟨blk_below (by exact R_3.out) hb4⟩; have HBL4 : Aside0 (Below w.heap.size w w4) := ⟨below_step (by exact HBL3.out) hb4⟩; have HBL4s : w.heap.size ≤ w4.heap.size := HBL4.out.size; clear hb4; clear qC_3_0 qC_3_1 qC_3_f lC_3; clear qR_3_0 qR_3_1 qR_3_f lR_3; obtain ⟨qC_4_0, qC_4_1, qC_4_f, lC_4⟩ := c2_ C_4.out; obtain ⟨qR_4_0, qR_4_1, qR_4_f, lR_4⟩ := c2_ R_4.out) | (go_at_call 68; (with_reducible refine (clock_first.calls k a0_0 a0_1 0 10000000000001 (wrap64 (a1 + 1)) hi _ F1.out).mono ?_); rintro e w5 ⟨rfl, hb5⟩; have C_5 : Aside0 ((w5).heap[w.heap.size]? = some (.cells #[.int .i64 a0_0, .int .i64 a0_1] 27 (0, 0))) := ⟨blk_below (by exact C_4.out) hb5⟩; have R_5 : Aside0 ((w5).heap[w.heap.size + 1]? = some (.cells #[.int .i64 0, .int .i64 0] 55 (0, 0))) := ⟨blk_below (by exact R_4.out) hb5⟩; have HBL5 : Aside0 (Below w.heap.size w w5) := ⟨below_step (by exact HBL4.out) hb5⟩; have HBL5s : w.heap.size ≤ w5.heap.size := HBL5.out.size; clear hb5; clear qC_4_0 qC_4_1 qC_4_f lC_4; clear qR_4_0 qR_4_1 qR_4_f lR_4; obtain ⟨qC_5_0, qC_5_1, qC_5_f, lC_5⟩ := c2_ C_5.out; obtain ⟨qR_5_0, qR_5_1, qR_5_f, lR_5⟩ := c2_ R_5.out))
  refine bodyPost_ret (results_ct rfl _ _ (w.heap.size + 1) 55 #[.int .i64 lo, .int .i64 (wrap64 (hi - 1))] (0, 0) _ rfl (by refine blk_alloc ?_ _; refine blk_put (cs := #[.int .i64 lo, .int .i64 0]) ?_ 1 _ rfl; refine blk_put (cs := #[.int .i64 0, .int .i64 0]) ?_ 0 _ rfl; exact R_5.out) Try.underlying55 rfl (by kernel_rfl)) rfl ?_
  exact ⟨by first | rfl | (simp; done), by apply below_alloc; refine below_set ?_ (by omega); refine below_set ?_ (by omega); exact HBL5.out⟩
theorem clock_When.calls (k : Nat) (a0_0 a0_1 a1 r1 r2 r3 : Int) (w : World) (h : clock_When.f k a0_0 a0_1 a1 = some (r1, r2, r3)) :
    Calls Try.prog 66 #[.agg #[.int .i64 a0_0, .int .i64 a0_1], .int .i64 a1] w fun e w' => e = .returned (.tuple #[.agg #[.int .i64 r1, .int .i64 r2], .int .i64 r3]) ∧ Below w.heap.size w w' := by
  have H := h
  clear h
  unfold clock_When.f at H
  replace H := Option.bind_eq_some_iff.mp H
  obtain ⟨v, V, H⟩ := H
  cases v with
  | false =>
    rw [if_neg (by decide)] at H
    simp only [Option.some.injEq, Prod.mk.injEq] at H
    obtain ⟨rfl, rfl, rfl⟩ := H
    exact clock_When.bad k a0_0 a0_1 a1 0 0 0 0 w V
  | true =>
    rw [if_pos rfl] at H
    replace H := Option.bind_eq_some_iff.mp H
    obtain ⟨z, A0, H⟩ := H
    by_cases c0 : a1 < z
    · rw [if_pos c0] at H
      simp only [Option.some.injEq, Prod.mk.injEq] at H
      obtain ⟨rfl, rfl, rfl⟩ := H
      exact clock_When.low k a0_0 a0_1 a1 z 0 0 0 w V A0 (decide_eq_true c0)
    · rw [if_neg c0] at H
      replace H := Option.bind_eq_some_iff.mp H
      obtain ⟨m, A1, H⟩ := H
      by_cases c1 : a1 > m
      · rw [if_pos c1] at H
        simp only [Option.some.injEq, Prod.mk.injEq] at H
        obtain ⟨rfl, rfl, rfl⟩ := H
        exact clock_When.high k a0_0 a0_1 a1 z m 0 0 w V A0 A1 (decide_eq_false c0) (decide_eq_true c1)
      · rw [if_neg c1] at H
        replace H := Option.bind_eq_some_iff.mp H
        obtain ⟨lo, F0, H⟩ := H
        replace H := Option.bind_eq_some_iff.mp H
        obtain ⟨hi, F1, H⟩ := H
        by_cases c2 : lo > wrap64 (hi - 1)
        · rw [if_pos c2] at H
          simp only [Option.some.injEq, Prod.mk.injEq] at H
          obtain ⟨rfl, rfl, rfl⟩ := H
          exact clock_When.no k a0_0 a0_1 a1 z m lo hi w V A0 A1 F0 F1 (decide_eq_false c0) (decide_eq_false c1) (decide_eq_true c2)
        · rw [if_neg c2] at H
          simp only [Option.some.injEq, Prod.mk.injEq] at H
          obtain ⟨rfl, rfl, rfl⟩ := H
          exact clock_When.yes k a0_0 a0_1 a1 z m lo hi w V A0 A1 F0 F1 (decide_eq_false c0) (decide_eq_false c1) (decide_eq_false c2)
end
end Go.Proofs.Ytdpihbhkghjclaa.P
end
section
/- Plain laws of what the printed functions compute. Conditions: none. -/
namespace Go.Proofs.Ytdpihbhkghjclaa.P
open Go.RowKit Go.Proofs.YtdpihbhkghjclaaW.PrintWords Go.Proofs.YtdpihbhkghjclaaW.PrintLast Go.Proofs.YtdpihbhkghjclaaW.PrintMore
set_option linter.unusedVariables false
set_option linter.unusedSimpArgs false
theorem wf64 {a : Int} (h : (Lit.int .i64 a).wf = true) : -9223372036854775808 ≤ a ∧ a ≤ 9223372036854775807 := by
  simpa [Lit.wf, IntKind.min, IntKind.max, IntKind.bits, IntKind.signed] using h
theorem w64 {x : Int} (h : -9223372036854775808 ≤ x ∧ x ≤ 9223372036854775807) : wrap64 x = x := by
  unfold wrap64
  omega
theorem asc3 (k : Nat) (a b c : Int) : bound_ascending.f (k + 4) [a, b, c] = some (decide (a ≤ b ∧ b ≤ c)) := by
  by_cases h1 : b < a <;> by_cases h2 : c < b <;> simp [bound_ascending.f, bound_ascending.l0, wrap64, rd, h1, h2] <;> omega
theorem asc4 (k : Nat) (a b c d : Int) : bound_ascending.f (k + 5) [a, b, c, d] = some (decide (a ≤ b ∧ b ≤ c ∧ c ≤ d)) := by
  by_cases h1 : b < a <;> by_cases h2 : c < b <;> by_cases h3 : d < c <;> simp [bound_ascending.f, bound_ascending.l0, wrap64, rd, h1, h2, h3] <;> omega
/-- A valid span. -/
def VP (l h a : Int) : Prop := -20000000000000 ≤ l ∧ l ≤ h ∧ h ≤ 20000000000000 ∧ -2000000000 ≤ a ∧ a ≤ 20000000000000
instance (l h a : Int) : Decidable (VP l h a) := by unfold VP; exact inferInstance
/-- By how much a span grows after e microseconds. -/
def MO (e : Int) : Int := (51 * e + 999999) / 1000000 + 1
theorem valid_eq (k : Nat) (l h a : Int) : bound_span_valid.f (k + 5) l h a = some (decide (VP l h a)) := by
  unfold bound_span_valid.f VP
  rw [asc4, asc3 (k + 1)]
  by_cases h1 : (-20000000000000 ≤ l ∧ l ≤ h ∧ h ≤ 20000000000000) <;> by_cases h2 : (-2000000000 ≤ a ∧ a ≤ 20000000000000) <;> simp [h1, h2] <;> omega
def G (l h a now : Int) : Int × Int × Int × Int :=
  if VP l h a ∧ a ≤ now ∧ now ≤ 20000000000000 then (if VP (l - MO (now - a)) (h + MO (now - a)) now then (l - MO (now - a), h + MO (now - a), now, 0) else (0, 0, 0, 3)) else (0, 0, 0, 1)
theorem more_eq {e : Int} (h0 : 0 ≤ e) (h1 : e ≤ 40000000000000) : wrap64 ((wrap64 (Int.tdiv (wrap64 ((wrap64 ((wrap64 (51 * (wrap64 e))) + 1000000)) - 1)) 1000000)) + 1) = MO e := by
  rw [w64 (x := e) (by omega), w64 (x := 51 * e) (by omega), w64 (x := 51 * e + 1000000) (by omega), w64 (x := 51 * e + 1000000 - 1) (by omega), Int.tdiv_eq_ediv_of_nonneg (by omega), w64 (x := (51 * e + 1000000 - 1) / 1000000) (by omega), w64 (by omega)]
  unfold MO
  omega
theorem grow_eq (k : Nat) (l h a now : Int) : bound_span_grow.f (k + 6) l h a now = some (G l h a now) := by
  unfold bound_span_grow.f G
  rw [show k + 6 = (k + 1) + 5 from rfl, valid_eq, show k + 1 + 5 = (k + 2) + 4 from rfl, asc3]
  by_cases h1 : VP l h a
  · by_cases h2 : a ≤ now ∧ now ≤ 20000000000000
    · have h3 := h1
      unfold VP at h3
      simp only [h1, h2, Option.bind_some, decide_true, if_true, and_self, Bool.not_true, bound_span_grow.j0, Bool.false_eq_true, if_false]
      rw [more_eq (by omega) (by omega)]
      have hm : 0 ≤ MO (now - a) ∧ MO (now - a) ≤ 3000000000 := by unfold MO; omega
      rw [w64 (x := l - MO (now - a)) (by omega), w64 (x := h + MO (now - a)) (by omega), show k + 5 = k + 5 from rfl, valid_eq]
      by_cases h4 : VP (l - MO (now - a)) (h + MO (now - a)) now <;> simp [h4]
    · simp [h1, h2, bound_span_grow.j0]
  · simp [h1, bound_span_grow.j0]
theorem Grow_eq (k : Nat) (l h a now : Int) : bound_Grow.f (k + 6) l h a now = some (G l h a now) := by
  unfold bound_Grow.f; rw [grow_eq]; rfl
/-- By how much a span at the time a grows when it meets one at the time b. -/
def dl (a b : Int) : Int := if b < a then 0 else MO (b - a)
def M (a0 a1 a2 b0 b1 b2 : Int) : Int × Int × Int × Int :=
  if VP a0 a1 a2 ∧ VP b0 b1 b2 then
    (if VP (a0 - dl a2 b2) (a1 + dl a2 b2) (mx a2 b2) ∧ VP (b0 - dl b2 a2) (b1 + dl b2 a2) (mx a2 b2) then
      (if mx (a0 - dl a2 b2) (b0 - dl b2 a2) > mn (a1 + dl a2 b2) (b1 + dl b2 a2) then (0, 0, 0, 16) else (mx (a0 - dl a2 b2) (b0 - dl b2 a2), mn (a1 + dl a2 b2) (b1 + dl b2 a2), mx a2 b2, 0))
     else (0, 0, 0, 3))
  else (0, 0, 0, 1)
theorem mx_comm' (a b : Int) : mx a b = mx b a := by unfold mx; split <;> split <;> omega
theorem mn_comm' (a b : Int) : mn a b = mn b a := by unfold mn; split <;> split <;> omega
theorem M_comm (a0 a1 a2 b0 b1 b2 : Int) : M a0 a1 a2 b0 b1 b2 = M b0 b1 b2 a0 a1 a2 := by
  unfold M
  rw [mx_comm' a2 b2, mx_comm' (a0 - dl a2 b2), mn_comm' (a1 + dl a2 b2)]
  by_cases h1 : VP a0 a1 a2 <;> by_cases h2 : VP b0 b1 b2 <;> by_cases h3 : VP (a0 - dl a2 b2) (a1 + dl a2 b2) (mx b2 a2) <;> by_cases h4 : VP (b0 - dl b2 a2) (b1 + dl b2 a2) (mx b2 a2) <;> simp [h1, h2, h3, h4]
theorem core_eq (k : Nat) (x0 x1 x2 y0 y1 y2 : Int) (hx : VP x0 x1 x2) (hy : VP y0 y1 y2) (h : x2 ≤ y2) : bound_Meet.core (k + 6) x0 x1 x2 y0 y1 y2 = some (M x0 x1 x2 y0 y1 y2) := by
  unfold bound_Meet.core
  rw [grow_eq, grow_eq]
  have hx' := hx
  have hy' := hy
  unfold VP at hx' hy'
  have hm : mx x2 y2 = y2 := by unfold mx; split <;> omega
  have hd : dl x2 y2 = MO (y2 - x2) := by unfold dl; rw [if_neg (by omega)]
  have hG : G x0 x1 x2 y2 = if VP (x0 - MO (y2 - x2)) (x1 + MO (y2 - x2)) y2 then (x0 - MO (y2 - x2), x1 + MO (y2 - x2), y2, 0) else (0, 0, 0, 3) := by unfold G; rw [if_pos ⟨hx, h, by omega⟩]
  by_cases h2 : x2 = y2
  · subst h2
    have hd2 : dl x2 x2 = MO 0 := by unfold dl; rw [if_neg (by omega), Int.sub_self]
    have hG2 : G y0 y1 x2 x2 = if VP (y0 - MO 0) (y1 + MO 0) x2 then (y0 - MO 0, y1 + MO 0, x2, 0) else (0, 0, 0, 3) := by unfold G; rw [if_pos ⟨hy, by omega, by omega⟩, Int.sub_self]
    rw [Int.sub_self] at hG
    unfold M
    rw [if_pos ⟨hx, hy⟩, hm, hd2, hG, hG2]
    by_cases h1 : VP (x0 - MO 0) (x1 + MO 0) x2
    · by_cases h3 : VP (y0 - MO 0) (y1 + MO 0) x2
      · rw [if_pos h1, if_pos h3, if_pos ⟨h1, h3⟩]
        simp only [Option.bind_some, if_true, bound_Meet.fin]
        split <;> rfl
      · rw [if_pos h1, if_neg h3, if_neg (fun h => h3 h.2)]
        simp [bound_Meet.fin]
    · rw [if_neg h1, if_neg (show ¬ (VP (x0 - MO 0) (x1 + MO 0) x2 ∧ VP (y0 - MO 0) (y1 + MO 0) x2) from fun h => h1 h.1)]
      simp [bound_Meet.fin]
  · have hd2 : dl y2 x2 = 0 := by unfold dl; rw [if_pos (by omega)]
    unfold M
    rw [if_pos ⟨hx, hy⟩, hm, hd, hd2, hG]
    have hy2 : VP (y0 - 0) (y1 + 0) y2 := by rw [Int.sub_zero, Int.add_zero]; exact hy
    by_cases h1 : VP (x0 - MO (y2 - x2)) (x1 + MO (y2 - x2)) y2
    · rw [if_pos h1, if_pos ⟨h1, hy2⟩, Int.sub_zero, Int.add_zero]
      simp only [Option.bind_some, if_neg h2, if_true, bound_Meet.fin]
      split <;> rfl
    · rw [if_neg h1, if_neg (fun h => h1 h.1)]
      simp [bound_Meet.fin, h2]
theorem Meet_eq (k : Nat) (a0 a1 a2 b0 b1 b2 : Int) : bound_Meet.f (k + 6) a0 a1 a2 b0 b1 b2 = some (M a0 a1 a2 b0 b1 b2) := by
  unfold bound_Meet.f
  rw [show k + 6 = (k + 1) + 5 from rfl, valid_eq, valid_eq]
  by_cases h1 : VP a0 a1 a2
  · by_cases h2 : VP b0 b1 b2
    · simp only [h1, h2, Option.bind_some, decide_true, if_true]
      by_cases h3 : a2 > b2
      · rw [if_pos h3, show k + 1 + 5 = k + 6 from rfl, core_eq k b0 b1 b2 a0 a1 a2 h2 h1 (by omega), M_comm]
      · rw [if_neg h3, show k + 1 + 5 = k + 6 from rfl, core_eq k a0 a1 a2 b0 b1 b2 h1 h2 (by omega)]
    · simp [h1, h2, M]
  · simp [h1, M]
def HD (bnd asn loc : Int) : Int × Int × Int × Int :=
  if (0 ≤ asn ∧ asn ≤ 1000000000) ∧ (0 ≤ bnd ∧ bnd ≤ 2000) ∧ (-2000000000 ≤ loc ∧ loc ≤ 20000000000000) then (asn * 10000 - loc - bnd, asn * 10000 - loc + bnd, loc, 0) else (0, 0, 0, 1)
theorem Heard_eq (k : Nat) (fr ho bnd asn loc : Int) : bound_Heard.f (k + 6) fr ho bnd asn loc = some (HD bnd asn loc) := by
  unfold bound_Heard.f HD
  rw [show k + 6 = (k + 2) + 4 from rfl, asc3, asc3, asc3]
  by_cases h1 : (0 ≤ asn ∧ asn ≤ 1000000000)
  · by_cases h2 : (0 ≤ bnd ∧ bnd ≤ 2000)
    · by_cases h3 : (-2000000000 ≤ loc ∧ loc ≤ 20000000000000)
      · simp only [h1, h2, h3, and_self, decide_true, Option.bind_some, if_true]
        rw [w64 (x := asn * 10000) (by omega), w64 (x := asn * 10000 - loc) (by omega), w64 (by omega), w64 (by omega)]
      · simp [h1, h2, h3]
    · simp [h1, h2]
  · simp [h1]
def WD (l h a : Int) : Int := if VP l h a then h - l else -1
theorem Width_eq (k : Nat) (l h a : Int) : bound_Width.f (k + 6) l h a = some (WD l h a) := by
  unfold bound_Width.f bound_Valid.f WD
  rw [show k + 6 = (k + 1) + 5 from rfl, valid_eq]
  by_cases h1 : VP l h a
  · have h2 := h1
    unfold VP at h2
    simp only [h1, Option.bind_some, decide_true, if_true]
    rw [w64 (by omega)]
  · simp [h1]
end Go.Proofs.Ytdpihbhkghjclaa.P
end
section
/- Plain laws of the functions of package timesync. Conditions: none. -/
namespace Go.Proofs.Ytdpihbhkghjclaa.P
open Go.RowKit Go.Proofs.YtdpihbhkghjclaaW.PrintWords Go.Proofs.YtdpihbhkghjclaaW.PrintLast Go.Proofs.YtdpihbhkghjclaaW.PrintMore
set_option linter.unusedVariables false
set_option linter.unusedSimpArgs false
/-- A valid state. -/
def SV (sy : Bool) (l h a ho so he : Int) : Prop := (-1 ≤ so ∧ so < 60 ∧ 0 ≤ he ∧ he ≤ 1000000000) ∧ (if sy = true then ho = 0 ∨ (1 ≤ ho ∧ ho ≤ 60 ∧ VP l h a) else ho = 60)
instance (sy : Bool) (l h a ho so he : Int) : Decidable (SV sy l h a ho so he) := by unfold SV; exact inferInstance
theorem svalid_eq (k : Nat) (sy : Bool) (l h a ho so he : Int) : timesync_state_valid.f (k + 6) sy l h a ho so he = some (decide (SV sy l h a ho so he)) := by
  have hj : ∀ b, timesync_state_valid.j0 (k + 6) b sy l h a ho so he = some (!b && decide (if sy = true then ho = 0 ∨ (1 ≤ ho ∧ ho ≤ 60 ∧ VP l h a) else ho = 60)) := by
    intro b
    rw [show k + 6 = (k + 5) + 1 from rfl]
    simp only [timesync_state_valid.j0, timesync_state_root.f, bound_Valid.f, valid_eq]
    cases b <;> cases sy <;> simp
    · by_cases h1 : ho = 60 <;> simp [h1]
    · by_cases h1 : ho = 0
      · simp [h1]
      · by_cases h2 : 1 ≤ ho <;> by_cases h3 : ho ≤ 60 <;> by_cases h4 : VP l h a <;> simp [h1, h2, h3, h4]
  unfold timesync_state_valid.f
  by_cases h1 : so < -1
  · rw [if_pos h1, hj, decide_eq_false (show ¬ SV sy l h a ho so he from fun hh => by have := hh.1; omega)]; rfl
  · by_cases h2 : so ≥ 60
    · rw [if_neg h1, if_pos h2, hj, decide_eq_false (show ¬ SV sy l h a ho so he from fun hh => by have := hh.1; omega)]; rfl
    · by_cases h3 : he < 0
      · rw [if_neg h1, if_neg h2, if_pos h3, hj, decide_eq_false (show ¬ SV sy l h a ho so he from fun hh => by have := hh.1; omega)]; rfl
      · rw [if_neg h1, if_neg h2, if_neg h3, hj]
        by_cases h4 : he > 1000000000
        · rw [decide_eq_false (show ¬ SV sy l h a ho so he from fun hh => by have := hh.1; omega), decide_eq_true h4]; rfl
        · have h5 : (-1 ≤ so ∧ so < 60 ∧ 0 ≤ he ∧ he ≤ 1000000000) := by omega
          unfold SV
          rw [decide_eq_false h4]
          simp [h5]
/-- Is a hint taken? -/
def TK (sy : Bool) (ho so fr hh : Int) : Prop := ¬ (sy = true ∧ ho = 0) ∧ (sy = false ∨ hh < ho ∨ fr = so)
instance (sy : Bool) (ho so fr hh : Int) : Decidable (TK sy ho so fr hh) := by unfold TK; exact inferInstance
theorem takes_eq (sy : Bool) (l h a ho so he fr hh bnd asn loc : Int) : timesync_state_takes.f sy l h a ho so he fr hh bnd asn loc = some (decide (TK sy ho so fr hh)) := by
  unfold timesync_state_takes.f timesync_state_root.f TK
  cases sy
  · simp
  · by_cases h1 : ho = 0
    · simp [h1]
    · by_cases h2 : hh < ho <;> by_cases h3 : fr = so <;> simp [h1, h2, h3]
abbrev T8 := Bool × Int × Int × Int × Int × Int × Int × Int
/-- What Hear answers. -/
def HE (sy : Bool) (l h a ho so he fr hh bnd asn loc : Int) : T8 :=
  if SV sy l h a ho so he ∧ (HD bnd asn loc).2.2.2 = 0 ∧ (0 ≤ fr ∧ fr < 60) ∧ (0 ≤ hh ∧ hh < 60) then
    (if TK sy ho so fr hh then
      (if sy = true then
        (if (M l h a (HD bnd asn loc).1 (HD bnd asn loc).2.1 (HD bnd asn loc).2.2.1).2.2.2 = 0 then (true, (M l h a (HD bnd asn loc).1 (HD bnd asn loc).2.1 (HD bnd asn loc).2.2.1).1, (M l h a (HD bnd asn loc).1 (HD bnd asn loc).2.1 (HD bnd asn loc).2.2.1).2.1, (M l h a (HD bnd asn loc).1 (HD bnd asn loc).2.1 (HD bnd asn loc).2.2.1).2.2.1, hh + 1, fr, asn, 0)
         else (sy, l, h, a, ho, so, he, (M l h a (HD bnd asn loc).1 (HD bnd asn loc).2.1 (HD bnd asn loc).2.2.1).2.2.2))
       else (true, (HD bnd asn loc).1, (HD bnd asn loc).2.1, (HD bnd asn loc).2.2.1, hh + 1, fr, asn, 0))
     else (sy, l, h, a, ho, so, he, 0))
  else (sy, l, h, a, ho, so, he, 1)
theorem HD_err (bnd asn loc : Int) : (HD bnd asn loc).2.2.2 = 0 ∨ (HD bnd asn loc).2.2.2 = 1 := by unfold HD; split <;> simp
theorem Hear_eq (k : Nat) (sy : Bool) (l h a ho so he fr hh bnd asn loc : Int) : timesync_Hear.f (k + 6) sy l h a ho so he fr hh bnd asn loc = some (HE sy l h a ho so he fr hh bnd asn loc) := by
  unfold timesync_Hear.f HE
  rw [Heard_eq, svalid_eq, takes_eq]
  simp only [Option.bind_some, Meet_eq]
  by_cases h1 : SV sy l h a ho so he
  · rw [decide_eq_true h1, if_pos rfl]
    rcases HD_err bnd asn loc with h2 | h2
    · rw [if_neg (by omega)]
      by_cases c1 : fr < 0
      · rw [if_pos c1, if_neg (by omega)]
      · by_cases c2 : fr ≥ 60
        · rw [if_neg c1, if_pos c2, if_neg (by omega)]
        · by_cases c3 : hh < 0
          · rw [if_neg c1, if_neg c2, if_pos c3, if_neg (by omega)]
          · by_cases c4 : hh ≥ 60
            · rw [if_neg c1, if_neg c2, if_neg c3, if_pos c4, if_neg (by omega)]
            · rw [if_neg c1, if_neg c2, if_neg c3, if_neg c4, if_pos (show SV sy l h a ho so he ∧ (HD bnd asn loc).2.2.2 = 0 ∧ (0 ≤ fr ∧ fr < 60) ∧ (0 ≤ hh ∧ hh < 60) from ⟨h1, h2, by omega, by omega⟩), w64 (x := hh + 1) (by omega)]
              by_cases c5 : TK sy ho so fr hh
              · rw [decide_eq_true c5, if_pos c5]
                simp only [if_true]
                by_cases c6 : sy = true
                · rw [if_pos c6, if_pos c6]; split <;> rfl
                · rw [if_neg c6, if_neg c6]
              · rw [decide_eq_false c5, if_neg c5]; rfl
    · rw [if_pos h2, if_neg (by omega)]
  · rw [decide_eq_false h1, if_neg (show ¬ (SV sy l h a ho so he ∧ (HD bnd asn loc).2.2.2 = 0 ∧ (0 ≤ fr ∧ fr < 60) ∧ (0 ≤ hh ∧ hh < 60)) from fun q => h1 q.1)]; rfl
/-- What Bound answers. -/
def BO (sy : Bool) (l h a ho so he now : Int) : Int × Int :=
  if SV sy l h a ho so he then
    (if sy = true then (if ho = 0 then (0, 0) else if (G l h a now).2.2.2 = 0 then (if ((G l h a now).2.1 - (G l h a now).1 + 1) / 2 > 2000 then (0, 16) else (((G l h a now).2.1 - (G l h a now).1 + 1) / 2, 0)) else (0, (G l h a now).2.2.2)) else (0, 16))
  else (0, 1)
theorem G_form (l h a now : Int) : (G l h a now = (l - MO (now - a), h + MO (now - a), now, 0) ∧ VP l h a ∧ a ≤ now ∧ now ≤ 20000000000000 ∧ VP (l - MO (now - a)) (h + MO (now - a)) now) ∨ (G l h a now = (0, 0, 0, 3)) ∨ (G l h a now = (0, 0, 0, 1) ∧ ¬ (VP l h a ∧ a ≤ now ∧ now ≤ 20000000000000)) := by
  unfold G
  split
  · rename_i h1
    split
    · rename_i h2; exact .inl ⟨rfl, h1.1, h1.2.1, h1.2.2, h2⟩
    · exact .inr (.inl rfl)
  · rename_i h1; exact .inr (.inr ⟨rfl, h1⟩)
theorem Bound_eq (k : Nat) (sy : Bool) (l h a ho so he now : Int) : timesync_Bound.f (k + 6) sy l h a ho so he now = some (BO sy l h a ho so he now) := by
  unfold timesync_Bound.f BO timesync_state_root.f
  rw [svalid_eq, Grow_eq]
  by_cases h1 : SV sy l h a ho so he
  · rw [decide_eq_true h1, if_pos h1]
    cases sy
    · simp
    · by_cases h2 : ho = 0
      · simp [h2]
      · simp only [Option.bind_some, if_true, h2, beq_iff_eq, if_false]
        rcases G_form l h a now with ⟨e, _, _, _, hv⟩ | e | ⟨e, _⟩
        · rw [e]
          simp only [if_true]
          rw [Width_eq]
          have hw : WD (l - MO (now - a)) (h + MO (now - a)) now = h + MO (now - a) - (l - MO (now - a)) := by unfold WD; rw [if_pos hv]
          unfold VP at hv
          rw [hw]
          simp only [Option.bind_some]
          have hd : 0 ≤ h + MO (now - a) - (l - MO (now - a)) ∧ h + MO (now - a) - (l - MO (now - a)) ≤ 40000000000000 := by omega
          generalize h + MO (now - a) - (l - MO (now - a)) = d at *
          rw [w64 (x := d + 1) (by omega), Int.tdiv_eq_ediv_of_nonneg (by omega), w64 (by omega)]
          split <;> rfl
        · rw [e]; simp
        · rw [e]; simp
  · rw [decide_eq_false h1, if_neg h1]; rfl
end Go.Proofs.Ytdpihbhkghjclaa.P
end
