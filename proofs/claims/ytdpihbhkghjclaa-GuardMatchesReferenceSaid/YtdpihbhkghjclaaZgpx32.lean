/- A claim's own texts, laid together by wip/zip.py without what the claim does not use. Conditions: none. -/
import Derived.Test.YtdpihbhkghjclaaZgpx0
import Derived.Test.YtdpihbhkghjclaaZgpx26
import Derived.Test.YtdpihbhkghjclaaZgpx27
import Derived.Test.YtdpihbhkghjclaaZgpx13
import Derived.Test.YtdpihbhkghjclaaZgpx2
import Derived.Test.YtdpihbhkghjclaaZgpx30
section
/- The Go functions of this claim as Lean functions, and the proofs that their calls answer so: written by wip/myprint.py over the kit's printer, hand-proved contracts laid in. Conditions: none. -/
namespace Go.Proofs.Ytdpihbhkghjclaa.P
open Go.RowKit Go.Proofs.YtdpihbhkghjclaaW.PrintWords Go.Proofs.YtdpihbhkghjclaaW.PrintLast Go.Proofs.YtdpihbhkghjclaaW.PrintMore
attribute [local go_sem] max2_int min2_int max_two min_two max_three min_three max_four min_four   -- for this text's walks alone
set_option linter.unusedVariables false
set_option linter.unusedSimpArgs false
/-! ### slotmeshlaw10_head: function 23 -/
def slotmeshlaw10_head.j0 : Nat → Bool → Bool → Int → Int → Int → Int → Int → Int → Option (Bool)
  | 0, _, _, _, _, _, _, _, _ => none
  | k + 1, x1, x204000, x204001, x204002, x204003, x204004, x204005, x204006 => (slotmeshref09_Start.f false).bind fun bt206 => ((guard_Send.f k bt206.1 bt206.2.1 bt206.2.2.1 bt206.2.2.2.1 bt206.2.2.2.2.1 bt206.2.2.2.2.2.1 bt206.2.2.2.2.2.2 0 0 0).bind fun bt213 => ((guard_Send.f k x204000 x204001 x204002 x204003 x204004 x204005 x204006 0 51 0).bind fun bt215 => ((guard_Listen.f k x204000 x204001 x204002 x204003 x204004 x204005 x204006 0 0 1000000000).bind fun bt217 => (if x1 = true then (if bt213.2 = 16 then (if bt215.2 = 1 then (if bt217.2.2 = 1 then ((guard_Catches.f (-2) (-2) 3).bind fun t222 => (if t222 = true then ((guard_Catches.f 3 (-2) 3).bind fun t223 => (if t223 = true then ((guard_Catches.f 4 (-2) 3).bind fun t224 => (if t224 = true then (none) else ((guard_Catches.f (-3) (-2) 3).bind fun t225 => (some (!t225))))) else (none))) else (none))) else (none)) else (none)) else (none)) else (none)))))
def slotmeshlaw10_head.f (k : Nat)  : Option (Bool) := (slotmeshref09_Start.f true).bind fun bt188 => ((slotmeshlaw10_sends.f k bt188.1 bt188.2.1 bt188.2.2.1 bt188.2.2.2.1 bt188.2.2.2.2.1 bt188.2.2.2.2.2.1 bt188.2.2.2.2.2.2 0 0 7 0 (-2004) 2004).bind fun t195 => ((slotmeshlaw10_example.f).bind fun bt196 => (if t195 = true then ((slotmeshlaw10_sends.f k bt196.1 bt196.2.1 bt196.2.2.1 bt196.2.2.2.1 bt196.2.2.2.2.1 bt196.2.2.2.2.2.1 bt196.2.2.2.2.2.2 (-100) 0 1 0 (-2015) 2015).bind fun t204 => (if t204 = true then ((slotmeshlaw10_sends.f k bt196.1 bt196.2.1 bt196.2.2.1 bt196.2.2.2.1 bt196.2.2.2.2.1 bt196.2.2.2.2.2.1 bt196.2.2.2.2.2.2 (-95) 0 1 (-5) (-2020) 2010).bind fun t205 => (slotmeshlaw10_head.j0 k t205 bt196.1 bt196.2.1 bt196.2.2.1 bt196.2.2.2.1 bt196.2.2.2.2.1 bt196.2.2.2.2.2.1 bt196.2.2.2.2.2.2)) else (slotmeshlaw10_head.j0 k false bt196.1 bt196.2.1 bt196.2.2.1 bt196.2.2.2.1 bt196.2.2.2.2.1 bt196.2.2.2.2.2.1 bt196.2.2.2.2.2.2))) else (slotmeshlaw10_head.j0 k false bt196.1 bt196.2.1 bt196.2.2.1 bt196.2.2.2.1 bt196.2.2.2.2.1 bt196.2.2.2.2.2.1 bt196.2.2.2.2.2.2))))
set_option maxHeartbeats 8000000 in
set_option maxRecDepth 100000 in
theorem slotmeshlaw10_head.calls (k : Nat)  (r : Bool) (w : World) (h : slotmeshlaw10_head.f k  = some r) :
    Calls Try.prog 23 #[] w fun e w' => e = .returned (.bool r) ∧ Below w.heap.size w w' := by
  have hu27 := Try.underlying27
  have hu25 := Try.underlying25
  have hu55 := Try.underlying55
  have HB := Aside0.mk (Below.refl w.heap.size w)
  have H : ((slotmeshref09_Start.f true).bind fun bt188 => ((slotmeshlaw10_sends.f k bt188.1 bt188.2.1 bt188.2.2.1 bt188.2.2.2.1 bt188.2.2.2.2.1 bt188.2.2.2.2.2.1 bt188.2.2.2.2.2.2 0 0 7 0 (-2004) 2004).bind fun t195 => ((slotmeshlaw10_example.f).bind fun bt196 => (if t195 = true then ((slotmeshlaw10_sends.f k bt196.1 bt196.2.1 bt196.2.2.1 bt196.2.2.2.1 bt196.2.2.2.2.1 bt196.2.2.2.2.2.1 bt196.2.2.2.2.2.2 (-100) 0 1 0 (-2015) 2015).bind fun t204 => (if t204 = true then ((slotmeshlaw10_sends.f k bt196.1 bt196.2.1 bt196.2.2.1 bt196.2.2.2.1 bt196.2.2.2.2.1 bt196.2.2.2.2.2.1 bt196.2.2.2.2.2.2 (-95) 0 1 (-5) (-2020) 2010).bind fun t205 => (slotmeshlaw10_head.j0 k t205 bt196.1 bt196.2.1 bt196.2.2.1 bt196.2.2.2.1 bt196.2.2.2.2.1 bt196.2.2.2.2.2.1 bt196.2.2.2.2.2.2)) else (slotmeshlaw10_head.j0 k false bt196.1 bt196.2.1 bt196.2.2.1 bt196.2.2.2.1 bt196.2.2.2.2.1 bt196.2.2.2.2.2.1 bt196.2.2.2.2.2.2))) else (slotmeshlaw10_head.j0 k false bt196.1 bt196.2.1 bt196.2.2.1 bt196.2.2.2.1 bt196.2.2.2.2.1 bt196.2.2.2.2.2.1 bt196.2.2.2.2.2.2))))) = some r := h
  clear h
  replace H := Option.bind_eq_some_iff.mp H
  obtain ⟨⟨t188, t189, t190, t191, t192, t193, t194⟩, A10, H⟩ := H
  replace H : ((slotmeshlaw10_sends.f k t188 t189 t190 t191 t192 t193 t194 0 0 7 0 (-2004) 2004).bind fun t195 => ((slotmeshlaw10_example.f).bind fun bt196 => (if t195 = true then ((slotmeshlaw10_sends.f k bt196.1 bt196.2.1 bt196.2.2.1 bt196.2.2.2.1 bt196.2.2.2.2.1 bt196.2.2.2.2.2.1 bt196.2.2.2.2.2.2 (-100) 0 1 0 (-2015) 2015).bind fun t204 => (if t204 = true then ((slotmeshlaw10_sends.f k bt196.1 bt196.2.1 bt196.2.2.1 bt196.2.2.2.1 bt196.2.2.2.2.1 bt196.2.2.2.2.2.1 bt196.2.2.2.2.2.2 (-95) 0 1 (-5) (-2020) 2010).bind fun t205 => (slotmeshlaw10_head.j0 k t205 bt196.1 bt196.2.1 bt196.2.2.1 bt196.2.2.2.1 bt196.2.2.2.2.1 bt196.2.2.2.2.2.1 bt196.2.2.2.2.2.2)) else (slotmeshlaw10_head.j0 k false bt196.1 bt196.2.1 bt196.2.2.1 bt196.2.2.2.1 bt196.2.2.2.2.1 bt196.2.2.2.2.2.1 bt196.2.2.2.2.2.2))) else (slotmeshlaw10_head.j0 k false bt196.1 bt196.2.1 bt196.2.2.1 bt196.2.2.2.1 bt196.2.2.2.2.1 bt196.2.2.2.2.2.1 bt196.2.2.2.2.2.2)))) = some r := H
  have A1 := Aside0.mk A10
  clear A10
  replace H := Option.bind_eq_some_iff.mp H
  obtain ⟨t195, A20, H⟩ := H
  replace H : ((slotmeshlaw10_example.f).bind fun bt196 => (if t195 = true then ((slotmeshlaw10_sends.f k bt196.1 bt196.2.1 bt196.2.2.1 bt196.2.2.2.1 bt196.2.2.2.2.1 bt196.2.2.2.2.2.1 bt196.2.2.2.2.2.2 (-100) 0 1 0 (-2015) 2015).bind fun t204 => (if t204 = true then ((slotmeshlaw10_sends.f k bt196.1 bt196.2.1 bt196.2.2.1 bt196.2.2.2.1 bt196.2.2.2.2.1 bt196.2.2.2.2.2.1 bt196.2.2.2.2.2.2 (-95) 0 1 (-5) (-2020) 2010).bind fun t205 => (slotmeshlaw10_head.j0 k t205 bt196.1 bt196.2.1 bt196.2.2.1 bt196.2.2.2.1 bt196.2.2.2.2.1 bt196.2.2.2.2.2.1 bt196.2.2.2.2.2.2)) else (slotmeshlaw10_head.j0 k false bt196.1 bt196.2.1 bt196.2.2.1 bt196.2.2.2.1 bt196.2.2.2.2.1 bt196.2.2.2.2.2.1 bt196.2.2.2.2.2.2))) else (slotmeshlaw10_head.j0 k false bt196.1 bt196.2.1 bt196.2.2.1 bt196.2.2.2.1 bt196.2.2.2.2.1 bt196.2.2.2.2.2.1 bt196.2.2.2.2.2.2))) = some r := H
  have A2 := Aside0.mk A20
  clear A20
  replace H := Option.bind_eq_some_iff.mp H
  obtain ⟨⟨t196, t197, t198, t199, t200, t201, t202⟩, A30, H⟩ := H
  replace H : (if t195 = true then ((slotmeshlaw10_sends.f k t196 t197 t198 t199 t200 t201 t202 (-100) 0 1 0 (-2015) 2015).bind fun t204 => (if t204 = true then ((slotmeshlaw10_sends.f k t196 t197 t198 t199 t200 t201 t202 (-95) 0 1 (-5) (-2020) 2010).bind fun t205 => (slotmeshlaw10_head.j0 k t205 t196 t197 t198 t199 t200 t201 t202)) else (slotmeshlaw10_head.j0 k false t196 t197 t198 t199 t200 t201 t202))) else (slotmeshlaw10_head.j0 k false t196 t197 t198 t199 t200 t201 t202)) = some r := H
  have A3 := Aside0.mk A30
  clear A30
  have HC4 := Aside0.mk H
  clear H
  go_enter Try.func23, Try.ntmps23
  go_upto_region 3 with (first | ((with_reducible refine gate_callee (f := 42) rfl ?_); refine goesL_ (some 10) rfl rfl Try.func42 (by kernel_rfl) rfl #[.bool true] rfl (by (try simp only [List.map_toArray, List.map_cons, List.map_nil]); first | done | rfl | (simp only [List.length_drop, List.length_take]; rfl)) ?_; (with_reducible refine (slotmeshref09_Start.calls true t188 t189 t190 t191 t192 t193 t194 _ A1.out).mono ?_); rintro e w5 ⟨rfl, hb⟩; refine ⟨_, rfl, ?_⟩; have n0_ := Aside0.mk (below_step (by repeat (first | (with_reducible first | exact HB.out | apply below_alloc | apply pw_below_drewN | apply below_drew1) | exact HB.out)) hb); clear HB; have HB := n0_; clear n0_; (try clear hb); (try clear hb2); (try clear hk); (try clear hi)) | ((with_reducible refine gate_callee (f := 41) rfl ?_); refine goesL_ (some 12) rfl rfl Try.func41 (by kernel_rfl) rfl #[.agg #[.bool t188, .int .i64 t189, .int .i64 t190, .int .i64 t191, .int .i64 t192, .int .i64 t193, .int .i64 t194], .agg #[.int .i64 0, .int .i64 0], .int .i64 7, .int .i64 0, .int .i64 (-2004), .int .i64 2004] rfl (by (try simp only [List.map_toArray, List.map_cons, List.map_nil]); first | done | rfl | (simp only [List.length_drop, List.length_take]; rfl)) ?_; (with_reducible refine (slotmeshlaw10_sends.calls k t188 t189 t190 t191 t192 t193 t194 0 0 7 0 (-2004) 2004 t195 _ A2.out).mono ?_); rintro e w6 ⟨rfl, hb⟩; refine ⟨_, rfl, ?_⟩; have n0_ := Aside0.mk (below_step (by repeat (first | (with_reducible first | exact HB.out | apply below_alloc | apply pw_below_drewN | apply below_drew1) | exact HB.out)) hb); clear HB; have HB := n0_; clear n0_; (try clear hb); (try clear hb2); (try clear hk); (try clear hi)) | ((with_reducible refine gate_callee (f := 43) rfl ?_); refine goesL_ (some 13) rfl rfl Try.func43 (by kernel_rfl) rfl #[] rfl (by (try simp only [List.map_toArray, List.map_cons, List.map_nil]); first | done | rfl | (simp only [List.length_drop, List.length_take]; rfl)) ?_; (with_reducible refine (slotmeshlaw10_example.calls  t196 t197 t198 t199 t200 t201 t202 _ A3.out).mono ?_); rintro e w7 ⟨rfl, hb⟩; refine ⟨_, rfl, ?_⟩; have n0_ := Aside0.mk (below_step (by repeat (first | (with_reducible first | exact HB.out | apply below_alloc | apply pw_below_drewN | apply below_drew1) | exact HB.out)) hb); clear HB; have HB := n0_; clear n0_; (try clear hb); (try clear hb2); (try clear hk); (try clear hi)) | ((with_reducible refine gate_dst (N := 2) rfl ?_); refine box_event ?hg (N := 2) ?hd (cs := #[.bool false, .int .i64 0, .int .i64 0, .int .i64 0, .int .i64 0, .int .i64 0, .int .i64 0]) (t := 25) ?hr ?_; (case hd => rfl); (case hg => rfl); (case hr => first | (go_simp; done) | (go_simp; rfl)); intro gb203 hg w8 hbox hb; have n0_ := Aside0.mk (below_step (by repeat (first | (with_reducible first | exact HB.out | apply below_alloc | apply pw_below_drewN | apply below_drew1) | exact HB.out)) hb); have n1_ := Aside0.mk (hbox); have n2_ := Aside0.mk ((by rw [hg]; exact (below_size (by repeat (first | (with_reducible first | exact HB.out | apply below_alloc | apply pw_below_drewN | apply below_drew1) | exact HB.out))) : w.heap.size ≤ gb203)); have n3_ := Aside0.mk ((by rw [hg]; exact (below_size (by repeat (first | (with_reducible first | exact HB.out | apply below_alloc | apply pw_below_drewN | apply below_drew1) | exact HB.out))) : w.heap.size ≤ gb203)); clear HB; have HB := n0_; have BK203 := n1_; have GW203 := n2_; have GE203 := n3_; clear n0_ n1_ n2_ n3_; clear hb hbox hg; have hcz9_0 : w8.cell? ⟨gb203, 0, none⟩ = some (.bool false) := (blk_cell BK203.out 0).trans rfl; have hcz9_1 : w8.cell? ⟨gb203, 1, none⟩ = some (.int .i64 0) := (blk_cell BK203.out 1).trans rfl; have hcz9_2 : w8.cell? ⟨gb203, 2, none⟩ = some (.int .i64 0) := (blk_cell BK203.out 2).trans rfl; have hcz9_3 : w8.cell? ⟨gb203, 3, none⟩ = some (.int .i64 0) := (blk_cell BK203.out 3).trans rfl; have hcz9_4 : w8.cell? ⟨gb203, 4, none⟩ = some (.int .i64 0) := (blk_cell BK203.out 4).trans rfl; have hcz9_5 : w8.cell? ⟨gb203, 5, none⟩ = some (.int .i64 0) := (blk_cell BK203.out 5).trans rfl; have hcz9_6 : w8.cell? ⟨gb203, 6, none⟩ = some (.int .i64 0) := (blk_cell BK203.out 6).trans rfl; have hfz9_0 := blk_frozen BK203.out 0; have hfz9_1 := blk_frozen BK203.out 1; have hfz9_2 := blk_frozen BK203.out 2; have hfz9_3 := blk_frozen BK203.out 3; have hfz9_4 := blk_frozen BK203.out 4; have hfz9_5 := blk_frozen BK203.out 5; have hfz9_6 := blk_frozen BK203.out 6))
  (try simp only [Act.put, List.setIfInBounds_toArray, List.set_cons_zero, List.set_cons_succ])
  go_cut [1] (fun v1 wc => ∃ (kq : Nat) (x1_3 : Bool), v1 = .bool x1_3 ∧ Aside0 (slotmeshlaw10_head.j0 kq x1_3 t196 t197 t198 t199 t200 t201 t202 = some r) ∧ Aside0 (kq ≤ k) ∧ Aside0 (wc.heap[gb203]? = some (.cells #[.bool t196, .int .i64 t197, .int .i64 t198, .int .i64 t199, .int .i64 t200, .int .i64 t201, .int .i64 t202] 25 (0, 0))) ∧ Aside0 (Below w.heap.size w wc))
  case first =>
    have H := HC4.out
    clear HC4
    by_cases c10 : t195 = true
    · subst c10
      have H1 : ((slotmeshlaw10_sends.f k t196 t197 t198 t199 t200 t201 t202 (-100) 0 1 0 (-2015) 2015).bind fun t204 => (if t204 = true then ((slotmeshlaw10_sends.f k t196 t197 t198 t199 t200 t201 t202 (-95) 0 1 (-5) (-2020) 2010).bind fun t205 => (slotmeshlaw10_head.j0 k t205 t196 t197 t198 t199 t200 t201 t202)) else (slotmeshlaw10_head.j0 k false t196 t197 t198 t199 t200 t201 t202))) = some r := by rw [if_pos rfl] at H; exact H
      clear H
      have H := H1
      clear H1
      replace H := Option.bind_eq_some_iff.mp H
      obtain ⟨t204, A110, H⟩ := H
      replace H : (if t204 = true then ((slotmeshlaw10_sends.f k t196 t197 t198 t199 t200 t201 t202 (-95) 0 1 (-5) (-2020) 2010).bind fun t205 => (slotmeshlaw10_head.j0 k t205 t196 t197 t198 t199 t200 t201 t202)) else (slotmeshlaw10_head.j0 k false t196 t197 t198 t199 t200 t201 t202)) = some r := H
      have A11 := Aside0.mk A110
      clear A110
      by_cases c12 : t204 = true
      · subst c12
        have H1 : ((slotmeshlaw10_sends.f k t196 t197 t198 t199 t200 t201 t202 (-95) 0 1 (-5) (-2020) 2010).bind fun t205 => (slotmeshlaw10_head.j0 k t205 t196 t197 t198 t199 t200 t201 t202)) = some r := by rw [if_pos rfl] at H; exact H
        clear H
        have H := H1
        clear H1
        replace H := Option.bind_eq_some_iff.mp H
        obtain ⟨t205, A130, H⟩ := H
        replace H : (slotmeshlaw10_head.j0 k t205 t196 t197 t198 t199 t200 t201 t202) = some r := H
        have A13 := Aside0.mk A130
        clear A130
        have H' := Aside0.mk H
        clear H
        have hcz14_0 : w8.cell? ⟨gb203, 0, none⟩ = some (.bool false) := (blk_cell BK203.out 0).trans rfl
        have hcz14_1 : w8.cell? ⟨gb203, 1, none⟩ = some (.int .i64 0) := (blk_cell BK203.out 1).trans rfl
        have hcz14_2 : w8.cell? ⟨gb203, 2, none⟩ = some (.int .i64 0) := (blk_cell BK203.out 2).trans rfl
        have hcz14_3 : w8.cell? ⟨gb203, 3, none⟩ = some (.int .i64 0) := (blk_cell BK203.out 3).trans rfl
        have hcz14_4 : w8.cell? ⟨gb203, 4, none⟩ = some (.int .i64 0) := (blk_cell BK203.out 4).trans rfl
        have hcz14_5 : w8.cell? ⟨gb203, 5, none⟩ = some (.int .i64 0) := (blk_cell BK203.out 5).trans rfl
        have hcz14_6 : w8.cell? ⟨gb203, 6, none⟩ = some (.int .i64 0) := (blk_cell BK203.out 6).trans rfl
        have hfz14_0 := blk_frozen BK203.out 0
        have hfz14_1 := blk_frozen BK203.out 1
        have hfz14_2 := blk_frozen BK203.out 2
        have hfz14_3 := blk_frozen BK203.out 3
        have hfz14_4 := blk_frozen BK203.out 4
        have hfz14_5 := blk_frozen BK203.out 5
        have hfz14_6 := blk_frozen BK203.out 6
        go_wp2_with (first | (go_at_call 41; (with_reducible refine (slotmeshlaw10_sends.calls k t196 t197 t198 t199 t200 t201 t202 (-100) 0 1 0 (-2015) 2015 true _ A11.out).mono ?_); rintro e w15 ⟨rfl, hb⟩; have n0_ := Aside0.mk (blk_below (g := gb203) (o := .cells #[.bool t196, .int .i64 t197, .int .i64 t198, .int .i64 t199, .int .i64 t200, .int .i64 t201, .int .i64 t202] 25 (0, 0)) (by (with_reducible repeat (first | refine blk_drewN ?_ _ | refine blk_drew ?_ | refine blk_alloc ?_ _)); refine blk_put (cs := #[.bool t196, .int .i64 t197, .int .i64 t198, .int .i64 t199, .int .i64 t200, .int .i64 t201, .int .i64 0]) ?_ 6 _ rfl; (with_reducible repeat (first | refine blk_drewN ?_ _ | refine blk_drew ?_ | refine blk_alloc ?_ _)); refine blk_put (cs := #[.bool t196, .int .i64 t197, .int .i64 t198, .int .i64 t199, .int .i64 t200, .int .i64 0, .int .i64 0]) ?_ 5 _ rfl; (with_reducible repeat (first | refine blk_drewN ?_ _ | refine blk_drew ?_ | refine blk_alloc ?_ _)); refine blk_put (cs := #[.bool t196, .int .i64 t197, .int .i64 t198, .int .i64 t199, .int .i64 0, .int .i64 0, .int .i64 0]) ?_ 4 _ rfl; (with_reducible repeat (first | refine blk_drewN ?_ _ | refine blk_drew ?_ | refine blk_alloc ?_ _)); refine blk_put (cs := #[.bool t196, .int .i64 t197, .int .i64 t198, .int .i64 0, .int .i64 0, .int .i64 0, .int .i64 0]) ?_ 3 _ rfl; (with_reducible repeat (first | refine blk_drewN ?_ _ | refine blk_drew ?_ | refine blk_alloc ?_ _)); refine blk_put (cs := #[.bool t196, .int .i64 t197, .int .i64 0, .int .i64 0, .int .i64 0, .int .i64 0, .int .i64 0]) ?_ 2 _ rfl; (with_reducible repeat (first | refine blk_drewN ?_ _ | refine blk_drew ?_ | refine blk_alloc ?_ _)); refine blk_put (cs := #[.bool t196, .int .i64 0, .int .i64 0, .int .i64 0, .int .i64 0, .int .i64 0, .int .i64 0]) ?_ 1 _ rfl; (with_reducible repeat (first | refine blk_drewN ?_ _ | refine blk_drew ?_ | refine blk_alloc ?_ _)); refine blk_put (cs := #[.bool false, .int .i64 0, .int .i64 0, .int .i64 0, .int .i64 0, .int .i64 0, .int .i64 0]) ?_ 0 _ rfl; (with_reducible repeat (first | refine blk_drewN ?_ _ | refine blk_drew ?_ | refine blk_alloc ?_ _)); exact BK203.out) hb); have n1_ := Aside0.mk (below_step (by repeat (first | (with_reducible first | exact HB.out | apply below_alloc | apply pw_below_drewN | apply below_drew1 | refine below_set ?_ GE203.out) | exact HB.out)) hb); clear BK203; clear HB; have BK203 := n0_; have HB := n1_; clear n0_ n1_; (try clear hb); (try clear hb2); (try clear hk); (try clear hi); have hcz16_0 : w15.cell? ⟨gb203, 0, none⟩ = some (.bool t196) := (blk_cell BK203.out 0).trans rfl; have hcz16_1 : w15.cell? ⟨gb203, 1, none⟩ = some (.int .i64 t197) := (blk_cell BK203.out 1).trans rfl; have hcz16_2 : w15.cell? ⟨gb203, 2, none⟩ = some (.int .i64 t198) := (blk_cell BK203.out 2).trans rfl; have hcz16_3 : w15.cell? ⟨gb203, 3, none⟩ = some (.int .i64 t199) := (blk_cell BK203.out 3).trans rfl; have hcz16_4 : w15.cell? ⟨gb203, 4, none⟩ = some (.int .i64 t200) := (blk_cell BK203.out 4).trans rfl; have hcz16_5 : w15.cell? ⟨gb203, 5, none⟩ = some (.int .i64 t201) := (blk_cell BK203.out 5).trans rfl; have hcz16_6 : w15.cell? ⟨gb203, 6, none⟩ = some (.int .i64 t202) := (blk_cell BK203.out 6).trans rfl; have hfz16_0 := blk_frozen BK203.out 0; have hfz16_1 := blk_frozen BK203.out 1; have hfz16_2 := blk_frozen BK203.out 2; have hfz16_3 := blk_frozen BK203.out 3; have hfz16_4 := blk_frozen BK203.out 4; have hfz16_5 := blk_frozen BK203.out 5; have hfz16_6 := blk_frozen BK203.out 6) | (go_at_call 41; (with_reducible refine (slotmeshlaw10_sends.calls k t196 t197 t198 t199 t200 t201 t202 (-95) 0 1 (-5) (-2020) 2010 t205 _ A13.out).mono ?_); rintro e w17 ⟨rfl, hb⟩; have n0_ := Aside0.mk (blk_below (g := gb203) (o := .cells #[.bool t196, .int .i64 t197, .int .i64 t198, .int .i64 t199, .int .i64 t200, .int .i64 t201, .int .i64 t202] 25 (0, 0)) (by (with_reducible repeat (first | refine blk_drewN ?_ _ | refine blk_drew ?_ | refine blk_alloc ?_ _)); exact BK203.out) hb); have n1_ := Aside0.mk (below_step (by repeat (first | (with_reducible first | exact HB.out | apply below_alloc | apply pw_below_drewN | apply below_drew1 | refine below_set ?_ GE203.out) | exact HB.out)) hb); clear BK203; clear HB; have BK203 := n0_; have HB := n1_; clear n0_ n1_; (try clear hb); (try clear hb2); (try clear hk); (try clear hi)))
        go_meet
        case rel => exact ⟨_, (t205), (by first | rfl | (simp; done) | (simp [*]; done)), H', ⟨by first | omega | exact Nat.le_refl _⟩, ⟨by (with_reducible repeat (first | refine blk_drewN ?_ _ | refine blk_drew ?_ | refine blk_alloc ?_ _)); exact BK203.out⟩, ⟨by repeat (first | (with_reducible first | exact HB.out | apply below_alloc | apply pw_below_drewN | apply below_drew1 | refine below_set ?_ GE203.out) | exact HB.out)⟩⟩
      · replace c12 := Bool.eq_false_iff.mpr c12
        subst c12
        have H1 : (slotmeshlaw10_head.j0 k false t196 t197 t198 t199 t200 t201 t202) = some r := by rw [if_neg (show ¬ (false = true) by decide)] at H; exact H
        clear H
        have H := H1
        clear H1
        have H' := Aside0.mk H
        clear H
        have hcz18_0 : w8.cell? ⟨gb203, 0, none⟩ = some (.bool false) := (blk_cell BK203.out 0).trans rfl
        have hcz18_1 : w8.cell? ⟨gb203, 1, none⟩ = some (.int .i64 0) := (blk_cell BK203.out 1).trans rfl
        have hcz18_2 : w8.cell? ⟨gb203, 2, none⟩ = some (.int .i64 0) := (blk_cell BK203.out 2).trans rfl
        have hcz18_3 : w8.cell? ⟨gb203, 3, none⟩ = some (.int .i64 0) := (blk_cell BK203.out 3).trans rfl
        have hcz18_4 : w8.cell? ⟨gb203, 4, none⟩ = some (.int .i64 0) := (blk_cell BK203.out 4).trans rfl
        have hcz18_5 : w8.cell? ⟨gb203, 5, none⟩ = some (.int .i64 0) := (blk_cell BK203.out 5).trans rfl
        have hcz18_6 : w8.cell? ⟨gb203, 6, none⟩ = some (.int .i64 0) := (blk_cell BK203.out 6).trans rfl
        have hfz18_0 := blk_frozen BK203.out 0
        have hfz18_1 := blk_frozen BK203.out 1
        have hfz18_2 := blk_frozen BK203.out 2
        have hfz18_3 := blk_frozen BK203.out 3
        have hfz18_4 := blk_frozen BK203.out 4
        have hfz18_5 := blk_frozen BK203.out 5
        have hfz18_6 := blk_frozen BK203.out 6
        go_wp2_with (first | (go_at_call 41; (with_reducible refine (slotmeshlaw10_sends.calls k t196 t197 t198 t199 t200 t201 t202 (-100) 0 1 0 (-2015) 2015 false _ A11.out).mono ?_); rintro e w19 ⟨rfl, hb⟩; have n0_ := Aside0.mk (blk_below (g := gb203) (o := .cells #[.bool t196, .int .i64 t197, .int .i64 t198, .int .i64 t199, .int .i64 t200, .int .i64 t201, .int .i64 t202] 25 (0, 0)) (by (with_reducible repeat (first | refine blk_drewN ?_ _ | refine blk_drew ?_ | refine blk_alloc ?_ _)); refine blk_put (cs := #[.bool t196, .int .i64 t197, .int .i64 t198, .int .i64 t199, .int .i64 t200, .int .i64 t201, .int .i64 0]) ?_ 6 _ rfl; (with_reducible repeat (first | refine blk_drewN ?_ _ | refine blk_drew ?_ | refine blk_alloc ?_ _)); refine blk_put (cs := #[.bool t196, .int .i64 t197, .int .i64 t198, .int .i64 t199, .int .i64 t200, .int .i64 0, .int .i64 0]) ?_ 5 _ rfl; (with_reducible repeat (first | refine blk_drewN ?_ _ | refine blk_drew ?_ | refine blk_alloc ?_ _)); refine blk_put (cs := #[.bool t196, .int .i64 t197, .int .i64 t198, .int .i64 t199, .int .i64 0, .int .i64 0, .int .i64 0]) ?_ 4 _ rfl; (with_reducible repeat (first | refine blk_drewN ?_ _ | refine blk_drew ?_ | refine blk_alloc ?_ _)); refine blk_put (cs := #[.bool t196, .int .i64 t197, .int .i64 t198, .int .i64 0, .int .i64 0, .int .i64 0, .int .i64 0]) ?_ 3 _ rfl; (with_reducible repeat (first | refine blk_drewN ?_ _ | refine blk_drew ?_ | refine blk_alloc ?_ _)); refine blk_put (cs := #[.bool t196, .int .i64 t197, .int .i64 0, .int .i64 0, .int .i64 0, .int .i64 0, .int .i64 0]) ?_ 2 _ rfl; (with_reducible repeat (first | refine blk_drewN ?_ _ | refine blk_drew ?_ | refine blk_alloc ?_ _)); refine blk_put (cs := #[.bool t196, .int .i64 0, .int .i64 0, .int .i64 0, .int .i64 0, .int .i64 0, .int .i64 0]) ?_ 1 _ rfl; (with_reducible repeat (first | refine blk_drewN ?_ _ | refine blk_drew ?_ | refine blk_alloc ?_ _)); refine blk_put (cs := #[.bool false, .int .i64 0, .int .i64 0, .int .i64 0, .int .i64 0, .int .i64 0, .int .i64 0]) ?_ 0 _ rfl; (with_reducible repeat (first | refine blk_drewN ?_ _ | refine blk_drew ?_ | refine blk_alloc ?_ _)); exact BK203.out) hb); have n1_ := Aside0.mk (below_step (by repeat (first | (with_reducible first | exact HB.out | apply below_alloc | apply pw_below_drewN | apply below_drew1 | refine below_set ?_ GE203.out) | exact HB.out)) hb); clear BK203; clear HB; have BK203 := n0_; have HB := n1_; clear n0_ n1_; (try clear hb); (try clear hb2); (try clear hk); (try clear hi)))
        go_meet
        case rel => exact ⟨_, (false), (by first | rfl | (simp; done) | (simp [*]; done)), H', ⟨by first | omega | exact Nat.le_refl _⟩, ⟨by (with_reducible repeat (first | refine blk_drewN ?_ _ | refine blk_drew ?_ | refine blk_alloc ?_ _)); exact BK203.out⟩, ⟨by repeat (first | (with_reducible first | exact HB.out | apply below_alloc | apply pw_below_drewN | apply below_drew1 | refine below_set ?_ GE203.out) | exact HB.out)⟩⟩
    · replace c10 := Bool.eq_false_iff.mpr c10
      subst c10
      have H1 : (slotmeshlaw10_head.j0 k false t196 t197 t198 t199 t200 t201 t202) = some r := by rw [if_neg (show ¬ (false = true) by decide)] at H; exact H
      clear H
      have H := H1
      clear H1
      have H' := Aside0.mk H
      clear H
      go_wp2
      go_meet
      case rel => exact ⟨_, (false), (by first | rfl | (simp; done) | (simp [*]; done)), H', ⟨by first | omega | exact Nat.le_refl _⟩, ⟨by (with_reducible repeat (first | refine blk_drewN ?_ _ | refine blk_drew ?_ | refine blk_alloc ?_ _)); refine blk_put (cs := #[.bool t196, .int .i64 t197, .int .i64 t198, .int .i64 t199, .int .i64 t200, .int .i64 t201, .int .i64 0]) ?_ 6 _ rfl; (with_reducible repeat (first | refine blk_drewN ?_ _ | refine blk_drew ?_ | refine blk_alloc ?_ _)); refine blk_put (cs := #[.bool t196, .int .i64 t197, .int .i64 t198, .int .i64 t199, .int .i64 t200, .int .i64 0, .int .i64 0]) ?_ 5 _ rfl; (with_reducible repeat (first | refine blk_drewN ?_ _ | refine blk_drew ?_ | refine blk_alloc ?_ _)); refine blk_put (cs := #[.bool t196, .int .i64 t197, .int .i64 t198, .int .i64 t199, .int .i64 0, .int .i64 0, .int .i64 0]) ?_ 4 _ rfl; (with_reducible repeat (first | refine blk_drewN ?_ _ | refine blk_drew ?_ | refine blk_alloc ?_ _)); refine blk_put (cs := #[.bool t196, .int .i64 t197, .int .i64 t198, .int .i64 0, .int .i64 0, .int .i64 0, .int .i64 0]) ?_ 3 _ rfl; (with_reducible repeat (first | refine blk_drewN ?_ _ | refine blk_drew ?_ | refine blk_alloc ?_ _)); refine blk_put (cs := #[.bool t196, .int .i64 t197, .int .i64 0, .int .i64 0, .int .i64 0, .int .i64 0, .int .i64 0]) ?_ 2 _ rfl; (with_reducible repeat (first | refine blk_drewN ?_ _ | refine blk_drew ?_ | refine blk_alloc ?_ _)); refine blk_put (cs := #[.bool t196, .int .i64 0, .int .i64 0, .int .i64 0, .int .i64 0, .int .i64 0, .int .i64 0]) ?_ 1 _ rfl; (with_reducible repeat (first | refine blk_drewN ?_ _ | refine blk_drew ?_ | refine blk_alloc ?_ _)); refine blk_put (cs := #[.bool false, .int .i64 0, .int .i64 0, .int .i64 0, .int .i64 0, .int .i64 0, .int .i64 0]) ?_ 0 _ rfl; (with_reducible repeat (first | refine blk_drewN ?_ _ | refine blk_drew ?_ | refine blk_alloc ?_ _)); exact BK203.out⟩, ⟨by repeat (first | (with_reducible first | exact HB.out | apply below_alloc | apply pw_below_drewN | apply below_drew1 | refine below_set ?_ GE203.out) | exact HB.out)⟩⟩
  case rest =>
    clear HC4
    try clear c1
    try clear c2
    try clear p2
    try clear c4
    try clear c10
    try clear c12
    try clear hcz14_0
    try clear hcz14_1
    try clear hcz14_2
    try clear hcz14_3
    try clear hcz14_4
    try clear hcz14_5
    try clear hcz14_6
    try clear hcz16_0
    try clear hcz16_1
    try clear hcz16_2
    try clear hcz16_3
    try clear hcz16_4
    try clear hcz16_5
    try clear hcz16_6
    try clear hcz18_0
    try clear hcz18_1
    try clear hcz18_2
    try clear hcz18_3
    try clear hcz18_4
    try clear hcz18_5
    try clear hcz18_6
    try clear hcz9_0
    try clear hcz9_1
    try clear hcz9_2
    try clear hcz9_3
    try clear hcz9_4
    try clear hcz9_5
    try clear hcz9_6
    try clear hfz14_0
    try clear hfz14_1
    try clear hfz14_2
    try clear hfz14_3
    try clear hfz14_4
    try clear hfz14_5
    try clear hfz14_6
    try clear hfz16_0
    try clear hfz16_1
    try clear hfz16_2
    try clear hfz16_3
    try clear hfz16_4
    try clear hfz16_5
    try clear hfz16_6
    try clear hfz18_0
    try clear hfz18_1
    try clear hfz18_2
    try clear hfz18_3
    try clear hfz18_4
    try clear hfz18_5
    try clear hfz18_6
    try clear hfz9_0
    try clear hfz9_1
    try clear hfz9_2
    try clear hfz9_3
    try clear hfz9_4
    try clear hfz9_5
    try clear hfz9_6
    obtain ⟨kq, x1_3, rfl, HA, HJ3, BK203, HB⟩ := hcut
    cases kq with
    | zero => exact absurd HA.out (by simp [slotmeshlaw10_head.j0])
    | succ kj3 =>
      have H := HA.out
      clear HA
      simp only [slotmeshlaw10_head.j0] at H
      replace H := Option.bind_eq_some_iff.mp H
      obtain ⟨⟨t206, t207, t208, t209, t210, t211, t212⟩, A200, H⟩ := H
      replace H : ((guard_Send.f kj3 t206 t207 t208 t209 t210 t211 t212 0 0 0).bind fun bt213 => ((guard_Send.f kj3 t196 t197 t198 t199 t200 t201 t202 0 51 0).bind fun bt215 => ((guard_Listen.f kj3 t196 t197 t198 t199 t200 t201 t202 0 0 1000000000).bind fun bt217 => (if x1_3 = true then (if bt213.2 = 16 then (if bt215.2 = 1 then (if bt217.2.2 = 1 then ((guard_Catches.f (-2) (-2) 3).bind fun t222 => (if t222 = true then ((guard_Catches.f 3 (-2) 3).bind fun t223 => (if t223 = true then ((guard_Catches.f 4 (-2) 3).bind fun t224 => (if t224 = true then (none) else ((guard_Catches.f (-3) (-2) 3).bind fun t225 => (some (!t225))))) else (none))) else (none))) else (none)) else (none)) else (none)) else (none))))) = some r := H
      have A20 := Aside0.mk A200
      clear A200
      replace H := Option.bind_eq_some_iff.mp H
      obtain ⟨⟨t213, t214⟩, A210, H⟩ := H
      replace H : ((guard_Send.f kj3 t196 t197 t198 t199 t200 t201 t202 0 51 0).bind fun bt215 => ((guard_Listen.f kj3 t196 t197 t198 t199 t200 t201 t202 0 0 1000000000).bind fun bt217 => (if x1_3 = true then (if t214 = 16 then (if bt215.2 = 1 then (if bt217.2.2 = 1 then ((guard_Catches.f (-2) (-2) 3).bind fun t222 => (if t222 = true then ((guard_Catches.f 3 (-2) 3).bind fun t223 => (if t223 = true then ((guard_Catches.f 4 (-2) 3).bind fun t224 => (if t224 = true then (none) else ((guard_Catches.f (-3) (-2) 3).bind fun t225 => (some (!t225))))) else (none))) else (none))) else (none)) else (none)) else (none)) else (none)))) = some r := H
      have A21 := Aside0.mk A210
      clear A210
      replace H := Option.bind_eq_some_iff.mp H
      obtain ⟨⟨t215, t216⟩, A220, H⟩ := H
      replace H : ((guard_Listen.f kj3 t196 t197 t198 t199 t200 t201 t202 0 0 1000000000).bind fun bt217 => (if x1_3 = true then (if t214 = 16 then (if t216 = 1 then (if bt217.2.2 = 1 then ((guard_Catches.f (-2) (-2) 3).bind fun t222 => (if t222 = true then ((guard_Catches.f 3 (-2) 3).bind fun t223 => (if t223 = true then ((guard_Catches.f 4 (-2) 3).bind fun t224 => (if t224 = true then (none) else ((guard_Catches.f (-3) (-2) 3).bind fun t225 => (some (!t225))))) else (none))) else (none))) else (none)) else (none)) else (none)) else (none))) = some r := H
      have A22 := Aside0.mk A220
      clear A220
      replace H := Option.bind_eq_some_iff.mp H
      obtain ⟨⟨t217, t218, t219⟩, A230, H⟩ := H
      replace H : (if x1_3 = true then (if t214 = 16 then (if t216 = 1 then (if t219 = 1 then ((guard_Catches.f (-2) (-2) 3).bind fun t222 => (if t222 = true then ((guard_Catches.f 3 (-2) 3).bind fun t223 => (if t223 = true then ((guard_Catches.f 4 (-2) 3).bind fun t224 => (if t224 = true then (none) else ((guard_Catches.f (-3) (-2) 3).bind fun t225 => (some (!t225))))) else (none))) else (none))) else (none)) else (none)) else (none)) else (none)) = some r := H
      have A23 := Aside0.mk A230
      clear A230
      by_cases c24 : x1_3 = true
      · subst c24
        have H1 : (if t214 = 16 then (if t216 = 1 then (if t219 = 1 then ((guard_Catches.f (-2) (-2) 3).bind fun t222 => (if t222 = true then ((guard_Catches.f 3 (-2) 3).bind fun t223 => (if t223 = true then ((guard_Catches.f 4 (-2) 3).bind fun t224 => (if t224 = true then (none) else ((guard_Catches.f (-3) (-2) 3).bind fun t225 => (some (!t225))))) else (none))) else (none))) else (none)) else (none)) else (none)) = some r := by rw [if_pos rfl] at H; exact H
        clear H
        have H := H1
        clear H1
        by_cases c25 : t214 = 16
        · rw [if_pos c25] at H
          have c25b0 : (t214 == 16) = true := beq_iff_eq.mpr c25
          have c25b1 : (t214 != 16) = false := bne_eq_false_iff_eq.mpr c25
          clear c25
          by_cases c26 : t216 = 1
          · rw [if_pos c26] at H
            have c26b0 : (t216 == 1) = true := beq_iff_eq.mpr c26
            have c26b1 : (t216 != 1) = false := bne_eq_false_iff_eq.mpr c26
            clear c26
            by_cases c27 : t219 = 1
            · rw [if_pos c27] at H
              have c27b0 : (t219 == 1) = true := beq_iff_eq.mpr c27
              have c27b1 : (t219 != 1) = false := bne_eq_false_iff_eq.mpr c27
              clear c27
              replace H := Option.bind_eq_some_iff.mp H
              obtain ⟨t222, A280, H⟩ := H
              replace H : (if t222 = true then ((guard_Catches.f 3 (-2) 3).bind fun t223 => (if t223 = true then ((guard_Catches.f 4 (-2) 3).bind fun t224 => (if t224 = true then (none) else ((guard_Catches.f (-3) (-2) 3).bind fun t225 => (some (!t225))))) else (none))) else (none)) = some r := H
              have A28 := Aside0.mk A280
              clear A280
              by_cases c29 : t222 = true
              · subst c29
                have H1 : ((guard_Catches.f 3 (-2) 3).bind fun t223 => (if t223 = true then ((guard_Catches.f 4 (-2) 3).bind fun t224 => (if t224 = true then (none) else ((guard_Catches.f (-3) (-2) 3).bind fun t225 => (some (!t225))))) else (none))) = some r := by rw [if_pos rfl] at H; exact H
                clear H
                have H := H1
                clear H1
                replace H := Option.bind_eq_some_iff.mp H
                obtain ⟨t223, A300, H⟩ := H
                replace H : (if t223 = true then ((guard_Catches.f 4 (-2) 3).bind fun t224 => (if t224 = true then (none) else ((guard_Catches.f (-3) (-2) 3).bind fun t225 => (some (!t225))))) else (none)) = some r := H
                have A30 := Aside0.mk A300
                clear A300
                by_cases c31 : t223 = true
                · subst c31
                  have H1 : ((guard_Catches.f 4 (-2) 3).bind fun t224 => (if t224 = true then (none) else ((guard_Catches.f (-3) (-2) 3).bind fun t225 => (some (!t225))))) = some r := by rw [if_pos rfl] at H; exact H
                  clear H
                  have H := H1
                  clear H1
                  replace H := Option.bind_eq_some_iff.mp H
                  obtain ⟨t224, A320, H⟩ := H
                  replace H : (if t224 = true then (none) else ((guard_Catches.f (-3) (-2) 3).bind fun t225 => (some (!t225)))) = some r := H
                  have A32 := Aside0.mk A320
                  clear A320
                  by_cases c33 : t224 = true
                  · subst c33
                    have H1 : (none) = some r := by rw [if_pos rfl] at H; exact H
                    clear H
                    have H := H1
                    clear H1
                    exact absurd H (by simp)
                  · replace c33 := Bool.eq_false_iff.mpr c33
                    subst c33
                    have H1 : ((guard_Catches.f (-3) (-2) 3).bind fun t225 => (some (!t225))) = some r := by rw [if_neg (show ¬ (false = true) by decide)] at H; exact H
                    clear H
                    have H := H1
                    clear H1
                    replace H := Option.bind_eq_some_iff.mp H
                    obtain ⟨t225, A340, H⟩ := H
                    replace H : (some (!t225)) = some r := H
                    have A34 := Aside0.mk A340
                    clear A340
                    obtain rfl := Option.some.inj H
                    go_wp2_with (first | ((with_reducible refine gate_callee (f := 42) rfl ?_); refine goesL_ (some 26) rfl rfl Try.func42 (by kernel_rfl) rfl #[.bool false] rfl (by (try simp only [List.map_toArray, List.map_cons, List.map_nil]); first | done | rfl | (simp only [List.length_drop, List.length_take]; rfl)) ?_; (with_reducible refine (slotmeshref09_Start.calls false t206 t207 t208 t209 t210 t211 t212 _ A20.out).mono ?_); rintro e w35 ⟨rfl, hb⟩; refine ⟨_, rfl, ?_⟩; have n0_ := Aside0.mk (blk_below (g := gb203) (o := .cells #[.bool t196, .int .i64 t197, .int .i64 t198, .int .i64 t199, .int .i64 t200, .int .i64 t201, .int .i64 t202] 25 (0, 0)) (by (with_reducible repeat (first | refine blk_drewN ?_ _ | refine blk_drew ?_ | refine blk_alloc ?_ _)); exact BK203.out) hb); have n1_ := Aside0.mk (below_step (by repeat (first | (with_reducible first | exact HB.out | apply below_alloc | apply pw_below_drewN | apply below_drew1 | refine below_set ?_ GE203.out) | exact HB.out)) hb); clear BK203; clear HB; have BK203 := n0_; have HB := n1_; clear n0_ n1_; (try clear hb); (try clear hb2); (try clear hk); (try clear hi)) | ((with_reducible refine gate_callee (f := 13) rfl ?_); refine goesL_ (some 28) rfl rfl Try.func13 (by kernel_rfl) rfl #[.agg #[.bool t206, .int .i64 t207, .int .i64 t208, .int .i64 t209, .int .i64 t210, .int .i64 t211, .int .i64 t212], .agg #[.int .i64 0, .int .i64 0], .int .i64 0] rfl (by (try simp only [List.map_toArray, List.map_cons, List.map_nil]); first | done | rfl | (simp only [List.length_drop, List.length_take]; rfl)) ?_; (with_reducible refine (guard_Send.calls kj3 t206 t207 t208 t209 t210 t211 t212 0 0 0 t213 t214 _ A21.out).mono ?_); rintro e w36 ⟨rfl, hb⟩; refine ⟨_, rfl, ?_⟩; have n0_ := Aside0.mk (blk_below (g := gb203) (o := .cells #[.bool t196, .int .i64 t197, .int .i64 t198, .int .i64 t199, .int .i64 t200, .int .i64 t201, .int .i64 t202] 25 (0, 0)) (by (with_reducible repeat (first | refine blk_drewN ?_ _ | refine blk_drew ?_ | refine blk_alloc ?_ _)); exact BK203.out) hb); have n1_ := Aside0.mk (below_step (by repeat (first | (with_reducible first | exact HB.out | apply below_alloc | apply pw_below_drewN | apply below_drew1 | refine below_set ?_ GE203.out) | exact HB.out)) hb); clear BK203; clear HB; have BK203 := n0_; have HB := n1_; clear n0_ n1_; (try clear hb); (try clear hb2); (try clear hk); (try clear hi); have hcz37_0 : w36.cell? ⟨gb203, 0, none⟩ = some (.bool t196) := (blk_cell BK203.out 0).trans rfl; have hcz37_1 : w36.cell? ⟨gb203, 1, none⟩ = some (.int .i64 t197) := (blk_cell BK203.out 1).trans rfl; have hcz37_2 : w36.cell? ⟨gb203, 2, none⟩ = some (.int .i64 t198) := (blk_cell BK203.out 2).trans rfl; have hcz37_3 : w36.cell? ⟨gb203, 3, none⟩ = some (.int .i64 t199) := (blk_cell BK203.out 3).trans rfl; have hcz37_4 : w36.cell? ⟨gb203, 4, none⟩ = some (.int .i64 t200) := (blk_cell BK203.out 4).trans rfl; have hcz37_5 : w36.cell? ⟨gb203, 5, none⟩ = some (.int .i64 t201) := (blk_cell BK203.out 5).trans rfl; have hcz37_6 : w36.cell? ⟨gb203, 6, none⟩ = some (.int .i64 t202) := (blk_cell BK203.out 6).trans rfl; have hfz37_0 := blk_frozen BK203.out 0; have hfz37_1 := blk_frozen BK203.out 1; have hfz37_2 := blk_frozen BK203.out 2; have hfz37_3 := blk_frozen BK203.out 3; have hfz37_4 := blk_frozen BK203.out 4; have hfz37_5 := blk_frozen BK203.out 5; have hfz37_6 := blk_frozen BK203.out 6) | ((with_reducible refine gate_callee (f := 13) rfl ?_); refine goesL_ (some 34) rfl rfl Try.func13 (by kernel_rfl) rfl #[.agg #[.bool t196, .int .i64 t197, .int .i64 t198, .int .i64 t199, .int .i64 t200, .int .i64 t201, .int .i64 t202], .agg #[.int .i64 0, .int .i64 51], .int .i64 0] rfl (by (try simp only [List.map_toArray, List.map_cons, List.map_nil]); first | done | rfl | (simp only [List.length_drop, List.length_take]; rfl)) ?_; (with_reducible refine (guard_Send.calls kj3 t196 t197 t198 t199 t200 t201 t202 0 51 0 t215 t216 _ A22.out).mono ?_); rintro e w38 ⟨rfl, hb⟩; refine ⟨_, rfl, ?_⟩; have n0_ := Aside0.mk (blk_below (g := gb203) (o := .cells #[.bool t196, .int .i64 t197, .int .i64 t198, .int .i64 t199, .int .i64 t200, .int .i64 t201, .int .i64 t202] 25 (0, 0)) (by (with_reducible repeat (first | refine blk_drewN ?_ _ | refine blk_drew ?_ | refine blk_alloc ?_ _)); exact BK203.out) hb); have n1_ := Aside0.mk (below_step (by repeat (first | (with_reducible first | exact HB.out | apply below_alloc | apply pw_below_drewN | apply below_drew1 | refine below_set ?_ GE203.out) | exact HB.out)) hb); clear BK203; clear HB; have BK203 := n0_; have HB := n1_; clear n0_ n1_; (try clear hb); (try clear hb2); (try clear hk); (try clear hi); have hcz39_0 : w38.cell? ⟨gb203, 0, none⟩ = some (.bool t196) := (blk_cell BK203.out 0).trans rfl; have hcz39_1 : w38.cell? ⟨gb203, 1, none⟩ = some (.int .i64 t197) := (blk_cell BK203.out 1).trans rfl; have hcz39_2 : w38.cell? ⟨gb203, 2, none⟩ = some (.int .i64 t198) := (blk_cell BK203.out 2).trans rfl; have hcz39_3 : w38.cell? ⟨gb203, 3, none⟩ = some (.int .i64 t199) := (blk_cell BK203.out 3).trans rfl; have hcz39_4 : w38.cell? ⟨gb203, 4, none⟩ = some (.int .i64 t200) := (blk_cell BK203.out 4).trans rfl; have hcz39_5 : w38.cell? ⟨gb203, 5, none⟩ = some (.int .i64 t201) := (blk_cell BK203.out 5).trans rfl; have hcz39_6 : w38.cell? ⟨gb203, 6, none⟩ = some (.int .i64 t202) := (blk_cell BK203.out 6).trans rfl; have hfz39_0 := blk_frozen BK203.out 0; have hfz39_1 := blk_frozen BK203.out 1; have hfz39_2 := blk_frozen BK203.out 2; have hfz39_3 := blk_frozen BK203.out 3; have hfz39_4 := blk_frozen BK203.out 4; have hfz39_5 := blk_frozen BK203.out 5; have hfz39_6 := blk_frozen BK203.out 6) | ((with_reducible refine gate_callee (f := 25) rfl ?_); refine goesL_ (some 40) rfl rfl Try.func25 (by kernel_rfl) rfl #[.agg #[.bool t196, .int .i64 t197, .int .i64 t198, .int .i64 t199, .int .i64 t200, .int .i64 t201, .int .i64 t202], .agg #[.int .i64 0, .int .i64 0], .int .i64 1000000000] rfl (by (try simp only [List.map_toArray, List.map_cons, List.map_nil]); first | done | rfl | (simp only [List.length_drop, List.length_take]; rfl)) ?_; (with_reducible refine (guard_Listen.calls kj3 t196 t197 t198 t199 t200 t201 t202 0 0 1000000000 t217 t218 t219 _ A23.out).mono ?_); rintro e w40 ⟨rfl, hb⟩; refine ⟨_, rfl, ?_⟩; have n0_ := Aside0.mk (blk_below (g := gb203) (o := .cells #[.bool t196, .int .i64 t197, .int .i64 t198, .int .i64 t199, .int .i64 t200, .int .i64 t201, .int .i64 t202] 25 (0, 0)) (by (with_reducible repeat (first | refine blk_drewN ?_ _ | refine blk_drew ?_ | refine blk_alloc ?_ _)); exact BK203.out) hb); have n1_ := Aside0.mk (below_step (by repeat (first | (with_reducible first | exact HB.out | apply below_alloc | apply pw_below_drewN | apply below_drew1 | refine below_set ?_ GE203.out) | exact HB.out)) hb); clear BK203; clear HB; have BK203 := n0_; have HB := n1_; clear n0_ n1_; (try clear hb); (try clear hb2); (try clear hk); (try clear hi)) | ((with_reducible refine gate_dst (N := 7) rfl ?_); refine box_event ?hg (N := 7) ?hd (cs := #[.int .i64 0, .int .i64 0]) (t := 55) ?hr ?_; (case hd => rfl); (case hg => rfl); (case hr => first | (go_simp; done) | (go_simp; rfl)); intro gb220 hg w41 hbox hb; have n0_ := Aside0.mk (blk_below (g := gb203) (o := .cells #[.bool t196, .int .i64 t197, .int .i64 t198, .int .i64 t199, .int .i64 t200, .int .i64 t201, .int .i64 t202] 25 (0, 0)) (by (with_reducible repeat (first | refine blk_drewN ?_ _ | refine blk_drew ?_ | refine blk_alloc ?_ _)); exact BK203.out) hb); have n1_ := Aside0.mk (below_step (by repeat (first | (with_reducible first | exact HB.out | apply below_alloc | apply pw_below_drewN | apply below_drew1 | refine below_set ?_ GE203.out) | exact HB.out)) hb); have n2_ := Aside0.mk (hbox); have n3_ := Aside0.mk ((by rw [hg]; exact (below_size (by repeat (first | (with_reducible first | exact HB.out | apply below_alloc | apply pw_below_drewN | apply below_drew1 | refine below_set ?_ GE203.out) | exact HB.out))) : w.heap.size ≤ gb220)); have n4_ := Aside0.mk ((by rw [hg]; exact (below_size (by repeat (first | (with_reducible first | exact HB.out | apply below_alloc | apply pw_below_drewN | apply below_drew1 | refine below_set ?_ GE203.out) | exact HB.out))) : w.heap.size ≤ gb220)); have n5_ := Aside0.mk ((by rw [hg]; exact Nat.ne_of_lt (blk_lt (g := gb203) (o := .cells #[.bool t196, .int .i64 t197, .int .i64 t198, .int .i64 t199, .int .i64 t200, .int .i64 t201, .int .i64 t202] 25 (0, 0)) (by (with_reducible repeat (first | refine blk_drewN ?_ _ | refine blk_drew ?_ | refine blk_alloc ?_ _)); exact BK203.out)) : gb203 ≠ gb220)); have n6_ := Aside0.mk ((by rw [hg]; exact Nat.ne_of_gt (blk_lt (g := gb203) (o := .cells #[.bool t196, .int .i64 t197, .int .i64 t198, .int .i64 t199, .int .i64 t200, .int .i64 t201, .int .i64 t202] 25 (0, 0)) (by (with_reducible repeat (first | refine blk_drewN ?_ _ | refine blk_drew ?_ | refine blk_alloc ?_ _)); exact BK203.out)) : gb220 ≠ gb203)); clear BK203; clear HB; have BK203 := n0_; have HB := n1_; have BK220 := n2_; have GW220 := n3_; have GE220 := n4_; have NB203_220 := n5_; have NB220_203 := n6_; clear n0_ n1_ n2_ n3_ n4_ n5_ n6_; clear hb hbox hg; have hnb42 := NB220_203.out; have hnc42 := NB203_220.out; have hcz43_0 : w41.cell? ⟨gb220, 0, none⟩ = some (.int .i64 0) := (blk_cell BK220.out 0).trans rfl; have hcz43_1 : w41.cell? ⟨gb220, 1, none⟩ = some (.int .i64 0) := (blk_cell BK220.out 1).trans rfl; have hfz43_0 := blk_frozen BK220.out 0; have hfz43_1 := blk_frozen BK220.out 1) | ((with_reducible refine gate_dst (N := 9) rfl ?_); refine box_event ?hg (N := 9) ?hd (cs := #[.int .i64 0, .int .i64 0]) (t := 55) ?hr ?_; (case hd => rfl); (case hg => rfl); (case hr => first | (go_simp; done) | (go_simp; rfl)); intro gb221 hg w44 hbox hb; have n0_ := Aside0.mk (blk_below (g := gb203) (o := .cells #[.bool t196, .int .i64 t197, .int .i64 t198, .int .i64 t199, .int .i64 t200, .int .i64 t201, .int .i64 t202] 25 (0, 0)) (by (with_reducible repeat (first | refine blk_drewN ?_ _ | refine blk_drew ?_ | refine blk_alloc ?_ _)); refine blk_far ?_ NB203_220.out _; (with_reducible repeat (first | refine blk_drewN ?_ _ | refine blk_drew ?_ | refine blk_alloc ?_ _)); refine blk_far ?_ NB203_220.out _; (with_reducible repeat (first | refine blk_drewN ?_ _ | refine blk_drew ?_ | refine blk_alloc ?_ _)); exact BK203.out) hb); have n1_ := Aside0.mk (blk_below (g := gb220) (o := .cells #[.int .i64 t217, .int .i64 t218] 55 (0, 0)) (by (with_reducible repeat (first | refine blk_drewN ?_ _ | refine blk_drew ?_ | refine blk_alloc ?_ _)); refine blk_put (cs := #[.int .i64 t217, .int .i64 0]) ?_ 1 _ rfl; (with_reducible repeat (first | refine blk_drewN ?_ _ | refine blk_drew ?_ | refine blk_alloc ?_ _)); refine blk_put (cs := #[.int .i64 0, .int .i64 0]) ?_ 0 _ rfl; (with_reducible repeat (first | refine blk_drewN ?_ _ | refine blk_drew ?_ | refine blk_alloc ?_ _)); exact BK220.out) hb); have n2_ := Aside0.mk (below_step (by repeat (first | (with_reducible first | exact HB.out | apply below_alloc | apply pw_below_drewN | apply below_drew1 | refine below_set ?_ GE203.out | refine below_set ?_ GE220.out) | exact HB.out)) hb); have n3_ := Aside0.mk (hbox); have n4_ := Aside0.mk ((by rw [hg]; exact (below_size (by repeat (first | (with_reducible first | exact HB.out | apply below_alloc | apply pw_below_drewN | apply below_drew1 | refine below_set ?_ GE203.out | refine below_set ?_ GE220.out) | exact HB.out))) : w.heap.size ≤ gb221)); have n5_ := Aside0.mk ((by rw [hg]; exact (below_size (by repeat (first | (with_reducible first | exact HB.out | apply below_alloc | apply pw_below_drewN | apply below_drew1 | refine below_set ?_ GE203.out | refine below_set ?_ GE220.out) | exact HB.out))) : w.heap.size ≤ gb221)); have n6_ := Aside0.mk ((by rw [hg]; exact Nat.ne_of_lt (blk_lt (g := gb203) (o := .cells #[.bool t196, .int .i64 t197, .int .i64 t198, .int .i64 t199, .int .i64 t200, .int .i64 t201, .int .i64 t202] 25 (0, 0)) (by (with_reducible repeat (first | refine blk_drewN ?_ _ | refine blk_drew ?_ | refine blk_alloc ?_ _)); refine blk_far ?_ NB203_220.out _; (with_reducible repeat (first | refine blk_drewN ?_ _ | refine blk_drew ?_ | refine blk_alloc ?_ _)); refine blk_far ?_ NB203_220.out _; (with_reducible repeat (first | refine blk_drewN ?_ _ | refine blk_drew ?_ | refine blk_alloc ?_ _)); exact BK203.out)) : gb203 ≠ gb221)); have n7_ := Aside0.mk ((by rw [hg]; exact Nat.ne_of_gt (blk_lt (g := gb203) (o := .cells #[.bool t196, .int .i64 t197, .int .i64 t198, .int .i64 t199, .int .i64 t200, .int .i64 t201, .int .i64 t202] 25 (0, 0)) (by (with_reducible repeat (first | refine blk_drewN ?_ _ | refine blk_drew ?_ | refine blk_alloc ?_ _)); refine blk_far ?_ NB203_220.out _; (with_reducible repeat (first | refine blk_drewN ?_ _ | refine blk_drew ?_ | refine blk_alloc ?_ _)); refine blk_far ?_ NB203_220.out _; (with_reducible repeat (first | refine blk_drewN ?_ _ | refine blk_drew ?_ | refine blk_alloc ?_ _)); exact BK203.out)) : gb221 ≠ gb203)); have n8_ := Aside0.mk ((by rw [hg]; exact Nat.ne_of_lt (blk_lt (g := gb220) (o := .cells #[.int .i64 t217, .int .i64 t218] 55 (0, 0)) (by (with_reducible repeat (first | refine blk_drewN ?_ _ | refine blk_drew ?_ | refine blk_alloc ?_ _)); refine blk_put (cs := #[.int .i64 t217, .int .i64 0]) ?_ 1 _ rfl; (with_reducible repeat (first | refine blk_drewN ?_ _ | refine blk_drew ?_ | refine blk_alloc ?_ _)); refine blk_put (cs := #[.int .i64 0, .int .i64 0]) ?_ 0 _ rfl; (with_reducible repeat (first | refine blk_drewN ?_ _ | refine blk_drew ?_ | refine blk_alloc ?_ _)); exact BK220.out)) : gb220 ≠ gb221)); have n9_ := Aside0.mk ((by rw [hg]; exact Nat.ne_of_gt (blk_lt (g := gb220) (o := .cells #[.int .i64 t217, .int .i64 t218] 55 (0, 0)) (by (with_reducible repeat (first | refine blk_drewN ?_ _ | refine blk_drew ?_ | refine blk_alloc ?_ _)); refine blk_put (cs := #[.int .i64 t217, .int .i64 0]) ?_ 1 _ rfl; (with_reducible repeat (first | refine blk_drewN ?_ _ | refine blk_drew ?_ | refine blk_alloc ?_ _)); refine blk_put (cs := #[.int .i64 0, .int .i64 0]) ?_ 0 _ rfl; (with_reducible repeat (first | refine blk_drewN ?_ _ | refine blk_drew ?_ | refine blk_alloc ?_ _)); exact BK220.out)) : gb221 ≠ gb220)); clear BK203; clear BK220; clear HB; have BK203 := n0_; have BK220 := n1_; have HB := n2_; have BK221 := n3_; have GW221 := n4_; have GE221 := n5_; have NB203_221 := n6_; have NB221_203 := n7_; have NB220_221 := n8_; have NB221_220 := n9_; clear n0_ n1_ n2_ n3_ n4_ n5_ n6_ n7_ n8_ n9_; clear hb hbox hg; have hnb45 := NB221_203.out; have hnc45 := NB203_221.out; have hnb46 := NB221_220.out; have hnc46 := NB220_221.out; have hcz47_0 : w44.cell? ⟨gb221, 0, none⟩ = some (.int .i64 0) := (blk_cell BK221.out 0).trans rfl; have hcz47_1 : w44.cell? ⟨gb221, 1, none⟩ = some (.int .i64 0) := (blk_cell BK221.out 1).trans rfl; have hfz47_0 := blk_frozen BK221.out 0; have hfz47_1 := blk_frozen BK221.out 1) | (go_at_call 27; (with_reducible refine (guard_Catches.calls (-2) (-2) 3 true _ A28.out).mono ?_); rintro e w48 ⟨rfl, hb⟩; have n0_ := Aside0.mk (blk_below (g := gb203) (o := .cells #[.bool t196, .int .i64 t197, .int .i64 t198, .int .i64 t199, .int .i64 t200, .int .i64 t201, .int .i64 t202] 25 (0, 0)) (by (with_reducible repeat (first | refine blk_drewN ?_ _ | refine blk_drew ?_ | refine blk_alloc ?_ _)); refine blk_far ?_ NB203_221.out _; (with_reducible repeat (first | refine blk_drewN ?_ _ | refine blk_drew ?_ | refine blk_alloc ?_ _)); refine blk_far ?_ NB203_221.out _; (with_reducible repeat (first | refine blk_drewN ?_ _ | refine blk_drew ?_ | refine blk_alloc ?_ _)); exact BK203.out) hb); have n1_ := Aside0.mk (blk_below (g := gb220) (o := .cells #[.int .i64 t217, .int .i64 t218] 55 (0, 0)) (by (with_reducible repeat (first | refine blk_drewN ?_ _ | refine blk_drew ?_ | refine blk_alloc ?_ _)); refine blk_far ?_ NB220_221.out _; (with_reducible repeat (first | refine blk_drewN ?_ _ | refine blk_drew ?_ | refine blk_alloc ?_ _)); refine blk_far ?_ NB220_221.out _; (with_reducible repeat (first | refine blk_drewN ?_ _ | refine blk_drew ?_ | refine blk_alloc ?_ _)); exact BK220.out) hb); have n2_ := Aside0.mk (blk_below (g := gb221) (o := .cells #[.int .i64 (-2), .int .i64 3] 55 (0, 0)) (by (with_reducible repeat (first | refine blk_drewN ?_ _ | refine blk_drew ?_ | refine blk_alloc ?_ _)); refine blk_put (cs := #[.int .i64 (-2), .int .i64 0]) ?_ 1 _ rfl; (with_reducible repeat (first | refine blk_drewN ?_ _ | refine blk_drew ?_ | refine blk_alloc ?_ _)); refine blk_put (cs := #[.int .i64 0, .int .i64 0]) ?_ 0 _ rfl; (with_reducible repeat (first | refine blk_drewN ?_ _ | refine blk_drew ?_ | refine blk_alloc ?_ _)); exact BK221.out) hb); have n3_ := Aside0.mk (below_step (by repeat (first | (with_reducible first | exact HB.out | apply below_alloc | apply pw_below_drewN | apply below_drew1 | refine below_set ?_ GE203.out | refine below_set ?_ GE220.out | refine below_set ?_ GE221.out) | exact HB.out)) hb); clear BK203; clear BK220; clear BK221; clear HB; have BK203 := n0_; have BK220 := n1_; have BK221 := n2_; have HB := n3_; clear n0_ n1_ n2_ n3_; (try clear hb); (try clear hb2); (try clear hk); (try clear hi); have hcz49_0 : w48.cell? ⟨gb221, 0, none⟩ = some (.int .i64 (-2)) := (blk_cell BK221.out 0).trans rfl; have hcz49_1 : w48.cell? ⟨gb221, 1, none⟩ = some (.int .i64 3) := (blk_cell BK221.out 1).trans rfl; have hfz49_0 := blk_frozen BK221.out 0; have hfz49_1 := blk_frozen BK221.out 1) | (go_at_call 27; (with_reducible refine (guard_Catches.calls 3 (-2) 3 true _ A30.out).mono ?_); rintro e w50 ⟨rfl, hb⟩; have n0_ := Aside0.mk (blk_below (g := gb203) (o := .cells #[.bool t196, .int .i64 t197, .int .i64 t198, .int .i64 t199, .int .i64 t200, .int .i64 t201, .int .i64 t202] 25 (0, 0)) (by (with_reducible repeat (first | refine blk_drewN ?_ _ | refine blk_drew ?_ | refine blk_alloc ?_ _)); exact BK203.out) hb); have n1_ := Aside0.mk (blk_below (g := gb220) (o := .cells #[.int .i64 t217, .int .i64 t218] 55 (0, 0)) (by (with_reducible repeat (first | refine blk_drewN ?_ _ | refine blk_drew ?_ | refine blk_alloc ?_ _)); exact BK220.out) hb); have n2_ := Aside0.mk (blk_below (g := gb221) (o := .cells #[.int .i64 (-2), .int .i64 3] 55 (0, 0)) (by (with_reducible repeat (first | refine blk_drewN ?_ _ | refine blk_drew ?_ | refine blk_alloc ?_ _)); exact BK221.out) hb); have n3_ := Aside0.mk (below_step (by repeat (first | (with_reducible first | exact HB.out | apply below_alloc | apply pw_below_drewN | apply below_drew1 | refine below_set ?_ GE203.out | refine below_set ?_ GE220.out | refine below_set ?_ GE221.out) | exact HB.out)) hb); clear BK203; clear BK220; clear BK221; clear HB; have BK203 := n0_; have BK220 := n1_; have BK221 := n2_; have HB := n3_; clear n0_ n1_ n2_ n3_; (try clear hb); (try clear hb2); (try clear hk); (try clear hi); have hcz51_0 : w50.cell? ⟨gb221, 0, none⟩ = some (.int .i64 (-2)) := (blk_cell BK221.out 0).trans rfl; have hcz51_1 : w50.cell? ⟨gb221, 1, none⟩ = some (.int .i64 3) := (blk_cell BK221.out 1).trans rfl; have hfz51_0 := blk_frozen BK221.out 0; have hfz51_1 := blk_frozen BK221.out 1) | (go_at_call 27; (with_reducible refine (guard_Catches.calls 4 (-2) 3 false _ A32.out).mono ?_); rintro e w52 ⟨rfl, hb⟩; have n0_ := Aside0.mk (blk_below (g := gb203) (o := .cells #[.bool t196, .int .i64 t197, .int .i64 t198, .int .i64 t199, .int .i64 t200, .int .i64 t201, .int .i64 t202] 25 (0, 0)) (by (with_reducible repeat (first | refine blk_drewN ?_ _ | refine blk_drew ?_ | refine blk_alloc ?_ _)); exact BK203.out) hb); have n1_ := Aside0.mk (blk_below (g := gb220) (o := .cells #[.int .i64 t217, .int .i64 t218] 55 (0, 0)) (by (with_reducible repeat (first | refine blk_drewN ?_ _ | refine blk_drew ?_ | refine blk_alloc ?_ _)); exact BK220.out) hb); have n2_ := Aside0.mk (blk_below (g := gb221) (o := .cells #[.int .i64 (-2), .int .i64 3] 55 (0, 0)) (by (with_reducible repeat (first | refine blk_drewN ?_ _ | refine blk_drew ?_ | refine blk_alloc ?_ _)); exact BK221.out) hb); have n3_ := Aside0.mk (below_step (by repeat (first | (with_reducible first | exact HB.out | apply below_alloc | apply pw_below_drewN | apply below_drew1 | refine below_set ?_ GE203.out | refine below_set ?_ GE220.out | refine below_set ?_ GE221.out) | exact HB.out)) hb); clear BK203; clear BK220; clear BK221; clear HB; have BK203 := n0_; have BK220 := n1_; have BK221 := n2_; have HB := n3_; clear n0_ n1_ n2_ n3_; (try clear hb); (try clear hb2); (try clear hk); (try clear hi); have hcz53_0 : w52.cell? ⟨gb221, 0, none⟩ = some (.int .i64 (-2)) := (blk_cell BK221.out 0).trans rfl; have hcz53_1 : w52.cell? ⟨gb221, 1, none⟩ = some (.int .i64 3) := (blk_cell BK221.out 1).trans rfl; have hfz53_0 := blk_frozen BK221.out 0; have hfz53_1 := blk_frozen BK221.out 1) | (go_at_call 27; (with_reducible refine (guard_Catches.calls (-3) (-2) 3 t225 _ A34.out).mono ?_); rintro e w54 ⟨rfl, hb⟩; have n0_ := Aside0.mk (blk_below (g := gb203) (o := .cells #[.bool t196, .int .i64 t197, .int .i64 t198, .int .i64 t199, .int .i64 t200, .int .i64 t201, .int .i64 t202] 25 (0, 0)) (by (with_reducible repeat (first | refine blk_drewN ?_ _ | refine blk_drew ?_ | refine blk_alloc ?_ _)); exact BK203.out) hb); have n1_ := Aside0.mk (blk_below (g := gb220) (o := .cells #[.int .i64 t217, .int .i64 t218] 55 (0, 0)) (by (with_reducible repeat (first | refine blk_drewN ?_ _ | refine blk_drew ?_ | refine blk_alloc ?_ _)); exact BK220.out) hb); have n2_ := Aside0.mk (blk_below (g := gb221) (o := .cells #[.int .i64 (-2), .int .i64 3] 55 (0, 0)) (by (with_reducible repeat (first | refine blk_drewN ?_ _ | refine blk_drew ?_ | refine blk_alloc ?_ _)); exact BK221.out) hb); have n3_ := Aside0.mk (below_step (by repeat (first | (with_reducible first | exact HB.out | apply below_alloc | apply pw_below_drewN | apply below_drew1 | refine below_set ?_ GE203.out | refine below_set ?_ GE220.out | refine below_set ?_ GE221.out) | exact HB.out)) hb); clear BK203; clear BK220; clear BK221; clear HB; have BK203 := n0_; have BK220 := n1_; have BK221 := n2_; have HB := n3_; clear n0_ n1_ n2_ n3_; (try clear hb); (try clear hb2); (try clear hk); (try clear hi)))
                    go_ret
                    exact ⟨by first | rfl | (simp [errW_none, errW_some] <;> rfl) | (simp [*, errW_none, errW_some] <;> rfl), by repeat (first | (with_reducible first | exact HB.out | apply below_alloc | apply pw_below_drewN | apply below_drew1 | refine below_set ?_ GE203.out | refine below_set ?_ GE220.out | refine below_set ?_ GE221.out) | exact HB.out)⟩
                · replace c31 := Bool.eq_false_iff.mpr c31
                  subst c31
                  have H1 : (none) = some r := by rw [if_neg (show ¬ (false = true) by decide)] at H; exact H
                  clear H
                  have H := H1
                  clear H1
                  exact absurd H (by simp)
              · replace c29 := Bool.eq_false_iff.mpr c29
                subst c29
                have H1 : (none) = some r := by rw [if_neg (show ¬ (false = true) by decide)] at H; exact H
                clear H
                have H := H1
                clear H1
                exact absurd H (by simp)
            · rw [if_neg c27] at H
              exact absurd H (by simp)
          · rw [if_neg c26] at H
            exact absurd H (by simp)
        · rw [if_neg c25] at H
          exact absurd H (by simp)
      · replace c24 := Bool.eq_false_iff.mpr c24
        subst c24
        have H1 : (none) = some r := by rw [if_neg (show ¬ (false = true) by decide)] at H; exact H
        clear H
        have H := H1
        clear H1
        exact absurd H (by simp)
end Go.Proofs.Ytdpihbhkghjclaa.P
end
section
/- The examples of layer 10 hold. Conditions: none. -/
namespace Go.Proofs.Ytdpihbhkghjclaa.P
open Go.RowKit Go.Proofs.YtdpihbhkghjclaaW.PrintWords Go.Proofs.YtdpihbhkghjclaaW.PrintLast Go.Proofs.YtdpihbhkghjclaaW.PrintMore
set_option linter.unusedVariables false
set_option linter.unusedSimpArgs false
theorem ghead : slotmeshlaw10_head.f 60 = some true := by kernel_rfl
end Go.Proofs.Ytdpihbhkghjclaa.P
end
