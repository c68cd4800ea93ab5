/- The Go functions of this claim as Lean functions, and the proofs that their calls answer so: written by wip/myprint.py over the kit's printer, hand-proved contracts laid in. Conditions: none. -/
import Derived.Test.YtjmpgefhdafmfaaPx0
import Derived.Test.YtjmpgefhdafmfaaPx1
import Derived.Test.YtjmpgefhdafmfaaPx5
import Derived.Test.YtjmpgefhdafmfaaPx6
import Derived.Test.YtjmpgefhdafmfaaPx11
import Derived.Test.YtjmpgefhdafmfaaPx20
namespace Go.Proofs.Ytjmpgefhdafmfaa.P
open Go.RowKit Go.Proofs.YtjmpgefhdafmfaaW.PrintWords Go.Proofs.YtjmpgefhdafmfaaW.PrintLast Go.Proofs.YtjmpgefhdafmfaaW.PrintMore
attribute [local go_sem] max2_int min2_int max_two min_two max_three min_three max_four min_four   -- for this text's walks alone
set_option linter.unusedVariables false
set_option linter.unusedSimpArgs false

attribute [local go_sem high] eqA23
/-! ### slotmeshlaw08_BoundOrder: function 4 -/
mutual
def slotmeshlaw08_BoundOrder.j0 : Nat → Bool → Int → Int → Bool → Int → Int → Int → Int → Int → Int → Int → Int → Int → Option (Bool)
  | 0, _, _, _, _, _, _, _, _, _, _, _, _, _ => none
  | k + 1, x5, x7, x9, x30, x200000, x200001, x200002, x201000, x201001, x201002, x207000, x207001, x207002 => if x30 = true then (none) else (if x7 = 0 then (if x200002 < x201002 then ((bound_Grow.f k x200000 x200001 x200002 x201002).bind fun bt212 => (slotmeshlaw08_BoundOrder.j1 k x5 bt212.2.2.2 x9 bt212.1 bt212.2.1 bt212.2.2.1 x201000 x201001 x201002 x207000 x207001 x207002)) else (if x201002 < x200002 then ((bound_Grow.f k x201000 x201001 x201002 x200002).bind fun bt216 => (slotmeshlaw08_BoundOrder.j1 k x5 bt216.2.2.2 x9 x200000 x200001 x200002 bt216.1 bt216.2.1 bt216.2.2.1 x207000 x207001 x207002)) else ((bound_Grow.f k x200000 x200001 x200002 x200002).bind fun bt220 => ((bound_Grow.f k x201000 x201001 x201002 x201002).bind fun bt224 => (slotmeshlaw08_BoundOrder.j1 k x5 bt220.2.2.2 bt224.2.2.2 bt220.1 bt220.2.1 bt220.2.2.1 bt224.1 bt224.2.1 bt224.2.2.1 x207000 x207001 x207002))))) else (if x5 = true then (some (x207000 == 0 && (x207001 == 0 && (x207002 == 0)))) else (none)))
def slotmeshlaw08_BoundOrder.j1 : Nat → Bool → Int → Int → Int → Int → Int → Int → Int → Int → Int → Int → Int → Option (Bool)
  | 0, _, _, _, _, _, _, _, _, _, _, _, _ => none
  | k + 1, x5, x7, x9, x200000, x200001, x200002, x201000, x201001, x201002, x207000, x207001, x207002 => if x5 = true then (if x7 = 0 then (if x9 = 0 then ((slotmeshlaw08_inside.f x207000 x207001 x207002 x200000 x200001 x200002).bind fun t228 => (if t228 = true then ((slotmeshlaw08_inside.f x207000 x207001 x207002 x201000 x201001 x201002).bind fun t229 => (if t229 = true then (if x207000 = x200000 then (if x207001 = x200001 then (some true) else (some (x207001 == x201001))) else (if x207000 = x201000 then (if x207001 = x200001 then (some true) else (some (x207001 == x201001))) else (none))) else (none))) else (none))) else (none)) else (none)) else (none)
end
def slotmeshlaw08_BoundOrder.f (k : Nat) (a0_0 : Int) (a0_1 : Int) (a0_2 : Int) (a1_0 : Int) (a1_1 : Int) (a1_2 : Int) : Option (Bool) := (slotmeshlaw08_head.f).bind fun t201 => ((bound_Meet.f k a0_0 a0_1 a0_2 a1_0 a1_1 a1_2).bind fun bt202 => ((bound_Meet.f k a1_0 a1_1 a1_2 a0_0 a0_1 a0_2).bind fun bt207 => (if (!(bt202.1 == bt207.1) || (!(bt202.2.1 == bt207.2.1) || (!(bt202.2.2.1 == bt207.2.2.1)))) = true then (slotmeshlaw08_BoundOrder.j0 k t201 bt202.2.2.2 bt207.2.2.2 true a0_0 a0_1 a0_2 a1_0 a1_1 a1_2 bt202.1 bt202.2.1 bt202.2.2.1) else (slotmeshlaw08_BoundOrder.j0 k t201 bt202.2.2.2 bt207.2.2.2 (bt202.2.2.2 != bt207.2.2.2) a0_0 a0_1 a0_2 a1_0 a1_1 a1_2 bt202.1 bt202.2.1 bt202.2.2.1))))
theorem slotmeshlaw08_BoundOrder.mono_l : ∀ k, (∀ y0 y1 y2 y3 y4 y5 y6 y7 y8 y9 y10 y11 y12, LeO (slotmeshlaw08_BoundOrder.j0 k y0 y1 y2 y3 y4 y5 y6 y7 y8 y9 y10 y11 y12) (slotmeshlaw08_BoundOrder.j0 (k + 1) y0 y1 y2 y3 y4 y5 y6 y7 y8 y9 y10 y11 y12)) ∧ (∀ y0 y1 y2 y3 y4 y5 y6 y7 y8 y9 y10 y11, LeO (slotmeshlaw08_BoundOrder.j1 k y0 y1 y2 y3 y4 y5 y6 y7 y8 y9 y10 y11) (slotmeshlaw08_BoundOrder.j1 (k + 1) y0 y1 y2 y3 y4 y5 y6 y7 y8 y9 y10 y11))
  | 0 => ⟨fun _ _ _ _ _ _ _ _ _ _ _ _ _ r h => by simp [slotmeshlaw08_BoundOrder.j0] at h, fun _ _ _ _ _ _ _ _ _ _ _ _ r h => by simp [slotmeshlaw08_BoundOrder.j1] at h⟩
  | k + 1 => by
    obtain ⟨ih0, ih1⟩ := slotmeshlaw08_BoundOrder.mono_l k
    refine ⟨?_, ?_⟩
    · intro y0 y1 y2 y3 y4 y5 y6 y7 y8 y9 y10 y11 y12
      unfold slotmeshlaw08_BoundOrder.j0
      repeat' first
      | (with_reducible exact ih0 _ _ _ _ _ _ _ _ _ _ _ _ _)
      | (with_reducible exact ih1 _ _ _ _ _ _ _ _ _ _ _ _)
      | (with_reducible exact bound_Grow.mono _ _ _ _ _)
      | (with_reducible exact bound_Meet.mono _ _ _ _ _ _ _)
      | (with_reducible exact LeO.refl _)
      | (with_reducible exact LeO.none _)
      | (with_reducible refine LeO.ite ?_ ?_)
      | (with_reducible refine LeO.bind ?_ (fun _ => ?_))
      | exact ih0 _ _ _ _ _ _ _ _ _ _ _ _ _
      | exact ih1 _ _ _ _ _ _ _ _ _ _ _ _
      | exact bound_Grow.mono _ _ _ _ _
      | exact bound_Meet.mono _ _ _ _ _ _ _
      | exact LeO.none _
      | refine LeO.ite ?_ ?_
      | refine LeO.bind ?_ (fun _ => ?_)
    · intro y0 y1 y2 y3 y4 y5 y6 y7 y8 y9 y10 y11
      unfold slotmeshlaw08_BoundOrder.j1
      repeat' first
      | (with_reducible exact ih0 _ _ _ _ _ _ _ _ _ _ _ _ _)
      | (with_reducible exact ih1 _ _ _ _ _ _ _ _ _ _ _ _)
      | (with_reducible exact bound_Grow.mono _ _ _ _ _)
      | (with_reducible exact bound_Meet.mono _ _ _ _ _ _ _)
      | (with_reducible exact LeO.refl _)
      | (with_reducible exact LeO.none _)
      | (with_reducible refine LeO.ite ?_ ?_)
      | (with_reducible refine LeO.bind ?_ (fun _ => ?_))
      | exact ih0 _ _ _ _ _ _ _ _ _ _ _ _ _
      | exact ih1 _ _ _ _ _ _ _ _ _ _ _ _
      | exact bound_Grow.mono _ _ _ _ _
      | exact bound_Meet.mono _ _ _ _ _ _ _
      | exact LeO.none _
      | refine LeO.ite ?_ ?_
      | refine LeO.bind ?_ (fun _ => ?_)
theorem slotmeshlaw08_BoundOrder.mono : ∀ a0 a1 a2 a3 a4 a5 k, LeO (slotmeshlaw08_BoundOrder.f k a0 a1 a2 a3 a4 a5) (slotmeshlaw08_BoundOrder.f (k + 1) a0 a1 a2 a3 a4 a5) := by
  intro a0 a1 a2 a3 a4 a5 k
  obtain ⟨ih0, ih1⟩ := slotmeshlaw08_BoundOrder.mono_l k
  unfold slotmeshlaw08_BoundOrder.f
  repeat' first
      | (with_reducible exact ih0 _ _ _ _ _ _ _ _ _ _ _ _ _)
      | (with_reducible exact ih1 _ _ _ _ _ _ _ _ _ _ _ _)
      | (with_reducible exact bound_Grow.mono _ _ _ _ _)
      | (with_reducible exact bound_Meet.mono _ _ _ _ _ _ _)
      | (with_reducible exact LeO.refl _)
      | (with_reducible exact LeO.none _)
      | (with_reducible refine LeO.ite ?_ ?_)
      | (with_reducible refine LeO.bind ?_ (fun _ => ?_))
      | exact ih0 _ _ _ _ _ _ _ _ _ _ _ _ _
      | exact ih1 _ _ _ _ _ _ _ _ _ _ _ _
      | exact bound_Grow.mono _ _ _ _ _
      | exact bound_Meet.mono _ _ _ _ _ _ _
      | exact LeO.none _
      | refine LeO.ite ?_ ?_
      | refine LeO.bind ?_ (fun _ => ?_)
set_option maxHeartbeats 8000000 in
set_option maxRecDepth 100000 in
theorem slotmeshlaw08_BoundOrder.calls (k : Nat) (a0_0 : Int) (a0_1 : Int) (a0_2 : Int) (a1_0 : Int) (a1_1 : Int) (a1_2 : Int) (r : Bool) (w : World) (h : slotmeshlaw08_BoundOrder.f k a0_0 a0_1 a0_2 a1_0 a1_1 a1_2 = some r) :
    Calls Try.prog 4 #[.agg #[.int .i64 a0_0, .int .i64 a0_1, .int .i64 a0_2], .agg #[.int .i64 a1_0, .int .i64 a1_1, .int .i64 a1_2]] w fun e w' => e = .returned (.bool r) ∧ Below w.heap.size w w' := by
  have hu23 := Try.underlying23
  have HB := Aside0.mk (Below.refl w.heap.size w)
  have H : ((slotmeshlaw08_head.f).bind fun t201 => ((bound_Meet.f k a0_0 a0_1 a0_2 a1_0 a1_1 a1_2).bind fun bt202 => ((bound_Meet.f k a1_0 a1_1 a1_2 a0_0 a0_1 a0_2).bind fun bt207 => (if (!(bt202.1 == bt207.1) || (!(bt202.2.1 == bt207.2.1) || (!(bt202.2.2.1 == bt207.2.2.1)))) = true then (slotmeshlaw08_BoundOrder.j0 k t201 bt202.2.2.2 bt207.2.2.2 true a0_0 a0_1 a0_2 a1_0 a1_1 a1_2 bt202.1 bt202.2.1 bt202.2.2.1) else (slotmeshlaw08_BoundOrder.j0 k t201 bt202.2.2.2 bt207.2.2.2 (bt202.2.2.2 != bt207.2.2.2) a0_0 a0_1 a0_2 a1_0 a1_1 a1_2 bt202.1 bt202.2.1 bt202.2.2.1))))) = some r := h
  clear h
  replace H := Option.bind_eq_some_iff.mp H
  obtain ⟨t201, A30, H⟩ := H
  replace H : ((bound_Meet.f k a0_0 a0_1 a0_2 a1_0 a1_1 a1_2).bind fun bt202 => ((bound_Meet.f k a1_0 a1_1 a1_2 a0_0 a0_1 a0_2).bind fun bt207 => (if (!(bt202.1 == bt207.1) || (!(bt202.2.1 == bt207.2.1) || (!(bt202.2.2.1 == bt207.2.2.1)))) = true then (slotmeshlaw08_BoundOrder.j0 k t201 bt202.2.2.2 bt207.2.2.2 true a0_0 a0_1 a0_2 a1_0 a1_1 a1_2 bt202.1 bt202.2.1 bt202.2.2.1) else (slotmeshlaw08_BoundOrder.j0 k t201 bt202.2.2.2 bt207.2.2.2 (bt202.2.2.2 != bt207.2.2.2) a0_0 a0_1 a0_2 a1_0 a1_1 a1_2 bt202.1 bt202.2.1 bt202.2.2.1)))) = some r := H
  have A3 := Aside0.mk A30
  clear A30
  replace H := Option.bind_eq_some_iff.mp H
  obtain ⟨⟨t202, t203, t204, t205⟩, A40, H⟩ := H
  replace H : ((bound_Meet.f k a1_0 a1_1 a1_2 a0_0 a0_1 a0_2).bind fun bt207 => (if (!(t202 == bt207.1) || (!(t203 == bt207.2.1) || (!(t204 == bt207.2.2.1)))) = true then (slotmeshlaw08_BoundOrder.j0 k t201 t205 bt207.2.2.2 true a0_0 a0_1 a0_2 a1_0 a1_1 a1_2 t202 t203 t204) else (slotmeshlaw08_BoundOrder.j0 k t201 t205 bt207.2.2.2 (t205 != bt207.2.2.2) a0_0 a0_1 a0_2 a1_0 a1_1 a1_2 t202 t203 t204))) = some r := H
  have A4 := Aside0.mk A40
  clear A40
  replace H := Option.bind_eq_some_iff.mp H
  obtain ⟨⟨t207, t208, t209, t210⟩, A50, H⟩ := H
  replace H : (if (!(t202 == t207) || (!(t203 == t208) || (!(t204 == t209)))) = true then (slotmeshlaw08_BoundOrder.j0 k t201 t205 t210 true a0_0 a0_1 a0_2 a1_0 a1_1 a1_2 t202 t203 t204) else (slotmeshlaw08_BoundOrder.j0 k t201 t205 t210 (t205 != t210) a0_0 a0_1 a0_2 a1_0 a1_1 a1_2 t202 t203 t204)) = some r := H
  have A5 := Aside0.mk A50
  clear A50
  have HC6 := Aside0.mk H
  clear H
  go_enter Try.func4, Try.ntmps4
  go_upto_region 4 with (first | ((with_reducible refine gate_dst (N := 2) rfl ?_); refine box_event ?hg (N := 2) ?hd (cs := #[.int .i64 a0_0, .int .i64 a0_1, .int .i64 a0_2]) (t := 23) ?hr ?_; (case hd => rfl); (case hg => rfl); (case hr => first | (go_simp; done) | (go_simp; rfl)); intro gb199 hg w7 hbox hb; have n0_ := Aside0.mk (below_step (by repeat (first | (with_reducible first | exact HB.out | apply below_alloc | apply pw_below_drewN | apply below_drew1) | exact HB.out)) hb); have n1_ := Aside0.mk (hbox); have n2_ := Aside0.mk ((by rw [hg]; exact (below_size (by repeat (first | (with_reducible first | exact HB.out | apply below_alloc | apply pw_below_drewN | apply below_drew1) | exact HB.out))) : w.heap.size ≤ gb199)); have n3_ := Aside0.mk ((by rw [hg]; exact (below_size (by repeat (first | (with_reducible first | exact HB.out | apply below_alloc | apply pw_below_drewN | apply below_drew1) | exact HB.out))) : w.heap.size ≤ gb199)); clear HB; have HB := n0_; have BK199 := n1_; have GW199 := n2_; have GE199 := n3_; clear n0_ n1_ n2_ n3_; clear hb hbox hg) | ((with_reducible refine gate_dst (N := 3) rfl ?_); refine box_event ?hg (N := 3) ?hd (cs := #[.int .i64 a1_0, .int .i64 a1_1, .int .i64 a1_2]) (t := 23) ?hr ?_; (case hd => rfl); (case hg => rfl); (case hr => first | (go_simp; done) | (go_simp; rfl)); intro gb200 hg w8 hbox hb; have n0_ := Aside0.mk (blk_below (g := gb199) (o := .cells #[.int .i64 a0_0, .int .i64 a0_1, .int .i64 a0_2] 23 (0, 0)) (by (with_reducible repeat (first | refine blk_drewN ?_ _ | refine blk_drew ?_ | refine blk_alloc ?_ _)); exact BK199.out) hb); have n1_ := Aside0.mk (below_step (by repeat (first | (with_reducible first | exact HB.out | apply below_alloc | apply pw_below_drewN | apply below_drew1 | refine below_set ?_ GE199.out) | exact HB.out)) hb); have n2_ := Aside0.mk (hbox); have n3_ := Aside0.mk ((by rw [hg]; exact (below_size (by repeat (first | (with_reducible first | exact HB.out | apply below_alloc | apply pw_below_drewN | apply below_drew1 | refine below_set ?_ GE199.out) | exact HB.out))) : w.heap.size ≤ gb200)); have n4_ := Aside0.mk ((by rw [hg]; exact (below_size (by repeat (first | (with_reducible first | exact HB.out | apply below_alloc | apply pw_below_drewN | apply below_drew1 | refine below_set ?_ GE199.out) | exact HB.out))) : w.heap.size ≤ gb200)); have n5_ := Aside0.mk ((by rw [hg]; exact Nat.ne_of_lt (blk_lt (g := gb199) (o := .cells #[.int .i64 a0_0, .int .i64 a0_1, .int .i64 a0_2] 23 (0, 0)) (by (with_reducible repeat (first | refine blk_drewN ?_ _ | refine blk_drew ?_ | refine blk_alloc ?_ _)); exact BK199.out)) : gb199 ≠ gb200)); have n6_ := Aside0.mk ((by rw [hg]; exact Nat.ne_of_gt (blk_lt (g := gb199) (o := .cells #[.int .i64 a0_0, .int .i64 a0_1, .int .i64 a0_2] 23 (0, 0)) (by (with_reducible repeat (first | refine blk_drewN ?_ _ | refine blk_drew ?_ | refine blk_alloc ?_ _)); exact BK199.out)) : gb200 ≠ gb199)); clear BK199; clear HB; have BK199 := n0_; have HB := n1_; have BK200 := n2_; have GW200 := n3_; have GE200 := n4_; have NB199_200 := n5_; have NB200_199 := n6_; clear n0_ n1_ n2_ n3_ n4_ n5_ n6_; clear hb hbox hg) | ((with_reducible refine gate_callee (f := 11) rfl ?_); refine goesL_ (some 10) rfl rfl Try.func11 (by kernel_rfl) rfl #[] rfl (by (try simp only [List.map_toArray, List.map_cons, List.map_nil]); first | done | rfl | (simp only [List.length_drop, List.length_take]; rfl)) ?_; (with_reducible refine (slotmeshlaw08_head.calls  t201 _ A3.out).mono ?_); rintro e w9 ⟨rfl, hb⟩; refine ⟨_, rfl, ?_⟩; have n0_ := Aside0.mk (blk_below (g := gb199) (o := .cells #[.int .i64 a0_0, .int .i64 a0_1, .int .i64 a0_2] 23 (0, 0)) (by (with_reducible repeat (first | refine blk_drewN ?_ _ | refine blk_drew ?_ | refine blk_alloc ?_ _)); exact BK199.out) hb); have n1_ := Aside0.mk (blk_below (g := gb200) (o := .cells #[.int .i64 a1_0, .int .i64 a1_1, .int .i64 a1_2] 23 (0, 0)) (by (with_reducible repeat (first | refine blk_drewN ?_ _ | refine blk_drew ?_ | refine blk_alloc ?_ _)); exact BK200.out) hb); have n2_ := Aside0.mk (below_step (by repeat (first | (with_reducible first | exact HB.out | apply below_alloc | apply pw_below_drewN | apply below_drew1 | refine below_set ?_ GE199.out | refine below_set ?_ GE200.out) | exact HB.out)) hb); clear BK199; clear BK200; clear HB; have BK199 := n0_; have BK200 := n1_; have HB := n2_; clear n0_ n1_ n2_; (try clear hb); (try clear hb2); (try clear hk); (try clear hi); have hnb10 := NB199_200.out; have hnc10 := NB200_199.out; have hcz11_0 : w9.cell? ⟨gb199, 0, none⟩ = some (.int .i64 a0_0) := (blk_cell BK199.out 0).trans rfl; have hcz11_1 : w9.cell? ⟨gb199, 1, none⟩ = some (.int .i64 a0_1) := (blk_cell BK199.out 1).trans rfl; have hcz11_2 : w9.cell? ⟨gb199, 2, none⟩ = some (.int .i64 a0_2) := (blk_cell BK199.out 2).trans rfl; have hfz11_0 := blk_frozen BK199.out 0; have hfz11_1 := blk_frozen BK199.out 1; have hfz11_2 := blk_frozen BK199.out 2; have hcz12_0 : w9.cell? ⟨gb200, 0, none⟩ = some (.int .i64 a1_0) := (blk_cell BK200.out 0).trans rfl; have hcz12_1 : w9.cell? ⟨gb200, 1, none⟩ = some (.int .i64 a1_1) := (blk_cell BK200.out 1).trans rfl; have hcz12_2 : w9.cell? ⟨gb200, 2, none⟩ = some (.int .i64 a1_2) := (blk_cell BK200.out 2).trans rfl; have hfz12_0 := blk_frozen BK200.out 0; have hfz12_1 := blk_frozen BK200.out 1; have hfz12_2 := blk_frozen BK200.out 2) | ((with_reducible refine gate_callee (f := 14) rfl ?_); refine goesL_ (some 14) rfl rfl Try.func14 (by kernel_rfl) rfl #[.agg #[.int .i64 a0_0, .int .i64 a0_1, .int .i64 a0_2], .agg #[.int .i64 a1_0, .int .i64 a1_1, .int .i64 a1_2]] rfl (by (try simp only [List.map_toArray, List.map_cons, List.map_nil]); first | done | rfl | (simp only [List.length_drop, List.length_take]; rfl)) ?_; (with_reducible refine (bound_Meet.calls k a0_0 a0_1 a0_2 a1_0 a1_1 a1_2 t202 t203 t204 t205 _ A4.out).mono ?_); rintro e w13 ⟨rfl, hb⟩; refine ⟨_, rfl, ?_⟩; have n0_ := Aside0.mk (blk_below (g := gb199) (o := .cells #[.int .i64 a0_0, .int .i64 a0_1, .int .i64 a0_2] 23 (0, 0)) (by (with_reducible repeat (first | refine blk_drewN ?_ _ | refine blk_drew ?_ | refine blk_alloc ?_ _)); exact BK199.out) hb); have n1_ := Aside0.mk (blk_below (g := gb200) (o := .cells #[.int .i64 a1_0, .int .i64 a1_1, .int .i64 a1_2] 23 (0, 0)) (by (with_reducible repeat (first | refine blk_drewN ?_ _ | refine blk_drew ?_ | refine blk_alloc ?_ _)); exact BK200.out) hb); have n2_ := Aside0.mk (below_step (by repeat (first | (with_reducible first | exact HB.out | apply below_alloc | apply pw_below_drewN | apply below_drew1 | refine below_set ?_ GE199.out | refine below_set ?_ GE200.out) | exact HB.out)) hb); clear BK199; clear BK200; clear HB; have BK199 := n0_; have BK200 := n1_; have HB := n2_; clear n0_ n1_ n2_; (try clear hb); (try clear hb2); (try clear hk); (try clear hi)) | ((with_reducible refine gate_dst (N := 6) rfl ?_); refine box_event ?hg (N := 6) ?hd (cs := #[.int .i64 0, .int .i64 0, .int .i64 0]) (t := 23) ?hr ?_; (case hd => rfl); (case hg => rfl); (case hr => first | (go_simp; done) | (go_simp; rfl)); intro gb206 hg w14 hbox hb; have n0_ := Aside0.mk (blk_below (g := gb199) (o := .cells #[.int .i64 a0_0, .int .i64 a0_1, .int .i64 a0_2] 23 (0, 0)) (by (with_reducible repeat (first | refine blk_drewN ?_ _ | refine blk_drew ?_ | refine blk_alloc ?_ _)); exact BK199.out) hb); have n1_ := Aside0.mk (blk_below (g := gb200) (o := .cells #[.int .i64 a1_0, .int .i64 a1_1, .int .i64 a1_2] 23 (0, 0)) (by (with_reducible repeat (first | refine blk_drewN ?_ _ | refine blk_drew ?_ | refine blk_alloc ?_ _)); exact BK200.out) hb); have n2_ := Aside0.mk (below_step (by repeat (first | (with_reducible first | exact HB.out | apply below_alloc | apply pw_below_drewN | apply below_drew1 | refine below_set ?_ GE199.out | refine below_set ?_ GE200.out) | exact HB.out)) hb); have n3_ := Aside0.mk (hbox); have n4_ := Aside0.mk ((by rw [hg]; exact (below_size (by repeat (first | (with_reducible first | exact HB.out | apply below_alloc | apply pw_below_drewN | apply below_drew1 | refine below_set ?_ GE199.out | refine below_set ?_ GE200.out) | exact HB.out))) : w.heap.size ≤ gb206)); have n5_ := Aside0.mk ((by rw [hg]; exact (below_size (by repeat (first | (with_reducible first | exact HB.out | apply below_alloc | apply pw_below_drewN | apply below_drew1 | refine below_set ?_ GE199.out | refine below_set ?_ GE200.out) | exact HB.out))) : w.heap.size ≤ gb206)); have n6_ := Aside0.mk ((by rw [hg]; exact Nat.ne_of_lt (blk_lt (g := gb199) (o := .cells #[.int .i64 a0_0, .int .i64 a0_1, .int .i64 a0_2] 23 (0, 0)) (by (with_reducible repeat (first | refine blk_drewN ?_ _ | refine blk_drew ?_ | refine blk_alloc ?_ _)); exact BK199.out)) : gb199 ≠ gb206)); have n7_ := Aside0.mk ((by rw [hg]; exact Nat.ne_of_gt (blk_lt (g := gb199) (o := .cells #[.int .i64 a0_0, .int .i64 a0_1, .int .i64 a0_2] 23 (0, 0)) (by (with_reducible repeat (first | refine blk_drewN ?_ _ | refine blk_drew ?_ | refine blk_alloc ?_ _)); exact BK199.out)) : gb206 ≠ gb199)); have n8_ := Aside0.mk ((by rw [hg]; exact Nat.ne_of_lt (blk_lt (g := gb200) (o := .cells #[.int .i64 a1_0, .int .i64 a1_1, .int .i64 a1_2] 23 (0, 0)) (by (with_reducible repeat (first | refine blk_drewN ?_ _ | refine blk_drew ?_ | refine blk_alloc ?_ _)); exact BK200.out)) : gb200 ≠ gb206)); have n9_ := Aside0.mk ((by rw [hg]; exact Nat.ne_of_gt (blk_lt (g := gb200) (o := .cells #[.int .i64 a1_0, .int .i64 a1_1, .int .i64 a1_2] 23 (0, 0)) (by (with_reducible repeat (first | refine blk_drewN ?_ _ | refine blk_drew ?_ | refine blk_alloc ?_ _)); exact BK200.out)) : gb206 ≠ gb200)); clear BK199; clear BK200; clear HB; have BK199 := n0_; have BK200 := n1_; have HB := n2_; have BK206 := n3_; have GW206 := n4_; have GE206 := n5_; have NB199_206 := n6_; have NB206_199 := n7_; have NB200_206 := n8_; have NB206_200 := n9_; clear n0_ n1_ n2_ n3_ n4_ n5_ n6_ n7_ n8_ n9_; clear hb hbox hg; have hnb15 := NB206_199.out; have hnc15 := NB199_206.out; have hnb16 := NB206_200.out; have hnc16 := NB200_206.out; have hcz17_0 : w14.cell? ⟨gb206, 0, none⟩ = some (.int .i64 0) := (blk_cell BK206.out 0).trans rfl; have hcz17_1 : w14.cell? ⟨gb206, 1, none⟩ = some (.int .i64 0) := (blk_cell BK206.out 1).trans rfl; have hcz17_2 : w14.cell? ⟨gb206, 2, none⟩ = some (.int .i64 0) := (blk_cell BK206.out 2).trans rfl; have hfz17_0 := blk_frozen BK206.out 0; have hfz17_1 := blk_frozen BK206.out 1; have hfz17_2 := blk_frozen BK206.out 2; have hcz18_0 : w14.cell? ⟨gb200, 0, none⟩ = some (.int .i64 a1_0) := (blk_cell BK200.out 0).trans rfl; have hcz18_1 : w14.cell? ⟨gb200, 1, none⟩ = some (.int .i64 a1_1) := (blk_cell BK200.out 1).trans rfl; have hcz18_2 : w14.cell? ⟨gb200, 2, none⟩ = some (.int .i64 a1_2) := (blk_cell BK200.out 2).trans rfl; have hfz18_0 := blk_frozen BK200.out 0; have hfz18_1 := blk_frozen BK200.out 1; have hfz18_2 := blk_frozen BK200.out 2; have hcz19_0 : w14.cell? ⟨gb199, 0, none⟩ = some (.int .i64 a0_0) := (blk_cell BK199.out 0).trans rfl; have hcz19_1 : w14.cell? ⟨gb199, 1, none⟩ = some (.int .i64 a0_1) := (blk_cell BK199.out 1).trans rfl; have hcz19_2 : w14.cell? ⟨gb199, 2, none⟩ = some (.int .i64 a0_2) := (blk_cell BK199.out 2).trans rfl; have hfz19_0 := blk_frozen BK199.out 0; have hfz19_1 := blk_frozen BK199.out 1; have hfz19_2 := blk_frozen BK199.out 2) | ((with_reducible refine gate_callee (f := 14) rfl ?_); refine goesL_ (some 20) rfl rfl Try.func14 (by kernel_rfl) rfl #[.agg #[.int .i64 a1_0, .int .i64 a1_1, .int .i64 a1_2], .agg #[.int .i64 a0_0, .int .i64 a0_1, .int .i64 a0_2]] rfl (by (try simp only [List.map_toArray, List.map_cons, List.map_nil]); first | done | rfl | (simp only [List.length_drop, List.length_take]; rfl)) ?_; (with_reducible refine (bound_Meet.calls k a1_0 a1_1 a1_2 a0_0 a0_1 a0_2 t207 t208 t209 t210 _ A5.out).mono ?_); rintro e w20 ⟨rfl, hb⟩; refine ⟨_, rfl, ?_⟩; have n0_ := Aside0.mk (blk_below (g := gb199) (o := .cells #[.int .i64 a0_0, .int .i64 a0_1, .int .i64 a0_2] 23 (0, 0)) (by (with_reducible repeat (first | refine blk_drewN ?_ _ | refine blk_drew ?_ | refine blk_alloc ?_ _)); refine blk_far ?_ NB199_206.out _; (with_reducible repeat (first | refine blk_drewN ?_ _ | refine blk_drew ?_ | refine blk_alloc ?_ _)); refine blk_far ?_ NB199_206.out _; (with_reducible repeat (first | refine blk_drewN ?_ _ | refine blk_drew ?_ | refine blk_alloc ?_ _)); refine blk_far ?_ NB199_206.out _; (with_reducible repeat (first | refine blk_drewN ?_ _ | refine blk_drew ?_ | refine blk_alloc ?_ _)); exact BK199.out) hb); have n1_ := Aside0.mk (blk_below (g := gb200) (o := .cells #[.int .i64 a1_0, .int .i64 a1_1, .int .i64 a1_2] 23 (0, 0)) (by (with_reducible repeat (first | refine blk_drewN ?_ _ | refine blk_drew ?_ | refine blk_alloc ?_ _)); refine blk_far ?_ NB200_206.out _; (with_reducible repeat (first | refine blk_drewN ?_ _ | refine blk_drew ?_ | refine blk_alloc ?_ _)); refine blk_far ?_ NB200_206.out _; (with_reducible repeat (first | refine blk_drewN ?_ _ | refine blk_drew ?_ | refine blk_alloc ?_ _)); refine blk_far ?_ NB200_206.out _; (with_reducible repeat (first | refine blk_drewN ?_ _ | refine blk_drew ?_ | refine blk_alloc ?_ _)); exact BK200.out) hb); have n2_ := Aside0.mk (blk_below (g := gb206) (o := .cells #[.int .i64 t202, .int .i64 t203, .int .i64 t204] 23 (0, 0)) (by (with_reducible repeat (first | refine blk_drewN ?_ _ | refine blk_drew ?_ | refine blk_alloc ?_ _)); refine blk_put (cs := #[.int .i64 t202, .int .i64 t203, .int .i64 0]) ?_ 2 _ rfl; (with_reducible repeat (first | refine blk_drewN ?_ _ | refine blk_drew ?_ | refine blk_alloc ?_ _)); refine blk_put (cs := #[.int .i64 t202, .int .i64 0, .int .i64 0]) ?_ 1 _ rfl; (with_reducible repeat (first | refine blk_drewN ?_ _ | refine blk_drew ?_ | refine blk_alloc ?_ _)); refine blk_put (cs := #[.int .i64 0, .int .i64 0, .int .i64 0]) ?_ 0 _ rfl; (with_reducible repeat (first | refine blk_drewN ?_ _ | refine blk_drew ?_ | refine blk_alloc ?_ _)); exact BK206.out) hb); have n3_ := Aside0.mk (below_step (by repeat (first | (with_reducible first | exact HB.out | apply below_alloc | apply pw_below_drewN | apply below_drew1 | refine below_set ?_ GE199.out | refine below_set ?_ GE200.out | refine below_set ?_ GE206.out) | exact HB.out)) hb); clear BK199; clear BK200; clear BK206; clear HB; have BK199 := n0_; have BK200 := n1_; have BK206 := n2_; have HB := n3_; clear n0_ n1_ n2_ n3_; (try clear hb); (try clear hb2); (try clear hk); (try clear hi)) | ((with_reducible refine gate_dst (N := 8) rfl ?_); refine box_event ?hg (N := 8) ?hd (cs := #[.int .i64 0, .int .i64 0, .int .i64 0]) (t := 23) ?hr ?_; (case hd => rfl); (case hg => rfl); (case hr => first | (go_simp; done) | (go_simp; rfl)); intro gb211 hg w21 hbox hb; have n0_ := Aside0.mk (blk_below (g := gb199) (o := .cells #[.int .i64 a0_0, .int .i64 a0_1, .int .i64 a0_2] 23 (0, 0)) (by (with_reducible repeat (first | refine blk_drewN ?_ _ | refine blk_drew ?_ | refine blk_alloc ?_ _)); exact BK199.out) hb); have n1_ := Aside0.mk (blk_below (g := gb200) (o := .cells #[.int .i64 a1_0, .int .i64 a1_1, .int .i64 a1_2] 23 (0, 0)) (by (with_reducible repeat (first | refine blk_drewN ?_ _ | refine blk_drew ?_ | refine blk_alloc ?_ _)); exact BK200.out) hb); have n2_ := Aside0.mk (blk_below (g := gb206) (o := .cells #[.int .i64 t202, .int .i64 t203, .int .i64 t204] 23 (0, 0)) (by (with_reducible repeat (first | refine blk_drewN ?_ _ | refine blk_drew ?_ | refine blk_alloc ?_ _)); exact BK206.out) hb); have n3_ := Aside0.mk (below_step (by repeat (first | (with_reducible first | exact HB.out | apply below_alloc | apply pw_below_drewN | apply below_drew1 | refine below_set ?_ GE199.out | refine below_set ?_ GE200.out | refine below_set ?_ GE206.out) | exact HB.out)) hb); have n4_ := Aside0.mk (hbox); have n5_ := Aside0.mk ((by rw [hg]; exact (below_size (by repeat (first | (with_reducible first | exact HB.out | apply below_alloc | apply pw_below_drewN | apply below_drew1 | refine below_set ?_ GE199.out | refine below_set ?_ GE200.out | refine below_set ?_ GE206.out) | exact HB.out))) : w.heap.size ≤ gb211)); have n6_ := Aside0.mk ((by rw [hg]; exact (below_size (by repeat (first | (with_reducible first | exact HB.out | apply below_alloc | apply pw_below_drewN | apply below_drew1 | refine below_set ?_ GE199.out | refine below_set ?_ GE200.out | refine below_set ?_ GE206.out) | exact HB.out))) : w.heap.size ≤ gb211)); have n7_ := Aside0.mk ((by rw [hg]; exact Nat.ne_of_lt (blk_lt (g := gb199) (o := .cells #[.int .i64 a0_0, .int .i64 a0_1, .int .i64 a0_2] 23 (0, 0)) (by (with_reducible repeat (first | refine blk_drewN ?_ _ | refine blk_drew ?_ | refine blk_alloc ?_ _)); exact BK199.out)) : gb199 ≠ gb211)); have n8_ := Aside0.mk ((by rw [hg]; exact Nat.ne_of_gt (blk_lt (g := gb199) (o := .cells #[.int .i64 a0_0, .int .i64 a0_1, .int .i64 a0_2] 23 (0, 0)) (by (with_reducible repeat (first | refine blk_drewN ?_ _ | refine blk_drew ?_ | refine blk_alloc ?_ _)); exact BK199.out)) : gb211 ≠ gb199)); have n9_ := Aside0.mk ((by rw [hg]; exact Nat.ne_of_lt (blk_lt (g := gb200) (o := .cells #[.int .i64 a1_0, .int .i64 a1_1, .int .i64 a1_2] 23 (0, 0)) (by (with_reducible repeat (first | refine blk_drewN ?_ _ | refine blk_drew ?_ | refine blk_alloc ?_ _)); exact BK200.out)) : gb200 ≠ gb211)); have n10_ := Aside0.mk ((by rw [hg]; exact Nat.ne_of_gt (blk_lt (g := gb200) (o := .cells #[.int .i64 a1_0, .int .i64 a1_1, .int .i64 a1_2] 23 (0, 0)) (by (with_reducible repeat (first | refine blk_drewN ?_ _ | refine blk_drew ?_ | refine blk_alloc ?_ _)); exact BK200.out)) : gb211 ≠ gb200)); have n11_ := Aside0.mk ((by rw [hg]; exact Nat.ne_of_lt (blk_lt (g := gb206) (o := .cells #[.int .i64 t202, .int .i64 t203, .int .i64 t204] 23 (0, 0)) (by (with_reducible repeat (first | refine blk_drewN ?_ _ | refine blk_drew ?_ | refine blk_alloc ?_ _)); exact BK206.out)) : gb206 ≠ gb211)); have n12_ := Aside0.mk ((by rw [hg]; exact Nat.ne_of_gt (blk_lt (g := gb206) (o := .cells #[.int .i64 t202, .int .i64 t203, .int .i64 t204] 23 (0, 0)) (by (with_reducible repeat (first | refine blk_drewN ?_ _ | refine blk_drew ?_ | refine blk_alloc ?_ _)); exact BK206.out)) : gb211 ≠ gb206)); clear BK199; clear BK200; clear BK206; clear HB; have BK199 := n0_; have BK200 := n1_; have BK206 := n2_; have HB := n3_; have BK211 := n4_; have GW211 := n5_; have GE211 := n6_; have NB199_211 := n7_; have NB211_199 := n8_; have NB200_211 := n9_; have NB211_200 := n10_; have NB206_211 := n11_; have NB211_206 := n12_; clear n0_ n1_ n2_ n3_ n4_ n5_ n6_ n7_ n8_ n9_ n10_ n11_ n12_; clear hb hbox hg; have hnb22 := NB211_199.out; have hnc22 := NB199_211.out; have hnb23 := NB211_200.out; have hnc23 := NB200_211.out; have hnb24 := NB211_206.out; have hnc24 := NB206_211.out; have hcz25_0 : w21.cell? ⟨gb211, 0, none⟩ = some (.int .i64 0) := (blk_cell BK211.out 0).trans rfl; have hcz25_1 : w21.cell? ⟨gb211, 1, none⟩ = some (.int .i64 0) := (blk_cell BK211.out 1).trans rfl; have hcz25_2 : w21.cell? ⟨gb211, 2, none⟩ = some (.int .i64 0) := (blk_cell BK211.out 2).trans rfl; have hfz25_0 := blk_frozen BK211.out 0; have hfz25_1 := blk_frozen BK211.out 1; have hfz25_2 := blk_frozen BK211.out 2))
  (try simp only [Act.put, List.setIfInBounds_toArray, List.set_cons_zero, List.set_cons_succ])
  go_cut [30] (fun v30 wc => ∃ (kq : Nat) (x30_5 : Bool), v30 = .bool x30_5 ∧ Aside0 (slotmeshlaw08_BoundOrder.j0 kq t201 t205 t210 x30_5 a0_0 a0_1 a0_2 a1_0 a1_1 a1_2 t202 t203 t204 = some r) ∧ Aside0 (kq ≤ k) ∧ Aside0 (wc.heap[gb199]? = some (.cells #[.int .i64 a0_0, .int .i64 a0_1, .int .i64 a0_2] 23 (0, 0))) ∧ Aside0 (wc.heap[gb200]? = some (.cells #[.int .i64 a1_0, .int .i64 a1_1, .int .i64 a1_2] 23 (0, 0))) ∧ Aside0 (wc.heap[gb206]? = some (.cells #[.int .i64 t202, .int .i64 t203, .int .i64 t204] 23 (0, 0))) ∧ Aside0 (wc.heap[gb211]? = some (.cells #[.int .i64 t207, .int .i64 t208, .int .i64 t209] 23 (0, 0))) ∧ Aside0 (Below w.heap.size w wc))
  case first =>
    have H := HC6.out
    clear HC6
    by_cases c26 : (!(t202 == t207) || (!(t203 == t208) || (!(t204 == t209)))) = true
    · rw [if_pos c26] at H
      have c26b0 : (!(t202 == t207) || (!(t203 == t208) || (!(t204 == t209)))) = true := c26
      clear c26
      (first | rw [c26b0] | (simp only [i64_w, i32_w]; rw [c26b0]) | skip)
      have H' := Aside0.mk H
      clear H
      have hnb27 := NB206_199.out
      have hnc27 := NB199_206.out
      have hnb28 := NB206_200.out
      have hnc28 := NB200_206.out
      have hnb29 := NB206_211.out
      have hnc29 := NB211_206.out
      have hcz30_0 : w21.cell? ⟨gb206, 0, none⟩ = some (.int .i64 t202) := (blk_cell BK206.out 0).trans rfl
      have hcz30_1 : w21.cell? ⟨gb206, 1, none⟩ = some (.int .i64 t203) := (blk_cell BK206.out 1).trans rfl
      have hcz30_2 : w21.cell? ⟨gb206, 2, none⟩ = some (.int .i64 t204) := (blk_cell BK206.out 2).trans rfl
      have hfz30_0 := blk_frozen BK206.out 0
      have hfz30_1 := blk_frozen BK206.out 1
      have hfz30_2 := blk_frozen BK206.out 2
      have hnb31 := NB211_199.out
      have hnc31 := NB199_211.out
      have hnb32 := NB211_200.out
      have hnc32 := NB200_211.out
      have hcz33_0 : w21.cell? ⟨gb211, 0, none⟩ = some (.int .i64 0) := (blk_cell BK211.out 0).trans rfl
      have hcz33_1 : w21.cell? ⟨gb211, 1, none⟩ = some (.int .i64 0) := (blk_cell BK211.out 1).trans rfl
      have hcz33_2 : w21.cell? ⟨gb211, 2, none⟩ = some (.int .i64 0) := (blk_cell BK211.out 2).trans rfl
      have hfz33_0 := blk_frozen BK211.out 0
      have hfz33_1 := blk_frozen BK211.out 1
      have hfz33_2 := blk_frozen BK211.out 2
      go_wp2
      go_meet
      case rel => exact ⟨_, (true), (by first | rfl | (simp; done) | (simp [*]; done)), H', ⟨by first | omega | exact Nat.le_refl _⟩, ⟨by (with_reducible repeat (first | refine blk_drewN ?_ _ | refine blk_drew ?_ | refine blk_alloc ?_ _)); refine blk_far ?_ NB199_211.out _; (with_reducible repeat (first | refine blk_drewN ?_ _ | refine blk_drew ?_ | refine blk_alloc ?_ _)); refine blk_far ?_ NB199_211.out _; (with_reducible repeat (first | refine blk_drewN ?_ _ | refine blk_drew ?_ | refine blk_alloc ?_ _)); refine blk_far ?_ NB199_211.out _; (with_reducible repeat (first | refine blk_drewN ?_ _ | refine blk_drew ?_ | refine blk_alloc ?_ _)); exact BK199.out⟩, ⟨by (with_reducible repeat (first | refine blk_drewN ?_ _ | refine blk_drew ?_ | refine blk_alloc ?_ _)); refine blk_far ?_ NB200_211.out _; (with_reducible repeat (first | refine blk_drewN ?_ _ | refine blk_drew ?_ | refine blk_alloc ?_ _)); refine blk_far ?_ NB200_211.out _; (with_reducible repeat (first | refine blk_drewN ?_ _ | refine blk_drew ?_ | refine blk_alloc ?_ _)); refine blk_far ?_ NB200_211.out _; (with_reducible repeat (first | refine blk_drewN ?_ _ | refine blk_drew ?_ | refine blk_alloc ?_ _)); exact BK200.out⟩, ⟨by (with_reducible repeat (first | refine blk_drewN ?_ _ | refine blk_drew ?_ | refine blk_alloc ?_ _)); refine blk_far ?_ NB206_211.out _; (with_reducible repeat (first | refine blk_drewN ?_ _ | refine blk_drew ?_ | refine blk_alloc ?_ _)); refine blk_far ?_ NB206_211.out _; (with_reducible repeat (first | refine blk_drewN ?_ _ | refine blk_drew ?_ | refine blk_alloc ?_ _)); refine blk_far ?_ NB206_211.out _; (with_reducible repeat (first | refine blk_drewN ?_ _ | refine blk_drew ?_ | refine blk_alloc ?_ _)); exact BK206.out⟩, ⟨by (with_reducible repeat (first | refine blk_drewN ?_ _ | refine blk_drew ?_ | refine blk_alloc ?_ _)); refine blk_put (cs := #[.int .i64 t207, .int .i64 t208, .int .i64 0]) ?_ 2 _ rfl; (with_reducible repeat (first | refine blk_drewN ?_ _ | refine blk_drew ?_ | refine blk_alloc ?_ _)); refine blk_put (cs := #[.int .i64 t207, .int .i64 0, .int .i64 0]) ?_ 1 _ rfl; (with_reducible repeat (first | refine blk_drewN ?_ _ | refine blk_drew ?_ | refine blk_alloc ?_ _)); refine blk_put (cs := #[.int .i64 0, .int .i64 0, .int .i64 0]) ?_ 0 _ rfl; (with_reducible repeat (first | refine blk_drewN ?_ _ | refine blk_drew ?_ | refine blk_alloc ?_ _)); exact BK211.out⟩, ⟨by repeat (first | (with_reducible first | exact HB.out | apply below_alloc | apply pw_below_drewN | apply below_drew1 | refine below_set ?_ GE199.out | refine below_set ?_ GE200.out | refine below_set ?_ GE206.out | refine below_set ?_ GE211.out) | exact HB.out)⟩⟩
    · rw [if_neg c26] at H
      have c26b0 : (!(t202 == t207) || (!(t203 == t208) || (!(t204 == t209)))) = false := by simpa using c26
      clear c26
      (first | rw [c26b0] | (simp only [i64_w, i32_w]; rw [c26b0]) | skip)
      have H' := Aside0.mk H
      clear H
      have hnb34 := NB206_199.out
      have hnc34 := NB199_206.out
      have hnb35 := NB206_200.out
      have hnc35 := NB200_206.out
      have hnb36 := NB206_211.out
      have hnc36 := NB211_206.out
      have hcz37_0 : w21.cell? ⟨gb206, 0, none⟩ = some (.int .i64 t202) := (blk_cell BK206.out 0).trans rfl
      have hcz37_1 : w21.cell? ⟨gb206, 1, none⟩ = some (.int .i64 t203) := (blk_cell BK206.out 1).trans rfl
      have hcz37_2 : w21.cell? ⟨gb206, 2, none⟩ = some (.int .i64 t204) := (blk_cell BK206.out 2).trans rfl
      have hfz37_0 := blk_frozen BK206.out 0
      have hfz37_1 := blk_frozen BK206.out 1
      have hfz37_2 := blk_frozen BK206.out 2
      have hnb38 := NB211_199.out
      have hnc38 := NB199_211.out
      have hnb39 := NB211_200.out
      have hnc39 := NB200_211.out
      have hcz40_0 : w21.cell? ⟨gb211, 0, none⟩ = some (.int .i64 0) := (blk_cell BK211.out 0).trans rfl
      have hcz40_1 : w21.cell? ⟨gb211, 1, none⟩ = some (.int .i64 0) := (blk_cell BK211.out 1).trans rfl
      have hcz40_2 : w21.cell? ⟨gb211, 2, none⟩ = some (.int .i64 0) := (blk_cell BK211.out 2).trans rfl
      have hfz40_0 := blk_frozen BK211.out 0
      have hfz40_1 := blk_frozen BK211.out 1
      have hfz40_2 := blk_frozen BK211.out 2
      go_wp2
      go_meet
      case rel => exact ⟨_, ((t205 != t210)), (by first | rfl | (simp; done) | (simp [*]; done)), H', ⟨by first | omega | exact Nat.le_refl _⟩, ⟨by (with_reducible repeat (first | refine blk_drewN ?_ _ | refine blk_drew ?_ | refine blk_alloc ?_ _)); refine blk_far ?_ NB199_211.out _; (with_reducible repeat (first | refine blk_drewN ?_ _ | refine blk_drew ?_ | refine blk_alloc ?_ _)); refine blk_far ?_ NB199_211.out _; (with_reducible repeat (first | refine blk_drewN ?_ _ | refine blk_drew ?_ | refine blk_alloc ?_ _)); refine blk_far ?_ NB199_211.out _; (with_reducible repeat (first | refine blk_drewN ?_ _ | refine blk_drew ?_ | refine blk_alloc ?_ _)); exact BK199.out⟩, ⟨by (with_reducible repeat (first | refine blk_drewN ?_ _ | refine blk_drew ?_ | refine blk_alloc ?_ _)); refine blk_far ?_ NB200_211.out _; (with_reducible repeat (first | refine blk_drewN ?_ _ | refine blk_drew ?_ | refine blk_alloc ?_ _)); refine blk_far ?_ NB200_211.out _; (with_reducible repeat (first | refine blk_drewN ?_ _ | refine blk_drew ?_ | refine blk_alloc ?_ _)); refine blk_far ?_ NB200_211.out _; (with_reducible repeat (first | refine blk_drewN ?_ _ | refine blk_drew ?_ | refine blk_alloc ?_ _)); exact BK200.out⟩, ⟨by (with_reducible repeat (first | refine blk_drewN ?_ _ | refine blk_drew ?_ | refine blk_alloc ?_ _)); refine blk_far ?_ NB206_211.out _; (with_reducible repeat (first | refine blk_drewN ?_ _ | refine blk_drew ?_ | refine blk_alloc ?_ _)); refine blk_far ?_ NB206_211.out _; (with_reducible repeat (first | refine blk_drewN ?_ _ | refine blk_drew ?_ | refine blk_alloc ?_ _)); refine blk_far ?_ NB206_211.out _; (with_reducible repeat (first | refine blk_drewN ?_ _ | refine blk_drew ?_ | refine blk_alloc ?_ _)); exact BK206.out⟩, ⟨by (with_reducible repeat (first | refine blk_drewN ?_ _ | refine blk_drew ?_ | refine blk_alloc ?_ _)); refine blk_put (cs := #[.int .i64 t207, .int .i64 t208, .int .i64 0]) ?_ 2 _ rfl; (with_reducible repeat (first | refine blk_drewN ?_ _ | refine blk_drew ?_ | refine blk_alloc ?_ _)); refine blk_put (cs := #[.int .i64 t207, .int .i64 0, .int .i64 0]) ?_ 1 _ rfl; (with_reducible repeat (first | refine blk_drewN ?_ _ | refine blk_drew ?_ | refine blk_alloc ?_ _)); refine blk_put (cs := #[.int .i64 0, .int .i64 0, .int .i64 0]) ?_ 0 _ rfl; (with_reducible repeat (first | refine blk_drewN ?_ _ | refine blk_drew ?_ | refine blk_alloc ?_ _)); exact BK211.out⟩, ⟨by repeat (first | (with_reducible first | exact HB.out | apply below_alloc | apply pw_below_drewN | apply below_drew1 | refine below_set ?_ GE199.out | refine below_set ?_ GE200.out | refine below_set ?_ GE206.out | refine below_set ?_ GE211.out) | exact HB.out)⟩⟩
  case rest =>
    clear HC6
    try clear c1
    try clear c2
    try clear p2
    try clear c3
    try clear c4
    try clear c10
    try clear c11
    try clear c14
    try clear c15
    try clear c16
    try clear c22
    try clear c23
    try clear c24
    try clear c26
    try clear c26b0
    try clear c27
    try clear c28
    try clear c29
    try clear c31
    try clear c32
    try clear c34
    try clear c35
    try clear c36
    try clear c38
    try clear c39
    try clear hcz11_0
    try clear hcz11_1
    try clear hcz11_2
    try clear hcz12_0
    try clear hcz12_1
    try clear hcz12_2
    try clear hcz17_0
    try clear hcz17_1
    try clear hcz17_2
    try clear hcz18_0
    try clear hcz18_1
    try clear hcz18_2
    try clear hcz19_0
    try clear hcz19_1
    try clear hcz19_2
    try clear hcz25_0
    try clear hcz25_1
    try clear hcz25_2
    try clear hcz30_0
    try clear hcz30_1
    try clear hcz30_2
    try clear hcz33_0
    try clear hcz33_1
    try clear hcz33_2
    try clear hcz37_0
    try clear hcz37_1
    try clear hcz37_2
    try clear hcz40_0
    try clear hcz40_1
    try clear hcz40_2
    try clear hfz11_0
    try clear hfz11_1
    try clear hfz11_2
    try clear hfz12_0
    try clear hfz12_1
    try clear hfz12_2
    try clear hfz17_0
    try clear hfz17_1
    try clear hfz17_2
    try clear hfz18_0
    try clear hfz18_1
    try clear hfz18_2
    try clear hfz19_0
    try clear hfz19_1
    try clear hfz19_2
    try clear hfz25_0
    try clear hfz25_1
    try clear hfz25_2
    try clear hfz30_0
    try clear hfz30_1
    try clear hfz30_2
    try clear hfz33_0
    try clear hfz33_1
    try clear hfz33_2
    try clear hfz37_0
    try clear hfz37_1
    try clear hfz37_2
    try clear hfz40_0
    try clear hfz40_1
    try clear hfz40_2
    obtain ⟨kq, x30_5, rfl, HA, HJ5, BK199, BK200, BK206, BK211, HB⟩ := hcut
    cases kq with
    | zero => exact absurd HA.out (by simp [slotmeshlaw08_BoundOrder.j0])
    | succ kj5 =>
      have H := HA.out
      clear HA
      simp only [slotmeshlaw08_BoundOrder.j0] at H
      by_cases c41 : x30_5 = true
      · subst c41
        have H1 : (none) = some r := by rw [if_pos rfl] at H; exact H
        clear H
        have H := H1
        clear H1
        exact absurd H (by simp)
      · replace c41 := Bool.eq_false_iff.mpr c41
        subst c41
        have H1 : (if t205 = 0 then (if a0_2 < a1_2 then ((bound_Grow.f kj5 a0_0 a0_1 a0_2 a1_2).bind fun bt212 => (slotmeshlaw08_BoundOrder.j1 kj5 t201 bt212.2.2.2 t210 bt212.1 bt212.2.1 bt212.2.2.1 a1_0 a1_1 a1_2 t202 t203 t204)) else (if a1_2 < a0_2 then ((bound_Grow.f kj5 a1_0 a1_1 a1_2 a0_2).bind fun bt216 => (slotmeshlaw08_BoundOrder.j1 kj5 t201 bt216.2.2.2 t210 a0_0 a0_1 a0_2 bt216.1 bt216.2.1 bt216.2.2.1 t202 t203 t204)) else ((bound_Grow.f kj5 a0_0 a0_1 a0_2 a0_2).bind fun bt220 => ((bound_Grow.f kj5 a1_0 a1_1 a1_2 a1_2).bind fun bt224 => (slotmeshlaw08_BoundOrder.j1 kj5 t201 bt220.2.2.2 bt224.2.2.2 bt220.1 bt220.2.1 bt220.2.2.1 bt224.1 bt224.2.1 bt224.2.2.1 t202 t203 t204))))) else (if t201 = true then (some (t202 == 0 && (t203 == 0 && (t204 == 0)))) else (none))) = some r := by rw [if_neg (show ¬ (false = true) by decide)] at H; exact H
        clear H
        have H := H1
        clear H1
        by_cases c42 : t205 = 0
        · rw [if_pos c42] at H
          have c42b0 : (t205 == 0) = true := beq_iff_eq.mpr c42
          have c42b1 : (t205 != 0) = false := bne_eq_false_iff_eq.mpr c42
          clear c42
          have HC43 := Aside0.mk H
          clear H
          have hnb44 := NB199_200.out
          have hnc44 := NB200_199.out
          have hnb45 := NB199_206.out
          have hnc45 := NB206_199.out
          have hnb46 := NB199_211.out
          have hnc46 := NB211_199.out
          have hcz47_0 : wc.cell? ⟨gb199, 0, none⟩ = some (.int .i64 a0_0) := (blk_cell BK199.out 0).trans rfl
          have hcz47_1 : wc.cell? ⟨gb199, 1, none⟩ = some (.int .i64 a0_1) := (blk_cell BK199.out 1).trans rfl
          have hcz47_2 : wc.cell? ⟨gb199, 2, none⟩ = some (.int .i64 a0_2) := (blk_cell BK199.out 2).trans rfl
          have hfz47_0 := blk_frozen BK199.out 0
          have hfz47_1 := blk_frozen BK199.out 1
          have hfz47_2 := blk_frozen BK199.out 2
          have hnb48 := NB200_206.out
          have hnc48 := NB206_200.out
          have hnb49 := NB200_211.out
          have hnc49 := NB211_200.out
          have hcz50_0 : wc.cell? ⟨gb200, 0, none⟩ = some (.int .i64 a1_0) := (blk_cell BK200.out 0).trans rfl
          have hcz50_1 : wc.cell? ⟨gb200, 1, none⟩ = some (.int .i64 a1_1) := (blk_cell BK200.out 1).trans rfl
          have hcz50_2 : wc.cell? ⟨gb200, 2, none⟩ = some (.int .i64 a1_2) := (blk_cell BK200.out 2).trans rfl
          have hfz50_0 := blk_frozen BK200.out 0
          have hfz50_1 := blk_frozen BK200.out 1
          have hfz50_2 := blk_frozen BK200.out 2
          go_upto_if 43 with (fail)
          go_cut [7, 9] (fun v7 v9 wc => ∃ (kq : Nat) (x7_42 : Int) (x9_42 : Int) (x200000_42 : Int) (x200001_42 : Int) (x200002_42 : Int) (x201000_42 : Int) (x201001_42 : Int) (x201002_42 : Int), v7 = .int .i64 x7_42 ∧ v9 = .int .i64 x9_42 ∧ Aside0 (slotmeshlaw08_BoundOrder.j1 kq t201 x7_42 x9_42 x200000_42 x200001_42 x200002_42 x201000_42 x201001_42 x201002_42 t202 t203 t204 = some r) ∧ Aside0 (kq ≤ kj5) ∧ Aside0 (wc.heap[gb199]? = some (.cells #[.int .i64 x200000_42, .int .i64 x200001_42, .int .i64 x200002_42] 23 (0, 0))) ∧ Aside0 (wc.heap[gb200]? = some (.cells #[.int .i64 x201000_42, .int .i64 x201001_42, .int .i64 x201002_42] 23 (0, 0))) ∧ Aside0 (wc.heap[gb206]? = some (.cells #[.int .i64 t202, .int .i64 t203, .int .i64 t204] 23 (0, 0))) ∧ Aside0 (wc.heap[gb211]? = some (.cells #[.int .i64 t207, .int .i64 t208, .int .i64 t209] 23 (0, 0))) ∧ Aside0 (Below w.heap.size w wc))
          case first =>
            have H := HC43.out
            clear HC43
            by_cases c51 : a0_2 < a1_2
            · rw [if_pos c51] at H
              have c51b0 : decide (a0_2 < a1_2) = true := decide_eq_true c51
              clear c51
              (first | rw [c51b0] | (simp only [i64_w, i32_w]; rw [c51b0]) | skip)
              replace H := Option.bind_eq_some_iff.mp H
              obtain ⟨⟨t212, t213, t214, t215⟩, A520, H⟩ := H
              replace H : (slotmeshlaw08_BoundOrder.j1 kj5 t201 t215 t210 t212 t213 t214 a1_0 a1_1 a1_2 t202 t203 t204) = some r := H
              have A52 := Aside0.mk A520
              clear A520
              have H' := Aside0.mk H
              clear H
              have hnb53 := NB199_200.out
              have hnc53 := NB200_199.out
              have hnb54 := NB199_206.out
              have hnc54 := NB206_199.out
              have hnb55 := NB199_211.out
              have hnc55 := NB211_199.out
              have hcz56_0 : wc.cell? ⟨gb199, 0, none⟩ = some (.int .i64 a0_0) := (blk_cell BK199.out 0).trans rfl
              have hcz56_1 : wc.cell? ⟨gb199, 1, none⟩ = some (.int .i64 a0_1) := (blk_cell BK199.out 1).trans rfl
              have hcz56_2 : wc.cell? ⟨gb199, 2, none⟩ = some (.int .i64 a0_2) := (blk_cell BK199.out 2).trans rfl
              have hfz56_0 := blk_frozen BK199.out 0
              have hfz56_1 := blk_frozen BK199.out 1
              have hfz56_2 := blk_frozen BK199.out 2
              have hnb57 := NB200_206.out
              have hnc57 := NB206_200.out
              have hnb58 := NB200_211.out
              have hnc58 := NB211_200.out
              have hcz59_0 : wc.cell? ⟨gb200, 0, none⟩ = some (.int .i64 a1_0) := (blk_cell BK200.out 0).trans rfl
              have hcz59_1 : wc.cell? ⟨gb200, 1, none⟩ = some (.int .i64 a1_1) := (blk_cell BK200.out 1).trans rfl
              have hcz59_2 : wc.cell? ⟨gb200, 2, none⟩ = some (.int .i64 a1_2) := (blk_cell BK200.out 2).trans rfl
              have hfz59_0 := blk_frozen BK200.out 0
              have hfz59_1 := blk_frozen BK200.out 1
              have hfz59_2 := blk_frozen BK200.out 2
              go_wp2_with (first | ((with_reducible refine gate_callee (f := 12) rfl ?_); refine goesL_ (some 48) rfl rfl Try.func12 (by kernel_rfl) rfl #[.agg #[.int .i64 a0_0, .int .i64 a0_1, .int .i64 a0_2], .int .i64 a1_2] rfl (by (try simp only [List.map_toArray, List.map_cons, List.map_nil]); first | done | rfl | (simp only [List.length_drop, List.length_take]; rfl)) ?_; (with_reducible refine (bound_Grow.calls kj5 a0_0 a0_1 a0_2 a1_2 t212 t213 t214 t215 _ A52.out).mono ?_); rintro e w60 ⟨rfl, hb⟩; refine ⟨_, rfl, ?_⟩; have n0_ := Aside0.mk (blk_below (g := gb199) (o := .cells #[.int .i64 a0_0, .int .i64 a0_1, .int .i64 a0_2] 23 (0, 0)) (by (with_reducible repeat (first | refine blk_drewN ?_ _ | refine blk_drew ?_ | refine blk_alloc ?_ _)); exact BK199.out) hb); have n1_ := Aside0.mk (blk_below (g := gb200) (o := .cells #[.int .i64 a1_0, .int .i64 a1_1, .int .i64 a1_2] 23 (0, 0)) (by (with_reducible repeat (first | refine blk_drewN ?_ _ | refine blk_drew ?_ | refine blk_alloc ?_ _)); exact BK200.out) hb); have n2_ := Aside0.mk (blk_below (g := gb206) (o := .cells #[.int .i64 t202, .int .i64 t203, .int .i64 t204] 23 (0, 0)) (by (with_reducible repeat (first | refine blk_drewN ?_ _ | refine blk_drew ?_ | refine blk_alloc ?_ _)); exact BK206.out) hb); have n3_ := Aside0.mk (blk_below (g := gb211) (o := .cells #[.int .i64 t207, .int .i64 t208, .int .i64 t209] 23 (0, 0)) (by (with_reducible repeat (first | refine blk_drewN ?_ _ | refine blk_drew ?_ | refine blk_alloc ?_ _)); exact BK211.out) hb); have n4_ := Aside0.mk (below_step (by repeat (first | (with_reducible first | exact HB.out | apply below_alloc | apply pw_below_drewN | apply below_drew1 | refine below_set ?_ GE199.out | refine below_set ?_ GE200.out | refine below_set ?_ GE206.out | refine below_set ?_ GE211.out) | exact HB.out)) hb); clear BK199; clear BK200; clear BK206; clear BK211; clear HB; have BK199 := n0_; have BK200 := n1_; have BK206 := n2_; have BK211 := n3_; have HB := n4_; clear n0_ n1_ n2_ n3_ n4_; (try clear hb); (try clear hb2); (try clear hk); (try clear hi); have hcz61_0 : w60.cell? ⟨gb199, 0, none⟩ = some (.int .i64 a0_0) := (blk_cell BK199.out 0).trans rfl; have hcz61_1 : w60.cell? ⟨gb199, 1, none⟩ = some (.int .i64 a0_1) := (blk_cell BK199.out 1).trans rfl; have hcz61_2 : w60.cell? ⟨gb199, 2, none⟩ = some (.int .i64 a0_2) := (blk_cell BK199.out 2).trans rfl; have hfz61_0 := blk_frozen BK199.out 0; have hfz61_1 := blk_frozen BK199.out 1; have hfz61_2 := blk_frozen BK199.out 2))
              go_meet
              case rel => exact ⟨_, (t215), (t210), (t212), (t213), (t214), (a1_0), (a1_1), (a1_2), (by first | rfl | (simp; done) | (simp [*]; done)), (by first | rfl | (simp; done) | (simp [*]; done)), H', ⟨by have := HJ5.out; first | omega | exact Nat.le_refl _⟩, ⟨by (with_reducible repeat (first | refine blk_drewN ?_ _ | refine blk_drew ?_ | refine blk_alloc ?_ _)); refine blk_put (cs := #[.int .i64 t212, .int .i64 t213, .int .i64 a0_2]) ?_ 2 _ rfl; (with_reducible repeat (first | refine blk_drewN ?_ _ | refine blk_drew ?_ | refine blk_alloc ?_ _)); refine blk_put (cs := #[.int .i64 t212, .int .i64 a0_1, .int .i64 a0_2]) ?_ 1 _ rfl; (with_reducible repeat (first | refine blk_drewN ?_ _ | refine blk_drew ?_ | refine blk_alloc ?_ _)); refine blk_put (cs := #[.int .i64 a0_0, .int .i64 a0_1, .int .i64 a0_2]) ?_ 0 _ rfl; (with_reducible repeat (first | refine blk_drewN ?_ _ | refine blk_drew ?_ | refine blk_alloc ?_ _)); exact BK199.out⟩, ⟨by (with_reducible repeat (first | refine blk_drewN ?_ _ | refine blk_drew ?_ | refine blk_alloc ?_ _)); refine blk_far ?_ NB200_199.out _; (with_reducible repeat (first | refine blk_drewN ?_ _ | refine blk_drew ?_ | refine blk_alloc ?_ _)); refine blk_far ?_ NB200_199.out _; (with_reducible repeat (first | refine blk_drewN ?_ _ | refine blk_drew ?_ | refine blk_alloc ?_ _)); refine blk_far ?_ NB200_199.out _; (with_reducible repeat (first | refine blk_drewN ?_ _ | refine blk_drew ?_ | refine blk_alloc ?_ _)); exact BK200.out⟩, ⟨by (with_reducible repeat (first | refine blk_drewN ?_ _ | refine blk_drew ?_ | refine blk_alloc ?_ _)); refine blk_far ?_ NB206_199.out _; (with_reducible repeat (first | refine blk_drewN ?_ _ | refine blk_drew ?_ | refine blk_alloc ?_ _)); refine blk_far ?_ NB206_199.out _; (with_reducible repeat (first | refine blk_drewN ?_ _ | refine blk_drew ?_ | refine blk_alloc ?_ _)); refine blk_far ?_ NB206_199.out _; (with_reducible repeat (first | refine blk_drewN ?_ _ | refine blk_drew ?_ | refine blk_alloc ?_ _)); exact BK206.out⟩, ⟨by (with_reducible repeat (first | refine blk_drewN ?_ _ | refine blk_drew ?_ | refine blk_alloc ?_ _)); refine blk_far ?_ NB211_199.out _; (with_reducible repeat (first | refine blk_drewN ?_ _ | refine blk_drew ?_ | refine blk_alloc ?_ _)); refine blk_far ?_ NB211_199.out _; (with_reducible repeat (first | refine blk_drewN ?_ _ | refine blk_drew ?_ | refine blk_alloc ?_ _)); refine blk_far ?_ NB211_199.out _; (with_reducible repeat (first | refine blk_drewN ?_ _ | refine blk_drew ?_ | refine blk_alloc ?_ _)); exact BK211.out⟩, ⟨by repeat (first | (with_reducible first | exact HB.out | apply below_alloc | apply pw_below_drewN | apply below_drew1 | refine below_set ?_ GE199.out | refine below_set ?_ GE200.out | refine below_set ?_ GE206.out | refine below_set ?_ GE211.out) | exact HB.out)⟩⟩
            · rw [if_neg c51] at H
              have c51b0 : decide (a0_2 < a1_2) = false := decide_eq_false c51
              clear c51
              (first | rw [c51b0] | (simp only [i64_w, i32_w]; rw [c51b0]) | skip)
              by_cases c62 : a1_2 < a0_2
              · rw [if_pos c62] at H
                have c62b0 : decide (a1_2 < a0_2) = true := decide_eq_true c62
                clear c62
                replace H := Option.bind_eq_some_iff.mp H
                obtain ⟨⟨t216, t217, t218, t219⟩, A630, H⟩ := H
                replace H : (slotmeshlaw08_BoundOrder.j1 kj5 t201 t219 t210 a0_0 a0_1 a0_2 t216 t217 t218 t202 t203 t204) = some r := H
                have A63 := Aside0.mk A630
                clear A630
                have H' := Aside0.mk H
                clear H
                have hnb64 := NB200_199.out
                have hnc64 := NB199_200.out
                have hnb65 := NB200_206.out
                have hnc65 := NB206_200.out
                have hnb66 := NB200_211.out
                have hnc66 := NB211_200.out
                have hcz67_0 : wc.cell? ⟨gb200, 0, none⟩ = some (.int .i64 a1_0) := (blk_cell BK200.out 0).trans rfl
                have hcz67_1 : wc.cell? ⟨gb200, 1, none⟩ = some (.int .i64 a1_1) := (blk_cell BK200.out 1).trans rfl
                have hcz67_2 : wc.cell? ⟨gb200, 2, none⟩ = some (.int .i64 a1_2) := (blk_cell BK200.out 2).trans rfl
                have hfz67_0 := blk_frozen BK200.out 0
                have hfz67_1 := blk_frozen BK200.out 1
                have hfz67_2 := blk_frozen BK200.out 2
                have hnb68 := NB199_206.out
                have hnc68 := NB206_199.out
                have hnb69 := NB199_211.out
                have hnc69 := NB211_199.out
                have hcz70_0 : wc.cell? ⟨gb199, 0, none⟩ = some (.int .i64 a0_0) := (blk_cell BK199.out 0).trans rfl
                have hcz70_1 : wc.cell? ⟨gb199, 1, none⟩ = some (.int .i64 a0_1) := (blk_cell BK199.out 1).trans rfl
                have hcz70_2 : wc.cell? ⟨gb199, 2, none⟩ = some (.int .i64 a0_2) := (blk_cell BK199.out 2).trans rfl
                have hfz70_0 := blk_frozen BK199.out 0
                have hfz70_1 := blk_frozen BK199.out 1
                have hfz70_2 := blk_frozen BK199.out 2
                go_wp2_with (first | ((with_reducible refine gate_callee (f := 12) rfl ?_); refine goesL_ (some 60) rfl rfl Try.func12 (by kernel_rfl) rfl #[.agg #[.int .i64 a1_0, .int .i64 a1_1, .int .i64 a1_2], .int .i64 a0_2] rfl (by (try simp only [List.map_toArray, List.map_cons, List.map_nil]); first | done | rfl | (simp only [List.length_drop, List.length_take]; rfl)) ?_; (with_reducible refine (bound_Grow.calls kj5 a1_0 a1_1 a1_2 a0_2 t216 t217 t218 t219 _ A63.out).mono ?_); rintro e w71 ⟨rfl, hb⟩; refine ⟨_, rfl, ?_⟩; have n0_ := Aside0.mk (blk_below (g := gb199) (o := .cells #[.int .i64 a0_0, .int .i64 a0_1, .int .i64 a0_2] 23 (0, 0)) (by (with_reducible repeat (first | refine blk_drewN ?_ _ | refine blk_drew ?_ | refine blk_alloc ?_ _)); exact BK199.out) hb); have n1_ := Aside0.mk (blk_below (g := gb200) (o := .cells #[.int .i64 a1_0, .int .i64 a1_1, .int .i64 a1_2] 23 (0, 0)) (by (with_reducible repeat (first | refine blk_drewN ?_ _ | refine blk_drew ?_ | refine blk_alloc ?_ _)); exact BK200.out) hb); have n2_ := Aside0.mk (blk_below (g := gb206) (o := .cells #[.int .i64 t202, .int .i64 t203, .int .i64 t204] 23 (0, 0)) (by (with_reducible repeat (first | refine blk_drewN ?_ _ | refine blk_drew ?_ | refine blk_alloc ?_ _)); exact BK206.out) hb); have n3_ := Aside0.mk (blk_below (g := gb211) (o := .cells #[.int .i64 t207, .int .i64 t208, .int .i64 t209] 23 (0, 0)) (by (with_reducible repeat (first | refine blk_drewN ?_ _ | refine blk_drew ?_ | refine blk_alloc ?_ _)); exact BK211.out) hb); have n4_ := Aside0.mk (below_step (by repeat (first | (with_reducible first | exact HB.out | apply below_alloc | apply pw_below_drewN | apply below_drew1 | refine below_set ?_ GE199.out | refine below_set ?_ GE200.out | refine below_set ?_ GE206.out | refine below_set ?_ GE211.out) | exact HB.out)) hb); clear BK199; clear BK200; clear BK206; clear BK211; clear HB; have BK199 := n0_; have BK200 := n1_; have BK206 := n2_; have BK211 := n3_; have HB := n4_; clear n0_ n1_ n2_ n3_ n4_; (try clear hb); (try clear hb2); (try clear hk); (try clear hi); have hcz72_0 : w71.cell? ⟨gb200, 0, none⟩ = some (.int .i64 a1_0) := (blk_cell BK200.out 0).trans rfl; have hcz72_1 : w71.cell? ⟨gb200, 1, none⟩ = some (.int .i64 a1_1) := (blk_cell BK200.out 1).trans rfl; have hcz72_2 : w71.cell? ⟨gb200, 2, none⟩ = some (.int .i64 a1_2) := (blk_cell BK200.out 2).trans rfl; have hfz72_0 := blk_frozen BK200.out 0; have hfz72_1 := blk_frozen BK200.out 1; have hfz72_2 := blk_frozen BK200.out 2))
                go_meet
                case rel => exact ⟨_, (t219), (t210), (a0_0), (a0_1), (a0_2), (t216), (t217), (t218), (by first | rfl | (simp; done) | (simp [*]; done)), (by first | rfl | (simp; done) | (simp [*]; done)), H', ⟨by have := HJ5.out; first | omega | exact Nat.le_refl _⟩, ⟨by (with_reducible repeat (first | refine blk_drewN ?_ _ | refine blk_drew ?_ | refine blk_alloc ?_ _)); refine blk_far ?_ NB199_200.out _; (with_reducible repeat (first | refine blk_drewN ?_ _ | refine blk_drew ?_ | refine blk_alloc ?_ _)); refine blk_far ?_ NB199_200.out _; (with_reducible repeat (first | refine blk_drewN ?_ _ | refine blk_drew ?_ | refine blk_alloc ?_ _)); refine blk_far ?_ NB199_200.out _; (with_reducible repeat (first | refine blk_drewN ?_ _ | refine blk_drew ?_ | refine blk_alloc ?_ _)); exact BK199.out⟩, ⟨by (with_reducible repeat (first | refine blk_drewN ?_ _ | refine blk_drew ?_ | refine blk_alloc ?_ _)); refine blk_put (cs := #[.int .i64 t216, .int .i64 t217, .int .i64 a1_2]) ?_ 2 _ rfl; (with_reducible repeat (first | refine blk_drewN ?_ _ | refine blk_drew ?_ | refine blk_alloc ?_ _)); refine blk_put (cs := #[.int .i64 t216, .int .i64 a1_1, .int .i64 a1_2]) ?_ 1 _ rfl; (with_reducible repeat (first | refine blk_drewN ?_ _ | refine blk_drew ?_ | refine blk_alloc ?_ _)); refine blk_put (cs := #[.int .i64 a1_0, .int .i64 a1_1, .int .i64 a1_2]) ?_ 0 _ rfl; (with_reducible repeat (first | refine blk_drewN ?_ _ | refine blk_drew ?_ | refine blk_alloc ?_ _)); exact BK200.out⟩, ⟨by (with_reducible repeat (first | refine blk_drewN ?_ _ | refine blk_drew ?_ | refine blk_alloc ?_ _)); refine blk_far ?_ NB206_200.out _; (with_reducible repeat (first | refine blk_drewN ?_ _ | refine blk_drew ?_ | refine blk_alloc ?_ _)); refine blk_far ?_ NB206_200.out _; (with_reducible repeat (first | refine blk_drewN ?_ _ | refine blk_drew ?_ | refine blk_alloc ?_ _)); refine blk_far ?_ NB206_200.out _; (with_reducible repeat (first | refine blk_drewN ?_ _ | refine blk_drew ?_ | refine blk_alloc ?_ _)); exact BK206.out⟩, ⟨by (with_reducible repeat (first | refine blk_drewN ?_ _ | refine blk_drew ?_ | refine blk_alloc ?_ _)); refine blk_far ?_ NB211_200.out _; (with_reducible repeat (first | refine blk_drewN ?_ _ | refine blk_drew ?_ | refine blk_alloc ?_ _)); refine blk_far ?_ NB211_200.out _; (with_reducible repeat (first | refine blk_drewN ?_ _ | refine blk_drew ?_ | refine blk_alloc ?_ _)); refine blk_far ?_ NB211_200.out _; (with_reducible repeat (first | refine blk_drewN ?_ _ | refine blk_drew ?_ | refine blk_alloc ?_ _)); exact BK211.out⟩, ⟨by repeat (first | (with_reducible first | exact HB.out | apply below_alloc | apply pw_below_drewN | apply below_drew1 | refine below_set ?_ GE199.out | refine below_set ?_ GE200.out | refine below_set ?_ GE206.out | refine below_set ?_ GE211.out) | exact HB.out)⟩⟩
              · rw [if_neg c62] at H
                have c62b0 : decide (a1_2 < a0_2) = false := decide_eq_false c62
                clear c62
                replace H := Option.bind_eq_some_iff.mp H
                obtain ⟨⟨t220, t221, t222, t223⟩, A730, H⟩ := H
                replace H : ((bound_Grow.f kj5 a1_0 a1_1 a1_2 a1_2).bind fun bt224 => (slotmeshlaw08_BoundOrder.j1 kj5 t201 t223 bt224.2.2.2 t220 t221 t222 bt224.1 bt224.2.1 bt224.2.2.1 t202 t203 t204)) = some r := H
                have A73 := Aside0.mk A730
                clear A730
                replace H := Option.bind_eq_some_iff.mp H
                obtain ⟨⟨t224, t225, t226, t227⟩, A740, H⟩ := H
                replace H : (slotmeshlaw08_BoundOrder.j1 kj5 t201 t223 t227 t220 t221 t222 t224 t225 t226 t202 t203 t204) = some r := H
                have A74 := Aside0.mk A740
                clear A740
                have H' := Aside0.mk H
                clear H
                have hnb75 := NB200_199.out
                have hnc75 := NB199_200.out
                have hnb76 := NB200_206.out
                have hnc76 := NB206_200.out
                have hnb77 := NB200_211.out
                have hnc77 := NB211_200.out
                have hcz78_0 : wc.cell? ⟨gb200, 0, none⟩ = some (.int .i64 a1_0) := (blk_cell BK200.out 0).trans rfl
                have hcz78_1 : wc.cell? ⟨gb200, 1, none⟩ = some (.int .i64 a1_1) := (blk_cell BK200.out 1).trans rfl
                have hcz78_2 : wc.cell? ⟨gb200, 2, none⟩ = some (.int .i64 a1_2) := (blk_cell BK200.out 2).trans rfl
                have hfz78_0 := blk_frozen BK200.out 0
                have hfz78_1 := blk_frozen BK200.out 1
                have hfz78_2 := blk_frozen BK200.out 2
                have hnb79 := NB199_206.out
                have hnc79 := NB206_199.out
                have hnb80 := NB199_211.out
                have hnc80 := NB211_199.out
                have hcz81_0 : wc.cell? ⟨gb199, 0, none⟩ = some (.int .i64 a0_0) := (blk_cell BK199.out 0).trans rfl
                have hcz81_1 : wc.cell? ⟨gb199, 1, none⟩ = some (.int .i64 a0_1) := (blk_cell BK199.out 1).trans rfl
                have hcz81_2 : wc.cell? ⟨gb199, 2, none⟩ = some (.int .i64 a0_2) := (blk_cell BK199.out 2).trans rfl
                have hfz81_0 := blk_frozen BK199.out 0
                have hfz81_1 := blk_frozen BK199.out 1
                have hfz81_2 := blk_frozen BK199.out 2
                go_wp2_with (first | ((with_reducible refine gate_callee (f := 12) rfl ?_); refine goesL_ (some 67) rfl rfl Try.func12 (by kernel_rfl) rfl #[.agg #[.int .i64 a0_0, .int .i64 a0_1, .int .i64 a0_2], .int .i64 a0_2] rfl (by (try simp only [List.map_toArray, List.map_cons, List.map_nil]); first | done | rfl | (simp only [List.length_drop, List.length_take]; rfl)) ?_; (with_reducible refine (bound_Grow.calls kj5 a0_0 a0_1 a0_2 a0_2 t220 t221 t222 t223 _ A73.out).mono ?_); rintro e w82 ⟨rfl, hb⟩; refine ⟨_, rfl, ?_⟩; have n0_ := Aside0.mk (blk_below (g := gb199) (o := .cells #[.int .i64 a0_0, .int .i64 a0_1, .int .i64 a0_2] 23 (0, 0)) (by (with_reducible repeat (first | refine blk_drewN ?_ _ | refine blk_drew ?_ | refine blk_alloc ?_ _)); exact BK199.out) hb); have n1_ := Aside0.mk (blk_below (g := gb200) (o := .cells #[.int .i64 a1_0, .int .i64 a1_1, .int .i64 a1_2] 23 (0, 0)) (by (with_reducible repeat (first | refine blk_drewN ?_ _ | refine blk_drew ?_ | refine blk_alloc ?_ _)); exact BK200.out) hb); have n2_ := Aside0.mk (blk_below (g := gb206) (o := .cells #[.int .i64 t202, .int .i64 t203, .int .i64 t204] 23 (0, 0)) (by (with_reducible repeat (first | refine blk_drewN ?_ _ | refine blk_drew ?_ | refine blk_alloc ?_ _)); exact BK206.out) hb); have n3_ := Aside0.mk (blk_below (g := gb211) (o := .cells #[.int .i64 t207, .int .i64 t208, .int .i64 t209] 23 (0, 0)) (by (with_reducible repeat (first | refine blk_drewN ?_ _ | refine blk_drew ?_ | refine blk_alloc ?_ _)); exact BK211.out) hb); have n4_ := Aside0.mk (below_step (by repeat (first | (with_reducible first | exact HB.out | apply below_alloc | apply pw_below_drewN | apply below_drew1 | refine below_set ?_ GE199.out | refine below_set ?_ GE200.out | refine below_set ?_ GE206.out | refine below_set ?_ GE211.out) | exact HB.out)) hb); clear BK199; clear BK200; clear BK206; clear BK211; clear HB; have BK199 := n0_; have BK200 := n1_; have BK206 := n2_; have BK211 := n3_; have HB := n4_; clear n0_ n1_ n2_ n3_ n4_; (try clear hb); (try clear hb2); (try clear hk); (try clear hi); have hcz83_0 : w82.cell? ⟨gb199, 0, none⟩ = some (.int .i64 a0_0) := (blk_cell BK199.out 0).trans rfl; have hcz83_1 : w82.cell? ⟨gb199, 1, none⟩ = some (.int .i64 a0_1) := (blk_cell BK199.out 1).trans rfl; have hcz83_2 : w82.cell? ⟨gb199, 2, none⟩ = some (.int .i64 a0_2) := (blk_cell BK199.out 2).trans rfl; have hfz83_0 := blk_frozen BK199.out 0; have hfz83_1 := blk_frozen BK199.out 1; have hfz83_2 := blk_frozen BK199.out 2; have hcz84_0 : w82.cell? ⟨gb200, 0, none⟩ = some (.int .i64 a1_0) := (blk_cell BK200.out 0).trans rfl; have hcz84_1 : w82.cell? ⟨gb200, 1, none⟩ = some (.int .i64 a1_1) := (blk_cell BK200.out 1).trans rfl; have hcz84_2 : w82.cell? ⟨gb200, 2, none⟩ = some (.int .i64 a1_2) := (blk_cell BK200.out 2).trans rfl; have hfz84_0 := blk_frozen BK200.out 0; have hfz84_1 := blk_frozen BK200.out 1; have hfz84_2 := blk_frozen BK200.out 2) | ((with_reducible refine gate_callee (f := 12) rfl ?_); refine goesL_ (some 74) rfl rfl Try.func12 (by kernel_rfl) rfl #[.agg #[.int .i64 a1_0, .int .i64 a1_1, .int .i64 a1_2], .int .i64 a1_2] rfl (by (try simp only [List.map_toArray, List.map_cons, List.map_nil]); first | done | rfl | (simp only [List.length_drop, List.length_take]; rfl)) ?_; (with_reducible refine (bound_Grow.calls kj5 a1_0 a1_1 a1_2 a1_2 t224 t225 t226 t227 _ A74.out).mono ?_); rintro e w85 ⟨rfl, hb⟩; refine ⟨_, rfl, ?_⟩; have n0_ := Aside0.mk (blk_below (g := gb199) (o := .cells #[.int .i64 t220, .int .i64 t221, .int .i64 t222] 23 (0, 0)) (by (with_reducible repeat (first | refine blk_drewN ?_ _ | refine blk_drew ?_ | refine blk_alloc ?_ _)); refine blk_put (cs := #[.int .i64 t220, .int .i64 t221, .int .i64 a0_2]) ?_ 2 _ rfl; (with_reducible repeat (first | refine blk_drewN ?_ _ | refine blk_drew ?_ | refine blk_alloc ?_ _)); refine blk_put (cs := #[.int .i64 t220, .int .i64 a0_1, .int .i64 a0_2]) ?_ 1 _ rfl; (with_reducible repeat (first | refine blk_drewN ?_ _ | refine blk_drew ?_ | refine blk_alloc ?_ _)); refine blk_put (cs := #[.int .i64 a0_0, .int .i64 a0_1, .int .i64 a0_2]) ?_ 0 _ rfl; (with_reducible repeat (first | refine blk_drewN ?_ _ | refine blk_drew ?_ | refine blk_alloc ?_ _)); exact BK199.out) hb); have n1_ := Aside0.mk (blk_below (g := gb200) (o := .cells #[.int .i64 a1_0, .int .i64 a1_1, .int .i64 a1_2] 23 (0, 0)) (by (with_reducible repeat (first | refine blk_drewN ?_ _ | refine blk_drew ?_ | refine blk_alloc ?_ _)); refine blk_far ?_ NB200_199.out _; (with_reducible repeat (first | refine blk_drewN ?_ _ | refine blk_drew ?_ | refine blk_alloc ?_ _)); refine blk_far ?_ NB200_199.out _; (with_reducible repeat (first | refine blk_drewN ?_ _ | refine blk_drew ?_ | refine blk_alloc ?_ _)); refine blk_far ?_ NB200_199.out _; (with_reducible repeat (first | refine blk_drewN ?_ _ | refine blk_drew ?_ | refine blk_alloc ?_ _)); exact BK200.out) hb); have n2_ := Aside0.mk (blk_below (g := gb206) (o := .cells #[.int .i64 t202, .int .i64 t203, .int .i64 t204] 23 (0, 0)) (by (with_reducible repeat (first | refine blk_drewN ?_ _ | refine blk_drew ?_ | refine blk_alloc ?_ _)); refine blk_far ?_ NB206_199.out _; (with_reducible repeat (first | refine blk_drewN ?_ _ | refine blk_drew ?_ | refine blk_alloc ?_ _)); refine blk_far ?_ NB206_199.out _; (with_reducible repeat (first | refine blk_drewN ?_ _ | refine blk_drew ?_ | refine blk_alloc ?_ _)); refine blk_far ?_ NB206_199.out _; (with_reducible repeat (first | refine blk_drewN ?_ _ | refine blk_drew ?_ | refine blk_alloc ?_ _)); exact BK206.out) hb); have n3_ := Aside0.mk (blk_below (g := gb211) (o := .cells #[.int .i64 t207, .int .i64 t208, .int .i64 t209] 23 (0, 0)) (by (with_reducible repeat (first | refine blk_drewN ?_ _ | refine blk_drew ?_ | refine blk_alloc ?_ _)); refine blk_far ?_ NB211_199.out _; (with_reducible repeat (first | refine blk_drewN ?_ _ | refine blk_drew ?_ | refine blk_alloc ?_ _)); refine blk_far ?_ NB211_199.out _; (with_reducible repeat (first | refine blk_drewN ?_ _ | refine blk_drew ?_ | refine blk_alloc ?_ _)); refine blk_far ?_ NB211_199.out _; (with_reducible repeat (first | refine blk_drewN ?_ _ | refine blk_drew ?_ | refine blk_alloc ?_ _)); exact BK211.out) hb); have n4_ := Aside0.mk (below_step (by repeat (first | (with_reducible first | exact HB.out | apply below_alloc | apply pw_below_drewN | apply below_drew1 | refine below_set ?_ GE199.out | refine below_set ?_ GE200.out | refine below_set ?_ GE206.out | refine below_set ?_ GE211.out) | exact HB.out)) hb); clear BK199; clear BK200; clear BK206; clear BK211; clear HB; have BK199 := n0_; have BK200 := n1_; have BK206 := n2_; have BK211 := n3_; have HB := n4_; clear n0_ n1_ n2_ n3_ n4_; (try clear hb); (try clear hb2); (try clear hk); (try clear hi); have hcz86_0 : w85.cell? ⟨gb200, 0, none⟩ = some (.int .i64 a1_0) := (blk_cell BK200.out 0).trans rfl; have hcz86_1 : w85.cell? ⟨gb200, 1, none⟩ = some (.int .i64 a1_1) := (blk_cell BK200.out 1).trans rfl; have hcz86_2 : w85.cell? ⟨gb200, 2, none⟩ = some (.int .i64 a1_2) := (blk_cell BK200.out 2).trans rfl; have hfz86_0 := blk_frozen BK200.out 0; have hfz86_1 := blk_frozen BK200.out 1; have hfz86_2 := blk_frozen BK200.out 2))
                go_meet
                case rel => exact ⟨_, (t223), (t227), (t220), (t221), (t222), (t224), (t225), (t226), (by first | rfl | (simp; done) | (simp [*]; done)), (by first | rfl | (simp; done) | (simp [*]; done)), H', ⟨by have := HJ5.out; first | omega | exact Nat.le_refl _⟩, ⟨by (with_reducible repeat (first | refine blk_drewN ?_ _ | refine blk_drew ?_ | refine blk_alloc ?_ _)); refine blk_far ?_ NB199_200.out _; (with_reducible repeat (first | refine blk_drewN ?_ _ | refine blk_drew ?_ | refine blk_alloc ?_ _)); refine blk_far ?_ NB199_200.out _; (with_reducible repeat (first | refine blk_drewN ?_ _ | refine blk_drew ?_ | refine blk_alloc ?_ _)); refine blk_far ?_ NB199_200.out _; (with_reducible repeat (first | refine blk_drewN ?_ _ | refine blk_drew ?_ | refine blk_alloc ?_ _)); exact BK199.out⟩, ⟨by (with_reducible repeat (first | refine blk_drewN ?_ _ | refine blk_drew ?_ | refine blk_alloc ?_ _)); refine blk_put (cs := #[.int .i64 t224, .int .i64 t225, .int .i64 a1_2]) ?_ 2 _ rfl; (with_reducible repeat (first | refine blk_drewN ?_ _ | refine blk_drew ?_ | refine blk_alloc ?_ _)); refine blk_put (cs := #[.int .i64 t224, .int .i64 a1_1, .int .i64 a1_2]) ?_ 1 _ rfl; (with_reducible repeat (first | refine blk_drewN ?_ _ | refine blk_drew ?_ | refine blk_alloc ?_ _)); refine blk_put (cs := #[.int .i64 a1_0, .int .i64 a1_1, .int .i64 a1_2]) ?_ 0 _ rfl; (with_reducible repeat (first | refine blk_drewN ?_ _ | refine blk_drew ?_ | refine blk_alloc ?_ _)); exact BK200.out⟩, ⟨by (with_reducible repeat (first | refine blk_drewN ?_ _ | refine blk_drew ?_ | refine blk_alloc ?_ _)); refine blk_far ?_ NB206_200.out _; (with_reducible repeat (first | refine blk_drewN ?_ _ | refine blk_drew ?_ | refine blk_alloc ?_ _)); refine blk_far ?_ NB206_200.out _; (with_reducible repeat (first | refine blk_drewN ?_ _ | refine blk_drew ?_ | refine blk_alloc ?_ _)); refine blk_far ?_ NB206_200.out _; (with_reducible repeat (first | refine blk_drewN ?_ _ | refine blk_drew ?_ | refine blk_alloc ?_ _)); exact BK206.out⟩, ⟨by (with_reducible repeat (first | refine blk_drewN ?_ _ | refine blk_drew ?_ | refine blk_alloc ?_ _)); refine blk_far ?_ NB211_200.out _; (with_reducible repeat (first | refine blk_drewN ?_ _ | refine blk_drew ?_ | refine blk_alloc ?_ _)); refine blk_far ?_ NB211_200.out _; (with_reducible repeat (first | refine blk_drewN ?_ _ | refine blk_drew ?_ | refine blk_alloc ?_ _)); refine blk_far ?_ NB211_200.out _; (with_reducible repeat (first | refine blk_drewN ?_ _ | refine blk_drew ?_ | refine blk_alloc ?_ _)); exact BK211.out⟩, ⟨by repeat (first | (with_reducible first | exact HB.out | apply below_alloc | apply pw_below_drewN | apply below_drew1 | refine below_set ?_ GE199.out | refine below_set ?_ GE200.out | refine below_set ?_ GE206.out | refine below_set ?_ GE211.out) | exact HB.out)⟩⟩
          case rest =>
            clear HC43
            try clear c1
            try clear c2
            try clear p2
            try clear c3
            try clear c4
            try clear c5
            try clear c6
            try clear c7
            try clear c8
            try clear c10
            try clear c11
            try clear c12
            try clear c14
            try clear c15
            try clear c16
            try clear c22
            try clear c23
            try clear c24
            try clear c26
            try clear c26b0
            try clear c27
            try clear c28
            try clear c29
            try clear c31
            try clear c32
            try clear c34
            try clear c35
            try clear c36
            try clear c38
            try clear c39
            try clear c41
            try clear c42
            try clear c42b0
            try clear c42b1
            try clear c44
            try clear c45
            try clear c46
            try clear c48
            try clear c49
            try clear c51
            try clear c51b0
            try clear c53
            try clear c54
            try clear c55
            try clear c57
            try clear c58
            try clear c62
            try clear c62b0
            try clear c64
            try clear c65
            try clear c66
            try clear c68
            try clear c69
            try clear c75
            try clear c76
            try clear c77
            try clear c79
            try clear c80
            try clear hcz11_0
            try clear hcz11_1
            try clear hcz11_2
            try clear hcz12_0
            try clear hcz12_1
            try clear hcz12_2
            try clear hcz17_0
            try clear hcz17_1
            try clear hcz17_2
            try clear hcz18_0
            try clear hcz18_1
            try clear hcz18_2
            try clear hcz19_0
            try clear hcz19_1
            try clear hcz19_2
            try clear hcz25_0
            try clear hcz25_1
            try clear hcz25_2
            try clear hcz30_0
            try clear hcz30_1
            try clear hcz30_2
            try clear hcz33_0
            try clear hcz33_1
            try clear hcz33_2
            try clear hcz37_0
            try clear hcz37_1
            try clear hcz37_2
            try clear hcz40_0
            try clear hcz40_1
            try clear hcz40_2
            try clear hcz47_0
            try clear hcz47_1
            try clear hcz47_2
            try clear hcz50_0
            try clear hcz50_1
            try clear hcz50_2
            try clear hcz56_0
            try clear hcz56_1
            try clear hcz56_2
            try clear hcz59_0
            try clear hcz59_1
            try clear hcz59_2
            try clear hcz61_0
            try clear hcz61_1
            try clear hcz61_2
            try clear hcz67_0
            try clear hcz67_1
            try clear hcz67_2
            try clear hcz70_0
            try clear hcz70_1
            try clear hcz70_2
            try clear hcz72_0
            try clear hcz72_1
            try clear hcz72_2
            try clear hcz78_0
            try clear hcz78_1
            try clear hcz78_2
            try clear hcz81_0
            try clear hcz81_1
            try clear hcz81_2
            try clear hcz83_0
            try clear hcz83_1
            try clear hcz83_2
            try clear hcz84_0
            try clear hcz84_1
            try clear hcz84_2
            try clear hcz86_0
            try clear hcz86_1
            try clear hcz86_2
            try clear hfz11_0
            try clear hfz11_1
            try clear hfz11_2
            try clear hfz12_0
            try clear hfz12_1
            try clear hfz12_2
            try clear hfz17_0
            try clear hfz17_1
            try clear hfz17_2
            try clear hfz18_0
            try clear hfz18_1
            try clear hfz18_2
            try clear hfz19_0
            try clear hfz19_1
            try clear hfz19_2
            try clear hfz25_0
            try clear hfz25_1
            try clear hfz25_2
            try clear hfz30_0
            try clear hfz30_1
            try clear hfz30_2
            try clear hfz33_0
            try clear hfz33_1
            try clear hfz33_2
            try clear hfz37_0
            try clear hfz37_1
            try clear hfz37_2
            try clear hfz40_0
            try clear hfz40_1
            try clear hfz40_2
            try clear hfz47_0
            try clear hfz47_1
            try clear hfz47_2
            try clear hfz50_0
            try clear hfz50_1
            try clear hfz50_2
            try clear hfz56_0
            try clear hfz56_1
            try clear hfz56_2
            try clear hfz59_0
            try clear hfz59_1
            try clear hfz59_2
            try clear hfz61_0
            try clear hfz61_1
            try clear hfz61_2
            try clear hfz67_0
            try clear hfz67_1
            try clear hfz67_2
            try clear hfz70_0
            try clear hfz70_1
            try clear hfz70_2
            try clear hfz72_0
            try clear hfz72_1
            try clear hfz72_2
            try clear hfz78_0
            try clear hfz78_1
            try clear hfz78_2
            try clear hfz81_0
            try clear hfz81_1
            try clear hfz81_2
            try clear hfz83_0
            try clear hfz83_1
            try clear hfz83_2
            try clear hfz84_0
            try clear hfz84_1
            try clear hfz84_2
            try clear hfz86_0
            try clear hfz86_1
            try clear hfz86_2
            try clear p2
            obtain ⟨kq, x7_42, x9_42, x200000_42, x200001_42, x200002_42, x201000_42, x201001_42, x201002_42, rfl, rfl, HA, HJ42, BK199, BK200, BK206, BK211, HB⟩ := hcut
            cases kq with
            | zero => exact absurd HA.out (by simp [slotmeshlaw08_BoundOrder.j1])
            | succ kj42 =>
              have H := HA.out
              clear HA
              simp only [slotmeshlaw08_BoundOrder.j1] at H
              by_cases c87 : t201 = true
              · subst c87
                have H1 : (if x7_42 = 0 then (if x9_42 = 0 then ((slotmeshlaw08_inside.f t202 t203 t204 x200000_42 x200001_42 x200002_42).bind fun t228 => (if t228 = true then ((slotmeshlaw08_inside.f t202 t203 t204 x201000_42 x201001_42 x201002_42).bind fun t229 => (if t229 = true then (if t202 = x200000_42 then (if t203 = x200001_42 then (some true) else (some (t203 == x201001_42))) else (if t202 = x201000_42 then (if t203 = x200001_42 then (some true) else (some (t203 == x201001_42))) else (none))) else (none))) else (none))) else (none)) else (none)) = some r := by rw [if_pos rfl] at H; exact H
                clear H
                have H := H1
                clear H1
                by_cases c88 : x7_42 = 0
                · rw [if_pos c88] at H
                  have c88b0 : (x7_42 == 0) = true := beq_iff_eq.mpr c88
                  have c88b1 : (x7_42 != 0) = false := bne_eq_false_iff_eq.mpr c88
                  clear c88
                  by_cases c89 : x9_42 = 0
                  · rw [if_pos c89] at H
                    have c89b0 : (x9_42 == 0) = true := beq_iff_eq.mpr c89
                    have c89b1 : (x9_42 != 0) = false := bne_eq_false_iff_eq.mpr c89
                    clear c89
                    replace H := Option.bind_eq_some_iff.mp H
                    obtain ⟨t228, A900, H⟩ := H
                    replace H : (if t228 = true then ((slotmeshlaw08_inside.f t202 t203 t204 x201000_42 x201001_42 x201002_42).bind fun t229 => (if t229 = true then (if t202 = x200000_42 then (if t203 = x200001_42 then (some true) else (some (t203 == x201001_42))) else (if t202 = x201000_42 then (if t203 = x200001_42 then (some true) else (some (t203 == x201001_42))) else (none))) else (none))) else (none)) = some r := H
                    have A90 := Aside0.mk A900
                    clear A900
                    by_cases c91 : t228 = true
                    · subst c91
                      have H1 : ((slotmeshlaw08_inside.f t202 t203 t204 x201000_42 x201001_42 x201002_42).bind fun t229 => (if t229 = true then (if t202 = x200000_42 then (if t203 = x200001_42 then (some true) else (some (t203 == x201001_42))) else (if t202 = x201000_42 then (if t203 = x200001_42 then (some true) else (some (t203 == x201001_42))) else (none))) else (none))) = some r := by rw [if_pos rfl] at H; exact H
                      clear H
                      have H := H1
                      clear H1
                      replace H := Option.bind_eq_some_iff.mp H
                      obtain ⟨t229, A920, H⟩ := H
                      replace H : (if t229 = true then (if t202 = x200000_42 then (if t203 = x200001_42 then (some true) else (some (t203 == x201001_42))) else (if t202 = x201000_42 then (if t203 = x200001_42 then (some true) else (some (t203 == x201001_42))) else (none))) else (none)) = some r := H
                      have A92 := Aside0.mk A920
                      clear A920
                      by_cases c93 : t229 = true
                      · subst c93
                        have H1 : (if t202 = x200000_42 then (if t203 = x200001_42 then (some true) else (some (t203 == x201001_42))) else (if t202 = x201000_42 then (if t203 = x200001_42 then (some true) else (some (t203 == x201001_42))) else (none))) = some r := by rw [if_pos rfl] at H; exact H
                        clear H
                        have H := H1
                        clear H1
                        by_cases c94 : t202 = x200000_42
                        · rw [if_pos c94] at H
                          have c94b0 : (t202 == x200000_42) = true := beq_iff_eq.mpr c94
                          have c94b1 : (t202 != x200000_42) = false := bne_eq_false_iff_eq.mpr c94
                          clear c94
                          by_cases c95 : t203 = x200001_42
                          · rw [if_pos c95] at H
                            have c95b0 : (t203 == x200001_42) = true := beq_iff_eq.mpr c95
                            have c95b1 : (t203 != x200001_42) = false := bne_eq_false_iff_eq.mpr c95
                            clear c95
                            obtain rfl := Option.some.inj H
                            have hnb96 := NB206_199.out
                            have hnc96 := NB199_206.out
                            have hnb97 := NB206_200.out
                            have hnc97 := NB200_206.out
                            have hnb98 := NB206_211.out
                            have hnc98 := NB211_206.out
                            have hcz99_0 : wc.cell? ⟨gb206, 0, none⟩ = some (.int .i64 t202) := (blk_cell BK206.out 0).trans rfl
                            have hcz99_1 : wc.cell? ⟨gb206, 1, none⟩ = some (.int .i64 t203) := (blk_cell BK206.out 1).trans rfl
                            have hcz99_2 : wc.cell? ⟨gb206, 2, none⟩ = some (.int .i64 t204) := (blk_cell BK206.out 2).trans rfl
                            have hfz99_0 := blk_frozen BK206.out 0
                            have hfz99_1 := blk_frozen BK206.out 1
                            have hfz99_2 := blk_frozen BK206.out 2
                            have hnb100 := NB199_200.out
                            have hnc100 := NB200_199.out
                            have hnb101 := NB199_211.out
                            have hnc101 := NB211_199.out
                            have hcz102_0 : wc.cell? ⟨gb199, 0, none⟩ = some (.int .i64 x200000_42) := (blk_cell BK199.out 0).trans rfl
                            have hcz102_1 : wc.cell? ⟨gb199, 1, none⟩ = some (.int .i64 x200001_42) := (blk_cell BK199.out 1).trans rfl
                            have hcz102_2 : wc.cell? ⟨gb199, 2, none⟩ = some (.int .i64 x200002_42) := (blk_cell BK199.out 2).trans rfl
                            have hfz102_0 := blk_frozen BK199.out 0
                            have hfz102_1 := blk_frozen BK199.out 1
                            have hfz102_2 := blk_frozen BK199.out 2
                            go_wp2_with (first | (go_at_call 22; (with_reducible refine (slotmeshlaw08_inside.calls t202 t203 t204 x200000_42 x200001_42 x200002_42 true _ A90.out).mono ?_); rintro e w103 ⟨rfl, hb⟩; have n0_ := Aside0.mk (blk_below (g := gb199) (o := .cells #[.int .i64 x200000_42, .int .i64 x200001_42, .int .i64 x200002_42] 23 (0, 0)) (by (with_reducible repeat (first | refine blk_drewN ?_ _ | refine blk_drew ?_ | refine blk_alloc ?_ _)); exact BK199.out) hb); have n1_ := Aside0.mk (blk_below (g := gb200) (o := .cells #[.int .i64 x201000_42, .int .i64 x201001_42, .int .i64 x201002_42] 23 (0, 0)) (by (with_reducible repeat (first | refine blk_drewN ?_ _ | refine blk_drew ?_ | refine blk_alloc ?_ _)); exact BK200.out) hb); have n2_ := Aside0.mk (blk_below (g := gb206) (o := .cells #[.int .i64 t202, .int .i64 t203, .int .i64 t204] 23 (0, 0)) (by (with_reducible repeat (first | refine blk_drewN ?_ _ | refine blk_drew ?_ | refine blk_alloc ?_ _)); exact BK206.out) hb); have n3_ := Aside0.mk (blk_below (g := gb211) (o := .cells #[.int .i64 t207, .int .i64 t208, .int .i64 t209] 23 (0, 0)) (by (with_reducible repeat (first | refine blk_drewN ?_ _ | refine blk_drew ?_ | refine blk_alloc ?_ _)); exact BK211.out) hb); have n4_ := Aside0.mk (below_step (by repeat (first | (with_reducible first | exact HB.out | apply below_alloc | apply pw_below_drewN | apply below_drew1 | refine below_set ?_ GE199.out | refine below_set ?_ GE200.out | refine below_set ?_ GE206.out | refine below_set ?_ GE211.out) | exact HB.out)) hb); clear BK199; clear BK200; clear BK206; clear BK211; clear HB; have BK199 := n0_; have BK200 := n1_; have BK206 := n2_; have BK211 := n3_; have HB := n4_; clear n0_ n1_ n2_ n3_ n4_; (try clear hb); (try clear hb2); (try clear hk); (try clear hi); have hcz104_0 : w103.cell? ⟨gb206, 0, none⟩ = some (.int .i64 t202) := (blk_cell BK206.out 0).trans rfl; have hcz104_1 : w103.cell? ⟨gb206, 1, none⟩ = some (.int .i64 t203) := (blk_cell BK206.out 1).trans rfl; have hcz104_2 : w103.cell? ⟨gb206, 2, none⟩ = some (.int .i64 t204) := (blk_cell BK206.out 2).trans rfl; have hfz104_0 := blk_frozen BK206.out 0; have hfz104_1 := blk_frozen BK206.out 1; have hfz104_2 := blk_frozen BK206.out 2; have hnb105 := NB200_211.out; have hnc105 := NB211_200.out; have hcz106_0 : w103.cell? ⟨gb200, 0, none⟩ = some (.int .i64 x201000_42) := (blk_cell BK200.out 0).trans rfl; have hcz106_1 : w103.cell? ⟨gb200, 1, none⟩ = some (.int .i64 x201001_42) := (blk_cell BK200.out 1).trans rfl; have hcz106_2 : w103.cell? ⟨gb200, 2, none⟩ = some (.int .i64 x201002_42) := (blk_cell BK200.out 2).trans rfl; have hfz106_0 := blk_frozen BK200.out 0; have hfz106_1 := blk_frozen BK200.out 1; have hfz106_2 := blk_frozen BK200.out 2) | (go_at_call 22; (with_reducible refine (slotmeshlaw08_inside.calls t202 t203 t204 x201000_42 x201001_42 x201002_42 true _ A92.out).mono ?_); rintro e w107 ⟨rfl, hb⟩; have n0_ := Aside0.mk (blk_below (g := gb199) (o := .cells #[.int .i64 x200000_42, .int .i64 x200001_42, .int .i64 x200002_42] 23 (0, 0)) (by (with_reducible repeat (first | refine blk_drewN ?_ _ | refine blk_drew ?_ | refine blk_alloc ?_ _)); exact BK199.out) hb); have n1_ := Aside0.mk (blk_below (g := gb200) (o := .cells #[.int .i64 x201000_42, .int .i64 x201001_42, .int .i64 x201002_42] 23 (0, 0)) (by (with_reducible repeat (first | refine blk_drewN ?_ _ | refine blk_drew ?_ | refine blk_alloc ?_ _)); exact BK200.out) hb); have n2_ := Aside0.mk (blk_below (g := gb206) (o := .cells #[.int .i64 t202, .int .i64 t203, .int .i64 t204] 23 (0, 0)) (by (with_reducible repeat (first | refine blk_drewN ?_ _ | refine blk_drew ?_ | refine blk_alloc ?_ _)); exact BK206.out) hb); have n3_ := Aside0.mk (blk_below (g := gb211) (o := .cells #[.int .i64 t207, .int .i64 t208, .int .i64 t209] 23 (0, 0)) (by (with_reducible repeat (first | refine blk_drewN ?_ _ | refine blk_drew ?_ | refine blk_alloc ?_ _)); exact BK211.out) hb); have n4_ := Aside0.mk (below_step (by repeat (first | (with_reducible first | exact HB.out | apply below_alloc | apply pw_below_drewN | apply below_drew1 | refine below_set ?_ GE199.out | refine below_set ?_ GE200.out | refine below_set ?_ GE206.out | refine below_set ?_ GE211.out) | exact HB.out)) hb); clear BK199; clear BK200; clear BK206; clear BK211; clear HB; have BK199 := n0_; have BK200 := n1_; have BK206 := n2_; have BK211 := n3_; have HB := n4_; clear n0_ n1_ n2_ n3_ n4_; (try clear hb); (try clear hb2); (try clear hk); (try clear hi); have hcz108_0 : w107.cell? ⟨gb206, 0, none⟩ = some (.int .i64 t202) := (blk_cell BK206.out 0).trans rfl; have hcz108_1 : w107.cell? ⟨gb206, 1, none⟩ = some (.int .i64 t203) := (blk_cell BK206.out 1).trans rfl; have hcz108_2 : w107.cell? ⟨gb206, 2, none⟩ = some (.int .i64 t204) := (blk_cell BK206.out 2).trans rfl; have hfz108_0 := blk_frozen BK206.out 0; have hfz108_1 := blk_frozen BK206.out 1; have hfz108_2 := blk_frozen BK206.out 2; have hcz109_0 : w107.cell? ⟨gb199, 0, none⟩ = some (.int .i64 x200000_42) := (blk_cell BK199.out 0).trans rfl; have hcz109_1 : w107.cell? ⟨gb199, 1, none⟩ = some (.int .i64 x200001_42) := (blk_cell BK199.out 1).trans rfl; have hcz109_2 : w107.cell? ⟨gb199, 2, none⟩ = some (.int .i64 x200002_42) := (blk_cell BK199.out 2).trans rfl; have hfz109_0 := blk_frozen BK199.out 0; have hfz109_1 := blk_frozen BK199.out 1; have hfz109_2 := blk_frozen BK199.out 2))
                            go_ret
                            exact ⟨by first | rfl | (simp [errW_none, errW_some] <;> rfl) | (simp [*, errW_none, errW_some] <;> rfl), by repeat (first | (with_reducible first | exact HB.out | apply below_alloc | apply pw_below_drewN | apply below_drew1 | refine below_set ?_ GE199.out | refine below_set ?_ GE200.out | refine below_set ?_ GE206.out | refine below_set ?_ GE211.out) | exact HB.out)⟩
                          · rw [if_neg c95] at H
                            have c95b0 : (t203 == x200001_42) = false := beq_eq_false_iff_ne.mpr c95
                            have c95b1 : (t203 != x200001_42) = true := bne_iff_ne.mpr c95
                            obtain rfl := Option.some.inj H
                            have hnb110 := NB206_199.out
                            have hnc110 := NB199_206.out
                            have hnb111 := NB206_200.out
                            have hnc111 := NB200_206.out
                            have hnb112 := NB206_211.out
                            have hnc112 := NB211_206.out
                            have hcz113_0 : wc.cell? ⟨gb206, 0, none⟩ = some (.int .i64 t202) := (blk_cell BK206.out 0).trans rfl
                            have hcz113_1 : wc.cell? ⟨gb206, 1, none⟩ = some (.int .i64 t203) := (blk_cell BK206.out 1).trans rfl
                            have hcz113_2 : wc.cell? ⟨gb206, 2, none⟩ = some (.int .i64 t204) := (blk_cell BK206.out 2).trans rfl
                            have hfz113_0 := blk_frozen BK206.out 0
                            have hfz113_1 := blk_frozen BK206.out 1
                            have hfz113_2 := blk_frozen BK206.out 2
                            have hnb114 := NB199_200.out
                            have hnc114 := NB200_199.out
                            have hnb115 := NB199_211.out
                            have hnc115 := NB211_199.out
                            have hcz116_0 : wc.cell? ⟨gb199, 0, none⟩ = some (.int .i64 x200000_42) := (blk_cell BK199.out 0).trans rfl
                            have hcz116_1 : wc.cell? ⟨gb199, 1, none⟩ = some (.int .i64 x200001_42) := (blk_cell BK199.out 1).trans rfl
                            have hcz116_2 : wc.cell? ⟨gb199, 2, none⟩ = some (.int .i64 x200002_42) := (blk_cell BK199.out 2).trans rfl
                            have hfz116_0 := blk_frozen BK199.out 0
                            have hfz116_1 := blk_frozen BK199.out 1
                            have hfz116_2 := blk_frozen BK199.out 2
                            go_wp2_with (first | (go_at_call 22; (with_reducible refine (slotmeshlaw08_inside.calls t202 t203 t204 x200000_42 x200001_42 x200002_42 true _ A90.out).mono ?_); rintro e w117 ⟨rfl, hb⟩; have n0_ := Aside0.mk (blk_below (g := gb199) (o := .cells #[.int .i64 x200000_42, .int .i64 x200001_42, .int .i64 x200002_42] 23 (0, 0)) (by (with_reducible repeat (first | refine blk_drewN ?_ _ | refine blk_drew ?_ | refine blk_alloc ?_ _)); exact BK199.out) hb); have n1_ := Aside0.mk (blk_below (g := gb200) (o := .cells #[.int .i64 x201000_42, .int .i64 x201001_42, .int .i64 x201002_42] 23 (0, 0)) (by (with_reducible repeat (first | refine blk_drewN ?_ _ | refine blk_drew ?_ | refine blk_alloc ?_ _)); exact BK200.out) hb); have n2_ := Aside0.mk (blk_below (g := gb206) (o := .cells #[.int .i64 t202, .int .i64 t203, .int .i64 t204] 23 (0, 0)) (by (with_reducible repeat (first | refine blk_drewN ?_ _ | refine blk_drew ?_ | refine blk_alloc ?_ _)); exact BK206.out) hb); have n3_ := Aside0.mk (blk_below (g := gb211) (o := .cells #[.int .i64 t207, .int .i64 t208, .int .i64 t209] 23 (0, 0)) (by (with_reducible repeat (first | refine blk_drewN ?_ _ | refine blk_drew ?_ | refine blk_alloc ?_ _)); exact BK211.out) hb); have n4_ := Aside0.mk (below_step (by repeat (first | (with_reducible first | exact HB.out | apply below_alloc | apply pw_below_drewN | apply below_drew1 | refine below_set ?_ GE199.out | refine below_set ?_ GE200.out | refine below_set ?_ GE206.out | refine below_set ?_ GE211.out) | exact HB.out)) hb); clear BK199; clear BK200; clear BK206; clear BK211; clear HB; have BK199 := n0_; have BK200 := n1_; have BK206 := n2_; have BK211 := n3_; have HB := n4_; clear n0_ n1_ n2_ n3_ n4_; (try clear hb); (try clear hb2); (try clear hk); (try clear hi); have hcz118_0 : w117.cell? ⟨gb206, 0, none⟩ = some (.int .i64 t202) := (blk_cell BK206.out 0).trans rfl; have hcz118_1 : w117.cell? ⟨gb206, 1, none⟩ = some (.int .i64 t203) := (blk_cell BK206.out 1).trans rfl; have hcz118_2 : w117.cell? ⟨gb206, 2, none⟩ = some (.int .i64 t204) := (blk_cell BK206.out 2).trans rfl; have hfz118_0 := blk_frozen BK206.out 0; have hfz118_1 := blk_frozen BK206.out 1; have hfz118_2 := blk_frozen BK206.out 2; have hnb119 := NB200_211.out; have hnc119 := NB211_200.out; have hcz120_0 : w117.cell? ⟨gb200, 0, none⟩ = some (.int .i64 x201000_42) := (blk_cell BK200.out 0).trans rfl; have hcz120_1 : w117.cell? ⟨gb200, 1, none⟩ = some (.int .i64 x201001_42) := (blk_cell BK200.out 1).trans rfl; have hcz120_2 : w117.cell? ⟨gb200, 2, none⟩ = some (.int .i64 x201002_42) := (blk_cell BK200.out 2).trans rfl; have hfz120_0 := blk_frozen BK200.out 0; have hfz120_1 := blk_frozen BK200.out 1; have hfz120_2 := blk_frozen BK200.out 2) | (go_at_call 22; (with_reducible refine (slotmeshlaw08_inside.calls t202 t203 t204 x201000_42 x201001_42 x201002_42 true _ A92.out).mono ?_); rintro e w121 ⟨rfl, hb⟩; have n0_ := Aside0.mk (blk_below (g := gb199) (o := .cells #[.int .i64 x200000_42, .int .i64 x200001_42, .int .i64 x200002_42] 23 (0, 0)) (by (with_reducible repeat (first | refine blk_drewN ?_ _ | refine blk_drew ?_ | refine blk_alloc ?_ _)); exact BK199.out) hb); have n1_ := Aside0.mk (blk_below (g := gb200) (o := .cells #[.int .i64 x201000_42, .int .i64 x201001_42, .int .i64 x201002_42] 23 (0, 0)) (by (with_reducible repeat (first | refine blk_drewN ?_ _ | refine blk_drew ?_ | refine blk_alloc ?_ _)); exact BK200.out) hb); have n2_ := Aside0.mk (blk_below (g := gb206) (o := .cells #[.int .i64 t202, .int .i64 t203, .int .i64 t204] 23 (0, 0)) (by (with_reducible repeat (first | refine blk_drewN ?_ _ | refine blk_drew ?_ | refine blk_alloc ?_ _)); exact BK206.out) hb); have n3_ := Aside0.mk (blk_below (g := gb211) (o := .cells #[.int .i64 t207, .int .i64 t208, .int .i64 t209] 23 (0, 0)) (by (with_reducible repeat (first | refine blk_drewN ?_ _ | refine blk_drew ?_ | refine blk_alloc ?_ _)); exact BK211.out) hb); have n4_ := Aside0.mk (below_step (by repeat (first | (with_reducible first | exact HB.out | apply below_alloc | apply pw_below_drewN | apply below_drew1 | refine below_set ?_ GE199.out | refine below_set ?_ GE200.out | refine below_set ?_ GE206.out | refine below_set ?_ GE211.out) | exact HB.out)) hb); clear BK199; clear BK200; clear BK206; clear BK211; clear HB; have BK199 := n0_; have BK200 := n1_; have BK206 := n2_; have BK211 := n3_; have HB := n4_; clear n0_ n1_ n2_ n3_ n4_; (try clear hb); (try clear hb2); (try clear hk); (try clear hi); have hcz122_0 : w121.cell? ⟨gb206, 0, none⟩ = some (.int .i64 t202) := (blk_cell BK206.out 0).trans rfl; have hcz122_1 : w121.cell? ⟨gb206, 1, none⟩ = some (.int .i64 t203) := (blk_cell BK206.out 1).trans rfl; have hcz122_2 : w121.cell? ⟨gb206, 2, none⟩ = some (.int .i64 t204) := (blk_cell BK206.out 2).trans rfl; have hfz122_0 := blk_frozen BK206.out 0; have hfz122_1 := blk_frozen BK206.out 1; have hfz122_2 := blk_frozen BK206.out 2; have hcz123_0 : w121.cell? ⟨gb199, 0, none⟩ = some (.int .i64 x200000_42) := (blk_cell BK199.out 0).trans rfl; have hcz123_1 : w121.cell? ⟨gb199, 1, none⟩ = some (.int .i64 x200001_42) := (blk_cell BK199.out 1).trans rfl; have hcz123_2 : w121.cell? ⟨gb199, 2, none⟩ = some (.int .i64 x200002_42) := (blk_cell BK199.out 2).trans rfl; have hfz123_0 := blk_frozen BK199.out 0; have hfz123_1 := blk_frozen BK199.out 1; have hfz123_2 := blk_frozen BK199.out 2; have hcz124_0 : w121.cell? ⟨gb200, 0, none⟩ = some (.int .i64 x201000_42) := (blk_cell BK200.out 0).trans rfl; have hcz124_1 : w121.cell? ⟨gb200, 1, none⟩ = some (.int .i64 x201001_42) := (blk_cell BK200.out 1).trans rfl; have hcz124_2 : w121.cell? ⟨gb200, 2, none⟩ = some (.int .i64 x201002_42) := (blk_cell BK200.out 2).trans rfl; have hfz124_0 := blk_frozen BK200.out 0; have hfz124_1 := blk_frozen BK200.out 1; have hfz124_2 := blk_frozen BK200.out 2))
                            go_ret
                            exact ⟨by first | rfl | (simp [errW_none, errW_some] <;> rfl) | (simp [*, errW_none, errW_some] <;> rfl), by repeat (first | (with_reducible first | exact HB.out | apply below_alloc | apply pw_below_drewN | apply below_drew1 | refine below_set ?_ GE199.out | refine below_set ?_ GE200.out | refine below_set ?_ GE206.out | refine below_set ?_ GE211.out) | exact HB.out)⟩
                        · rw [if_neg c94] at H
                          have c94b0 : (t202 == x200000_42) = false := beq_eq_false_iff_ne.mpr c94
                          have c94b1 : (t202 != x200000_42) = true := bne_iff_ne.mpr c94
                          by_cases c125 : t202 = x201000_42
                          · rw [if_pos c125] at H
                            have c125b0 : (t202 == x201000_42) = true := beq_iff_eq.mpr c125
                            have c125b1 : (t202 != x201000_42) = false := bne_eq_false_iff_eq.mpr c125
                            clear c125
                            by_cases c126 : t203 = x200001_42
                            · rw [if_pos c126] at H
                              have c126b0 : (t203 == x200001_42) = true := beq_iff_eq.mpr c126
                              have c126b1 : (t203 != x200001_42) = false := bne_eq_false_iff_eq.mpr c126
                              clear c126
                              obtain rfl := Option.some.inj H
                              have hnb127 := NB206_199.out
                              have hnc127 := NB199_206.out
                              have hnb128 := NB206_200.out
                              have hnc128 := NB200_206.out
                              have hnb129 := NB206_211.out
                              have hnc129 := NB211_206.out
                              have hcz130_0 : wc.cell? ⟨gb206, 0, none⟩ = some (.int .i64 t202) := (blk_cell BK206.out 0).trans rfl
                              have hcz130_1 : wc.cell? ⟨gb206, 1, none⟩ = some (.int .i64 t203) := (blk_cell BK206.out 1).trans rfl
                              have hcz130_2 : wc.cell? ⟨gb206, 2, none⟩ = some (.int .i64 t204) := (blk_cell BK206.out 2).trans rfl
                              have hfz130_0 := blk_frozen BK206.out 0
                              have hfz130_1 := blk_frozen BK206.out 1
                              have hfz130_2 := blk_frozen BK206.out 2
                              have hnb131 := NB199_200.out
                              have hnc131 := NB200_199.out
                              have hnb132 := NB199_211.out
                              have hnc132 := NB211_199.out
                              have hcz133_0 : wc.cell? ⟨gb199, 0, none⟩ = some (.int .i64 x200000_42) := (blk_cell BK199.out 0).trans rfl
                              have hcz133_1 : wc.cell? ⟨gb199, 1, none⟩ = some (.int .i64 x200001_42) := (blk_cell BK199.out 1).trans rfl
                              have hcz133_2 : wc.cell? ⟨gb199, 2, none⟩ = some (.int .i64 x200002_42) := (blk_cell BK199.out 2).trans rfl
                              have hfz133_0 := blk_frozen BK199.out 0
                              have hfz133_1 := blk_frozen BK199.out 1
                              have hfz133_2 := blk_frozen BK199.out 2
                              go_wp2_with (first | (go_at_call 22; (with_reducible refine (slotmeshlaw08_inside.calls t202 t203 t204 x200000_42 x200001_42 x200002_42 true _ A90.out).mono ?_); rintro e w134 ⟨rfl, hb⟩; have n0_ := Aside0.mk (blk_below (g := gb199) (o := .cells #[.int .i64 x200000_42, .int .i64 x200001_42, .int .i64 x200002_42] 23 (0, 0)) (by (with_reducible repeat (first | refine blk_drewN ?_ _ | refine blk_drew ?_ | refine blk_alloc ?_ _)); exact BK199.out) hb); have n1_ := Aside0.mk (blk_below (g := gb200) (o := .cells #[.int .i64 x201000_42, .int .i64 x201001_42, .int .i64 x201002_42] 23 (0, 0)) (by (with_reducible repeat (first | refine blk_drewN ?_ _ | refine blk_drew ?_ | refine blk_alloc ?_ _)); exact BK200.out) hb); have n2_ := Aside0.mk (blk_below (g := gb206) (o := .cells #[.int .i64 t202, .int .i64 t203, .int .i64 t204] 23 (0, 0)) (by (with_reducible repeat (first | refine blk_drewN ?_ _ | refine blk_drew ?_ | refine blk_alloc ?_ _)); exact BK206.out) hb); have n3_ := Aside0.mk (blk_below (g := gb211) (o := .cells #[.int .i64 t207, .int .i64 t208, .int .i64 t209] 23 (0, 0)) (by (with_reducible repeat (first | refine blk_drewN ?_ _ | refine blk_drew ?_ | refine blk_alloc ?_ _)); exact BK211.out) hb); have n4_ := Aside0.mk (below_step (by repeat (first | (with_reducible first | exact HB.out | apply below_alloc | apply pw_below_drewN | apply below_drew1 | refine below_set ?_ GE199.out | refine below_set ?_ GE200.out | refine below_set ?_ GE206.out | refine below_set ?_ GE211.out) | exact HB.out)) hb); clear BK199; clear BK200; clear BK206; clear BK211; clear HB; have BK199 := n0_; have BK200 := n1_; have BK206 := n2_; have BK211 := n3_; have HB := n4_; clear n0_ n1_ n2_ n3_ n4_; (try clear hb); (try clear hb2); (try clear hk); (try clear hi); have hcz135_0 : w134.cell? ⟨gb206, 0, none⟩ = some (.int .i64 t202) := (blk_cell BK206.out 0).trans rfl; have hcz135_1 : w134.cell? ⟨gb206, 1, none⟩ = some (.int .i64 t203) := (blk_cell BK206.out 1).trans rfl; have hcz135_2 : w134.cell? ⟨gb206, 2, none⟩ = some (.int .i64 t204) := (blk_cell BK206.out 2).trans rfl; have hfz135_0 := blk_frozen BK206.out 0; have hfz135_1 := blk_frozen BK206.out 1; have hfz135_2 := blk_frozen BK206.out 2; have hnb136 := NB200_211.out; have hnc136 := NB211_200.out; have hcz137_0 : w134.cell? ⟨gb200, 0, none⟩ = some (.int .i64 x201000_42) := (blk_cell BK200.out 0).trans rfl; have hcz137_1 : w134.cell? ⟨gb200, 1, none⟩ = some (.int .i64 x201001_42) := (blk_cell BK200.out 1).trans rfl; have hcz137_2 : w134.cell? ⟨gb200, 2, none⟩ = some (.int .i64 x201002_42) := (blk_cell BK200.out 2).trans rfl; have hfz137_0 := blk_frozen BK200.out 0; have hfz137_1 := blk_frozen BK200.out 1; have hfz137_2 := blk_frozen BK200.out 2) | (go_at_call 22; (with_reducible refine (slotmeshlaw08_inside.calls t202 t203 t204 x201000_42 x201001_42 x201002_42 true _ A92.out).mono ?_); rintro e w138 ⟨rfl, hb⟩; have n0_ := Aside0.mk (blk_below (g := gb199) (o := .cells #[.int .i64 x200000_42, .int .i64 x200001_42, .int .i64 x200002_42] 23 (0, 0)) (by (with_reducible repeat (first | refine blk_drewN ?_ _ | refine blk_drew ?_ | refine blk_alloc ?_ _)); exact BK199.out) hb); have n1_ := Aside0.mk (blk_below (g := gb200) (o := .cells #[.int .i64 x201000_42, .int .i64 x201001_42, .int .i64 x201002_42] 23 (0, 0)) (by (with_reducible repeat (first | refine blk_drewN ?_ _ | refine blk_drew ?_ | refine blk_alloc ?_ _)); exact BK200.out) hb); have n2_ := Aside0.mk (blk_below (g := gb206) (o := .cells #[.int .i64 t202, .int .i64 t203, .int .i64 t204] 23 (0, 0)) (by (with_reducible repeat (first | refine blk_drewN ?_ _ | refine blk_drew ?_ | refine blk_alloc ?_ _)); exact BK206.out) hb); have n3_ := Aside0.mk (blk_below (g := gb211) (o := .cells #[.int .i64 t207, .int .i64 t208, .int .i64 t209] 23 (0, 0)) (by (with_reducible repeat (first | refine blk_drewN ?_ _ | refine blk_drew ?_ | refine blk_alloc ?_ _)); exact BK211.out) hb); have n4_ := Aside0.mk (below_step (by repeat (first | (with_reducible first | exact HB.out | apply below_alloc | apply pw_below_drewN | apply below_drew1 | refine below_set ?_ GE199.out | refine below_set ?_ GE200.out | refine below_set ?_ GE206.out | refine below_set ?_ GE211.out) | exact HB.out)) hb); clear BK199; clear BK200; clear BK206; clear BK211; clear HB; have BK199 := n0_; have BK200 := n1_; have BK206 := n2_; have BK211 := n3_; have HB := n4_; clear n0_ n1_ n2_ n3_ n4_; (try clear hb); (try clear hb2); (try clear hk); (try clear hi); have hcz139_0 : w138.cell? ⟨gb206, 0, none⟩ = some (.int .i64 t202) := (blk_cell BK206.out 0).trans rfl; have hcz139_1 : w138.cell? ⟨gb206, 1, none⟩ = some (.int .i64 t203) := (blk_cell BK206.out 1).trans rfl; have hcz139_2 : w138.cell? ⟨gb206, 2, none⟩ = some (.int .i64 t204) := (blk_cell BK206.out 2).trans rfl; have hfz139_0 := blk_frozen BK206.out 0; have hfz139_1 := blk_frozen BK206.out 1; have hfz139_2 := blk_frozen BK206.out 2; have hcz140_0 : w138.cell? ⟨gb199, 0, none⟩ = some (.int .i64 x200000_42) := (blk_cell BK199.out 0).trans rfl; have hcz140_1 : w138.cell? ⟨gb199, 1, none⟩ = some (.int .i64 x200001_42) := (blk_cell BK199.out 1).trans rfl; have hcz140_2 : w138.cell? ⟨gb199, 2, none⟩ = some (.int .i64 x200002_42) := (blk_cell BK199.out 2).trans rfl; have hfz140_0 := blk_frozen BK199.out 0; have hfz140_1 := blk_frozen BK199.out 1; have hfz140_2 := blk_frozen BK199.out 2; have hcz141_0 : w138.cell? ⟨gb200, 0, none⟩ = some (.int .i64 x201000_42) := (blk_cell BK200.out 0).trans rfl; have hcz141_1 : w138.cell? ⟨gb200, 1, none⟩ = some (.int .i64 x201001_42) := (blk_cell BK200.out 1).trans rfl; have hcz141_2 : w138.cell? ⟨gb200, 2, none⟩ = some (.int .i64 x201002_42) := (blk_cell BK200.out 2).trans rfl; have hfz141_0 := blk_frozen BK200.out 0; have hfz141_1 := blk_frozen BK200.out 1; have hfz141_2 := blk_frozen BK200.out 2))
                              go_ret
                              exact ⟨by first | rfl | (simp [errW_none, errW_some] <;> rfl) | (simp [*, errW_none, errW_some] <;> rfl), by repeat (first | (with_reducible first | exact HB.out | apply below_alloc | apply pw_below_drewN | apply below_drew1 | refine below_set ?_ GE199.out | refine below_set ?_ GE200.out | refine below_set ?_ GE206.out | refine below_set ?_ GE211.out) | exact HB.out)⟩
                            · rw [if_neg c126] at H
                              have c126b0 : (t203 == x200001_42) = false := beq_eq_false_iff_ne.mpr c126
                              have c126b1 : (t203 != x200001_42) = true := bne_iff_ne.mpr c126
                              obtain rfl := Option.some.inj H
                              have hnb142 := NB206_199.out
                              have hnc142 := NB199_206.out
                              have hnb143 := NB206_200.out
                              have hnc143 := NB200_206.out
                              have hnb144 := NB206_211.out
                              have hnc144 := NB211_206.out
                              have hcz145_0 : wc.cell? ⟨gb206, 0, none⟩ = some (.int .i64 t202) := (blk_cell BK206.out 0).trans rfl
                              have hcz145_1 : wc.cell? ⟨gb206, 1, none⟩ = some (.int .i64 t203) := (blk_cell BK206.out 1).trans rfl
                              have hcz145_2 : wc.cell? ⟨gb206, 2, none⟩ = some (.int .i64 t204) := (blk_cell BK206.out 2).trans rfl
                              have hfz145_0 := blk_frozen BK206.out 0
                              have hfz145_1 := blk_frozen BK206.out 1
                              have hfz145_2 := blk_frozen BK206.out 2
                              have hnb146 := NB199_200.out
                              have hnc146 := NB200_199.out
                              have hnb147 := NB199_211.out
                              have hnc147 := NB211_199.out
                              have hcz148_0 : wc.cell? ⟨gb199, 0, none⟩ = some (.int .i64 x200000_42) := (blk_cell BK199.out 0).trans rfl
                              have hcz148_1 : wc.cell? ⟨gb199, 1, none⟩ = some (.int .i64 x200001_42) := (blk_cell BK199.out 1).trans rfl
                              have hcz148_2 : wc.cell? ⟨gb199, 2, none⟩ = some (.int .i64 x200002_42) := (blk_cell BK199.out 2).trans rfl
                              have hfz148_0 := blk_frozen BK199.out 0
                              have hfz148_1 := blk_frozen BK199.out 1
                              have hfz148_2 := blk_frozen BK199.out 2
                              go_wp2_with (first | (go_at_call 22; (with_reducible refine (slotmeshlaw08_inside.calls t202 t203 t204 x200000_42 x200001_42 x200002_42 true _ A90.out).mono ?_); rintro e w149 ⟨rfl, hb⟩; have n0_ := Aside0.mk (blk_below (g := gb199) (o := .cells #[.int .i64 x200000_42, .int .i64 x200001_42, .int .i64 x200002_42] 23 (0, 0)) (by (with_reducible repeat (first | refine blk_drewN ?_ _ | refine blk_drew ?_ | refine blk_alloc ?_ _)); exact BK199.out) hb); have n1_ := Aside0.mk (blk_below (g := gb200) (o := .cells #[.int .i64 x201000_42, .int .i64 x201001_42, .int .i64 x201002_42] 23 (0, 0)) (by (with_reducible repeat (first | refine blk_drewN ?_ _ | refine blk_drew ?_ | refine blk_alloc ?_ _)); exact BK200.out) hb); have n2_ := Aside0.mk (blk_below (g := gb206) (o := .cells #[.int .i64 t202, .int .i64 t203, .int .i64 t204] 23 (0, 0)) (by (with_reducible repeat (first | refine blk_drewN ?_ _ | refine blk_drew ?_ | refine blk_alloc ?_ _)); exact BK206.out) hb); have n3_ := Aside0.mk (blk_below (g := gb211) (o := .cells #[.int .i64 t207, .int .i64 t208, .int .i64 t209] 23 (0, 0)) (by (with_reducible repeat (first | refine blk_drewN ?_ _ | refine blk_drew ?_ | refine blk_alloc ?_ _)); exact BK211.out) hb); have n4_ := Aside0.mk (below_step (by repeat (first | (with_reducible first | exact HB.out | apply below_alloc | apply pw_below_drewN | apply below_drew1 | refine below_set ?_ GE199.out | refine below_set ?_ GE200.out | refine below_set ?_ GE206.out | refine below_set ?_ GE211.out) | exact HB.out)) hb); clear BK199; clear BK200; clear BK206; clear BK211; clear HB; have BK199 := n0_; have BK200 := n1_; have BK206 := n2_; have BK211 := n3_; have HB := n4_; clear n0_ n1_ n2_ n3_ n4_; (try clear hb); (try clear hb2); (try clear hk); (try clear hi); have hcz150_0 : w149.cell? ⟨gb206, 0, none⟩ = some (.int .i64 t202) := (blk_cell BK206.out 0).trans rfl; have hcz150_1 : w149.cell? ⟨gb206, 1, none⟩ = some (.int .i64 t203) := (blk_cell BK206.out 1).trans rfl; have hcz150_2 : w149.cell? ⟨gb206, 2, none⟩ = some (.int .i64 t204) := (blk_cell BK206.out 2).trans rfl; have hfz150_0 := blk_frozen BK206.out 0; have hfz150_1 := blk_frozen BK206.out 1; have hfz150_2 := blk_frozen BK206.out 2; have hnb151 := NB200_211.out; have hnc151 := NB211_200.out; have hcz152_0 : w149.cell? ⟨gb200, 0, none⟩ = some (.int .i64 x201000_42) := (blk_cell BK200.out 0).trans rfl; have hcz152_1 : w149.cell? ⟨gb200, 1, none⟩ = some (.int .i64 x201001_42) := (blk_cell BK200.out 1).trans rfl; have hcz152_2 : w149.cell? ⟨gb200, 2, none⟩ = some (.int .i64 x201002_42) := (blk_cell BK200.out 2).trans rfl; have hfz152_0 := blk_frozen BK200.out 0; have hfz152_1 := blk_frozen BK200.out 1; have hfz152_2 := blk_frozen BK200.out 2) | (go_at_call 22; (with_reducible refine (slotmeshlaw08_inside.calls t202 t203 t204 x201000_42 x201001_42 x201002_42 true _ A92.out).mono ?_); rintro e w153 ⟨rfl, hb⟩; have n0_ := Aside0.mk (blk_below (g := gb199) (o := .cells #[.int .i64 x200000_42, .int .i64 x200001_42, .int .i64 x200002_42] 23 (0, 0)) (by (with_reducible repeat (first | refine blk_drewN ?_ _ | refine blk_drew ?_ | refine blk_alloc ?_ _)); exact BK199.out) hb); have n1_ := Aside0.mk (blk_below (g := gb200) (o := .cells #[.int .i64 x201000_42, .int .i64 x201001_42, .int .i64 x201002_42] 23 (0, 0)) (by (with_reducible repeat (first | refine blk_drewN ?_ _ | refine blk_drew ?_ | refine blk_alloc ?_ _)); exact BK200.out) hb); have n2_ := Aside0.mk (blk_below (g := gb206) (o := .cells #[.int .i64 t202, .int .i64 t203, .int .i64 t204] 23 (0, 0)) (by (with_reducible repeat (first | refine blk_drewN ?_ _ | refine blk_drew ?_ | refine blk_alloc ?_ _)); exact BK206.out) hb); have n3_ := Aside0.mk (blk_below (g := gb211) (o := .cells #[.int .i64 t207, .int .i64 t208, .int .i64 t209] 23 (0, 0)) (by (with_reducible repeat (first | refine blk_drewN ?_ _ | refine blk_drew ?_ | refine blk_alloc ?_ _)); exact BK211.out) hb); have n4_ := Aside0.mk (below_step (by repeat (first | (with_reducible first | exact HB.out | apply below_alloc | apply pw_below_drewN | apply below_drew1 | refine below_set ?_ GE199.out | refine below_set ?_ GE200.out | refine below_set ?_ GE206.out | refine below_set ?_ GE211.out) | exact HB.out)) hb); clear BK199; clear BK200; clear BK206; clear BK211; clear HB; have BK199 := n0_; have BK200 := n1_; have BK206 := n2_; have BK211 := n3_; have HB := n4_; clear n0_ n1_ n2_ n3_ n4_; (try clear hb); (try clear hb2); (try clear hk); (try clear hi); have hcz154_0 : w153.cell? ⟨gb206, 0, none⟩ = some (.int .i64 t202) := (blk_cell BK206.out 0).trans rfl; have hcz154_1 : w153.cell? ⟨gb206, 1, none⟩ = some (.int .i64 t203) := (blk_cell BK206.out 1).trans rfl; have hcz154_2 : w153.cell? ⟨gb206, 2, none⟩ = some (.int .i64 t204) := (blk_cell BK206.out 2).trans rfl; have hfz154_0 := blk_frozen BK206.out 0; have hfz154_1 := blk_frozen BK206.out 1; have hfz154_2 := blk_frozen BK206.out 2; have hcz155_0 : w153.cell? ⟨gb199, 0, none⟩ = some (.int .i64 x200000_42) := (blk_cell BK199.out 0).trans rfl; have hcz155_1 : w153.cell? ⟨gb199, 1, none⟩ = some (.int .i64 x200001_42) := (blk_cell BK199.out 1).trans rfl; have hcz155_2 : w153.cell? ⟨gb199, 2, none⟩ = some (.int .i64 x200002_42) := (blk_cell BK199.out 2).trans rfl; have hfz155_0 := blk_frozen BK199.out 0; have hfz155_1 := blk_frozen BK199.out 1; have hfz155_2 := blk_frozen BK199.out 2; have hcz156_0 : w153.cell? ⟨gb200, 0, none⟩ = some (.int .i64 x201000_42) := (blk_cell BK200.out 0).trans rfl; have hcz156_1 : w153.cell? ⟨gb200, 1, none⟩ = some (.int .i64 x201001_42) := (blk_cell BK200.out 1).trans rfl; have hcz156_2 : w153.cell? ⟨gb200, 2, none⟩ = some (.int .i64 x201002_42) := (blk_cell BK200.out 2).trans rfl; have hfz156_0 := blk_frozen BK200.out 0; have hfz156_1 := blk_frozen BK200.out 1; have hfz156_2 := blk_frozen BK200.out 2))
                              go_ret
                              exact ⟨by first | rfl | (simp [errW_none, errW_some] <;> rfl) | (simp [*, errW_none, errW_some] <;> rfl), by repeat (first | (with_reducible first | exact HB.out | apply below_alloc | apply pw_below_drewN | apply below_drew1 | refine below_set ?_ GE199.out | refine below_set ?_ GE200.out | refine below_set ?_ GE206.out | refine below_set ?_ GE211.out) | exact HB.out)⟩
                          · rw [if_neg c125] at H
                            exact absurd H (by simp)
                      · replace c93 := Bool.eq_false_iff.mpr c93
                        subst c93
                        have H1 : (none) = some r := by rw [if_neg (show ¬ (false = true) by decide)] at H; exact H
                        clear H
                        have H := H1
                        clear H1
                        exact absurd H (by simp)
                    · replace c91 := Bool.eq_false_iff.mpr c91
                      subst c91
                      have H1 : (none) = some r := by rw [if_neg (show ¬ (false = true) by decide)] at H; exact H
                      clear H
                      have H := H1
                      clear H1
                      exact absurd H (by simp)
                  · rw [if_neg c89] at H
                    exact absurd H (by simp)
                · rw [if_neg c88] at H
                  exact absurd H (by simp)
              · replace c87 := Bool.eq_false_iff.mpr c87
                subst c87
                have H1 : (none) = some r := by rw [if_neg (show ¬ (false = true) by decide)] at H; exact H
                clear H
                have H := H1
                clear H1
                exact absurd H (by simp)
        · rw [if_neg c42] at H
          have c42b0 : (t205 == 0) = false := beq_eq_false_iff_ne.mpr c42
          have c42b1 : (t205 != 0) = true := bne_iff_ne.mpr c42
          by_cases c157 : t201 = true
          · subst c157
            have H1 : (some (t202 == 0 && (t203 == 0 && (t204 == 0)))) = some r := by rw [if_pos rfl] at H; exact H
            clear H
            have H := H1
            clear H1
            obtain rfl := Option.some.inj H
            have hnb158 := NB206_199.out
            have hnc158 := NB199_206.out
            have hnb159 := NB206_200.out
            have hnc159 := NB200_206.out
            have hnb160 := NB206_211.out
            have hnc160 := NB211_206.out
            have hcz161_0 : wc.cell? ⟨gb206, 0, none⟩ = some (.int .i64 t202) := (blk_cell BK206.out 0).trans rfl
            have hcz161_1 : wc.cell? ⟨gb206, 1, none⟩ = some (.int .i64 t203) := (blk_cell BK206.out 1).trans rfl
            have hcz161_2 : wc.cell? ⟨gb206, 2, none⟩ = some (.int .i64 t204) := (blk_cell BK206.out 2).trans rfl
            have hfz161_0 := blk_frozen BK206.out 0
            have hfz161_1 := blk_frozen BK206.out 1
            have hfz161_2 := blk_frozen BK206.out 2
            go_wp2
            go_ret
            exact ⟨by first | rfl | (simp [errW_none, errW_some] <;> rfl) | (simp [*, errW_none, errW_some] <;> rfl), by repeat (first | (with_reducible first | exact HB.out | apply below_alloc | apply pw_below_drewN | apply below_drew1 | refine below_set ?_ GE199.out | refine below_set ?_ GE200.out | refine below_set ?_ GE206.out | refine below_set ?_ GE211.out) | exact HB.out)⟩
          · replace c157 := Bool.eq_false_iff.mpr c157
            subst c157
            have H1 : (none) = some r := by rw [if_neg (show ¬ (false = true) by decide)] at H; exact H
            clear H
            have H := H1
            clear H1
            exact absurd H (by simp)

end Go.Proofs.Ytjmpgefhdafmfaa.P
