/- The Go functions of this claim as Lean functions, and the proofs that their calls answer so: written by wip/myprint.py over the kit's printer, hand-proved contracts laid in. Conditions: none. -/
import Derived.Test.YtjmpgefhdafmfaaPx0
import Derived.Test.YtjmpgefhdafmfaaPx5
import Derived.Test.YtjmpgefhdafmfaaPx11
import Derived.Test.YtjmpgefhdafmfaaPx25
import Derived.Test.YtjmpgefhdafmfaaPx28
import Derived.Test.YtjmpgefhdafmfaaPx29
import Derived.Test.YtjmpgefhdafmfaaPx30
namespace Go.Proofs.Ytjmpgefhdafmfaa.P
open Go.RowKit Go.Proofs.YtjmpgefhdafmfaaW.PrintWords Go.Proofs.YtjmpgefhdafmfaaW.PrintLast Go.Proofs.YtjmpgefhdafmfaaW.PrintMore
attribute [local go_sem] max2_int min2_int max_two min_two max_three min_three max_four min_four   -- for this text's walks alone
set_option linter.unusedVariables false
set_option linter.unusedSimpArgs false

/-! ### slotmeshlaw08_BoundGrowing: function 8 -/
def slotmeshlaw08_BoundGrowing.j0 : Nat → Bool → Int → Int → Bool → Int → Int → Int → Option (Bool)
  | 0, _, _, _, _, _, _, _ => none
  | k + 1, x11, x13, x16, x50, x309000, x309001, x309002 => if x50 = true then (some x11) else ((bound_Grow.f k x309000 x309001 x309002 x16).bind fun bt311 => (if x11 = true then (if bt311.2.2.2 = 0 then ((slotmeshref08_True.f bt311.1 bt311.2.1 bt311.2.2.1 x13 x16).bind fun t316 => (some t316)) else (none)) else (none)))
def slotmeshlaw08_BoundGrowing.f (k : Nat) (a0_0 : Int) (a0_1 : Int) (a1 : Int) (a2 : Int) (a3 : Int) (a4 : Int) : Option (Bool) := (slotmeshlaw08_head.f).bind fun t299 => ((slotmeshlaw08_time.f a1).bind fun t300 => ((slotmeshlaw08_time.f a2).bind fun t301 => ((slotmeshlaw08_time.f a1).bind fun t302 => ((slotmeshlaw08_time.f a2).bind fun t303 => ((slotmeshlaw08_truth.f a0_0 a0_1 (mn t300 t301) a3 a4).bind fun bt304 => ((clock_Show.f a0_0 a0_1 (mx t302 t303)).bind fun bt309 => (if bt304.2.2.2 = true then (slotmeshlaw08_BoundGrowing.j0 k t299 (mx t302 t303) bt309.1 (bt309.2 != 0) bt304.1 bt304.2.1 bt304.2.2.1) else (slotmeshlaw08_BoundGrowing.j0 k t299 (mx t302 t303) bt309.1 true bt304.1 bt304.2.1 bt304.2.2.1))))))))
theorem slotmeshlaw08_BoundGrowing.mono_l : ∀ k, (∀ y0 y1 y2 y3 y4 y5 y6, LeO (slotmeshlaw08_BoundGrowing.j0 k y0 y1 y2 y3 y4 y5 y6) (slotmeshlaw08_BoundGrowing.j0 (k + 1) y0 y1 y2 y3 y4 y5 y6))
  | 0 => fun _ _ _ _ _ _ _ r h => by simp [slotmeshlaw08_BoundGrowing.j0] at h
  | k + 1 => by
    have ih0 := slotmeshlaw08_BoundGrowing.mono_l k
    · intro y0 y1 y2 y3 y4 y5 y6
      unfold slotmeshlaw08_BoundGrowing.j0
      repeat' first
      | (with_reducible exact ih0 _ _ _ _ _ _ _)
      | (with_reducible exact bound_Grow.mono _ _ _ _ _)
      | (with_reducible exact LeO.refl _)
      | (with_reducible exact LeO.none _)
      | (with_reducible refine LeO.ite ?_ ?_)
      | (with_reducible refine LeO.bind ?_ (fun _ => ?_))
      | exact ih0 _ _ _ _ _ _ _
      | exact bound_Grow.mono _ _ _ _ _
      | exact LeO.none _
      | refine LeO.ite ?_ ?_
      | refine LeO.bind ?_ (fun _ => ?_)
theorem slotmeshlaw08_BoundGrowing.mono : ∀ a0 a1 a2 a3 a4 a5 k, LeO (slotmeshlaw08_BoundGrowing.f k a0 a1 a2 a3 a4 a5) (slotmeshlaw08_BoundGrowing.f (k + 1) a0 a1 a2 a3 a4 a5) := by
  intro a0 a1 a2 a3 a4 a5 k
  have ih0 := slotmeshlaw08_BoundGrowing.mono_l k
  unfold slotmeshlaw08_BoundGrowing.f
  repeat' first
      | (with_reducible exact ih0 _ _ _ _ _ _ _)
      | (with_reducible exact bound_Grow.mono _ _ _ _ _)
      | (with_reducible exact LeO.refl _)
      | (with_reducible exact LeO.none _)
      | (with_reducible refine LeO.ite ?_ ?_)
      | (with_reducible refine LeO.bind ?_ (fun _ => ?_))
      | exact ih0 _ _ _ _ _ _ _
      | exact bound_Grow.mono _ _ _ _ _
      | exact LeO.none _
      | refine LeO.ite ?_ ?_
      | refine LeO.bind ?_ (fun _ => ?_)
set_option maxHeartbeats 8000000 in
set_option maxRecDepth 100000 in
theorem slotmeshlaw08_BoundGrowing.calls (k : Nat) (a0_0 : Int) (a0_1 : Int) (a1 : Int) (a2 : Int) (a3 : Int) (a4 : Int) (r : Bool) (w : World) (h : slotmeshlaw08_BoundGrowing.f k a0_0 a0_1 a1 a2 a3 a4 = some r) :
    Calls Try.prog 8 #[.agg #[.int .i64 a0_0, .int .i64 a0_1], .int .u64 a1, .int .u64 a2, .int .u32 a3, .int .u32 a4] w fun e w' => e = .returned (.bool r) ∧ Below w.heap.size w w' := by
  have hu41 := Try.underlying41
  have hu23 := Try.underlying23
  have HB := Aside0.mk (Below.refl w.heap.size w)
  have H : ((slotmeshlaw08_head.f).bind fun t299 => ((slotmeshlaw08_time.f a1).bind fun t300 => ((slotmeshlaw08_time.f a2).bind fun t301 => ((slotmeshlaw08_time.f a1).bind fun t302 => ((slotmeshlaw08_time.f a2).bind fun t303 => ((slotmeshlaw08_truth.f a0_0 a0_1 (mn t300 t301) a3 a4).bind fun bt304 => ((clock_Show.f a0_0 a0_1 (mx t302 t303)).bind fun bt309 => (if bt304.2.2.2 = true then (slotmeshlaw08_BoundGrowing.j0 k t299 (mx t302 t303) bt309.1 (bt309.2 != 0) bt304.1 bt304.2.1 bt304.2.2.1) else (slotmeshlaw08_BoundGrowing.j0 k t299 (mx t302 t303) bt309.1 true bt304.1 bt304.2.1 bt304.2.2.1))))))))) = some r := h
  clear h
  replace H := Option.bind_eq_some_iff.mp H
  obtain ⟨t299, A60, H⟩ := H
  replace H : ((slotmeshlaw08_time.f a1).bind fun t300 => ((slotmeshlaw08_time.f a2).bind fun t301 => ((slotmeshlaw08_time.f a1).bind fun t302 => ((slotmeshlaw08_time.f a2).bind fun t303 => ((slotmeshlaw08_truth.f a0_0 a0_1 (mn t300 t301) a3 a4).bind fun bt304 => ((clock_Show.f a0_0 a0_1 (mx t302 t303)).bind fun bt309 => (if bt304.2.2.2 = true then (slotmeshlaw08_BoundGrowing.j0 k t299 (mx t302 t303) bt309.1 (bt309.2 != 0) bt304.1 bt304.2.1 bt304.2.2.1) else (slotmeshlaw08_BoundGrowing.j0 k t299 (mx t302 t303) bt309.1 true bt304.1 bt304.2.1 bt304.2.2.1)))))))) = some r := H
  have A6 := Aside0.mk A60
  clear A60
  replace H := Option.bind_eq_some_iff.mp H
  obtain ⟨t300, A70, H⟩ := H
  replace H : ((slotmeshlaw08_time.f a2).bind fun t301 => ((slotmeshlaw08_time.f a1).bind fun t302 => ((slotmeshlaw08_time.f a2).bind fun t303 => ((slotmeshlaw08_truth.f a0_0 a0_1 (mn t300 t301) a3 a4).bind fun bt304 => ((clock_Show.f a0_0 a0_1 (mx t302 t303)).bind fun bt309 => (if bt304.2.2.2 = true then (slotmeshlaw08_BoundGrowing.j0 k t299 (mx t302 t303) bt309.1 (bt309.2 != 0) bt304.1 bt304.2.1 bt304.2.2.1) else (slotmeshlaw08_BoundGrowing.j0 k t299 (mx t302 t303) bt309.1 true bt304.1 bt304.2.1 bt304.2.2.1))))))) = some r := H
  have A7 := Aside0.mk A70
  clear A70
  replace H := Option.bind_eq_some_iff.mp H
  obtain ⟨t301, A80, H⟩ := H
  replace H : ((slotmeshlaw08_time.f a1).bind fun t302 => ((slotmeshlaw08_time.f a2).bind fun t303 => ((slotmeshlaw08_truth.f a0_0 a0_1 (mn t300 t301) a3 a4).bind fun bt304 => ((clock_Show.f a0_0 a0_1 (mx t302 t303)).bind fun bt309 => (if bt304.2.2.2 = true then (slotmeshlaw08_BoundGrowing.j0 k t299 (mx t302 t303) bt309.1 (bt309.2 != 0) bt304.1 bt304.2.1 bt304.2.2.1) else (slotmeshlaw08_BoundGrowing.j0 k t299 (mx t302 t303) bt309.1 true bt304.1 bt304.2.1 bt304.2.2.1)))))) = some r := H
  have A8 := Aside0.mk A80
  clear A80
  obtain ⟨ji9, hji9⟩ : ∃ j_ : Int, (mn t300 t301) = j_ := ⟨_, rfl⟩
  replace H : ((slotmeshlaw08_time.f a1).bind fun t302 => ((slotmeshlaw08_time.f a2).bind fun t303 => ((slotmeshlaw08_truth.f a0_0 a0_1 (ji9) a3 a4).bind fun bt304 => ((clock_Show.f a0_0 a0_1 (mx t302 t303)).bind fun bt309 => (if bt304.2.2.2 = true then (slotmeshlaw08_BoundGrowing.j0 k t299 (mx t302 t303) bt309.1 (bt309.2 != 0) bt304.1 bt304.2.1 bt304.2.2.1) else (slotmeshlaw08_BoundGrowing.j0 k t299 (mx t302 t303) bt309.1 true bt304.1 bt304.2.1 bt304.2.2.1)))))) = some r := by first | (rw [hji9] at H; exact H) | (simp only [hji9] at H ⊢; exact H)
  (try rw [hji9] at A6)
  (try rw [hji9] at A7)
  (try rw [hji9] at A8)
  have hji9_ : (if t301 < t300 then t301 else t300) = ji9 := hji9
  replace H := Option.bind_eq_some_iff.mp H
  obtain ⟨t302, A100, H⟩ := H
  replace H : ((slotmeshlaw08_time.f a2).bind fun t303 => ((slotmeshlaw08_truth.f a0_0 a0_1 (ji9) a3 a4).bind fun bt304 => ((clock_Show.f a0_0 a0_1 (mx t302 t303)).bind fun bt309 => (if bt304.2.2.2 = true then (slotmeshlaw08_BoundGrowing.j0 k t299 (mx t302 t303) bt309.1 (bt309.2 != 0) bt304.1 bt304.2.1 bt304.2.2.1) else (slotmeshlaw08_BoundGrowing.j0 k t299 (mx t302 t303) bt309.1 true bt304.1 bt304.2.1 bt304.2.2.1))))) = some r := H
  have A10 := Aside0.mk A100
  clear A100
  replace H := Option.bind_eq_some_iff.mp H
  obtain ⟨t303, A110, H⟩ := H
  replace H : ((slotmeshlaw08_truth.f a0_0 a0_1 (ji9) a3 a4).bind fun bt304 => ((clock_Show.f a0_0 a0_1 (mx t302 t303)).bind fun bt309 => (if bt304.2.2.2 = true then (slotmeshlaw08_BoundGrowing.j0 k t299 (mx t302 t303) bt309.1 (bt309.2 != 0) bt304.1 bt304.2.1 bt304.2.2.1) else (slotmeshlaw08_BoundGrowing.j0 k t299 (mx t302 t303) bt309.1 true bt304.1 bt304.2.1 bt304.2.2.1)))) = some r := H
  have A11 := Aside0.mk A110
  clear A110
  obtain ⟨ji12, hji12⟩ : ∃ j_ : Int, (mx t302 t303) = j_ := ⟨_, rfl⟩
  replace H : ((slotmeshlaw08_truth.f a0_0 a0_1 (ji9) a3 a4).bind fun bt304 => ((clock_Show.f a0_0 a0_1 (ji12)).bind fun bt309 => (if bt304.2.2.2 = true then (slotmeshlaw08_BoundGrowing.j0 k t299 ji12 bt309.1 (bt309.2 != 0) bt304.1 bt304.2.1 bt304.2.2.1) else (slotmeshlaw08_BoundGrowing.j0 k t299 ji12 bt309.1 true bt304.1 bt304.2.1 bt304.2.2.1)))) = some r := by first | (rw [hji12] at H; exact H) | (simp only [hji12] at H ⊢; exact H)
  (try rw [hji12] at A6)
  (try rw [hji12] at A7)
  (try rw [hji12] at A8)
  (try rw [hji12] at A10)
  (try rw [hji12] at A11)
  have hji12_ : (if t302 < t303 then t303 else t302) = ji12 := hji12
  replace H := Option.bind_eq_some_iff.mp H
  obtain ⟨⟨t304, t305, t306, t307⟩, A130, H⟩ := H
  replace H : ((clock_Show.f a0_0 a0_1 (ji12)).bind fun bt309 => (if t307 = true then (slotmeshlaw08_BoundGrowing.j0 k t299 ji12 bt309.1 (bt309.2 != 0) t304 t305 t306) else (slotmeshlaw08_BoundGrowing.j0 k t299 ji12 bt309.1 true t304 t305 t306))) = some r := H
  have A13 := Aside0.mk A130
  clear A130
  replace H := Option.bind_eq_some_iff.mp H
  obtain ⟨⟨t309, t310⟩, A140, H⟩ := H
  replace H : (if t307 = true then (slotmeshlaw08_BoundGrowing.j0 k t299 ji12 t309 (t310 != 0) t304 t305 t306) else (slotmeshlaw08_BoundGrowing.j0 k t299 ji12 t309 true t304 t305 t306)) = some r := H
  have A14 := Aside0.mk A140
  clear A140
  have HC15 := Aside0.mk H
  clear H
  go_enter Try.func8, Try.ntmps8
  go_upto_region 5 with (first | ((with_reducible refine gate_dst (N := 5) rfl ?_); refine box_event ?hg (N := 5) ?hd (cs := #[.int .i64 a0_0, .int .i64 a0_1]) (t := 41) ?hr ?_; (case hd => rfl); (case hg => rfl); (case hr => first | (go_simp; done) | (go_simp; rfl)); intro gb298 hg w16 hbox hb; have n0_ := Aside0.mk (below_step (by repeat (first | (with_reducible first | exact HB.out | apply below_alloc | apply pw_below_drewN | apply below_drew1) | exact HB.out)) hb); have n1_ := Aside0.mk (hbox); have n2_ := Aside0.mk ((by rw [hg]; exact (below_size (by repeat (first | (with_reducible first | exact HB.out | apply below_alloc | apply pw_below_drewN | apply below_drew1) | exact HB.out))) : w.heap.size ≤ gb298)); have n3_ := Aside0.mk ((by rw [hg]; exact (below_size (by repeat (first | (with_reducible first | exact HB.out | apply below_alloc | apply pw_below_drewN | apply below_drew1) | exact HB.out))) : w.heap.size ≤ gb298)); clear HB; have HB := n0_; have BK298 := n1_; have GW298 := n2_; have GE298 := n3_; clear n0_ n1_ n2_ n3_; clear hb hbox hg) | ((with_reducible refine gate_callee (f := 11) rfl ?_); refine goesL_ (some 20) rfl rfl Try.func11 (by kernel_rfl) rfl #[] rfl (by (try simp only [List.map_toArray, List.map_cons, List.map_nil]); first | done | rfl | (simp only [List.length_drop, List.length_take]; rfl)) ?_; (with_reducible refine (slotmeshlaw08_head.calls  t299 _ A6.out).mono ?_); rintro e w17 ⟨rfl, hb⟩; refine ⟨_, rfl, ?_⟩; have n0_ := Aside0.mk (blk_below (g := gb298) (o := .cells #[.int .i64 a0_0, .int .i64 a0_1] 41 (0, 0)) (by (with_reducible repeat (first | refine blk_drewN ?_ _ | refine blk_drew ?_ | refine blk_alloc ?_ _)); exact BK298.out) hb); have n1_ := Aside0.mk (below_step (by repeat (first | (with_reducible first | exact HB.out | apply below_alloc | apply pw_below_drewN | apply below_drew1 | refine below_set ?_ GE298.out) | exact HB.out)) hb); clear BK298; clear HB; have BK298 := n0_; have HB := n1_; clear n0_ n1_; (try clear hb); (try clear hb2); (try clear hk); (try clear hi)) | ((with_reducible refine gate_callee (f := 23) rfl ?_); refine goesL_ (some 22) rfl rfl Try.func23 (by kernel_rfl) rfl #[.int .u64 a1] rfl (by (try simp only [List.map_toArray, List.map_cons, List.map_nil]); first | done | rfl | (simp only [List.length_drop, List.length_take]; rfl)) ?_; (with_reducible refine (slotmeshlaw08_time.calls a1 t300 _ A7.out).mono ?_); rintro e w' ⟨rfl, ⟨nd, rfl⟩⟩; refine ⟨_, rfl, ?_⟩; (try (rw [drewN_self w17]; generalize hq_ : World.drewN w17 _ = w17; have n0_ : Aside0 (w17.heap[gb298]? = some (.cells #[.int .i64 a0_0, .int .i64 a0_1] 41 (0, 0))) := ⟨by rw [← hq_]; exact (by (with_reducible repeat (first | refine blk_drewN ?_ _ | refine blk_drew ?_ | refine blk_alloc ?_ _)); exact BK298.out)⟩; have n1_ : Aside0 (Below w.heap.size w w17) := ⟨by rw [← hq_]; exact (by repeat (first | (with_reducible first | exact HB.out | apply below_alloc | apply pw_below_drewN | apply below_drew1 | refine below_set ?_ GE298.out) | exact HB.out))⟩; clear BK298 HB hq_; have BK298 := n0_; have HB := n1_; clear n0_ n1_)); (try have hcy298_0 : w17.cell? ⟨gb298, 0, none⟩ = some (.int .i64 a0_0) := (blk_cell BK298.out 0).trans rfl); (try have hcy298_1 : w17.cell? ⟨gb298, 1, none⟩ = some (.int .i64 a0_1) := (blk_cell BK298.out 1).trans rfl); (try have hfy298_0 := blk_frozen BK298.out 0); (try have hfy298_1 := blk_frozen BK298.out 1)) | ((with_reducible refine gate_callee (f := 23) rfl ?_); refine goesL_ (some 24) rfl rfl Try.func23 (by kernel_rfl) rfl #[.int .u64 a2] rfl (by (try simp only [List.map_toArray, List.map_cons, List.map_nil]); first | done | rfl | (simp only [List.length_drop, List.length_take]; rfl)) ?_; (with_reducible refine (slotmeshlaw08_time.calls a2 t301 _ A8.out).mono ?_); rintro e w' ⟨rfl, ⟨nd, rfl⟩⟩; refine ⟨_, rfl, ?_⟩; (try (rw [drewN_self w17]; generalize hq_ : World.drewN w17 _ = w17; have n0_ : Aside0 (w17.heap[gb298]? = some (.cells #[.int .i64 a0_0, .int .i64 a0_1] 41 (0, 0))) := ⟨by rw [← hq_]; exact (by (with_reducible repeat (first | refine blk_drewN ?_ _ | refine blk_drew ?_ | refine blk_alloc ?_ _)); exact BK298.out)⟩; have n1_ : Aside0 (Below w.heap.size w w17) := ⟨by rw [← hq_]; exact (by repeat (first | (with_reducible first | exact HB.out | apply below_alloc | apply pw_below_drewN | apply below_drew1 | refine below_set ?_ GE298.out) | exact HB.out))⟩; clear BK298 HB hq_; have BK298 := n0_; have HB := n1_; clear n0_ n1_)); (try have hcy298_0 : w17.cell? ⟨gb298, 0, none⟩ = some (.int .i64 a0_0) := (blk_cell BK298.out 0).trans rfl); (try have hcy298_1 : w17.cell? ⟨gb298, 1, none⟩ = some (.int .i64 a0_1) := (blk_cell BK298.out 1).trans rfl); (try have hfy298_0 := blk_frozen BK298.out 0); (try have hfy298_1 := blk_frozen BK298.out 1)) | ((with_reducible refine gate_callee (f := 23) rfl ?_); refine goesL_ (some 27) rfl rfl Try.func23 (by kernel_rfl) rfl #[.int .u64 a1] rfl (by (try simp only [List.map_toArray, List.map_cons, List.map_nil]); first | done | rfl | (simp only [List.length_drop, List.length_take]; rfl)) ?_; (with_reducible refine (slotmeshlaw08_time.calls a1 t302 _ A10.out).mono ?_); rintro e w' ⟨rfl, ⟨nd, rfl⟩⟩; refine ⟨_, rfl, ?_⟩; (try (rw [drewN_self w17]; generalize hq_ : World.drewN w17 _ = w17; have n0_ : Aside0 (w17.heap[gb298]? = some (.cells #[.int .i64 a0_0, .int .i64 a0_1] 41 (0, 0))) := ⟨by rw [← hq_]; exact (by (with_reducible repeat (first | refine blk_drewN ?_ _ | refine blk_drew ?_ | refine blk_alloc ?_ _)); exact BK298.out)⟩; have n1_ : Aside0 (Below w.heap.size w w17) := ⟨by rw [← hq_]; exact (by repeat (first | (with_reducible first | exact HB.out | apply below_alloc | apply pw_below_drewN | apply below_drew1 | refine below_set ?_ GE298.out) | exact HB.out))⟩; clear BK298 HB hq_; have BK298 := n0_; have HB := n1_; clear n0_ n1_)); (try have hcy298_0 : w17.cell? ⟨gb298, 0, none⟩ = some (.int .i64 a0_0) := (blk_cell BK298.out 0).trans rfl); (try have hcy298_1 : w17.cell? ⟨gb298, 1, none⟩ = some (.int .i64 a0_1) := (blk_cell BK298.out 1).trans rfl); (try have hfy298_0 := blk_frozen BK298.out 0); (try have hfy298_1 := blk_frozen BK298.out 1)) | ((with_reducible refine gate_callee (f := 23) rfl ?_); refine goesL_ (some 29) rfl rfl Try.func23 (by kernel_rfl) rfl #[.int .u64 a2] rfl (by (try simp only [List.map_toArray, List.map_cons, List.map_nil]); first | done | rfl | (simp only [List.length_drop, List.length_take]; rfl)) ?_; (with_reducible refine (slotmeshlaw08_time.calls a2 t303 _ A11.out).mono ?_); rintro e w' ⟨rfl, ⟨nd, rfl⟩⟩; refine ⟨_, rfl, ?_⟩; (try (rw [drewN_self w17]; generalize hq_ : World.drewN w17 _ = w17; have n0_ : Aside0 (w17.heap[gb298]? = some (.cells #[.int .i64 a0_0, .int .i64 a0_1] 41 (0, 0))) := ⟨by rw [← hq_]; exact (by (with_reducible repeat (first | refine blk_drewN ?_ _ | refine blk_drew ?_ | refine blk_alloc ?_ _)); exact BK298.out)⟩; have n1_ : Aside0 (Below w.heap.size w w17) := ⟨by rw [← hq_]; exact (by repeat (first | (with_reducible first | exact HB.out | apply below_alloc | apply pw_below_drewN | apply below_drew1 | refine below_set ?_ GE298.out) | exact HB.out))⟩; clear BK298 HB hq_; have BK298 := n0_; have HB := n1_; clear n0_ n1_)); (try have hcy298_0 : w17.cell? ⟨gb298, 0, none⟩ = some (.int .i64 a0_0) := (blk_cell BK298.out 0).trans rfl); (try have hcy298_1 : w17.cell? ⟨gb298, 1, none⟩ = some (.int .i64 a0_1) := (blk_cell BK298.out 1).trans rfl); (try have hfy298_0 := blk_frozen BK298.out 0); (try have hfy298_1 := blk_frozen BK298.out 1); have hcz18_0 : w17.cell? ⟨gb298, 0, none⟩ = some (.int .i64 a0_0) := (blk_cell BK298.out 0).trans rfl; have hcz18_1 : w17.cell? ⟨gb298, 1, none⟩ = some (.int .i64 a0_1) := (blk_cell BK298.out 1).trans rfl; have hfz18_0 := blk_frozen BK298.out 0; have hfz18_1 := blk_frozen BK298.out 1) | ((with_reducible refine gate_callee (f := 24) rfl ?_); refine goesL_ (some 36) rfl rfl Try.func24 (by kernel_rfl) rfl #[.agg #[.int .i64 a0_0, .int .i64 a0_1], .int .i64 ji9, .int .u32 a3, .int .u32 a4] rfl (by (try simp only [List.map_toArray, List.map_cons, List.map_nil]); first | done | (simp only [hji9]; rfl) | rfl | (simp only [List.length_drop, List.length_take]; rfl)) ?_; (with_reducible refine (slotmeshlaw08_truth.calls a0_0 a0_1 ji9 a3 a4 t304 t305 t306 t307 _ A13.out).mono ?_); rintro e w19 ⟨rfl, hb⟩; refine ⟨_, rfl, ?_⟩; have n0_ := Aside0.mk (blk_below (g := gb298) (o := .cells #[.int .i64 a0_0, .int .i64 a0_1] 41 (0, 0)) (by (with_reducible repeat (first | refine blk_drewN ?_ _ | refine blk_drew ?_ | refine blk_alloc ?_ _)); exact BK298.out) hb); have n1_ := Aside0.mk (below_step (by repeat (first | (with_reducible first | exact HB.out | apply below_alloc | apply pw_below_drewN | apply below_drew1 | refine below_set ?_ GE298.out) | exact HB.out)) hb); clear BK298; clear HB; have BK298 := n0_; have HB := n1_; clear n0_ n1_; (try clear hb); (try clear hb2); (try clear hk); (try clear hi)) | ((with_reducible refine gate_dst (N := 14) rfl ?_); refine box_event ?hg (N := 14) ?hd (cs := #[.int .i64 0, .int .i64 0, .int .i64 0]) (t := 23) ?hr ?_; (case hd => rfl); (case hg => rfl); (case hr => first | (go_simp; done) | (go_simp; rfl)); intro gb308 hg w20 hbox hb; have n0_ := Aside0.mk (blk_below (g := gb298) (o := .cells #[.int .i64 a0_0, .int .i64 a0_1] 41 (0, 0)) (by (with_reducible repeat (first | refine blk_drewN ?_ _ | refine blk_drew ?_ | refine blk_alloc ?_ _)); exact BK298.out) hb); have n1_ := Aside0.mk (below_step (by repeat (first | (with_reducible first | exact HB.out | apply below_alloc | apply pw_below_drewN | apply below_drew1 | refine below_set ?_ GE298.out) | exact HB.out)) hb); have n2_ := Aside0.mk (hbox); have n3_ := Aside0.mk ((by rw [hg]; exact (below_size (by repeat (first | (with_reducible first | exact HB.out | apply below_alloc | apply pw_below_drewN | apply below_drew1 | refine below_set ?_ GE298.out) | exact HB.out))) : w.heap.size ≤ gb308)); have n4_ := Aside0.mk ((by rw [hg]; exact (below_size (by repeat (first | (with_reducible first | exact HB.out | apply below_alloc | apply pw_below_drewN | apply below_drew1 | refine below_set ?_ GE298.out) | exact HB.out))) : w.heap.size ≤ gb308)); have n5_ := Aside0.mk ((by rw [hg]; exact Nat.ne_of_lt (blk_lt (g := gb298) (o := .cells #[.int .i64 a0_0, .int .i64 a0_1] 41 (0, 0)) (by (with_reducible repeat (first | refine blk_drewN ?_ _ | refine blk_drew ?_ | refine blk_alloc ?_ _)); exact BK298.out)) : gb298 ≠ gb308)); have n6_ := Aside0.mk ((by rw [hg]; exact Nat.ne_of_gt (blk_lt (g := gb298) (o := .cells #[.int .i64 a0_0, .int .i64 a0_1] 41 (0, 0)) (by (with_reducible repeat (first | refine blk_drewN ?_ _ | refine blk_drew ?_ | refine blk_alloc ?_ _)); exact BK298.out)) : gb308 ≠ gb298)); clear BK298; clear HB; have BK298 := n0_; have HB := n1_; have BK308 := n2_; have GW308 := n3_; have GE308 := n4_; have NB298_308 := n5_; have NB308_298 := n6_; clear n0_ n1_ n2_ n3_ n4_ n5_ n6_; clear hb hbox hg; have hnb21 := NB308_298.out; have hnc21 := NB298_308.out; have hcz22_0 : w20.cell? ⟨gb308, 0, none⟩ = some (.int .i64 0) := (blk_cell BK308.out 0).trans rfl; have hcz22_1 : w20.cell? ⟨gb308, 1, none⟩ = some (.int .i64 0) := (blk_cell BK308.out 1).trans rfl; have hcz22_2 : w20.cell? ⟨gb308, 2, none⟩ = some (.int .i64 0) := (blk_cell BK308.out 2).trans rfl; have hfz22_0 := blk_frozen BK308.out 0; have hfz22_1 := blk_frozen BK308.out 1; have hfz22_2 := blk_frozen BK308.out 2; have hcz23_0 : w20.cell? ⟨gb298, 0, none⟩ = some (.int .i64 a0_0) := (blk_cell BK298.out 0).trans rfl; have hcz23_1 : w20.cell? ⟨gb298, 1, none⟩ = some (.int .i64 a0_1) := (blk_cell BK298.out 1).trans rfl; have hfz23_0 := blk_frozen BK298.out 0; have hfz23_1 := blk_frozen BK298.out 1) | ((with_reducible refine gate_callee (f := 25) rfl ?_); refine goesL_ (some 42) rfl rfl Try.func25 (by kernel_rfl) rfl #[.agg #[.int .i64 a0_0, .int .i64 a0_1], .int .i64 ji12] rfl (by (try simp only [List.map_toArray, List.map_cons, List.map_nil]); first | done | (simp only [hji12]; rfl) | rfl | (simp only [List.length_drop, List.length_take]; rfl)) ?_; (with_reducible refine (clock_Show.calls a0_0 a0_1 ji12 t309 t310 _ A14.out).mono ?_); rintro e w24 ⟨rfl, hb⟩; refine ⟨_, rfl, ?_⟩; have n0_ := Aside0.mk (blk_below (g := gb298) (o := .cells #[.int .i64 a0_0, .int .i64 a0_1] 41 (0, 0)) (by (with_reducible repeat (first | refine blk_drewN ?_ _ | refine blk_drew ?_ | refine blk_alloc ?_ _)); refine blk_far ?_ NB298_308.out _; (with_reducible repeat (first | refine blk_drewN ?_ _ | refine blk_drew ?_ | refine blk_alloc ?_ _)); refine blk_far ?_ NB298_308.out _; (with_reducible repeat (first | refine blk_drewN ?_ _ | refine blk_drew ?_ | refine blk_alloc ?_ _)); refine blk_far ?_ NB298_308.out _; (with_reducible repeat (first | refine blk_drewN ?_ _ | refine blk_drew ?_ | refine blk_alloc ?_ _)); exact BK298.out) hb); have n1_ := Aside0.mk (blk_below (g := gb308) (o := .cells #[.int .i64 t304, .int .i64 t305, .int .i64 t306] 23 (0, 0)) (by (with_reducible repeat (first | refine blk_drewN ?_ _ | refine blk_drew ?_ | refine blk_alloc ?_ _)); refine blk_put (cs := #[.int .i64 t304, .int .i64 t305, .int .i64 0]) ?_ 2 _ rfl; (with_reducible repeat (first | refine blk_drewN ?_ _ | refine blk_drew ?_ | refine blk_alloc ?_ _)); refine blk_put (cs := #[.int .i64 t304, .int .i64 0, .int .i64 0]) ?_ 1 _ rfl; (with_reducible repeat (first | refine blk_drewN ?_ _ | refine blk_drew ?_ | refine blk_alloc ?_ _)); refine blk_put (cs := #[.int .i64 0, .int .i64 0, .int .i64 0]) ?_ 0 _ rfl; (with_reducible repeat (first | refine blk_drewN ?_ _ | refine blk_drew ?_ | refine blk_alloc ?_ _)); exact BK308.out) hb); have n2_ := Aside0.mk (below_step (by repeat (first | (with_reducible first | exact HB.out | apply below_alloc | apply pw_below_drewN | apply below_drew1 | refine below_set ?_ GE298.out | refine below_set ?_ GE308.out) | exact HB.out)) hb); clear BK298; clear BK308; clear HB; have BK298 := n0_; have BK308 := n1_; have HB := n2_; clear n0_ n1_ n2_; (try clear hb); (try clear hb2); (try clear hk); (try clear hi)))
  (try simp only [Act.put, List.setIfInBounds_toArray, List.set_cons_zero, List.set_cons_succ])
  go_cut [50] (fun v50 wc => ∃ (kq : Nat) (x50_14 : Bool), v50 = .bool x50_14 ∧ Aside0 (slotmeshlaw08_BoundGrowing.j0 kq t299 ji12 t309 x50_14 t304 t305 t306 = some r) ∧ Aside0 (kq ≤ k) ∧ Aside0 (wc.heap[gb298]? = some (.cells #[.int .i64 a0_0, .int .i64 a0_1] 41 (0, 0))) ∧ Aside0 (wc.heap[gb308]? = some (.cells #[.int .i64 t304, .int .i64 t305, .int .i64 t306] 23 (0, 0))) ∧ Aside0 (Below w.heap.size w wc))
  case first =>
    have H := HC15.out
    clear HC15
    by_cases c25 : t307 = true
    · subst c25
      have H1 : (slotmeshlaw08_BoundGrowing.j0 k t299 ji12 t309 (t310 != 0) t304 t305 t306) = some r := by rw [if_pos rfl] at H; exact H
      clear H
      have H := H1
      clear H1
      have H' := Aside0.mk H
      clear H
      go_wp2
      go_meet
      case rel => exact ⟨_, ((t310 != 0)), (by first | rfl | (simp; done) | (simp [*]; done)), H', ⟨by first | omega | exact Nat.le_refl _⟩, ⟨by (with_reducible repeat (first | refine blk_drewN ?_ _ | refine blk_drew ?_ | refine blk_alloc ?_ _)); exact BK298.out⟩, ⟨by (with_reducible repeat (first | refine blk_drewN ?_ _ | refine blk_drew ?_ | refine blk_alloc ?_ _)); exact BK308.out⟩, ⟨by repeat (first | (with_reducible first | exact HB.out | apply below_alloc | apply pw_below_drewN | apply below_drew1 | refine below_set ?_ GE298.out | refine below_set ?_ GE308.out) | exact HB.out)⟩⟩
    · replace c25 := Bool.eq_false_iff.mpr c25
      subst c25
      have H1 : (slotmeshlaw08_BoundGrowing.j0 k t299 ji12 t309 true t304 t305 t306) = some r := by rw [if_neg (show ¬ (false = true) by decide)] at H; exact H
      clear H
      have H := H1
      clear H1
      have H' := Aside0.mk H
      clear H
      go_wp2
      go_meet
      case rel => exact ⟨_, (true), (by first | rfl | (simp; done) | (simp [*]; done)), H', ⟨by first | omega | exact Nat.le_refl _⟩, ⟨by (with_reducible repeat (first | refine blk_drewN ?_ _ | refine blk_drew ?_ | refine blk_alloc ?_ _)); exact BK298.out⟩, ⟨by (with_reducible repeat (first | refine blk_drewN ?_ _ | refine blk_drew ?_ | refine blk_alloc ?_ _)); exact BK308.out⟩, ⟨by repeat (first | (with_reducible first | exact HB.out | apply below_alloc | apply pw_below_drewN | apply below_drew1 | refine below_set ?_ GE298.out | refine below_set ?_ GE308.out) | exact HB.out)⟩⟩
  case rest =>
    clear HC15
    try clear c1
    try clear c2
    try clear p2
    try clear c8
    try clear c11
    try clear c21
    try clear c23
    try clear c24
    try clear c25
    try clear hcz18_0
    try clear hcz18_1
    try clear hcz22_0
    try clear hcz22_1
    try clear hcz22_2
    try clear hcz23_0
    try clear hcz23_1
    try clear hfz18_0
    try clear hfz18_1
    try clear hfz22_0
    try clear hfz22_1
    try clear hfz22_2
    try clear hfz23_0
    try clear hfz23_1
    obtain ⟨kq, x50_14, rfl, HA, HJ14, BK298, BK308, HB⟩ := hcut
    cases kq with
    | zero => exact absurd HA.out (by simp [slotmeshlaw08_BoundGrowing.j0])
    | succ kj14 =>
      have H := HA.out
      clear HA
      simp only [slotmeshlaw08_BoundGrowing.j0] at H
      by_cases c26 : x50_14 = true
      · subst c26
        have H1 : (some t299) = some r := by rw [if_pos rfl] at H; exact H
        clear H
        have H := H1
        clear H1
        obtain rfl := Option.some.inj H
        go_wp2
        go_ret
        exact ⟨by first | rfl | (simp [errW_none, errW_some] <;> rfl) | (simp only [← hji9, ← hji12]; first | rfl | (simp [errW_none, errW_some] <;> rfl)) | (simp [*, errW_none, errW_some] <;> rfl), by repeat (first | (with_reducible first | exact HB.out | apply below_alloc | apply pw_below_drewN | apply below_drew1 | refine below_set ?_ GE298.out | refine below_set ?_ GE308.out) | exact HB.out)⟩
      · replace c26 := Bool.eq_false_iff.mpr c26
        subst c26
        have H1 : ((bound_Grow.f kj14 t304 t305 t306 t309).bind fun bt311 => (if t299 = true then (if bt311.2.2.2 = 0 then ((slotmeshref08_True.f bt311.1 bt311.2.1 bt311.2.2.1 ji12 t309).bind fun t316 => (some t316)) else (none)) else (none))) = some r := by rw [if_neg (show ¬ (false = true) by decide)] at H; exact H
        clear H
        have H := H1
        clear H1
        replace H := Option.bind_eq_some_iff.mp H
        obtain ⟨⟨t311, t312, t313, t314⟩, A270, H⟩ := H
        replace H : (if t299 = true then (if t314 = 0 then ((slotmeshref08_True.f t311 t312 t313 ji12 t309).bind fun t316 => (some t316)) else (none)) else (none)) = some r := H
        have A27 := Aside0.mk A270
        clear A270
        by_cases c28 : t299 = true
        · subst c28
          have H1 : (if t314 = 0 then ((slotmeshref08_True.f t311 t312 t313 ji12 t309).bind fun t316 => (some t316)) else (none)) = some r := by rw [if_pos rfl] at H; exact H
          clear H
          have H := H1
          clear H1
          by_cases c29 : t314 = 0
          · rw [if_pos c29] at H
            have c29b0 : (t314 == 0) = true := beq_iff_eq.mpr c29
            have c29b1 : (t314 != 0) = false := bne_eq_false_iff_eq.mpr c29
            clear c29
            replace H := Option.bind_eq_some_iff.mp H
            obtain ⟨t316, A300, H⟩ := H
            replace H : (some t316) = some r := H
            have A30 := Aside0.mk A300
            clear A300
            obtain rfl := Option.some.inj H
            have hnb31 := NB308_298.out
            have hnc31 := NB298_308.out
            have hcz32_0 : wc.cell? ⟨gb308, 0, none⟩ = some (.int .i64 t304) := (blk_cell BK308.out 0).trans rfl
            have hcz32_1 : wc.cell? ⟨gb308, 1, none⟩ = some (.int .i64 t305) := (blk_cell BK308.out 1).trans rfl
            have hcz32_2 : wc.cell? ⟨gb308, 2, none⟩ = some (.int .i64 t306) := (blk_cell BK308.out 2).trans rfl
            have hfz32_0 := blk_frozen BK308.out 0
            have hfz32_1 := blk_frozen BK308.out 1
            have hfz32_2 := blk_frozen BK308.out 2
            go_wp2_with (first | ((with_reducible refine gate_callee (f := 12) rfl ?_); refine goesL_ (some 55) rfl rfl Try.func12 (by kernel_rfl) rfl #[.agg #[.int .i64 t304, .int .i64 t305, .int .i64 t306], .int .i64 t309] rfl (by (try simp only [List.map_toArray, List.map_cons, List.map_nil]); first | done | rfl | (simp only [List.length_drop, List.length_take]; rfl)) ?_; (with_reducible refine (bound_Grow.calls kj14 t304 t305 t306 t309 t311 t312 t313 t314 _ A27.out).mono ?_); rintro e w33 ⟨rfl, hb⟩; refine ⟨_, rfl, ?_⟩; have n0_ := Aside0.mk (blk_below (g := gb298) (o := .cells #[.int .i64 a0_0, .int .i64 a0_1] 41 (0, 0)) (by (with_reducible repeat (first | refine blk_drewN ?_ _ | refine blk_drew ?_ | refine blk_alloc ?_ _)); exact BK298.out) hb); have n1_ := Aside0.mk (blk_below (g := gb308) (o := .cells #[.int .i64 t304, .int .i64 t305, .int .i64 t306] 23 (0, 0)) (by (with_reducible repeat (first | refine blk_drewN ?_ _ | refine blk_drew ?_ | refine blk_alloc ?_ _)); exact BK308.out) hb); have n2_ := Aside0.mk (below_step (by repeat (first | (with_reducible first | exact HB.out | apply below_alloc | apply pw_below_drewN | apply below_drew1 | refine below_set ?_ GE298.out | refine below_set ?_ GE308.out) | exact HB.out)) hb); clear BK298; clear BK308; clear HB; have BK298 := n0_; have BK308 := n1_; have HB := n2_; clear n0_ n1_ n2_; (try clear hb); (try clear hb2); (try clear hk); (try clear hi)) | ((with_reducible refine gate_dst (N := 18) rfl ?_); refine box_event ?hg (N := 18) ?hd (cs := #[.int .i64 0, .int .i64 0, .int .i64 0]) (t := 23) ?hr ?_; (case hd => rfl); (case hg => rfl); (case hr => first | (go_simp; done) | (go_simp; rfl)); intro gb315 hg w34 hbox hb; have n0_ := Aside0.mk (blk_below (g := gb298) (o := .cells #[.int .i64 a0_0, .int .i64 a0_1] 41 (0, 0)) (by (with_reducible repeat (first | refine blk_drewN ?_ _ | refine blk_drew ?_ | refine blk_alloc ?_ _)); exact BK298.out) hb); have n1_ := Aside0.mk (blk_below (g := gb308) (o := .cells #[.int .i64 t304, .int .i64 t305, .int .i64 t306] 23 (0, 0)) (by (with_reducible repeat (first | refine blk_drewN ?_ _ | refine blk_drew ?_ | refine blk_alloc ?_ _)); exact BK308.out) hb); have n2_ := Aside0.mk (below_step (by repeat (first | (with_reducible first | exact HB.out | apply below_alloc | apply pw_below_drewN | apply below_drew1 | refine below_set ?_ GE298.out | refine below_set ?_ GE308.out) | exact HB.out)) hb); have n3_ := Aside0.mk (hbox); have n4_ := Aside0.mk ((by rw [hg]; exact (below_size (by repeat (first | (with_reducible first | exact HB.out | apply below_alloc | apply pw_below_drewN | apply below_drew1 | refine below_set ?_ GE298.out | refine below_set ?_ GE308.out) | exact HB.out))) : w.heap.size ≤ gb315)); have n5_ := Aside0.mk ((by rw [hg]; exact (below_size (by repeat (first | (with_reducible first | exact HB.out | apply below_alloc | apply pw_below_drewN | apply below_drew1 | refine below_set ?_ GE298.out | refine below_set ?_ GE308.out) | exact HB.out))) : w.heap.size ≤ gb315)); have n6_ := Aside0.mk ((by rw [hg]; exact Nat.ne_of_lt (blk_lt (g := gb298) (o := .cells #[.int .i64 a0_0, .int .i64 a0_1] 41 (0, 0)) (by (with_reducible repeat (first | refine blk_drewN ?_ _ | refine blk_drew ?_ | refine blk_alloc ?_ _)); exact BK298.out)) : gb298 ≠ gb315)); have n7_ := Aside0.mk ((by rw [hg]; exact Nat.ne_of_gt (blk_lt (g := gb298) (o := .cells #[.int .i64 a0_0, .int .i64 a0_1] 41 (0, 0)) (by (with_reducible repeat (first | refine blk_drewN ?_ _ | refine blk_drew ?_ | refine blk_alloc ?_ _)); exact BK298.out)) : gb315 ≠ gb298)); have n8_ := Aside0.mk ((by rw [hg]; exact Nat.ne_of_lt (blk_lt (g := gb308) (o := .cells #[.int .i64 t304, .int .i64 t305, .int .i64 t306] 23 (0, 0)) (by (with_reducible repeat (first | refine blk_drewN ?_ _ | refine blk_drew ?_ | refine blk_alloc ?_ _)); exact BK308.out)) : gb308 ≠ gb315)); have n9_ := Aside0.mk ((by rw [hg]; exact Nat.ne_of_gt (blk_lt (g := gb308) (o := .cells #[.int .i64 t304, .int .i64 t305, .int .i64 t306] 23 (0, 0)) (by (with_reducible repeat (first | refine blk_drewN ?_ _ | refine blk_drew ?_ | refine blk_alloc ?_ _)); exact BK308.out)) : gb315 ≠ gb308)); clear BK298; clear BK308; clear HB; have BK298 := n0_; have BK308 := n1_; have HB := n2_; have BK315 := n3_; have GW315 := n4_; have GE315 := n5_; have NB298_315 := n6_; have NB315_298 := n7_; have NB308_315 := n8_; have NB315_308 := n9_; clear n0_ n1_ n2_ n3_ n4_ n5_ n6_ n7_ n8_ n9_; clear hb hbox hg; have hnb35 := NB315_298.out; have hnc35 := NB298_315.out; have hnb36 := NB315_308.out; have hnc36 := NB308_315.out; have hcz37_0 : w34.cell? ⟨gb315, 0, none⟩ = some (.int .i64 0) := (blk_cell BK315.out 0).trans rfl; have hcz37_1 : w34.cell? ⟨gb315, 1, none⟩ = some (.int .i64 0) := (blk_cell BK315.out 1).trans rfl; have hcz37_2 : w34.cell? ⟨gb315, 2, none⟩ = some (.int .i64 0) := (blk_cell BK315.out 2).trans rfl; have hfz37_0 := blk_frozen BK315.out 0; have hfz37_1 := blk_frozen BK315.out 1; have hfz37_2 := blk_frozen BK315.out 2) | (go_at_call 26; (with_reducible refine (slotmeshref08_True.calls t311 t312 t313 ji12 t309 t316 _ A30.out).mono ?_); rintro e w38 ⟨rfl, hb⟩; have n0_ := Aside0.mk (blk_below (g := gb298) (o := .cells #[.int .i64 a0_0, .int .i64 a0_1] 41 (0, 0)) (by (with_reducible repeat (first | refine blk_drewN ?_ _ | refine blk_drew ?_ | refine blk_alloc ?_ _)); refine blk_far ?_ NB298_315.out _; (with_reducible repeat (first | refine blk_drewN ?_ _ | refine blk_drew ?_ | refine blk_alloc ?_ _)); refine blk_far ?_ NB298_315.out _; (with_reducible repeat (first | refine blk_drewN ?_ _ | refine blk_drew ?_ | refine blk_alloc ?_ _)); refine blk_far ?_ NB298_315.out _; (with_reducible repeat (first | refine blk_drewN ?_ _ | refine blk_drew ?_ | refine blk_alloc ?_ _)); exact BK298.out) hb); have n1_ := Aside0.mk (blk_below (g := gb308) (o := .cells #[.int .i64 t304, .int .i64 t305, .int .i64 t306] 23 (0, 0)) (by (with_reducible repeat (first | refine blk_drewN ?_ _ | refine blk_drew ?_ | refine blk_alloc ?_ _)); refine blk_far ?_ NB308_315.out _; (with_reducible repeat (first | refine blk_drewN ?_ _ | refine blk_drew ?_ | refine blk_alloc ?_ _)); refine blk_far ?_ NB308_315.out _; (with_reducible repeat (first | refine blk_drewN ?_ _ | refine blk_drew ?_ | refine blk_alloc ?_ _)); refine blk_far ?_ NB308_315.out _; (with_reducible repeat (first | refine blk_drewN ?_ _ | refine blk_drew ?_ | refine blk_alloc ?_ _)); exact BK308.out) hb); have n2_ := Aside0.mk (blk_below (g := gb315) (o := .cells #[.int .i64 t311, .int .i64 t312, .int .i64 t313] 23 (0, 0)) (by (with_reducible repeat (first | refine blk_drewN ?_ _ | refine blk_drew ?_ | refine blk_alloc ?_ _)); refine blk_put (cs := #[.int .i64 t311, .int .i64 t312, .int .i64 0]) ?_ 2 _ rfl; (with_reducible repeat (first | refine blk_drewN ?_ _ | refine blk_drew ?_ | refine blk_alloc ?_ _)); refine blk_put (cs := #[.int .i64 t311, .int .i64 0, .int .i64 0]) ?_ 1 _ rfl; (with_reducible repeat (first | refine blk_drewN ?_ _ | refine blk_drew ?_ | refine blk_alloc ?_ _)); refine blk_put (cs := #[.int .i64 0, .int .i64 0, .int .i64 0]) ?_ 0 _ rfl; (with_reducible repeat (first | refine blk_drewN ?_ _ | refine blk_drew ?_ | refine blk_alloc ?_ _)); exact BK315.out) hb); have n3_ := Aside0.mk (below_step (by repeat (first | (with_reducible first | exact HB.out | apply below_alloc | apply pw_below_drewN | apply below_drew1 | refine below_set ?_ GE298.out | refine below_set ?_ GE308.out | refine below_set ?_ GE315.out) | exact HB.out)) hb); clear BK298; clear BK308; clear BK315; clear HB; have BK298 := n0_; have BK308 := n1_; have BK315 := n2_; have HB := n3_; clear n0_ n1_ n2_ n3_; (try clear hb); (try clear hb2); (try clear hk); (try clear hi)))
            go_ret
            exact ⟨by first | rfl | (simp [errW_none, errW_some] <;> rfl) | (simp only [← hji9, ← hji12]; first | rfl | (simp [errW_none, errW_some] <;> rfl)) | (simp [*, errW_none, errW_some] <;> rfl), by repeat (first | (with_reducible first | exact HB.out | apply below_alloc | apply pw_below_drewN | apply below_drew1 | refine below_set ?_ GE298.out | refine below_set ?_ GE308.out | refine below_set ?_ GE315.out) | exact HB.out)⟩
          · rw [if_neg c29] at H
            exact absurd H (by simp)
        · replace c28 := Bool.eq_false_iff.mpr c28
          subst c28
          have H1 : (none) = some r := by rw [if_neg (show ¬ (false = true) by decide)] at H; exact H
          clear H
          have H := H1
          clear H1
          exact absurd H (by simp)

end Go.Proofs.Ytjmpgefhdafmfaa.P
