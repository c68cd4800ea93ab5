/- The Go functions of this claim as Lean functions, and the proofs that their calls answer so: written by wip/myprint.py over the kit's printer, hand-proved contracts laid in. Conditions: none. -/
import Derived.Test.YtjmpgefhdafmfaaPx0
import Derived.Test.YtjmpgefhdafmfaaPx6
import Derived.Test.YtjmpgefhdafmfaaPx11
import Derived.Test.YtjmpgefhdafmfaaPx25
import Derived.Test.YtjmpgefhdafmfaaPx29
import Derived.Test.YtjmpgefhdafmfaaPx30
namespace Go.Proofs.Ytjmpgefhdafmfaa.P
open Go.RowKit Go.Proofs.YtjmpgefhdafmfaaW.PrintWords Go.Proofs.YtjmpgefhdafmfaaW.PrintLast Go.Proofs.YtjmpgefhdafmfaaW.PrintMore
attribute [local go_sem] max2_int min2_int max_two min_two max_three min_three max_four min_four   -- for this text's walks alone
set_option linter.unusedVariables false
set_option linter.unusedSimpArgs false

/-! ### slotmeshlaw08_BoundMeeting: function 9 -/
def slotmeshlaw08_BoundMeeting.j0 : Nat → Bool → Int → Bool → Int → Int → Int → Int → Int → Int → Option (Bool)
  | 0, _, _, _, _, _, _, _, _, _ => none
  | k + 1, x15, x17, x56, x328000, x328001, x328002, x333000, x333001, x333002 => if x56 = true then (some x15) else ((bound_Meet.f k x328000 x328001 x328002 x333000 x333001 x333002).bind fun bt333 => (if x15 = true then (if bt333.2.2.2 = 0 then ((slotmeshref08_True.f bt333.1 bt333.2.1 bt333.2.2.1 x17 x333002).bind fun t338 => (some t338)) else (none)) else (none)))
def slotmeshlaw08_BoundMeeting.f (k : Nat) (a0_0 : Int) (a0_1 : Int) (a1 : Int) (a2 : Int) (a3 : Int) (a4 : Int) (a5 : Int) (a6 : Int) : Option (Bool) := (slotmeshlaw08_head.f).bind fun t318 => ((slotmeshlaw08_time.f a1).bind fun t319 => ((slotmeshlaw08_time.f a2).bind fun t320 => ((slotmeshlaw08_time.f a1).bind fun t321 => ((slotmeshlaw08_time.f a2).bind fun t322 => ((slotmeshlaw08_truth.f a0_0 a0_1 (mn t319 t320) a3 a4).bind fun bt323 => ((slotmeshlaw08_truth.f a0_0 a0_1 (mx t321 t322) a5 a6).bind fun bt328 => (if bt323.2.2.2 = true then (slotmeshlaw08_BoundMeeting.j0 k t318 (mx t321 t322) (!bt328.2.2.2) bt323.1 bt323.2.1 bt323.2.2.1 bt328.1 bt328.2.1 bt328.2.2.1) else (slotmeshlaw08_BoundMeeting.j0 k t318 (mx t321 t322) true bt323.1 bt323.2.1 bt323.2.2.1 bt328.1 bt328.2.1 bt328.2.2.1))))))))
theorem slotmeshlaw08_BoundMeeting.mono_l : ∀ k, (∀ y0 y1 y2 y3 y4 y5 y6 y7 y8, LeO (slotmeshlaw08_BoundMeeting.j0 k y0 y1 y2 y3 y4 y5 y6 y7 y8) (slotmeshlaw08_BoundMeeting.j0 (k + 1) y0 y1 y2 y3 y4 y5 y6 y7 y8))
  | 0 => fun _ _ _ _ _ _ _ _ _ r h => by simp [slotmeshlaw08_BoundMeeting.j0] at h
  | k + 1 => by
    have ih0 := slotmeshlaw08_BoundMeeting.mono_l k
    · intro y0 y1 y2 y3 y4 y5 y6 y7 y8
      unfold slotmeshlaw08_BoundMeeting.j0
      repeat' first
      | (with_reducible exact ih0 _ _ _ _ _ _ _ _ _)
      | (with_reducible exact bound_Meet.mono _ _ _ _ _ _ _)
      | (with_reducible exact LeO.refl _)
      | (with_reducible exact LeO.none _)
      | (with_reducible refine LeO.ite ?_ ?_)
      | (with_reducible refine LeO.bind ?_ (fun _ => ?_))
      | exact ih0 _ _ _ _ _ _ _ _ _
      | exact bound_Meet.mono _ _ _ _ _ _ _
      | exact LeO.none _
      | refine LeO.ite ?_ ?_
      | refine LeO.bind ?_ (fun _ => ?_)
theorem slotmeshlaw08_BoundMeeting.mono : ∀ a0 a1 a2 a3 a4 a5 a6 a7 k, LeO (slotmeshlaw08_BoundMeeting.f k a0 a1 a2 a3 a4 a5 a6 a7) (slotmeshlaw08_BoundMeeting.f (k + 1) a0 a1 a2 a3 a4 a5 a6 a7) := by
  intro a0 a1 a2 a3 a4 a5 a6 a7 k
  have ih0 := slotmeshlaw08_BoundMeeting.mono_l k
  unfold slotmeshlaw08_BoundMeeting.f
  repeat' first
      | (with_reducible exact ih0 _ _ _ _ _ _ _ _ _)
      | (with_reducible exact bound_Meet.mono _ _ _ _ _ _ _)
      | (with_reducible exact LeO.refl _)
      | (with_reducible exact LeO.none _)
      | (with_reducible refine LeO.ite ?_ ?_)
      | (with_reducible refine LeO.bind ?_ (fun _ => ?_))
      | exact ih0 _ _ _ _ _ _ _ _ _
      | exact bound_Meet.mono _ _ _ _ _ _ _
      | exact LeO.none _
      | refine LeO.ite ?_ ?_
      | refine LeO.bind ?_ (fun _ => ?_)
set_option maxHeartbeats 8000000 in
set_option maxRecDepth 100000 in
theorem slotmeshlaw08_BoundMeeting.calls (k : Nat) (a0_0 : Int) (a0_1 : Int) (a1 : Int) (a2 : Int) (a3 : Int) (a4 : Int) (a5 : Int) (a6 : Int) (r : Bool) (w : World) (h : slotmeshlaw08_BoundMeeting.f k a0_0 a0_1 a1 a2 a3 a4 a5 a6 = some r) :
    Calls Try.prog 9 #[.agg #[.int .i64 a0_0, .int .i64 a0_1], .int .u64 a1, .int .u64 a2, .int .u32 a3, .int .u32 a4, .int .u32 a5, .int .u32 a6] w fun e w' => e = .returned (.bool r) ∧ Below w.heap.size w w' := by
  have hu41 := Try.underlying41
  have hu23 := Try.underlying23
  have HB := Aside0.mk (Below.refl w.heap.size w)
  have H : ((slotmeshlaw08_head.f).bind fun t318 => ((slotmeshlaw08_time.f a1).bind fun t319 => ((slotmeshlaw08_time.f a2).bind fun t320 => ((slotmeshlaw08_time.f a1).bind fun t321 => ((slotmeshlaw08_time.f a2).bind fun t322 => ((slotmeshlaw08_truth.f a0_0 a0_1 (mn t319 t320) a3 a4).bind fun bt323 => ((slotmeshlaw08_truth.f a0_0 a0_1 (mx t321 t322) a5 a6).bind fun bt328 => (if bt323.2.2.2 = true then (slotmeshlaw08_BoundMeeting.j0 k t318 (mx t321 t322) (!bt328.2.2.2) bt323.1 bt323.2.1 bt323.2.2.1 bt328.1 bt328.2.1 bt328.2.2.1) else (slotmeshlaw08_BoundMeeting.j0 k t318 (mx t321 t322) true bt323.1 bt323.2.1 bt323.2.2.1 bt328.1 bt328.2.1 bt328.2.2.1))))))))) = some r := h
  clear h
  replace H := Option.bind_eq_some_iff.mp H
  obtain ⟨t318, A80, H⟩ := H
  replace H : ((slotmeshlaw08_time.f a1).bind fun t319 => ((slotmeshlaw08_time.f a2).bind fun t320 => ((slotmeshlaw08_time.f a1).bind fun t321 => ((slotmeshlaw08_time.f a2).bind fun t322 => ((slotmeshlaw08_truth.f a0_0 a0_1 (mn t319 t320) a3 a4).bind fun bt323 => ((slotmeshlaw08_truth.f a0_0 a0_1 (mx t321 t322) a5 a6).bind fun bt328 => (if bt323.2.2.2 = true then (slotmeshlaw08_BoundMeeting.j0 k t318 (mx t321 t322) (!bt328.2.2.2) bt323.1 bt323.2.1 bt323.2.2.1 bt328.1 bt328.2.1 bt328.2.2.1) else (slotmeshlaw08_BoundMeeting.j0 k t318 (mx t321 t322) true bt323.1 bt323.2.1 bt323.2.2.1 bt328.1 bt328.2.1 bt328.2.2.1)))))))) = some r := H
  have A8 := Aside0.mk A80
  clear A80
  replace H := Option.bind_eq_some_iff.mp H
  obtain ⟨t319, A90, H⟩ := H
  replace H : ((slotmeshlaw08_time.f a2).bind fun t320 => ((slotmeshlaw08_time.f a1).bind fun t321 => ((slotmeshlaw08_time.f a2).bind fun t322 => ((slotmeshlaw08_truth.f a0_0 a0_1 (mn t319 t320) a3 a4).bind fun bt323 => ((slotmeshlaw08_truth.f a0_0 a0_1 (mx t321 t322) a5 a6).bind fun bt328 => (if bt323.2.2.2 = true then (slotmeshlaw08_BoundMeeting.j0 k t318 (mx t321 t322) (!bt328.2.2.2) bt323.1 bt323.2.1 bt323.2.2.1 bt328.1 bt328.2.1 bt328.2.2.1) else (slotmeshlaw08_BoundMeeting.j0 k t318 (mx t321 t322) true bt323.1 bt323.2.1 bt323.2.2.1 bt328.1 bt328.2.1 bt328.2.2.1))))))) = some r := H
  have A9 := Aside0.mk A90
  clear A90
  replace H := Option.bind_eq_some_iff.mp H
  obtain ⟨t320, A100, H⟩ := H
  replace H : ((slotmeshlaw08_time.f a1).bind fun t321 => ((slotmeshlaw08_time.f a2).bind fun t322 => ((slotmeshlaw08_truth.f a0_0 a0_1 (mn t319 t320) a3 a4).bind fun bt323 => ((slotmeshlaw08_truth.f a0_0 a0_1 (mx t321 t322) a5 a6).bind fun bt328 => (if bt323.2.2.2 = true then (slotmeshlaw08_BoundMeeting.j0 k t318 (mx t321 t322) (!bt328.2.2.2) bt323.1 bt323.2.1 bt323.2.2.1 bt328.1 bt328.2.1 bt328.2.2.1) else (slotmeshlaw08_BoundMeeting.j0 k t318 (mx t321 t322) true bt323.1 bt323.2.1 bt323.2.2.1 bt328.1 bt328.2.1 bt328.2.2.1)))))) = some r := H
  have A10 := Aside0.mk A100
  clear A100
  obtain ⟨ji11, hji11⟩ : ∃ j_ : Int, (mn t319 t320) = j_ := ⟨_, rfl⟩
  replace H : ((slotmeshlaw08_time.f a1).bind fun t321 => ((slotmeshlaw08_time.f a2).bind fun t322 => ((slotmeshlaw08_truth.f a0_0 a0_1 (ji11) a3 a4).bind fun bt323 => ((slotmeshlaw08_truth.f a0_0 a0_1 (mx t321 t322) a5 a6).bind fun bt328 => (if bt323.2.2.2 = true then (slotmeshlaw08_BoundMeeting.j0 k t318 (mx t321 t322) (!bt328.2.2.2) bt323.1 bt323.2.1 bt323.2.2.1 bt328.1 bt328.2.1 bt328.2.2.1) else (slotmeshlaw08_BoundMeeting.j0 k t318 (mx t321 t322) true bt323.1 bt323.2.1 bt323.2.2.1 bt328.1 bt328.2.1 bt328.2.2.1)))))) = some r := by first | (rw [hji11] at H; exact H) | (simp only [hji11] at H ⊢; exact H)
  (try rw [hji11] at A8)
  (try rw [hji11] at A9)
  (try rw [hji11] at A10)
  have hji11_ : (if t320 < t319 then t320 else t319) = ji11 := hji11
  replace H := Option.bind_eq_some_iff.mp H
  obtain ⟨t321, A120, H⟩ := H
  replace H : ((slotmeshlaw08_time.f a2).bind fun t322 => ((slotmeshlaw08_truth.f a0_0 a0_1 (ji11) a3 a4).bind fun bt323 => ((slotmeshlaw08_truth.f a0_0 a0_1 (mx t321 t322) a5 a6).bind fun bt328 => (if bt323.2.2.2 = true then (slotmeshlaw08_BoundMeeting.j0 k t318 (mx t321 t322) (!bt328.2.2.2) bt323.1 bt323.2.1 bt323.2.2.1 bt328.1 bt328.2.1 bt328.2.2.1) else (slotmeshlaw08_BoundMeeting.j0 k t318 (mx t321 t322) true bt323.1 bt323.2.1 bt323.2.2.1 bt328.1 bt328.2.1 bt328.2.2.1))))) = some r := H
  have A12 := Aside0.mk A120
  clear A120
  replace H := Option.bind_eq_some_iff.mp H
  obtain ⟨t322, A130, H⟩ := H
  replace H : ((slotmeshlaw08_truth.f a0_0 a0_1 (ji11) a3 a4).bind fun bt323 => ((slotmeshlaw08_truth.f a0_0 a0_1 (mx t321 t322) a5 a6).bind fun bt328 => (if bt323.2.2.2 = true then (slotmeshlaw08_BoundMeeting.j0 k t318 (mx t321 t322) (!bt328.2.2.2) bt323.1 bt323.2.1 bt323.2.2.1 bt328.1 bt328.2.1 bt328.2.2.1) else (slotmeshlaw08_BoundMeeting.j0 k t318 (mx t321 t322) true bt323.1 bt323.2.1 bt323.2.2.1 bt328.1 bt328.2.1 bt328.2.2.1)))) = some r := H
  have A13 := Aside0.mk A130
  clear A130
  obtain ⟨ji14, hji14⟩ : ∃ j_ : Int, (mx t321 t322) = j_ := ⟨_, rfl⟩
  replace H : ((slotmeshlaw08_truth.f a0_0 a0_1 (ji11) a3 a4).bind fun bt323 => ((slotmeshlaw08_truth.f a0_0 a0_1 (ji14) a5 a6).bind fun bt328 => (if bt323.2.2.2 = true then (slotmeshlaw08_BoundMeeting.j0 k t318 ji14 (!bt328.2.2.2) bt323.1 bt323.2.1 bt323.2.2.1 bt328.1 bt328.2.1 bt328.2.2.1) else (slotmeshlaw08_BoundMeeting.j0 k t318 ji14 true bt323.1 bt323.2.1 bt323.2.2.1 bt328.1 bt328.2.1 bt328.2.2.1)))) = some r := by first | (rw [hji14] at H; exact H) | (simp only [hji14] at H ⊢; exact H)
  (try rw [hji14] at A8)
  (try rw [hji14] at A9)
  (try rw [hji14] at A10)
  (try rw [hji14] at A12)
  (try rw [hji14] at A13)
  have hji14_ : (if t321 < t322 then t322 else t321) = ji14 := hji14
  replace H := Option.bind_eq_some_iff.mp H
  obtain ⟨⟨t323, t324, t325, t326⟩, A150, H⟩ := H
  replace H : ((slotmeshlaw08_truth.f a0_0 a0_1 (ji14) a5 a6).bind fun bt328 => (if t326 = true then (slotmeshlaw08_BoundMeeting.j0 k t318 ji14 (!bt328.2.2.2) t323 t324 t325 bt328.1 bt328.2.1 bt328.2.2.1) else (slotmeshlaw08_BoundMeeting.j0 k t318 ji14 true t323 t324 t325 bt328.1 bt328.2.1 bt328.2.2.1))) = some r := H
  have A15 := Aside0.mk A150
  clear A150
  replace H := Option.bind_eq_some_iff.mp H
  obtain ⟨⟨t328, t329, t330, t331⟩, A160, H⟩ := H
  replace H : (if t326 = true then (slotmeshlaw08_BoundMeeting.j0 k t318 ji14 (!t331) t323 t324 t325 t328 t329 t330) else (slotmeshlaw08_BoundMeeting.j0 k t318 ji14 true t323 t324 t325 t328 t329 t330)) = some r := H
  have A16 := Aside0.mk A160
  clear A160
  have HC17 := Aside0.mk H
  clear H
  go_enter Try.func9, Try.ntmps9
  go_upto_region 5 with (first | ((with_reducible refine gate_dst (N := 7) rfl ?_); refine box_event ?hg (N := 7) ?hd (cs := #[.int .i64 a0_0, .int .i64 a0_1]) (t := 41) ?hr ?_; (case hd => rfl); (case hg => rfl); (case hr => first | (go_simp; done) | (go_simp; rfl)); intro gb317 hg w18 hbox hb; have n0_ := Aside0.mk (below_step (by repeat (first | (with_reducible first | exact HB.out | apply below_alloc | apply pw_below_drewN | apply below_drew1) | exact HB.out)) hb); have n1_ := Aside0.mk (hbox); have n2_ := Aside0.mk ((by rw [hg]; exact (below_size (by repeat (first | (with_reducible first | exact HB.out | apply below_alloc | apply pw_below_drewN | apply below_drew1) | exact HB.out))) : w.heap.size ≤ gb317)); have n3_ := Aside0.mk ((by rw [hg]; exact (below_size (by repeat (first | (with_reducible first | exact HB.out | apply below_alloc | apply pw_below_drewN | apply below_drew1) | exact HB.out))) : w.heap.size ≤ gb317)); clear HB; have HB := n0_; have BK317 := n1_; have GW317 := n2_; have GE317 := n3_; clear n0_ n1_ n2_ n3_; clear hb hbox hg) | ((with_reducible refine gate_callee (f := 11) rfl ?_); refine goesL_ (some 24) rfl rfl Try.func11 (by kernel_rfl) rfl #[] rfl (by (try simp only [List.map_toArray, List.map_cons, List.map_nil]); first | done | rfl | (simp only [List.length_drop, List.length_take]; rfl)) ?_; (with_reducible refine (slotmeshlaw08_head.calls  t318 _ A8.out).mono ?_); rintro e w19 ⟨rfl, hb⟩; refine ⟨_, rfl, ?_⟩; have n0_ := Aside0.mk (blk_below (g := gb317) (o := .cells #[.int .i64 a0_0, .int .i64 a0_1] 41 (0, 0)) (by (with_reducible repeat (first | refine blk_drewN ?_ _ | refine blk_drew ?_ | refine blk_alloc ?_ _)); exact BK317.out) hb); have n1_ := Aside0.mk (below_step (by repeat (first | (with_reducible first | exact HB.out | apply below_alloc | apply pw_below_drewN | apply below_drew1 | refine below_set ?_ GE317.out) | exact HB.out)) hb); clear BK317; clear HB; have BK317 := n0_; have HB := n1_; clear n0_ n1_; (try clear hb); (try clear hb2); (try clear hk); (try clear hi)) | ((with_reducible refine gate_callee (f := 23) rfl ?_); refine goesL_ (some 26) rfl rfl Try.func23 (by kernel_rfl) rfl #[.int .u64 a1] rfl (by (try simp only [List.map_toArray, List.map_cons, List.map_nil]); first | done | rfl | (simp only [List.length_drop, List.length_take]; rfl)) ?_; (with_reducible refine (slotmeshlaw08_time.calls a1 t319 _ A9.out).mono ?_); rintro e w' ⟨rfl, ⟨nd, rfl⟩⟩; refine ⟨_, rfl, ?_⟩; (try (rw [drewN_self w19]; generalize hq_ : World.drewN w19 _ = w19; have n0_ : Aside0 (w19.heap[gb317]? = some (.cells #[.int .i64 a0_0, .int .i64 a0_1] 41 (0, 0))) := ⟨by rw [← hq_]; exact (by (with_reducible repeat (first | refine blk_drewN ?_ _ | refine blk_drew ?_ | refine blk_alloc ?_ _)); exact BK317.out)⟩; have n1_ : Aside0 (Below w.heap.size w w19) := ⟨by rw [← hq_]; exact (by repeat (first | (with_reducible first | exact HB.out | apply below_alloc | apply pw_below_drewN | apply below_drew1 | refine below_set ?_ GE317.out) | exact HB.out))⟩; clear BK317 HB hq_; have BK317 := n0_; have HB := n1_; clear n0_ n1_)); (try have hcy317_0 : w19.cell? ⟨gb317, 0, none⟩ = some (.int .i64 a0_0) := (blk_cell BK317.out 0).trans rfl); (try have hcy317_1 : w19.cell? ⟨gb317, 1, none⟩ = some (.int .i64 a0_1) := (blk_cell BK317.out 1).trans rfl); (try have hfy317_0 := blk_frozen BK317.out 0); (try have hfy317_1 := blk_frozen BK317.out 1)) | ((with_reducible refine gate_callee (f := 23) rfl ?_); refine goesL_ (some 28) rfl rfl Try.func23 (by kernel_rfl) rfl #[.int .u64 a2] rfl (by (try simp only [List.map_toArray, List.map_cons, List.map_nil]); first | done | rfl | (simp only [List.length_drop, List.length_take]; rfl)) ?_; (with_reducible refine (slotmeshlaw08_time.calls a2 t320 _ A10.out).mono ?_); rintro e w' ⟨rfl, ⟨nd, rfl⟩⟩; refine ⟨_, rfl, ?_⟩; (try (rw [drewN_self w19]; generalize hq_ : World.drewN w19 _ = w19; have n0_ : Aside0 (w19.heap[gb317]? = some (.cells #[.int .i64 a0_0, .int .i64 a0_1] 41 (0, 0))) := ⟨by rw [← hq_]; exact (by (with_reducible repeat (first | refine blk_drewN ?_ _ | refine blk_drew ?_ | refine blk_alloc ?_ _)); exact BK317.out)⟩; have n1_ : Aside0 (Below w.heap.size w w19) := ⟨by rw [← hq_]; exact (by repeat (first | (with_reducible first | exact HB.out | apply below_alloc | apply pw_below_drewN | apply below_drew1 | refine below_set ?_ GE317.out) | exact HB.out))⟩; clear BK317 HB hq_; have BK317 := n0_; have HB := n1_; clear n0_ n1_)); (try have hcy317_0 : w19.cell? ⟨gb317, 0, none⟩ = some (.int .i64 a0_0) := (blk_cell BK317.out 0).trans rfl); (try have hcy317_1 : w19.cell? ⟨gb317, 1, none⟩ = some (.int .i64 a0_1) := (blk_cell BK317.out 1).trans rfl); (try have hfy317_0 := blk_frozen BK317.out 0); (try have hfy317_1 := blk_frozen BK317.out 1)) | ((with_reducible refine gate_callee (f := 23) rfl ?_); refine goesL_ (some 31) rfl rfl Try.func23 (by kernel_rfl) rfl #[.int .u64 a1] rfl (by (try simp only [List.map_toArray, List.map_cons, List.map_nil]); first | done | rfl | (simp only [List.length_drop, List.length_take]; rfl)) ?_; (with_reducible refine (slotmeshlaw08_time.calls a1 t321 _ A12.out).mono ?_); rintro e w' ⟨rfl, ⟨nd, rfl⟩⟩; refine ⟨_, rfl, ?_⟩; (try (rw [drewN_self w19]; generalize hq_ : World.drewN w19 _ = w19; have n0_ : Aside0 (w19.heap[gb317]? = some (.cells #[.int .i64 a0_0, .int .i64 a0_1] 41 (0, 0))) := ⟨by rw [← hq_]; exact (by (with_reducible repeat (first | refine blk_drewN ?_ _ | refine blk_drew ?_ | refine blk_alloc ?_ _)); exact BK317.out)⟩; have n1_ : Aside0 (Below w.heap.size w w19) := ⟨by rw [← hq_]; exact (by repeat (first | (with_reducible first | exact HB.out | apply below_alloc | apply pw_below_drewN | apply below_drew1 | refine below_set ?_ GE317.out) | exact HB.out))⟩; clear BK317 HB hq_; have BK317 := n0_; have HB := n1_; clear n0_ n1_)); (try have hcy317_0 : w19.cell? ⟨gb317, 0, none⟩ = some (.int .i64 a0_0) := (blk_cell BK317.out 0).trans rfl); (try have hcy317_1 : w19.cell? ⟨gb317, 1, none⟩ = some (.int .i64 a0_1) := (blk_cell BK317.out 1).trans rfl); (try have hfy317_0 := blk_frozen BK317.out 0); (try have hfy317_1 := blk_frozen BK317.out 1)) | ((with_reducible refine gate_callee (f := 23) rfl ?_); refine goesL_ (some 33) rfl rfl Try.func23 (by kernel_rfl) rfl #[.int .u64 a2] rfl (by (try simp only [List.map_toArray, List.map_cons, List.map_nil]); first | done | rfl | (simp only [List.length_drop, List.length_take]; rfl)) ?_; (with_reducible refine (slotmeshlaw08_time.calls a2 t322 _ A13.out).mono ?_); rintro e w' ⟨rfl, ⟨nd, rfl⟩⟩; refine ⟨_, rfl, ?_⟩; (try (rw [drewN_self w19]; generalize hq_ : World.drewN w19 _ = w19; have n0_ : Aside0 (w19.heap[gb317]? = some (.cells #[.int .i64 a0_0, .int .i64 a0_1] 41 (0, 0))) := ⟨by rw [← hq_]; exact (by (with_reducible repeat (first | refine blk_drewN ?_ _ | refine blk_drew ?_ | refine blk_alloc ?_ _)); exact BK317.out)⟩; have n1_ : Aside0 (Below w.heap.size w w19) := ⟨by rw [← hq_]; exact (by repeat (first | (with_reducible first | exact HB.out | apply below_alloc | apply pw_below_drewN | apply below_drew1 | refine below_set ?_ GE317.out) | exact HB.out))⟩; clear BK317 HB hq_; have BK317 := n0_; have HB := n1_; clear n0_ n1_)); (try have hcy317_0 : w19.cell? ⟨gb317, 0, none⟩ = some (.int .i64 a0_0) := (blk_cell BK317.out 0).trans rfl); (try have hcy317_1 : w19.cell? ⟨gb317, 1, none⟩ = some (.int .i64 a0_1) := (blk_cell BK317.out 1).trans rfl); (try have hfy317_0 := blk_frozen BK317.out 0); (try have hfy317_1 := blk_frozen BK317.out 1); have hcz20_0 : w19.cell? ⟨gb317, 0, none⟩ = some (.int .i64 a0_0) := (blk_cell BK317.out 0).trans rfl; have hcz20_1 : w19.cell? ⟨gb317, 1, none⟩ = some (.int .i64 a0_1) := (blk_cell BK317.out 1).trans rfl; have hfz20_0 := blk_frozen BK317.out 0; have hfz20_1 := blk_frozen BK317.out 1) | ((with_reducible refine gate_callee (f := 24) rfl ?_); refine goesL_ (some 40) rfl rfl Try.func24 (by kernel_rfl) rfl #[.agg #[.int .i64 a0_0, .int .i64 a0_1], .int .i64 ji11, .int .u32 a3, .int .u32 a4] rfl (by (try simp only [List.map_toArray, List.map_cons, List.map_nil]); first | done | (simp only [hji11]; rfl) | rfl | (simp only [List.length_drop, List.length_take]; rfl)) ?_; (with_reducible refine (slotmeshlaw08_truth.calls a0_0 a0_1 ji11 a3 a4 t323 t324 t325 t326 _ A15.out).mono ?_); rintro e w21 ⟨rfl, hb⟩; refine ⟨_, rfl, ?_⟩; have n0_ := Aside0.mk (blk_below (g := gb317) (o := .cells #[.int .i64 a0_0, .int .i64 a0_1] 41 (0, 0)) (by (with_reducible repeat (first | refine blk_drewN ?_ _ | refine blk_drew ?_ | refine blk_alloc ?_ _)); exact BK317.out) hb); have n1_ := Aside0.mk (below_step (by repeat (first | (with_reducible first | exact HB.out | apply below_alloc | apply pw_below_drewN | apply below_drew1 | refine below_set ?_ GE317.out) | exact HB.out)) hb); clear BK317; clear HB; have BK317 := n0_; have HB := n1_; clear n0_ n1_; (try clear hb); (try clear hb2); (try clear hk); (try clear hi)) | ((with_reducible refine gate_dst (N := 18) rfl ?_); refine box_event ?hg (N := 18) ?hd (cs := #[.int .i64 0, .int .i64 0, .int .i64 0]) (t := 23) ?hr ?_; (case hd => rfl); (case hg => rfl); (case hr => first | (go_simp; done) | (go_simp; rfl)); intro gb327 hg w22 hbox hb; have n0_ := Aside0.mk (blk_below (g := gb317) (o := .cells #[.int .i64 a0_0, .int .i64 a0_1] 41 (0, 0)) (by (with_reducible repeat (first | refine blk_drewN ?_ _ | refine blk_drew ?_ | refine blk_alloc ?_ _)); exact BK317.out) hb); have n1_ := Aside0.mk (below_step (by repeat (first | (with_reducible first | exact HB.out | apply below_alloc | apply pw_below_drewN | apply below_drew1 | refine below_set ?_ GE317.out) | exact HB.out)) hb); have n2_ := Aside0.mk (hbox); have n3_ := Aside0.mk ((by rw [hg]; exact (below_size (by repeat (first | (with_reducible first | exact HB.out | apply below_alloc | apply pw_below_drewN | apply below_drew1 | refine below_set ?_ GE317.out) | exact HB.out))) : w.heap.size ≤ gb327)); have n4_ := Aside0.mk ((by rw [hg]; exact (below_size (by repeat (first | (with_reducible first | exact HB.out | apply below_alloc | apply pw_below_drewN | apply below_drew1 | refine below_set ?_ GE317.out) | exact HB.out))) : w.heap.size ≤ gb327)); have n5_ := Aside0.mk ((by rw [hg]; exact Nat.ne_of_lt (blk_lt (g := gb317) (o := .cells #[.int .i64 a0_0, .int .i64 a0_1] 41 (0, 0)) (by (with_reducible repeat (first | refine blk_drewN ?_ _ | refine blk_drew ?_ | refine blk_alloc ?_ _)); exact BK317.out)) : gb317 ≠ gb327)); have n6_ := Aside0.mk ((by rw [hg]; exact Nat.ne_of_gt (blk_lt (g := gb317) (o := .cells #[.int .i64 a0_0, .int .i64 a0_1] 41 (0, 0)) (by (with_reducible repeat (first | refine blk_drewN ?_ _ | refine blk_drew ?_ | refine blk_alloc ?_ _)); exact BK317.out)) : gb327 ≠ gb317)); clear BK317; clear HB; have BK317 := n0_; have HB := n1_; have BK327 := n2_; have GW327 := n3_; have GE327 := n4_; have NB317_327 := n5_; have NB327_317 := n6_; clear n0_ n1_ n2_ n3_ n4_ n5_ n6_; clear hb hbox hg; have hnb23 := NB327_317.out; have hnc23 := NB317_327.out; have hcz24_0 : w22.cell? ⟨gb327, 0, none⟩ = some (.int .i64 0) := (blk_cell BK327.out 0).trans rfl; have hcz24_1 : w22.cell? ⟨gb327, 1, none⟩ = some (.int .i64 0) := (blk_cell BK327.out 1).trans rfl; have hcz24_2 : w22.cell? ⟨gb327, 2, none⟩ = some (.int .i64 0) := (blk_cell BK327.out 2).trans rfl; have hfz24_0 := blk_frozen BK327.out 0; have hfz24_1 := blk_frozen BK327.out 1; have hfz24_2 := blk_frozen BK327.out 2; have hcz25_0 : w22.cell? ⟨gb317, 0, none⟩ = some (.int .i64 a0_0) := (blk_cell BK317.out 0).trans rfl; have hcz25_1 : w22.cell? ⟨gb317, 1, none⟩ = some (.int .i64 a0_1) := (blk_cell BK317.out 1).trans rfl; have hfz25_0 := blk_frozen BK317.out 0; have hfz25_1 := blk_frozen BK317.out 1) | ((with_reducible refine gate_callee (f := 24) rfl ?_); refine goesL_ (some 48) rfl rfl Try.func24 (by kernel_rfl) rfl #[.agg #[.int .i64 a0_0, .int .i64 a0_1], .int .i64 ji14, .int .u32 a5, .int .u32 a6] rfl (by (try simp only [List.map_toArray, List.map_cons, List.map_nil]); first | done | (simp only [hji14]; rfl) | rfl | (simp only [List.length_drop, List.length_take]; rfl)) ?_; (with_reducible refine (slotmeshlaw08_truth.calls a0_0 a0_1 ji14 a5 a6 t328 t329 t330 t331 _ A16.out).mono ?_); rintro e w26 ⟨rfl, hb⟩; refine ⟨_, rfl, ?_⟩; have n0_ := Aside0.mk (blk_below (g := gb317) (o := .cells #[.int .i64 a0_0, .int .i64 a0_1] 41 (0, 0)) (by (with_reducible repeat (first | refine blk_drewN ?_ _ | refine blk_drew ?_ | refine blk_alloc ?_ _)); refine blk_far ?_ NB317_327.out _; (with_reducible repeat (first | refine blk_drewN ?_ _ | refine blk_drew ?_ | refine blk_alloc ?_ _)); refine blk_far ?_ NB317_327.out _; (with_reducible repeat (first | refine blk_drewN ?_ _ | refine blk_drew ?_ | refine blk_alloc ?_ _)); refine blk_far ?_ NB317_327.out _; (with_reducible repeat (first | refine blk_drewN ?_ _ | refine blk_drew ?_ | refine blk_alloc ?_ _)); exact BK317.out) hb); have n1_ := Aside0.mk (blk_below (g := gb327) (o := .cells #[.int .i64 t323, .int .i64 t324, .int .i64 t325] 23 (0, 0)) (by (with_reducible repeat (first | refine blk_drewN ?_ _ | refine blk_drew ?_ | refine blk_alloc ?_ _)); refine blk_put (cs := #[.int .i64 t323, .int .i64 t324, .int .i64 0]) ?_ 2 _ rfl; (with_reducible repeat (first | refine blk_drewN ?_ _ | refine blk_drew ?_ | refine blk_alloc ?_ _)); refine blk_put (cs := #[.int .i64 t323, .int .i64 0, .int .i64 0]) ?_ 1 _ rfl; (with_reducible repeat (first | refine blk_drewN ?_ _ | refine blk_drew ?_ | refine blk_alloc ?_ _)); refine blk_put (cs := #[.int .i64 0, .int .i64 0, .int .i64 0]) ?_ 0 _ rfl; (with_reducible repeat (first | refine blk_drewN ?_ _ | refine blk_drew ?_ | refine blk_alloc ?_ _)); exact BK327.out) hb); have n2_ := Aside0.mk (below_step (by repeat (first | (with_reducible first | exact HB.out | apply below_alloc | apply pw_below_drewN | apply below_drew1 | refine below_set ?_ GE317.out | refine below_set ?_ GE327.out) | exact HB.out)) hb); clear BK317; clear BK327; clear HB; have BK317 := n0_; have BK327 := n1_; have HB := n2_; clear n0_ n1_ n2_; (try clear hb); (try clear hb2); (try clear hk); (try clear hi)) | ((with_reducible refine gate_dst (N := 20) rfl ?_); refine box_event ?hg (N := 20) ?hd (cs := #[.int .i64 0, .int .i64 0, .int .i64 0]) (t := 23) ?hr ?_; (case hd => rfl); (case hg => rfl); (case hr => first | (go_simp; done) | (go_simp; rfl)); intro gb332 hg w27 hbox hb; have n0_ := Aside0.mk (blk_below (g := gb317) (o := .cells #[.int .i64 a0_0, .int .i64 a0_1] 41 (0, 0)) (by (with_reducible repeat (first | refine blk_drewN ?_ _ | refine blk_drew ?_ | refine blk_alloc ?_ _)); exact BK317.out) hb); have n1_ := Aside0.mk (blk_below (g := gb327) (o := .cells #[.int .i64 t323, .int .i64 t324, .int .i64 t325] 23 (0, 0)) (by (with_reducible repeat (first | refine blk_drewN ?_ _ | refine blk_drew ?_ | refine blk_alloc ?_ _)); exact BK327.out) hb); have n2_ := Aside0.mk (below_step (by repeat (first | (with_reducible first | exact HB.out | apply below_alloc | apply pw_below_drewN | apply below_drew1 | refine below_set ?_ GE317.out | refine below_set ?_ GE327.out) | exact HB.out)) hb); have n3_ := Aside0.mk (hbox); have n4_ := Aside0.mk ((by rw [hg]; exact (below_size (by repeat (first | (with_reducible first | exact HB.out | apply below_alloc | apply pw_below_drewN | apply below_drew1 | refine below_set ?_ GE317.out | refine below_set ?_ GE327.out) | exact HB.out))) : w.heap.size ≤ gb332)); have n5_ := Aside0.mk ((by rw [hg]; exact (below_size (by repeat (first | (with_reducible first | exact HB.out | apply below_alloc | apply pw_below_drewN | apply below_drew1 | refine below_set ?_ GE317.out | refine below_set ?_ GE327.out) | exact HB.out))) : w.heap.size ≤ gb332)); have n6_ := Aside0.mk ((by rw [hg]; exact Nat.ne_of_lt (blk_lt (g := gb317) (o := .cells #[.int .i64 a0_0, .int .i64 a0_1] 41 (0, 0)) (by (with_reducible repeat (first | refine blk_drewN ?_ _ | refine blk_drew ?_ | refine blk_alloc ?_ _)); exact BK317.out)) : gb317 ≠ gb332)); have n7_ := Aside0.mk ((by rw [hg]; exact Nat.ne_of_gt (blk_lt (g := gb317) (o := .cells #[.int .i64 a0_0, .int .i64 a0_1] 41 (0, 0)) (by (with_reducible repeat (first | refine blk_drewN ?_ _ | refine blk_drew ?_ | refine blk_alloc ?_ _)); exact BK317.out)) : gb332 ≠ gb317)); have n8_ := Aside0.mk ((by rw [hg]; exact Nat.ne_of_lt (blk_lt (g := gb327) (o := .cells #[.int .i64 t323, .int .i64 t324, .int .i64 t325] 23 (0, 0)) (by (with_reducible repeat (first | refine blk_drewN ?_ _ | refine blk_drew ?_ | refine blk_alloc ?_ _)); exact BK327.out)) : gb327 ≠ gb332)); have n9_ := Aside0.mk ((by rw [hg]; exact Nat.ne_of_gt (blk_lt (g := gb327) (o := .cells #[.int .i64 t323, .int .i64 t324, .int .i64 t325] 23 (0, 0)) (by (with_reducible repeat (first | refine blk_drewN ?_ _ | refine blk_drew ?_ | refine blk_alloc ?_ _)); exact BK327.out)) : gb332 ≠ gb327)); clear BK317; clear BK327; clear HB; have BK317 := n0_; have BK327 := n1_; have HB := n2_; have BK332 := n3_; have GW332 := n4_; have GE332 := n5_; have NB317_332 := n6_; have NB332_317 := n7_; have NB327_332 := n8_; have NB332_327 := n9_; clear n0_ n1_ n2_ n3_ n4_ n5_ n6_ n7_ n8_ n9_; clear hb hbox hg; have hnb28 := NB332_317.out; have hnc28 := NB317_332.out; have hnb29 := NB332_327.out; have hnc29 := NB327_332.out; have hcz30_0 : w27.cell? ⟨gb332, 0, none⟩ = some (.int .i64 0) := (blk_cell BK332.out 0).trans rfl; have hcz30_1 : w27.cell? ⟨gb332, 1, none⟩ = some (.int .i64 0) := (blk_cell BK332.out 1).trans rfl; have hcz30_2 : w27.cell? ⟨gb332, 2, none⟩ = some (.int .i64 0) := (blk_cell BK332.out 2).trans rfl; have hfz30_0 := blk_frozen BK332.out 0; have hfz30_1 := blk_frozen BK332.out 1; have hfz30_2 := blk_frozen BK332.out 2))
  (try simp only [Act.put, List.setIfInBounds_toArray, List.set_cons_zero, List.set_cons_succ])
  go_cut [56] (fun v56 wc => ∃ (kq : Nat) (x56_16 : Bool), v56 = .bool x56_16 ∧ Aside0 (slotmeshlaw08_BoundMeeting.j0 kq t318 ji14 x56_16 t323 t324 t325 t328 t329 t330 = some r) ∧ Aside0 (kq ≤ k) ∧ Aside0 (wc.heap[gb317]? = some (.cells #[.int .i64 a0_0, .int .i64 a0_1] 41 (0, 0))) ∧ Aside0 (wc.heap[gb327]? = some (.cells #[.int .i64 t323, .int .i64 t324, .int .i64 t325] 23 (0, 0))) ∧ Aside0 (wc.heap[gb332]? = some (.cells #[.int .i64 t328, .int .i64 t329, .int .i64 t330] 23 (0, 0))) ∧ Aside0 (Below w.heap.size w wc))
  case first =>
    have H := HC17.out
    clear HC17
    by_cases c31 : t326 = true
    · subst c31
      have H1 : (slotmeshlaw08_BoundMeeting.j0 k t318 ji14 (!t331) t323 t324 t325 t328 t329 t330) = some r := by rw [if_pos rfl] at H; exact H
      clear H
      have H := H1
      clear H1
      have H' := Aside0.mk H
      clear H
      go_wp2
      go_meet
      case rel => exact ⟨_, (!t331), (by first | rfl | (simp; done) | (simp [*]; done)), H', ⟨by first | omega | exact Nat.le_refl _⟩, ⟨by (with_reducible repeat (first | refine blk_drewN ?_ _ | refine blk_drew ?_ | refine blk_alloc ?_ _)); refine blk_far ?_ NB317_332.out _; (with_reducible repeat (first | refine blk_drewN ?_ _ | refine blk_drew ?_ | refine blk_alloc ?_ _)); refine blk_far ?_ NB317_332.out _; (with_reducible repeat (first | refine blk_drewN ?_ _ | refine blk_drew ?_ | refine blk_alloc ?_ _)); refine blk_far ?_ NB317_332.out _; (with_reducible repeat (first | refine blk_drewN ?_ _ | refine blk_drew ?_ | refine blk_alloc ?_ _)); exact BK317.out⟩, ⟨by (with_reducible repeat (first | refine blk_drewN ?_ _ | refine blk_drew ?_ | refine blk_alloc ?_ _)); refine blk_far ?_ NB327_332.out _; (with_reducible repeat (first | refine blk_drewN ?_ _ | refine blk_drew ?_ | refine blk_alloc ?_ _)); refine blk_far ?_ NB327_332.out _; (with_reducible repeat (first | refine blk_drewN ?_ _ | refine blk_drew ?_ | refine blk_alloc ?_ _)); refine blk_far ?_ NB327_332.out _; (with_reducible repeat (first | refine blk_drewN ?_ _ | refine blk_drew ?_ | refine blk_alloc ?_ _)); exact BK327.out⟩, ⟨by (with_reducible repeat (first | refine blk_drewN ?_ _ | refine blk_drew ?_ | refine blk_alloc ?_ _)); refine blk_put (cs := #[.int .i64 t328, .int .i64 t329, .int .i64 0]) ?_ 2 _ rfl; (with_reducible repeat (first | refine blk_drewN ?_ _ | refine blk_drew ?_ | refine blk_alloc ?_ _)); refine blk_put (cs := #[.int .i64 t328, .int .i64 0, .int .i64 0]) ?_ 1 _ rfl; (with_reducible repeat (first | refine blk_drewN ?_ _ | refine blk_drew ?_ | refine blk_alloc ?_ _)); refine blk_put (cs := #[.int .i64 0, .int .i64 0, .int .i64 0]) ?_ 0 _ rfl; (with_reducible repeat (first | refine blk_drewN ?_ _ | refine blk_drew ?_ | refine blk_alloc ?_ _)); exact BK332.out⟩, ⟨by repeat (first | (with_reducible first | exact HB.out | apply below_alloc | apply pw_below_drewN | apply below_drew1 | refine below_set ?_ GE317.out | refine below_set ?_ GE327.out | refine below_set ?_ GE332.out) | exact HB.out)⟩⟩
    · replace c31 := Bool.eq_false_iff.mpr c31
      subst c31
      have H1 : (slotmeshlaw08_BoundMeeting.j0 k t318 ji14 true t323 t324 t325 t328 t329 t330) = some r := by rw [if_neg (show ¬ (false = true) by decide)] at H; exact H
      clear H
      have H := H1
      clear H1
      have H' := Aside0.mk H
      clear H
      go_wp2
      go_meet
      case rel => exact ⟨_, (true), (by first | rfl | (simp; done) | (simp [*]; done)), H', ⟨by first | omega | exact Nat.le_refl _⟩, ⟨by (with_reducible repeat (first | refine blk_drewN ?_ _ | refine blk_drew ?_ | refine blk_alloc ?_ _)); refine blk_far ?_ NB317_332.out _; (with_reducible repeat (first | refine blk_drewN ?_ _ | refine blk_drew ?_ | refine blk_alloc ?_ _)); refine blk_far ?_ NB317_332.out _; (with_reducible repeat (first | refine blk_drewN ?_ _ | refine blk_drew ?_ | refine blk_alloc ?_ _)); refine blk_far ?_ NB317_332.out _; (with_reducible repeat (first | refine blk_drewN ?_ _ | refine blk_drew ?_ | refine blk_alloc ?_ _)); exact BK317.out⟩, ⟨by (with_reducible repeat (first | refine blk_drewN ?_ _ | refine blk_drew ?_ | refine blk_alloc ?_ _)); refine blk_far ?_ NB327_332.out _; (with_reducible repeat (first | refine blk_drewN ?_ _ | refine blk_drew ?_ | refine blk_alloc ?_ _)); refine blk_far ?_ NB327_332.out _; (with_reducible repeat (first | refine blk_drewN ?_ _ | refine blk_drew ?_ | refine blk_alloc ?_ _)); refine blk_far ?_ NB327_332.out _; (with_reducible repeat (first | refine blk_drewN ?_ _ | refine blk_drew ?_ | refine blk_alloc ?_ _)); exact BK327.out⟩, ⟨by (with_reducible repeat (first | refine blk_drewN ?_ _ | refine blk_drew ?_ | refine blk_alloc ?_ _)); refine blk_put (cs := #[.int .i64 t328, .int .i64 t329, .int .i64 0]) ?_ 2 _ rfl; (with_reducible repeat (first | refine blk_drewN ?_ _ | refine blk_drew ?_ | refine blk_alloc ?_ _)); refine blk_put (cs := #[.int .i64 t328, .int .i64 0, .int .i64 0]) ?_ 1 _ rfl; (with_reducible repeat (first | refine blk_drewN ?_ _ | refine blk_drew ?_ | refine blk_alloc ?_ _)); refine blk_put (cs := #[.int .i64 0, .int .i64 0, .int .i64 0]) ?_ 0 _ rfl; (with_reducible repeat (first | refine blk_drewN ?_ _ | refine blk_drew ?_ | refine blk_alloc ?_ _)); exact BK332.out⟩, ⟨by repeat (first | (with_reducible first | exact HB.out | apply below_alloc | apply pw_below_drewN | apply below_drew1 | refine below_set ?_ GE317.out | refine below_set ?_ GE327.out | refine below_set ?_ GE332.out) | exact HB.out)⟩⟩
  case rest =>
    clear HC17
    try clear c1
    try clear c2
    try clear p2
    try clear c3
    try clear c9
    try clear c11
    try clear c23
    try clear c24
    try clear c28
    try clear c29
    try clear c31
    try clear hcz20_0
    try clear hcz20_1
    try clear hcz24_0
    try clear hcz24_1
    try clear hcz24_2
    try clear hcz25_0
    try clear hcz25_1
    try clear hcz30_0
    try clear hcz30_1
    try clear hcz30_2
    try clear hfz20_0
    try clear hfz20_1
    try clear hfz24_0
    try clear hfz24_1
    try clear hfz24_2
    try clear hfz25_0
    try clear hfz25_1
    try clear hfz30_0
    try clear hfz30_1
    try clear hfz30_2
    obtain ⟨kq, x56_16, rfl, HA, HJ16, BK317, BK327, BK332, HB⟩ := hcut
    cases kq with
    | zero => exact absurd HA.out (by simp [slotmeshlaw08_BoundMeeting.j0])
    | succ kj16 =>
      have H := HA.out
      clear HA
      simp only [slotmeshlaw08_BoundMeeting.j0] at H
      by_cases c32 : x56_16 = true
      · subst c32
        have H1 : (some t318) = some r := by rw [if_pos rfl] at H; exact H
        clear H
        have H := H1
        clear H1
        obtain rfl := Option.some.inj H
        go_wp2
        go_ret
        exact ⟨by first | rfl | (simp [errW_none, errW_some] <;> rfl) | (simp only [← hji11, ← hji14]; first | rfl | (simp [errW_none, errW_some] <;> rfl)) | (simp [*, errW_none, errW_some] <;> rfl), by repeat (first | (with_reducible first | exact HB.out | apply below_alloc | apply pw_below_drewN | apply below_drew1 | refine below_set ?_ GE317.out | refine below_set ?_ GE327.out | refine below_set ?_ GE332.out) | exact HB.out)⟩
      · replace c32 := Bool.eq_false_iff.mpr c32
        subst c32
        have H1 : ((bound_Meet.f kj16 t323 t324 t325 t328 t329 t330).bind fun bt333 => (if t318 = true then (if bt333.2.2.2 = 0 then ((slotmeshref08_True.f bt333.1 bt333.2.1 bt333.2.2.1 ji14 t330).bind fun t338 => (some t338)) else (none)) else (none))) = some r := by rw [if_neg (show ¬ (false = true) by decide)] at H; exact H
        clear H
        have H := H1
        clear H1
        replace H := Option.bind_eq_some_iff.mp H
        obtain ⟨⟨t333, t334, t335, t336⟩, A330, H⟩ := H
        replace H : (if t318 = true then (if t336 = 0 then ((slotmeshref08_True.f t333 t334 t335 ji14 t330).bind fun t338 => (some t338)) else (none)) else (none)) = some r := H
        have A33 := Aside0.mk A330
        clear A330
        by_cases c34 : t318 = true
        · subst c34
          have H1 : (if t336 = 0 then ((slotmeshref08_True.f t333 t334 t335 ji14 t330).bind fun t338 => (some t338)) else (none)) = some r := by rw [if_pos rfl] at H; exact H
          clear H
          have H := H1
          clear H1
          by_cases c35 : t336 = 0
          · rw [if_pos c35] at H
            have c35b0 : (t336 == 0) = true := beq_iff_eq.mpr c35
            have c35b1 : (t336 != 0) = false := bne_eq_false_iff_eq.mpr c35
            clear c35
            replace H := Option.bind_eq_some_iff.mp H
            obtain ⟨t338, A360, H⟩ := H
            replace H : (some t338) = some r := H
            have A36 := Aside0.mk A360
            clear A360
            obtain rfl := Option.some.inj H
            have hnb37 := NB327_317.out
            have hnc37 := NB317_327.out
            have hnb38 := NB327_332.out
            have hnc38 := NB332_327.out
            have hcz39_0 : wc.cell? ⟨gb327, 0, none⟩ = some (.int .i64 t323) := (blk_cell BK327.out 0).trans rfl
            have hcz39_1 : wc.cell? ⟨gb327, 1, none⟩ = some (.int .i64 t324) := (blk_cell BK327.out 1).trans rfl
            have hcz39_2 : wc.cell? ⟨gb327, 2, none⟩ = some (.int .i64 t325) := (blk_cell BK327.out 2).trans rfl
            have hfz39_0 := blk_frozen BK327.out 0
            have hfz39_1 := blk_frozen BK327.out 1
            have hfz39_2 := blk_frozen BK327.out 2
            have hnb40 := NB332_317.out
            have hnc40 := NB317_332.out
            have hcz41_0 : wc.cell? ⟨gb332, 0, none⟩ = some (.int .i64 t328) := (blk_cell BK332.out 0).trans rfl
            have hcz41_1 : wc.cell? ⟨gb332, 1, none⟩ = some (.int .i64 t329) := (blk_cell BK332.out 1).trans rfl
            have hcz41_2 : wc.cell? ⟨gb332, 2, none⟩ = some (.int .i64 t330) := (blk_cell BK332.out 2).trans rfl
            have hfz41_0 := blk_frozen BK332.out 0
            have hfz41_1 := blk_frozen BK332.out 1
            have hfz41_2 := blk_frozen BK332.out 2
            go_wp2_with (first | ((with_reducible refine gate_callee (f := 14) rfl ?_); refine goesL_ (some 61) rfl rfl Try.func14 (by kernel_rfl) rfl #[.agg #[.int .i64 t323, .int .i64 t324, .int .i64 t325], .agg #[.int .i64 t328, .int .i64 t329, .int .i64 t330]] rfl (by (try simp only [List.map_toArray, List.map_cons, List.map_nil]); first | done | rfl | (simp only [List.length_drop, List.length_take]; rfl)) ?_; (with_reducible refine (bound_Meet.calls kj16 t323 t324 t325 t328 t329 t330 t333 t334 t335 t336 _ A33.out).mono ?_); rintro e w42 ⟨rfl, hb⟩; refine ⟨_, rfl, ?_⟩; have n0_ := Aside0.mk (blk_below (g := gb317) (o := .cells #[.int .i64 a0_0, .int .i64 a0_1] 41 (0, 0)) (by (with_reducible repeat (first | refine blk_drewN ?_ _ | refine blk_drew ?_ | refine blk_alloc ?_ _)); exact BK317.out) hb); have n1_ := Aside0.mk (blk_below (g := gb327) (o := .cells #[.int .i64 t323, .int .i64 t324, .int .i64 t325] 23 (0, 0)) (by (with_reducible repeat (first | refine blk_drewN ?_ _ | refine blk_drew ?_ | refine blk_alloc ?_ _)); exact BK327.out) hb); have n2_ := Aside0.mk (blk_below (g := gb332) (o := .cells #[.int .i64 t328, .int .i64 t329, .int .i64 t330] 23 (0, 0)) (by (with_reducible repeat (first | refine blk_drewN ?_ _ | refine blk_drew ?_ | refine blk_alloc ?_ _)); exact BK332.out) hb); have n3_ := Aside0.mk (below_step (by repeat (first | (with_reducible first | exact HB.out | apply below_alloc | apply pw_below_drewN | apply below_drew1 | refine below_set ?_ GE317.out | refine below_set ?_ GE327.out | refine below_set ?_ GE332.out) | exact HB.out)) hb); clear BK317; clear BK327; clear BK332; clear HB; have BK317 := n0_; have BK327 := n1_; have BK332 := n2_; have HB := n3_; clear n0_ n1_ n2_ n3_; (try clear hb); (try clear hb2); (try clear hk); (try clear hi)) | ((with_reducible refine gate_dst (N := 22) rfl ?_); refine box_event ?hg (N := 22) ?hd (cs := #[.int .i64 0, .int .i64 0, .int .i64 0]) (t := 23) ?hr ?_; (case hd => rfl); (case hg => rfl); (case hr => first | (go_simp; done) | (go_simp; rfl)); intro gb337 hg w43 hbox hb; have n0_ := Aside0.mk (blk_below (g := gb317) (o := .cells #[.int .i64 a0_0, .int .i64 a0_1] 41 (0, 0)) (by (with_reducible repeat (first | refine blk_drewN ?_ _ | refine blk_drew ?_ | refine blk_alloc ?_ _)); exact BK317.out) hb); have n1_ := Aside0.mk (blk_below (g := gb327) (o := .cells #[.int .i64 t323, .int .i64 t324, .int .i64 t325] 23 (0, 0)) (by (with_reducible repeat (first | refine blk_drewN ?_ _ | refine blk_drew ?_ | refine blk_alloc ?_ _)); exact BK327.out) hb); have n2_ := Aside0.mk (blk_below (g := gb332) (o := .cells #[.int .i64 t328, .int .i64 t329, .int .i64 t330] 23 (0, 0)) (by (with_reducible repeat (first | refine blk_drewN ?_ _ | refine blk_drew ?_ | refine blk_alloc ?_ _)); exact BK332.out) hb); have n3_ := Aside0.mk (below_step (by repeat (first | (with_reducible first | exact HB.out | apply below_alloc | apply pw_below_drewN | apply below_drew1 | refine below_set ?_ GE317.out | refine below_set ?_ GE327.out | refine below_set ?_ GE332.out) | exact HB.out)) hb); have n4_ := Aside0.mk (hbox); have n5_ := Aside0.mk ((by rw [hg]; exact (below_size (by repeat (first | (with_reducible first | exact HB.out | apply below_alloc | apply pw_below_drewN | apply below_drew1 | refine below_set ?_ GE317.out | refine below_set ?_ GE327.out | refine below_set ?_ GE332.out) | exact HB.out))) : w.heap.size ≤ gb337)); have n6_ := Aside0.mk ((by rw [hg]; exact (below_size (by repeat (first | (with_reducible first | exact HB.out | apply below_alloc | apply pw_below_drewN | apply below_drew1 | refine below_set ?_ GE317.out | refine below_set ?_ GE327.out | refine below_set ?_ GE332.out) | exact HB.out))) : w.heap.size ≤ gb337)); have n7_ := Aside0.mk ((by rw [hg]; exact Nat.ne_of_lt (blk_lt (g := gb317) (o := .cells #[.int .i64 a0_0, .int .i64 a0_1] 41 (0, 0)) (by (with_reducible repeat (first | refine blk_drewN ?_ _ | refine blk_drew ?_ | refine blk_alloc ?_ _)); exact BK317.out)) : gb317 ≠ gb337)); have n8_ := Aside0.mk ((by rw [hg]; exact Nat.ne_of_gt (blk_lt (g := gb317) (o := .cells #[.int .i64 a0_0, .int .i64 a0_1] 41 (0, 0)) (by (with_reducible repeat (first | refine blk_drewN ?_ _ | refine blk_drew ?_ | refine blk_alloc ?_ _)); exact BK317.out)) : gb337 ≠ gb317)); have n9_ := Aside0.mk ((by rw [hg]; exact Nat.ne_of_lt (blk_lt (g := gb327) (o := .cells #[.int .i64 t323, .int .i64 t324, .int .i64 t325] 23 (0, 0)) (by (with_reducible repeat (first | refine blk_drewN ?_ _ | refine blk_drew ?_ | refine blk_alloc ?_ _)); exact BK327.out)) : gb327 ≠ gb337)); have n10_ := Aside0.mk ((by rw [hg]; exact Nat.ne_of_gt (blk_lt (g := gb327) (o := .cells #[.int .i64 t323, .int .i64 t324, .int .i64 t325] 23 (0, 0)) (by (with_reducible repeat (first | refine blk_drewN ?_ _ | refine blk_drew ?_ | refine blk_alloc ?_ _)); exact BK327.out)) : gb337 ≠ gb327)); have n11_ := Aside0.mk ((by rw [hg]; exact Nat.ne_of_lt (blk_lt (g := gb332) (o := .cells #[.int .i64 t328, .int .i64 t329, .int .i64 t330] 23 (0, 0)) (by (with_reducible repeat (first | refine blk_drewN ?_ _ | refine blk_drew ?_ | refine blk_alloc ?_ _)); exact BK332.out)) : gb332 ≠ gb337)); have n12_ := Aside0.mk ((by rw [hg]; exact Nat.ne_of_gt (blk_lt (g := gb332) (o := .cells #[.int .i64 t328, .int .i64 t329, .int .i64 t330] 23 (0, 0)) (by (with_reducible repeat (first | refine blk_drewN ?_ _ | refine blk_drew ?_ | refine blk_alloc ?_ _)); exact BK332.out)) : gb337 ≠ gb332)); clear BK317; clear BK327; clear BK332; clear HB; have BK317 := n0_; have BK327 := n1_; have BK332 := n2_; have HB := n3_; have BK337 := n4_; have GW337 := n5_; have GE337 := n6_; have NB317_337 := n7_; have NB337_317 := n8_; have NB327_337 := n9_; have NB337_327 := n10_; have NB332_337 := n11_; have NB337_332 := n12_; clear n0_ n1_ n2_ n3_ n4_ n5_ n6_ n7_ n8_ n9_ n10_ n11_ n12_; clear hb hbox hg; have hnb44 := NB337_317.out; have hnc44 := NB317_337.out; have hnb45 := NB337_327.out; have hnc45 := NB327_337.out; have hnb46 := NB337_332.out; have hnc46 := NB332_337.out; have hcz47_0 : w43.cell? ⟨gb337, 0, none⟩ = some (.int .i64 0) := (blk_cell BK337.out 0).trans rfl; have hcz47_1 : w43.cell? ⟨gb337, 1, none⟩ = some (.int .i64 0) := (blk_cell BK337.out 1).trans rfl; have hcz47_2 : w43.cell? ⟨gb337, 2, none⟩ = some (.int .i64 0) := (blk_cell BK337.out 2).trans rfl; have hfz47_0 := blk_frozen BK337.out 0; have hfz47_1 := blk_frozen BK337.out 1; have hfz47_2 := blk_frozen BK337.out 2; have hcz48_0 : w43.cell? ⟨gb332, 0, none⟩ = some (.int .i64 t328) := (blk_cell BK332.out 0).trans rfl; have hcz48_1 : w43.cell? ⟨gb332, 1, none⟩ = some (.int .i64 t329) := (blk_cell BK332.out 1).trans rfl; have hcz48_2 : w43.cell? ⟨gb332, 2, none⟩ = some (.int .i64 t330) := (blk_cell BK332.out 2).trans rfl; have hfz48_0 := blk_frozen BK332.out 0; have hfz48_1 := blk_frozen BK332.out 1; have hfz48_2 := blk_frozen BK332.out 2) | (go_at_call 26; (with_reducible refine (slotmeshref08_True.calls t333 t334 t335 ji14 t330 t338 _ A36.out).mono ?_); rintro e w49 ⟨rfl, hb⟩; have n0_ := Aside0.mk (blk_below (g := gb317) (o := .cells #[.int .i64 a0_0, .int .i64 a0_1] 41 (0, 0)) (by (with_reducible repeat (first | refine blk_drewN ?_ _ | refine blk_drew ?_ | refine blk_alloc ?_ _)); refine blk_far ?_ NB317_337.out _; (with_reducible repeat (first | refine blk_drewN ?_ _ | refine blk_drew ?_ | refine blk_alloc ?_ _)); refine blk_far ?_ NB317_337.out _; (with_reducible repeat (first | refine blk_drewN ?_ _ | refine blk_drew ?_ | refine blk_alloc ?_ _)); refine blk_far ?_ NB317_337.out _; (with_reducible repeat (first | refine blk_drewN ?_ _ | refine blk_drew ?_ | refine blk_alloc ?_ _)); exact BK317.out) hb); have n1_ := Aside0.mk (blk_below (g := gb327) (o := .cells #[.int .i64 t323, .int .i64 t324, .int .i64 t325] 23 (0, 0)) (by (with_reducible repeat (first | refine blk_drewN ?_ _ | refine blk_drew ?_ | refine blk_alloc ?_ _)); refine blk_far ?_ NB327_337.out _; (with_reducible repeat (first | refine blk_drewN ?_ _ | refine blk_drew ?_ | refine blk_alloc ?_ _)); refine blk_far ?_ NB327_337.out _; (with_reducible repeat (first | refine blk_drewN ?_ _ | refine blk_drew ?_ | refine blk_alloc ?_ _)); refine blk_far ?_ NB327_337.out _; (with_reducible repeat (first | refine blk_drewN ?_ _ | refine blk_drew ?_ | refine blk_alloc ?_ _)); exact BK327.out) hb); have n2_ := Aside0.mk (blk_below (g := gb332) (o := .cells #[.int .i64 t328, .int .i64 t329, .int .i64 t330] 23 (0, 0)) (by (with_reducible repeat (first | refine blk_drewN ?_ _ | refine blk_drew ?_ | refine blk_alloc ?_ _)); refine blk_far ?_ NB332_337.out _; (with_reducible repeat (first | refine blk_drewN ?_ _ | refine blk_drew ?_ | refine blk_alloc ?_ _)); refine blk_far ?_ NB332_337.out _; (with_reducible repeat (first | refine blk_drewN ?_ _ | refine blk_drew ?_ | refine blk_alloc ?_ _)); refine blk_far ?_ NB332_337.out _; (with_reducible repeat (first | refine blk_drewN ?_ _ | refine blk_drew ?_ | refine blk_alloc ?_ _)); exact BK332.out) hb); have n3_ := Aside0.mk (blk_below (g := gb337) (o := .cells #[.int .i64 t333, .int .i64 t334, .int .i64 t335] 23 (0, 0)) (by (with_reducible repeat (first | refine blk_drewN ?_ _ | refine blk_drew ?_ | refine blk_alloc ?_ _)); refine blk_put (cs := #[.int .i64 t333, .int .i64 t334, .int .i64 0]) ?_ 2 _ rfl; (with_reducible repeat (first | refine blk_drewN ?_ _ | refine blk_drew ?_ | refine blk_alloc ?_ _)); refine blk_put (cs := #[.int .i64 t333, .int .i64 0, .int .i64 0]) ?_ 1 _ rfl; (with_reducible repeat (first | refine blk_drewN ?_ _ | refine blk_drew ?_ | refine blk_alloc ?_ _)); refine blk_put (cs := #[.int .i64 0, .int .i64 0, .int .i64 0]) ?_ 0 _ rfl; (with_reducible repeat (first | refine blk_drewN ?_ _ | refine blk_drew ?_ | refine blk_alloc ?_ _)); exact BK337.out) hb); have n4_ := Aside0.mk (below_step (by repeat (first | (with_reducible first | exact HB.out | apply below_alloc | apply pw_below_drewN | apply below_drew1 | refine below_set ?_ GE317.out | refine below_set ?_ GE327.out | refine below_set ?_ GE332.out | refine below_set ?_ GE337.out) | exact HB.out)) hb); clear BK317; clear BK327; clear BK332; clear BK337; clear HB; have BK317 := n0_; have BK327 := n1_; have BK332 := n2_; have BK337 := n3_; have HB := n4_; clear n0_ n1_ n2_ n3_ n4_; (try clear hb); (try clear hb2); (try clear hk); (try clear hi)))
            go_ret
            exact ⟨by first | rfl | (simp [errW_none, errW_some] <;> rfl) | (simp only [← hji11, ← hji14]; first | rfl | (simp [errW_none, errW_some] <;> rfl)) | (simp [*, errW_none, errW_some] <;> rfl), by repeat (first | (with_reducible first | exact HB.out | apply below_alloc | apply pw_below_drewN | apply below_drew1 | refine below_set ?_ GE317.out | refine below_set ?_ GE327.out | refine below_set ?_ GE332.out | refine below_set ?_ GE337.out) | exact HB.out)⟩
          · rw [if_neg c35] at H
            exact absurd H (by simp)
        · replace c34 := Bool.eq_false_iff.mpr c34
          subst c34
          have H1 : (none) = some r := by rw [if_neg (show ¬ (false = true) by decide)] at H; exact H
          clear H
          have H := H1
          clear H1
          exact absurd H (by simp)

end Go.Proofs.Ytjmpgefhdafmfaa.P
