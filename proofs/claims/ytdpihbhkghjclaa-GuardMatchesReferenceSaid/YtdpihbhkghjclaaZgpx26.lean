/- A claim's own texts, laid together by wip/zip.py without what the claim does not use. Conditions: none. -/
import Derived.Test.YtdpihbhkghjclaaZgpx0
import Derived.Test.YtdpihbhkghjclaaZgpx14
import Derived.Test.YtdpihbhkghjclaaZgpx17
import Derived.Test.YtdpihbhkghjclaaZgpx13
import Derived.Test.YtdpihbhkghjclaaZgpx22
import Derived.BigRegion
import Derived.Defers
import Derived.Recover
import Derived.LaidEql
import Derived.Stop.Asserts
import Derived.WalkLawsBesides
import Derived.RowKitTokens
section
/- The Go functions of this claim as Lean functions, and the proofs that their calls answer so: written by wip/myprint.py over the kit's printer, hand-proved contracts laid in. Conditions: none. -/
namespace Go.Proofs.Ytdpihbhkghjclaa.P
open Go.RowKit Go.Proofs.YtdpihbhkghjclaaW.PrintWords Go.Proofs.YtdpihbhkghjclaaW.PrintLast Go.Proofs.YtdpihbhkghjclaaW.PrintMore
attribute [local go_sem] max2_int min2_int max_two min_two max_three min_three max_four min_four   -- for this text's walks alone
set_option linter.unusedVariables false
set_option linter.unusedSimpArgs false
/-! ### guard_Send: function 13 (proved by hand), behind guard.check, (node).begins, (node).slot and guard.rescue -/
theorem guard_Send.check_ok (w : World) : Calls Try.prog 52 #[.int .i64 0] w fun e w' => e = .returned (.tuple #[]) ∧ w' = w := by
  go_enter Try.func52, Try.ntmps52
  go_wp2
  go_end0
  exact ⟨rfl, rfl⟩
theorem guard_Send.check_bad (x : Int) (h : (x != 0) = true) (w : World) : Calls Try.prog 52 #[.int .i64 x] w fun e w' => e = .panicked [{ v := .iface 29 (.int .i64 x), recovered := false }] ∧ w' = w := by
  go_enter Try.func52, Try.ntmps52
  go_wp2
  exact ⟨rfl, rfl, rfl⟩
def guard_Send.begins (k : Nat) (a1_0 a1_1 shown : Int) : Option (Int × Int) :=
  (clock_Show.f a1_0 a1_1 0).bind fun z => if z.2 = 0 then (if shown ≤ z.1 then some (0, 0) else ((clock_When.f k a1_0 a1_1 shown).bind fun r => if r.2.2 = 4 then ((clock_When.f k a1_0 a1_1 (wrap64 (shown + 1))).bind fun q => if q.2.2 = 0 then some (q.1, 0) else some (0, 3)) else if r.2.2 = 0 then some (r.1, 0) else some (0, 3))) else some (0, z.2)
def guard_Send.slot (k : Nat) (a0_0 : Bool) (a0_1 a0_2 a0_3 a0_4 a0_5 a0_6 a1_0 a1_1 : Int) (a2 : Int) : Option (Int × Int × Int) :=
  (clock_Valid.f a1_0 a1_1).bind fun v => if v = true then (if a2 < 0 then some (0, 0, 1) else if a2 ≥ 1000000000 then some (0, 0, 1) else
    ((timesync_Hear.f k a0_0 a0_1 a0_2 a0_3 a0_4 a0_5 a0_6 0 0 0 0 0).bind fun r => if r.2.2.2.2.2.2.2 = 1 then some (0, 0, 1) else if a0_0 = true then
      ((guard_node_ownTime.f a0_0 a0_1 a0_2 a0_3 a0_4 a0_5 a0_6 a1_0 a1_1 a2).bind fun own => (timesync_Bound.f k a0_0 a0_1 a0_2 a0_3 a0_4 a0_5 a0_6 own).bind fun b => if b.2 = 0 then ((guard_Send.begins k a1_0 a1_1 own).bind fun g => if g.2 = 0 then some (wrap64 (g.1 - wrap64 (a2 * 10000)), b.1, 0) else some (0, 0, g.2)) else some (0, 0, b.2))
      else some (0, 0, 16))) else some (0, 0, 1)
def guard_Send.f (k : Nat) (a0_0 : Bool) (a0_1 a0_2 a0_3 a0_4 a0_5 a0_6 a1_0 a1_1 : Int) (a2 : Int) : Option (Int × Int) := (guard_Send.slot k a0_0 a0_1 a0_2 a0_3 a0_4 a0_5 a0_6 a1_0 a1_1 a2).bind fun r => if r.2.2 = 0 then some (r.1, 0) else some (0, r.2.2)
theorem guard_Send.blk_at_new_ {W : World} {o : Obj} {g : Nat} (h : g = W.heap.size) : (W.alloc o).heap[g]? = some o := by subst h; exact blk_new W o
theorem guard_Send.c1_ {w : World} {g : Nat} {t : TypeId} {c0 : Value} (h : w.heap[g]? = some (.cells #[c0] t (0, 0))) : w.cell? ⟨g, 0, none⟩ = some c0 ∧ (∀ i, w.frozen? ⟨g, i, none⟩ = false) ∧ g < w.heap.size :=
  ⟨(blk_cell h 0).trans rfl, blk_frozen h, blk_lt h⟩
theorem guard_Send.c2_ {w : World} {g : Nat} {t : TypeId} {c0 c1 : Value} (h : w.heap[g]? = some (.cells #[c0, c1] t (0, 0))) : w.cell? ⟨g, 0, none⟩ = some c0 ∧ w.cell? ⟨g, 1, none⟩ = some c1 ∧ (∀ i, w.frozen? ⟨g, i, none⟩ = false) ∧ g < w.heap.size :=
  ⟨(blk_cell h 0).trans rfl, (blk_cell h 1).trans rfl, blk_frozen h, blk_lt h⟩
theorem guard_Send.c7_ {w : World} {g : Nat} {t : TypeId} {c0 c1 c2 c3 c4 c5 c6 : Value} (h : w.heap[g]? = some (.cells #[c0, c1, c2, c3, c4, c5, c6] t (0, 0))) : w.cell? ⟨g, 0, none⟩ = some c0 ∧ w.cell? ⟨g, 1, none⟩ = some c1 ∧ w.cell? ⟨g, 2, none⟩ = some c2 ∧ w.cell? ⟨g, 3, none⟩ = some c3 ∧ w.cell? ⟨g, 4, none⟩ = some c4 ∧ w.cell? ⟨g, 5, none⟩ = some c5 ∧ w.cell? ⟨g, 6, none⟩ = some c6 ∧ (∀ i, w.frozen? ⟨g, i, none⟩ = false) ∧ g < w.heap.size :=
  ⟨(blk_cell h 0).trans rfl, (blk_cell h 1).trans rfl, (blk_cell h 2).trans rfl, (blk_cell h 3).trans rfl, (blk_cell h 4).trans rfl, (blk_cell h 5).trans rfl, (blk_cell h 6).trans rfl, blk_frozen h, blk_lt h⟩
theorem guard_Send.c9_ {w : World} {g : Nat} {t : TypeId} {c0 c1 c2 c3 c4 c5 c6 c7 c8 : Value} (h : w.heap[g]? = some (.cells #[c0, c1, c2, c3, c4, c5, c6, c7, c8] t (0, 0))) : w.cell? ⟨g, 0, none⟩ = some c0 ∧ w.cell? ⟨g, 1, none⟩ = some c1 ∧ w.cell? ⟨g, 2, none⟩ = some c2 ∧ w.cell? ⟨g, 3, none⟩ = some c3 ∧ w.cell? ⟨g, 4, none⟩ = some c4 ∧ w.cell? ⟨g, 5, none⟩ = some c5 ∧ w.cell? ⟨g, 6, none⟩ = some c6 ∧ w.cell? ⟨g, 7, none⟩ = some c7 ∧ w.cell? ⟨g, 8, none⟩ = some c8 ∧ (∀ i, w.frozen? ⟨g, i, none⟩ = false) ∧ g < w.heap.size :=
  ⟨(blk_cell h 0).trans rfl, (blk_cell h 1).trans rfl, (blk_cell h 2).trans rfl, (blk_cell h 3).trans rfl, (blk_cell h 4).trans rfl, (blk_cell h 5).trans rfl, (blk_cell h 6).trans rfl, (blk_cell h 7).trans rfl, (blk_cell h 8).trans rfl, blk_frozen h, blk_lt h⟩
section
open guard_Send (blk_at_new_ c1_ c2_ c7_ c9_)
set_option maxHeartbeats 8000000 in
set_option maxRecDepth 100000 in
theorem guard_Send.begins_z (k : Nat) (a0_0 : Bool) (a0_1 a0_2 a0_3 a0_4 a0_5 a0_6 a1_0 a1_1 : Int) (a2 z ze r0 r1 r2 q0 q1 q2 : Int) (w : World) (Z : clock_Show.f a1_0 a1_1 0 = some (z, ze)) (hze : (ze != 0) = true) :
    Calls Try.prog 53 #[.agg #[.bool a0_0, .int .i64 a0_1, .int .i64 a0_2, .int .i64 a0_3, .int .i64 a0_4, .int .i64 a0_5, .int .i64 a0_6, .int .i64 a1_0, .int .i64 a1_1], .int .i64 a2] w fun e w' => e = .panicked [{ v := .iface 29 (.int .i64 ze), recovered := false }] ∧ Below w.heap.size w w' := by
  replace Z := Aside0.mk Z
  have hu25 := Try.underlying25
  have hu27 := Try.underlying27
  have hu55 := Try.underlying55
  have hu68 := Try.underlying68
  have hu50 := Try.underlying50
  have hu23 := Try.underlying23
  have HB := Aside0.mk (Below.refl w.heap.size w)
  go_enter Try.func53, Try.ntmps53
  go_wp2_with (first | (go_at_call 19; (with_reducible refine (clock_Show.calls a1_0 a1_1 0 z ze _ Z.out).mono ?_); rintro e w1 ⟨rfl, hb1⟩; have N_1 : Aside0 ((w1).heap[w.heap.size]? = some (.cells #[.bool a0_0, .int .i64 a0_1, .int .i64 a0_2, .int .i64 a0_3, .int .i64 a0_4, .int .i64 a0_5, .int .i64 a0_6, .int .i64 a1_0, .int .i64 a1_1] 68 (0, 0))) := ⟨blk_below (by exact blk_at_new_ (by simp)) hb1⟩; have HBL1 : Aside0 (Below w.heap.size w w1) := ⟨below_step (by apply below_alloc; exact HB.out) hb1⟩; have HBL1s : w.heap.size ≤ w1.heap.size := HBL1.out.size; clear hb1; obtain ⟨qN_1_0, qN_1_1, qN_1_2, qN_1_3, qN_1_4, qN_1_5, qN_1_6, qN_1_7, qN_1_8, qN_1_f, lN_1⟩ := c9_ N_1.out) | (go_at_call 52; (with_reducible refine (guard_Send.check_bad ze hze _).mono ?_); rintro e wc ⟨rfl, rfl⟩))
  exact ⟨rfl, by first | rfl | (simp; done), by exact HBL1.out⟩
set_option maxHeartbeats 8000000 in
set_option maxRecDepth 100000 in
theorem guard_Send.begins_0 (k : Nat) (a0_0 : Bool) (a0_1 a0_2 a0_3 a0_4 a0_5 a0_6 a1_0 a1_1 : Int) (a2 z ze r0 r1 r2 q0 q1 q2 : Int) (w : World) (Z : clock_Show.f a1_0 a1_1 0 = some (z, 0)) (c0 : decide (a2 ≤ z) = true)  :
    Calls Try.prog 53 #[.agg #[.bool a0_0, .int .i64 a0_1, .int .i64 a0_2, .int .i64 a0_3, .int .i64 a0_4, .int .i64 a0_5, .int .i64 a0_6, .int .i64 a1_0, .int .i64 a1_1], .int .i64 a2] w fun e w' => e = .returned (.int .i64 0) ∧ Below w.heap.size w w' := by
  replace Z := Aside0.mk Z
  have hu25 := Try.underlying25
  have hu27 := Try.underlying27
  have hu55 := Try.underlying55
  have hu68 := Try.underlying68
  have hu50 := Try.underlying50
  have hu23 := Try.underlying23
  have HB := Aside0.mk (Below.refl w.heap.size w)
  go_enter Try.func53, Try.ntmps53
  go_wp2_with (first | (go_at_call 19; (with_reducible refine (clock_Show.calls a1_0 a1_1 0 z 0 _ Z.out).mono ?_); rintro e w1 ⟨rfl, hb1⟩; have N_1 : Aside0 ((w1).heap[w.heap.size]? = some (.cells #[.bool a0_0, .int .i64 a0_1, .int .i64 a0_2, .int .i64 a0_3, .int .i64 a0_4, .int .i64 a0_5, .int .i64 a0_6, .int .i64 a1_0, .int .i64 a1_1] 68 (0, 0))) := ⟨blk_below (by exact blk_at_new_ (by simp)) hb1⟩; have HBL1 : Aside0 (Below w.heap.size w w1) := ⟨below_step (by apply below_alloc; exact HB.out) hb1⟩; have HBL1s : w.heap.size ≤ w1.heap.size := HBL1.out.size; clear hb1; obtain ⟨qN_1_0, qN_1_1, qN_1_2, qN_1_3, qN_1_4, qN_1_5, qN_1_6, qN_1_7, qN_1_8, qN_1_f, lN_1⟩ := c9_ N_1.out) | (go_at_call 52; (with_reducible refine (guard_Send.check_ok _).mono ?_); rintro e wc ⟨rfl, rfl⟩))
  go_ret
  exact ⟨by first | rfl | (simp; done), by exact HBL1.out⟩
set_option maxHeartbeats 8000000 in
set_option maxRecDepth 100000 in
theorem guard_Send.begins_r (k : Nat) (a0_0 : Bool) (a0_1 a0_2 a0_3 a0_4 a0_5 a0_6 a1_0 a1_1 : Int) (a2 z ze r0 r1 r2 q0 q1 q2 : Int) (w : World) (Z : clock_Show.f a1_0 a1_1 0 = some (z, 0)) (c0 : decide (a2 ≤ z) = false) (R : clock_When.f k a1_0 a1_1 a2 = some (r0, r1, 0))  :
    Calls Try.prog 53 #[.agg #[.bool a0_0, .int .i64 a0_1, .int .i64 a0_2, .int .i64 a0_3, .int .i64 a0_4, .int .i64 a0_5, .int .i64 a0_6, .int .i64 a1_0, .int .i64 a1_1], .int .i64 a2] w fun e w' => e = .returned (.int .i64 r0) ∧ Below w.heap.size w w' := by
  replace Z := Aside0.mk Z
  replace R := Aside0.mk R
  have hu25 := Try.underlying25
  have hu27 := Try.underlying27
  have hu55 := Try.underlying55
  have hu68 := Try.underlying68
  have hu50 := Try.underlying50
  have hu23 := Try.underlying23
  have HB := Aside0.mk (Below.refl w.heap.size w)
  go_enter Try.func53, Try.ntmps53
  go_wp2_with (first | (go_at_call 19; (with_reducible refine (clock_Show.calls a1_0 a1_1 0 z 0 _ Z.out).mono ?_); rintro e w1 ⟨rfl, hb1⟩; have N_1 : Aside0 ((w1).heap[w.heap.size]? = some (.cells #[.bool a0_0, .int .i64 a0_1, .int .i64 a0_2, .int .i64 a0_3, .int .i64 a0_4, .int .i64 a0_5, .int .i64 a0_6, .int .i64 a1_0, .int .i64 a1_1] 68 (0, 0))) := ⟨blk_below (by exact blk_at_new_ (by simp)) hb1⟩; have HBL1 : Aside0 (Below w.heap.size w w1) := ⟨below_step (by apply below_alloc; exact HB.out) hb1⟩; have HBL1s : w.heap.size ≤ w1.heap.size := HBL1.out.size; clear hb1; obtain ⟨qN_1_0, qN_1_1, qN_1_2, qN_1_3, qN_1_4, qN_1_5, qN_1_6, qN_1_7, qN_1_8, qN_1_f, lN_1⟩ := c9_ N_1.out) | (go_at_call 52; (with_reducible refine (guard_Send.check_ok _).mono ?_); rintro e wc ⟨rfl, rfl⟩) | (go_at_call 66; (with_reducible refine (clock_When.calls k a1_0 a1_1 a2 r0 r1 0 _ R.out).mono ?_); rintro e w2 ⟨rfl, hb2⟩; have N_2 : Aside0 ((w2).heap[w.heap.size]? = some (.cells #[.bool a0_0, .int .i64 a0_1, .int .i64 a0_2, .int .i64 a0_3, .int .i64 a0_4, .int .i64 a0_5, .int .i64 a0_6, .int .i64 a1_0, .int .i64 a1_1] 68 (0, 0))) := ⟨blk_below (by exact N_1.out) hb2⟩; have HBL2 : Aside0 (Below w.heap.size w w2) := ⟨below_step (by exact HBL1.out) hb2⟩; have HBL2s : w.heap.size ≤ w2.heap.size := HBL2.out.size; clear hb2; clear qN_1_0 qN_1_1 qN_1_2 qN_1_3 qN_1_4 qN_1_5 qN_1_6 qN_1_7 qN_1_8 qN_1_f lN_1; obtain ⟨qN_2_0, qN_2_1, qN_2_2, qN_2_3, qN_2_4, qN_2_5, qN_2_6, qN_2_7, qN_2_8, qN_2_f, lN_2⟩ := c9_ N_2.out))
  go_ret
  exact ⟨by first | rfl | (simp; done), by apply below_alloc; exact HBL2.out⟩
set_option maxHeartbeats 8000000 in
set_option maxRecDepth 100000 in
theorem guard_Send.begins_rb (k : Nat) (a0_0 : Bool) (a0_1 a0_2 a0_3 a0_4 a0_5 a0_6 a1_0 a1_1 : Int) (a2 z ze r0 r1 r2 q0 q1 q2 : Int) (w : World) (Z : clock_Show.f a1_0 a1_1 0 = some (z, 0)) (c0 : decide (a2 ≤ z) = false) (R : clock_When.f k a1_0 a1_1 a2 = some (r0, r1, r2)) (h4 : (r2 == 4) = false) (h0 : (r2 != 0) = true)  :
    Calls Try.prog 53 #[.agg #[.bool a0_0, .int .i64 a0_1, .int .i64 a0_2, .int .i64 a0_3, .int .i64 a0_4, .int .i64 a0_5, .int .i64 a0_6, .int .i64 a1_0, .int .i64 a1_1], .int .i64 a2] w fun e w' => e = .panicked [{ v := .iface 29 (.int .i64 3), recovered := false }] ∧ Below w.heap.size w w' := by
  replace Z := Aside0.mk Z
  replace R := Aside0.mk R
  have hu25 := Try.underlying25
  have hu27 := Try.underlying27
  have hu55 := Try.underlying55
  have hu68 := Try.underlying68
  have hu50 := Try.underlying50
  have hu23 := Try.underlying23
  have HB := Aside0.mk (Below.refl w.heap.size w)
  go_enter Try.func53, Try.ntmps53
  go_wp2_with (first | (go_at_call 19; (with_reducible refine (clock_Show.calls a1_0 a1_1 0 z 0 _ Z.out).mono ?_); rintro e w1 ⟨rfl, hb1⟩; have N_1 : Aside0 ((w1).heap[w.heap.size]? = some (.cells #[.bool a0_0, .int .i64 a0_1, .int .i64 a0_2, .int .i64 a0_3, .int .i64 a0_4, .int .i64 a0_5, .int .i64 a0_6, .int .i64 a1_0, .int .i64 a1_1] 68 (0, 0))) := ⟨blk_below (by exact blk_at_new_ (by simp)) hb1⟩; have HBL1 : Aside0 (Below w.heap.size w w1) := ⟨below_step (by apply below_alloc; exact HB.out) hb1⟩; have HBL1s : w.heap.size ≤ w1.heap.size := HBL1.out.size; clear hb1; obtain ⟨qN_1_0, qN_1_1, qN_1_2, qN_1_3, qN_1_4, qN_1_5, qN_1_6, qN_1_7, qN_1_8, qN_1_f, lN_1⟩ := c9_ N_1.out) | (go_at_call 52; (with_reducible refine (guard_Send.check_ok _).mono ?_); rintro e wc ⟨rfl, rfl⟩) | (go_at_call 66; (with_reducible refine (clock_When.calls k a1_0 a1_1 a2 r0 r1 r2 _ R.out).mono ?_); rintro e w2 ⟨rfl, hb2⟩; have N_2 : Aside0 ((w2).heap[w.heap.size]? = some (.cells #[.bool a0_0, .int .i64 a0_1, .int .i64 a0_2, .int .i64 a0_3, .int .i64 a0_4, .int .i64 a0_5, .int .i64 a0_6, .int .i64 a1_0, .int .i64 a1_1] 68 (0, 0))) := ⟨blk_below (by exact N_1.out) hb2⟩; have HBL2 : Aside0 (Below w.heap.size w w2) := ⟨below_step (by exact HBL1.out) hb2⟩; have HBL2s : w.heap.size ≤ w2.heap.size := HBL2.out.size; clear hb2; clear qN_1_0 qN_1_1 qN_1_2 qN_1_3 qN_1_4 qN_1_5 qN_1_6 qN_1_7 qN_1_8 qN_1_f lN_1; obtain ⟨qN_2_0, qN_2_1, qN_2_2, qN_2_3, qN_2_4, qN_2_5, qN_2_6, qN_2_7, qN_2_8, qN_2_f, lN_2⟩ := c9_ N_2.out))
  exact ⟨rfl, by first | rfl | (simp; done), by apply below_alloc; exact HBL2.out⟩
set_option maxHeartbeats 8000000 in
set_option maxRecDepth 100000 in
theorem guard_Send.begins_q (k : Nat) (a0_0 : Bool) (a0_1 a0_2 a0_3 a0_4 a0_5 a0_6 a1_0 a1_1 : Int) (a2 z ze r0 r1 r2 q0 q1 q2 : Int) (w : World) (Z : clock_Show.f a1_0 a1_1 0 = some (z, 0)) (c0 : decide (a2 ≤ z) = false) (R : clock_When.f k a1_0 a1_1 a2 = some (r0, r1, 4)) (Q : clock_When.f k a1_0 a1_1 (wrap64 (a2 + 1)) = some (q0, q1, 0))  :
    Calls Try.prog 53 #[.agg #[.bool a0_0, .int .i64 a0_1, .int .i64 a0_2, .int .i64 a0_3, .int .i64 a0_4, .int .i64 a0_5, .int .i64 a0_6, .int .i64 a1_0, .int .i64 a1_1], .int .i64 a2] w fun e w' => e = .returned (.int .i64 q0) ∧ Below w.heap.size w w' := by
  replace Z := Aside0.mk Z
  replace R := Aside0.mk R
  replace Q := Aside0.mk Q
  have hu25 := Try.underlying25
  have hu27 := Try.underlying27
  have hu55 := Try.underlying55
  have hu68 := Try.underlying68
  have hu50 := Try.underlying50
  have hu23 := Try.underlying23
  have HB := Aside0.mk (Below.refl w.heap.size w)
  go_enter Try.func53, Try.ntmps53
  go_wp2_with (first | (go_at_call 19; (with_reducible refine (clock_Show.calls a1_0 a1_1 0 z 0 _ Z.out).mono ?_); rintro e w1 ⟨rfl, hb1⟩; have N_1 : Aside0 ((w1).heap[w.heap.size]? = some (.cells #[.bool a0_0, .int .i64 a0_1, .int .i64 a0_2, .int .i64 a0_3, .int .i64 a0_4, .int .i64 a0_5, .int .i64 a0_6, .int .i64 a1_0, .int .i64 a1_1] 68 (0, 0))) := ⟨blk_below (by exact blk_at_new_ (by simp)) hb1⟩; have HBL1 : Aside0 (Below w.heap.size w w1) := ⟨below_step (by apply below_alloc; exact HB.out) hb1⟩; have HBL1s : w.heap.size ≤ w1.heap.size := HBL1.out.size; clear hb1; obtain ⟨qN_1_0, qN_1_1, qN_1_2, qN_1_3, qN_1_4, qN_1_5, qN_1_6, qN_1_7, qN_1_8, qN_1_f, lN_1⟩ := c9_ N_1.out) | (go_at_call 52; (with_reducible refine (guard_Send.check_ok _).mono ?_); rintro e wc ⟨rfl, rfl⟩) | (go_at_call 66; (with_reducible refine (clock_When.calls k a1_0 a1_1 a2 r0 r1 4 _ R.out).mono ?_); rintro e w2 ⟨rfl, hb2⟩; have N_2 : Aside0 ((w2).heap[w.heap.size]? = some (.cells #[.bool a0_0, .int .i64 a0_1, .int .i64 a0_2, .int .i64 a0_3, .int .i64 a0_4, .int .i64 a0_5, .int .i64 a0_6, .int .i64 a1_0, .int .i64 a1_1] 68 (0, 0))) := ⟨blk_below (by exact N_1.out) hb2⟩; have HBL2 : Aside0 (Below w.heap.size w w2) := ⟨below_step (by exact HBL1.out) hb2⟩; have HBL2s : w.heap.size ≤ w2.heap.size := HBL2.out.size; clear hb2; clear qN_1_0 qN_1_1 qN_1_2 qN_1_3 qN_1_4 qN_1_5 qN_1_6 qN_1_7 qN_1_8 qN_1_f lN_1; obtain ⟨qN_2_0, qN_2_1, qN_2_2, qN_2_3, qN_2_4, qN_2_5, qN_2_6, qN_2_7, qN_2_8, qN_2_f, lN_2⟩ := c9_ N_2.out) | (go_at_call 66; (with_reducible refine (clock_When.calls k a1_0 a1_1 (wrap64 (a2 + 1)) q0 q1 0 _ Q.out).mono ?_); rintro e w3 ⟨rfl, hb3⟩; have N_3 : Aside0 ((w3).heap[w.heap.size]? = some (.cells #[.bool a0_0, .int .i64 a0_1, .int .i64 a0_2, .int .i64 a0_3, .int .i64 a0_4, .int .i64 a0_5, .int .i64 a0_6, .int .i64 a1_0, .int .i64 a1_1] 68 (0, 0))) := ⟨blk_below (by refine blk_alloc ?_ _; exact N_2.out) hb3⟩; have X_3 : Aside0 ((w3).heap[w2.heap.size]? = some (.cells #[.int .i64 r0, .int .i64 r1] 55 (0, 0))) := ⟨blk_below (by exact blk_at_new_ (by simp)) hb3⟩; have HBL3 : Aside0 (Below w.heap.size w w3) := ⟨below_step (by apply below_alloc; exact HBL2.out) hb3⟩; have HBL3s : w.heap.size ≤ w3.heap.size := HBL3.out.size; clear hb3; have lt3_0_0 : w.heap.size < w2.heap.size := (by omega); clear qN_2_0 qN_2_1 qN_2_2 qN_2_3 qN_2_4 qN_2_5 qN_2_6 qN_2_7 qN_2_8 qN_2_f lN_2; obtain ⟨qN_3_0, qN_3_1, qN_3_2, qN_3_3, qN_3_4, qN_3_5, qN_3_6, qN_3_7, qN_3_8, qN_3_f, lN_3⟩ := c9_ N_3.out; obtain ⟨qX_3_0, qX_3_1, qX_3_f, lX_3⟩ := c2_ X_3.out))
  go_ret
  exact ⟨by first | rfl | (simp; done), by refine below_set ?_ (by omega); refine below_set ?_ (by omega); exact HBL3.out⟩
set_option maxHeartbeats 8000000 in
set_option maxRecDepth 100000 in
theorem guard_Send.begins_qb (k : Nat) (a0_0 : Bool) (a0_1 a0_2 a0_3 a0_4 a0_5 a0_6 a1_0 a1_1 : Int) (a2 z ze r0 r1 r2 q0 q1 q2 : Int) (w : World) (Z : clock_Show.f a1_0 a1_1 0 = some (z, 0)) (c0 : decide (a2 ≤ z) = false) (R : clock_When.f k a1_0 a1_1 a2 = some (r0, r1, 4)) (Q : clock_When.f k a1_0 a1_1 (wrap64 (a2 + 1)) = some (q0, q1, q2)) (h0 : (q2 != 0) = true)  :
    Calls Try.prog 53 #[.agg #[.bool a0_0, .int .i64 a0_1, .int .i64 a0_2, .int .i64 a0_3, .int .i64 a0_4, .int .i64 a0_5, .int .i64 a0_6, .int .i64 a1_0, .int .i64 a1_1], .int .i64 a2] w fun e w' => e = .panicked [{ v := .iface 29 (.int .i64 3), recovered := false }] ∧ Below w.heap.size w w' := by
  replace Z := Aside0.mk Z
  replace R := Aside0.mk R
  replace Q := Aside0.mk Q
  have hu25 := Try.underlying25
  have hu27 := Try.underlying27
  have hu55 := Try.underlying55
  have hu68 := Try.underlying68
  have hu50 := Try.underlying50
  have hu23 := Try.underlying23
  have HB := Aside0.mk (Below.refl w.heap.size w)
  go_enter Try.func53, Try.ntmps53
  go_wp2_with (first | (go_at_call 19; (with_reducible refine (clock_Show.calls a1_0 a1_1 0 z 0 _ Z.out).mono ?_); rintro e w1 ⟨rfl, hb1⟩; have N_1 : Aside0 ((w1).heap[w.heap.size]? = some (.cells #[.bool a0_0, .int .i64 a0_1, .int .i64 a0_2, .int .i64 a0_3, .int .i64 a0_4, .int .i64 a0_5, .int .i64 a0_6, .int .i64 a1_0, .int .i64 a1_1] 68 (0, 0))) := ⟨blk_below (by exact blk_at_new_ (by simp)) hb1⟩; have HBL1 : Aside0 (Below w.heap.size w w1) := ⟨below_step (by apply below_alloc; exact HB.out) hb1⟩; have HBL1s : w.heap.size ≤ w1.heap.size := HBL1.out.size; clear hb1; obtain ⟨qN_1_0, qN_1_1, qN_1_2, qN_1_3, qN_1_4, qN_1_5, qN_1_6, qN_1_7, qN_1_8, qN_1_f, lN_1⟩ := c9_ N_1.out) | (go_at_call 52; (with_reducible refine (guard_Send.check_ok _).mono ?_); rintro e wc ⟨rfl, rfl⟩) | (go_at_call 66; (with_reducible refine (clock_When.calls k a1_0 a1_1 a2 r0 r1 4 _ R.out).mono ?_); rintro e w2 ⟨rfl, hb2⟩; have N_2 : Aside0 ((w2).heap[w.heap.size]? = some (.cells #[.bool a0_0, .int .i64 a0_1, .int .i64 a0_2, .int .i64 a0_3, .int .i64 a0_4, .int .i64 a0_5, .int .i64 a0_6, .int .i64 a1_0, .int .i64 a1_1] 68 (0, 0))) := ⟨blk_below (by exact N_1.out) hb2⟩; have HBL2 : Aside0 (Below w.heap.size w w2) := ⟨below_step (by exact HBL1.out) hb2⟩; have HBL2s : w.heap.size ≤ w2.heap.size := HBL2.out.size; clear hb2; clear qN_1_0 qN_1_1 qN_1_2 qN_1_3 qN_1_4 qN_1_5 qN_1_6 qN_1_7 qN_1_8 qN_1_f lN_1; obtain ⟨qN_2_0, qN_2_1, qN_2_2, qN_2_3, qN_2_4, qN_2_5, qN_2_6, qN_2_7, qN_2_8, qN_2_f, lN_2⟩ := c9_ N_2.out) | (go_at_call 66; (with_reducible refine (clock_When.calls k a1_0 a1_1 (wrap64 (a2 + 1)) q0 q1 q2 _ Q.out).mono ?_); rintro e w3 ⟨rfl, hb3⟩; have N_3 : Aside0 ((w3).heap[w.heap.size]? = some (.cells #[.bool a0_0, .int .i64 a0_1, .int .i64 a0_2, .int .i64 a0_3, .int .i64 a0_4, .int .i64 a0_5, .int .i64 a0_6, .int .i64 a1_0, .int .i64 a1_1] 68 (0, 0))) := ⟨blk_below (by refine blk_alloc ?_ _; exact N_2.out) hb3⟩; have X_3 : Aside0 ((w3).heap[w2.heap.size]? = some (.cells #[.int .i64 r0, .int .i64 r1] 55 (0, 0))) := ⟨blk_below (by exact blk_at_new_ (by simp)) hb3⟩; have HBL3 : Aside0 (Below w.heap.size w w3) := ⟨below_step (by apply below_alloc; exact HBL2.out) hb3⟩; have HBL3s : w.heap.size ≤ w3.heap.size := HBL3.out.size; clear hb3; have lt3_0_0 : w.heap.size < w2.heap.size := (by omega); clear qN_2_0 qN_2_1 qN_2_2 qN_2_3 qN_2_4 qN_2_5 qN_2_6 qN_2_7 qN_2_8 qN_2_f lN_2; obtain ⟨qN_3_0, qN_3_1, qN_3_2, qN_3_3, qN_3_4, qN_3_5, qN_3_6, qN_3_7, qN_3_8, qN_3_f, lN_3⟩ := c9_ N_3.out; obtain ⟨qX_3_0, qX_3_1, qX_3_f, lX_3⟩ := c2_ X_3.out))
  exact ⟨rfl, by first | rfl | (simp; done), by refine below_set ?_ (by omega); refine below_set ?_ (by omega); exact HBL3.out⟩
theorem guard_Send.begins_calls (k : Nat) (a0_0 : Bool) (a0_1 a0_2 a0_3 a0_4 a0_5 a0_6 a1_0 a1_1 : Int) (a2 r e0 : Int) (w : World) (h : guard_Send.begins k a1_0 a1_1 a2 = some (r, e0)) :
    Calls Try.prog 53 #[.agg #[.bool a0_0, .int .i64 a0_1, .int .i64 a0_2, .int .i64 a0_3, .int .i64 a0_4, .int .i64 a0_5, .int .i64 a0_6, .int .i64 a1_0, .int .i64 a1_1], .int .i64 a2] w fun e w' => (if e0 = 0 then e = .returned (.int .i64 r) else e = .panicked [{ v := .iface 29 (.int .i64 e0), recovered := false }]) ∧ Below w.heap.size w w' := by
  have H := h
  clear h
  unfold guard_Send.begins at H
  replace H := Option.bind_eq_some_iff.mp H
  obtain ⟨⟨z, ze⟩, Z, H⟩ := H
  dsimp only at H
  by_cases b0 : ze = 0
  · subst b0
    rw [if_pos rfl] at H
    by_cases b1 : a2 ≤ z
    · rw [if_pos b1] at H
      simp only [Option.some.injEq, Prod.mk.injEq] at H
      obtain ⟨rfl, rfl⟩ := H
      exact (guard_Send.begins_0 k a0_0 a0_1 a0_2 a0_3 a0_4 a0_5 a0_6 a1_0 a1_1 a2 z 0 0 0 0 0 0 0 w Z (decide_eq_true b1)).mono (fun e w1 h1 => ⟨by rw [if_pos rfl]; exact h1.1, h1.2⟩)
    · rw [if_neg b1] at H
      replace H := Option.bind_eq_some_iff.mp H
      obtain ⟨⟨r0, r1, r2⟩, R, H⟩ := H
      dsimp only at H
      by_cases b2 : r2 = 4
      · subst b2
        rw [if_pos rfl] at H
        replace H := Option.bind_eq_some_iff.mp H
        obtain ⟨⟨q0, q1, q2⟩, Q, H⟩ := H
        dsimp only at H
        by_cases b3 : q2 = 0
        · subst b3
          rw [if_pos rfl] at H
          simp only [Option.some.injEq, Prod.mk.injEq] at H
          obtain ⟨rfl, rfl⟩ := H
          exact (guard_Send.begins_q k a0_0 a0_1 a0_2 a0_3 a0_4 a0_5 a0_6 a1_0 a1_1 a2 z 0 r0 r1 4 q0 q1 0 w Z (decide_eq_false b1) R Q).mono (fun e w1 h1 => ⟨by rw [if_pos rfl]; exact h1.1, h1.2⟩)
        · rw [if_neg b3] at H
          simp only [Option.some.injEq, Prod.mk.injEq] at H
          obtain ⟨rfl, rfl⟩ := H
          exact (guard_Send.begins_qb k a0_0 a0_1 a0_2 a0_3 a0_4 a0_5 a0_6 a1_0 a1_1 a2 z 0 r0 r1 4 q0 q1 q2 w Z (decide_eq_false b1) R Q (bne_iff_ne.2 b3)).mono (fun e w1 h1 => ⟨by rw [if_neg (by decide)]; exact h1.1, h1.2⟩)
      · rw [if_neg b2] at H
        by_cases b3 : r2 = 0
        · subst b3
          rw [if_pos rfl] at H
          simp only [Option.some.injEq, Prod.mk.injEq] at H
          obtain ⟨rfl, rfl⟩ := H
          exact (guard_Send.begins_r k a0_0 a0_1 a0_2 a0_3 a0_4 a0_5 a0_6 a1_0 a1_1 a2 z 0 r0 r1 0 0 0 0 w Z (decide_eq_false b1) R).mono (fun e w1 h1 => ⟨by rw [if_pos rfl]; exact h1.1, h1.2⟩)
        · rw [if_neg b3] at H
          simp only [Option.some.injEq, Prod.mk.injEq] at H
          obtain ⟨rfl, rfl⟩ := H
          exact (guard_Send.begins_rb k a0_0 a0_1 a0_2 a0_3 a0_4 a0_5 a0_6 a1_0 a1_1 a2 z 0 r0 r1 r2 0 0 0 w Z (decide_eq_false b1) R (beq_eq_false_iff_ne.2 b2) (bne_iff_ne.2 b3)).mono (fun e w1 h1 => ⟨by rw [if_neg (by decide)]; exact h1.1, h1.2⟩)
  · rw [if_neg b0] at H
    simp only [Option.some.injEq, Prod.mk.injEq] at H
    obtain ⟨rfl, rfl⟩ := H
    exact (guard_Send.begins_z k a0_0 a0_1 a0_2 a0_3 a0_4 a0_5 a0_6 a1_0 a1_1 a2 z _ 0 0 0 0 0 0 w Z (bne_iff_ne.2 b0)).mono (fun e w1 h1 => ⟨by rw [if_neg b0]; exact h1.1, h1.2⟩)
set_option maxHeartbeats 8000000 in
set_option maxRecDepth 100000 in
theorem guard_Send.slot_v (k : Nat) (a0_0 : Bool) (a0_1 a0_2 a0_3 a0_4 a0_5 a0_6 a1_0 a1_1 : Int) (a2 x1 x2 x3 x4 x5 x6 x7 own b be g ge : Int) (x0 : Bool) (w : World) (V : clock_Valid.f a1_0 a1_1 = some false)  :
    Calls Try.prog 32 #[.agg #[.bool a0_0, .int .i64 a0_1, .int .i64 a0_2, .int .i64 a0_3, .int .i64 a0_4, .int .i64 a0_5, .int .i64 a0_6, .int .i64 a1_0, .int .i64 a1_1], .int .i64 a2] w fun e w' => e = .panicked [{ v := .iface 29 (.int .i64 1), recovered := false }] ∧ Below w.heap.size w w' := by
  replace V := Aside0.mk V
  have hu25 := Try.underlying25
  have hu27 := Try.underlying27
  have hu55 := Try.underlying55
  have hu68 := Try.underlying68
  have hu50 := Try.underlying50
  have hu23 := Try.underlying23
  have HB := Aside0.mk (Below.refl w.heap.size w)
  go_enter Try.func32, Try.ntmps32
  go_wp2_with (first | (go_at_call 34; (with_reducible refine (clock_Valid.calls a1_0 a1_1 false _ V.out).mono ?_); rintro e w1 ⟨rfl, hb1⟩; have N_1 : Aside0 ((w1).heap[w.heap.size]? = some (.cells #[.bool a0_0, .int .i64 a0_1, .int .i64 a0_2, .int .i64 a0_3, .int .i64 a0_4, .int .i64 a0_5, .int .i64 a0_6, .int .i64 a1_0, .int .i64 a1_1] 68 (0, 0))) := ⟨blk_below (by exact blk_at_new_ (by simp)) hb1⟩; have HBL1 : Aside0 (Below w.heap.size w w1) := ⟨below_step (by apply below_alloc; exact HB.out) hb1⟩; have HBL1s : w.heap.size ≤ w1.heap.size := HBL1.out.size; clear hb1; obtain ⟨qN_1_0, qN_1_1, qN_1_2, qN_1_3, qN_1_4, qN_1_5, qN_1_6, qN_1_7, qN_1_8, qN_1_f, lN_1⟩ := c9_ N_1.out))
  exact ⟨rfl, by first | rfl | (simp; done), by exact HBL1.out⟩
set_option maxHeartbeats 8000000 in
set_option maxRecDepth 100000 in
theorem guard_Send.slot_n (k : Nat) (a0_0 : Bool) (a0_1 a0_2 a0_3 a0_4 a0_5 a0_6 a1_0 a1_1 : Int) (a2 x1 x2 x3 x4 x5 x6 x7 own b be g ge : Int) (x0 : Bool) (w : World) (V : clock_Valid.f a1_0 a1_1 = some true) (c0 : decide (a2 < 0) = true) :
    Calls Try.prog 32 #[.agg #[.bool a0_0, .int .i64 a0_1, .int .i64 a0_2, .int .i64 a0_3, .int .i64 a0_4, .int .i64 a0_5, .int .i64 a0_6, .int .i64 a1_0, .int .i64 a1_1], .int .i64 a2] w fun e w' => e = .panicked [{ v := .iface 29 (.int .i64 1), recovered := false }] ∧ Below w.heap.size w w' := by
  replace V := Aside0.mk V
  have hu25 := Try.underlying25
  have hu27 := Try.underlying27
  have hu55 := Try.underlying55
  have hu68 := Try.underlying68
  have hu50 := Try.underlying50
  have hu23 := Try.underlying23
  have HB := Aside0.mk (Below.refl w.heap.size w)
  go_enter Try.func32, Try.ntmps32
  go_wp2_with (first | (go_at_call 34; (with_reducible refine (clock_Valid.calls a1_0 a1_1 true _ V.out).mono ?_); rintro e w1 ⟨rfl, hb1⟩; have N_1 : Aside0 ((w1).heap[w.heap.size]? = some (.cells #[.bool a0_0, .int .i64 a0_1, .int .i64 a0_2, .int .i64 a0_3, .int .i64 a0_4, .int .i64 a0_5, .int .i64 a0_6, .int .i64 a1_0, .int .i64 a1_1] 68 (0, 0))) := ⟨blk_below (by exact blk_at_new_ (by simp)) hb1⟩; have HBL1 : Aside0 (Below w.heap.size w w1) := ⟨below_step (by apply below_alloc; exact HB.out) hb1⟩; have HBL1s : w.heap.size ≤ w1.heap.size := HBL1.out.size; clear hb1; obtain ⟨qN_1_0, qN_1_1, qN_1_2, qN_1_3, qN_1_4, qN_1_5, qN_1_6, qN_1_7, qN_1_8, qN_1_f, lN_1⟩ := c9_ N_1.out))
  exact ⟨rfl, by first | rfl | (simp; done), by exact HBL1.out⟩
set_option maxHeartbeats 8000000 in
set_option maxRecDepth 100000 in
theorem guard_Send.slot_m (k : Nat) (a0_0 : Bool) (a0_1 a0_2 a0_3 a0_4 a0_5 a0_6 a1_0 a1_1 : Int) (a2 x1 x2 x3 x4 x5 x6 x7 own b be g ge : Int) (x0 : Bool) (w : World) (V : clock_Valid.f a1_0 a1_1 = some true) (c0 : decide (a2 < 0) = false) (c1 : decide (1000000000 ≤ a2) = true) :
    Calls Try.prog 32 #[.agg #[.bool a0_0, .int .i64 a0_1, .int .i64 a0_2, .int .i64 a0_3, .int .i64 a0_4, .int .i64 a0_5, .int .i64 a0_6, .int .i64 a1_0, .int .i64 a1_1], .int .i64 a2] w fun e w' => e = .panicked [{ v := .iface 29 (.int .i64 1), recovered := false }] ∧ Below w.heap.size w w' := by
  replace V := Aside0.mk V
  have hu25 := Try.underlying25
  have hu27 := Try.underlying27
  have hu55 := Try.underlying55
  have hu68 := Try.underlying68
  have hu50 := Try.underlying50
  have hu23 := Try.underlying23
  have HB := Aside0.mk (Below.refl w.heap.size w)
  go_enter Try.func32, Try.ntmps32
  go_wp2_with (first | (go_at_call 34; (with_reducible refine (clock_Valid.calls a1_0 a1_1 true _ V.out).mono ?_); rintro e w1 ⟨rfl, hb1⟩; have N_1 : Aside0 ((w1).heap[w.heap.size]? = some (.cells #[.bool a0_0, .int .i64 a0_1, .int .i64 a0_2, .int .i64 a0_3, .int .i64 a0_4, .int .i64 a0_5, .int .i64 a0_6, .int .i64 a1_0, .int .i64 a1_1] 68 (0, 0))) := ⟨blk_below (by exact blk_at_new_ (by simp)) hb1⟩; have HBL1 : Aside0 (Below w.heap.size w w1) := ⟨below_step (by apply below_alloc; exact HB.out) hb1⟩; have HBL1s : w.heap.size ≤ w1.heap.size := HBL1.out.size; clear hb1; obtain ⟨qN_1_0, qN_1_1, qN_1_2, qN_1_3, qN_1_4, qN_1_5, qN_1_6, qN_1_7, qN_1_8, qN_1_f, lN_1⟩ := c9_ N_1.out))
  exact ⟨rfl, by first | rfl | (simp; done), by exact HBL1.out⟩
set_option maxHeartbeats 8000000 in
set_option maxRecDepth 100000 in
theorem guard_Send.slot_x (k : Nat) (a0_0 : Bool) (a0_1 a0_2 a0_3 a0_4 a0_5 a0_6 a1_0 a1_1 : Int) (a2 x1 x2 x3 x4 x5 x6 x7 own b be g ge : Int) (x0 : Bool) (w : World) (V : clock_Valid.f a1_0 a1_1 = some true) (c0 : decide (a2 < 0) = false) (c1 : decide (1000000000 ≤ a2) = false) (X : timesync_Hear.f k a0_0 a0_1 a0_2 a0_3 a0_4 a0_5 a0_6 0 0 0 0 0 = some (x0, x1, x2, x3, x4, x5, x6, 1))  :
    Calls Try.prog 32 #[.agg #[.bool a0_0, .int .i64 a0_1, .int .i64 a0_2, .int .i64 a0_3, .int .i64 a0_4, .int .i64 a0_5, .int .i64 a0_6, .int .i64 a1_0, .int .i64 a1_1], .int .i64 a2] w fun e w' => e = .panicked [{ v := .iface 29 (.int .i64 1), recovered := false }] ∧ Below w.heap.size w w' := by
  replace V := Aside0.mk V
  replace X := Aside0.mk X
  have hu25 := Try.underlying25
  have hu27 := Try.underlying27
  have hu55 := Try.underlying55
  have hu68 := Try.underlying68
  have hu50 := Try.underlying50
  have hu23 := Try.underlying23
  have HB := Aside0.mk (Below.refl w.heap.size w)
  go_enter Try.func32, Try.ntmps32
  go_wp2_with (first | (go_at_call 34; (with_reducible refine (clock_Valid.calls a1_0 a1_1 true _ V.out).mono ?_); rintro e w1 ⟨rfl, hb1⟩; have N_1 : Aside0 ((w1).heap[w.heap.size]? = some (.cells #[.bool a0_0, .int .i64 a0_1, .int .i64 a0_2, .int .i64 a0_3, .int .i64 a0_4, .int .i64 a0_5, .int .i64 a0_6, .int .i64 a1_0, .int .i64 a1_1] 68 (0, 0))) := ⟨blk_below (by exact blk_at_new_ (by simp)) hb1⟩; have HBL1 : Aside0 (Below w.heap.size w w1) := ⟨below_step (by apply below_alloc; exact HB.out) hb1⟩; have HBL1s : w.heap.size ≤ w1.heap.size := HBL1.out.size; clear hb1; obtain ⟨qN_1_0, qN_1_1, qN_1_2, qN_1_3, qN_1_4, qN_1_5, qN_1_6, qN_1_7, qN_1_8, qN_1_f, lN_1⟩ := c9_ N_1.out) | (go_at_call 20; (with_reducible refine (timesync_Hear.calls k a0_0 a0_1 a0_2 a0_3 a0_4 a0_5 a0_6 0 0 0 0 0 x0 x1 x2 x3 x4 x5 x6 1 _ X.out).mono ?_); rintro e w2 ⟨rfl, hb2⟩; have N_2 : Aside0 ((w2).heap[w.heap.size]? = some (.cells #[.bool a0_0, .int .i64 a0_1, .int .i64 a0_2, .int .i64 a0_3, .int .i64 a0_4, .int .i64 a0_5, .int .i64 a0_6, .int .i64 a1_0, .int .i64 a1_1] 68 (0, 0))) := ⟨blk_below (by exact N_1.out) hb2⟩; have HBL2 : Aside0 (Below w.heap.size w w2) := ⟨below_step (by exact HBL1.out) hb2⟩; have HBL2s : w.heap.size ≤ w2.heap.size := HBL2.out.size; clear hb2; clear qN_1_0 qN_1_1 qN_1_2 qN_1_3 qN_1_4 qN_1_5 qN_1_6 qN_1_7 qN_1_8 qN_1_f lN_1; obtain ⟨qN_2_0, qN_2_1, qN_2_2, qN_2_3, qN_2_4, qN_2_5, qN_2_6, qN_2_7, qN_2_8, qN_2_f, lN_2⟩ := c9_ N_2.out))
  exact ⟨rfl, by first | rfl | (simp; done), by apply below_alloc; exact HBL2.out⟩
set_option maxHeartbeats 8000000 in
set_option maxRecDepth 100000 in
theorem guard_Send.slot_s (k : Nat) (a0_0 : Bool) (a0_1 a0_2 a0_3 a0_4 a0_5 a0_6 a1_0 a1_1 : Int) (a2 x1 x2 x3 x4 x5 x6 x7 own b be g ge : Int) (x0 : Bool) (w : World) (V : clock_Valid.f a1_0 a1_1 = some true) (c0 : decide (a2 < 0) = false) (c1 : decide (1000000000 ≤ a2) = false) (X : timesync_Hear.f k a0_0 a0_1 a0_2 a0_3 a0_4 a0_5 a0_6 0 0 0 0 0 = some (x0, x1, x2, x3, x4, x5, x6, x7)) (h7 : (x7 == 1) = false) (hs : a0_0 = false)  :
    Calls Try.prog 32 #[.agg #[.bool a0_0, .int .i64 a0_1, .int .i64 a0_2, .int .i64 a0_3, .int .i64 a0_4, .int .i64 a0_5, .int .i64 a0_6, .int .i64 a1_0, .int .i64 a1_1], .int .i64 a2] w fun e w' => e = .panicked [{ v := .iface 29 (.int .i64 16), recovered := false }] ∧ Below w.heap.size w w' := by
  replace V := Aside0.mk V
  replace X := Aside0.mk X
  replace hs := Aside0.mk hs
  have hu25 := Try.underlying25
  have hu27 := Try.underlying27
  have hu55 := Try.underlying55
  have hu68 := Try.underlying68
  have hu50 := Try.underlying50
  have hu23 := Try.underlying23
  have HB := Aside0.mk (Below.refl w.heap.size w)
  obtain rfl := hs.out
  go_enter Try.func32, Try.ntmps32
  go_wp2_with (first | (go_at_call 34; (with_reducible refine (clock_Valid.calls a1_0 a1_1 true _ V.out).mono ?_); rintro e w1 ⟨rfl, hb1⟩; have N_1 : Aside0 ((w1).heap[w.heap.size]? = some (.cells #[.bool false, .int .i64 a0_1, .int .i64 a0_2, .int .i64 a0_3, .int .i64 a0_4, .int .i64 a0_5, .int .i64 a0_6, .int .i64 a1_0, .int .i64 a1_1] 68 (0, 0))) := ⟨blk_below (by exact blk_at_new_ (by simp)) hb1⟩; have HBL1 : Aside0 (Below w.heap.size w w1) := ⟨below_step (by apply below_alloc; exact HB.out) hb1⟩; have HBL1s : w.heap.size ≤ w1.heap.size := HBL1.out.size; clear hb1; obtain ⟨qN_1_0, qN_1_1, qN_1_2, qN_1_3, qN_1_4, qN_1_5, qN_1_6, qN_1_7, qN_1_8, qN_1_f, lN_1⟩ := c9_ N_1.out) | (go_at_call 20; (with_reducible refine (timesync_Hear.calls k false a0_1 a0_2 a0_3 a0_4 a0_5 a0_6 0 0 0 0 0 x0 x1 x2 x3 x4 x5 x6 x7 _ X.out).mono ?_); rintro e w2 ⟨rfl, hb2⟩; have N_2 : Aside0 ((w2).heap[w.heap.size]? = some (.cells #[.bool false, .int .i64 a0_1, .int .i64 a0_2, .int .i64 a0_3, .int .i64 a0_4, .int .i64 a0_5, .int .i64 a0_6, .int .i64 a1_0, .int .i64 a1_1] 68 (0, 0))) := ⟨blk_below (by exact N_1.out) hb2⟩; have HBL2 : Aside0 (Below w.heap.size w w2) := ⟨below_step (by exact HBL1.out) hb2⟩; have HBL2s : w.heap.size ≤ w2.heap.size := HBL2.out.size; clear hb2; clear qN_1_0 qN_1_1 qN_1_2 qN_1_3 qN_1_4 qN_1_5 qN_1_6 qN_1_7 qN_1_8 qN_1_f lN_1; obtain ⟨qN_2_0, qN_2_1, qN_2_2, qN_2_3, qN_2_4, qN_2_5, qN_2_6, qN_2_7, qN_2_8, qN_2_f, lN_2⟩ := c9_ N_2.out))
  exact ⟨rfl, by first | rfl | (simp; done), by apply below_alloc; exact HBL2.out⟩
set_option maxHeartbeats 8000000 in
set_option maxRecDepth 100000 in
theorem guard_Send.slot_b (k : Nat) (a0_0 : Bool) (a0_1 a0_2 a0_3 a0_4 a0_5 a0_6 a1_0 a1_1 : Int) (a2 x1 x2 x3 x4 x5 x6 x7 own b be g ge : Int) (x0 : Bool) (w : World) (V : clock_Valid.f a1_0 a1_1 = some true) (c0 : decide (a2 < 0) = false) (c1 : decide (1000000000 ≤ a2) = false) (X : timesync_Hear.f k a0_0 a0_1 a0_2 a0_3 a0_4 a0_5 a0_6 0 0 0 0 0 = some (x0, x1, x2, x3, x4, x5, x6, x7)) (h7 : (x7 == 1) = false) (hs : a0_0 = true) (O : guard_node_ownTime.f a0_0 a0_1 a0_2 a0_3 a0_4 a0_5 a0_6 a1_0 a1_1 a2 = some own) (B : timesync_Bound.f k a0_0 a0_1 a0_2 a0_3 a0_4 a0_5 a0_6 own = some (b, be)) (hbe : (be != 0) = true) :
    Calls Try.prog 32 #[.agg #[.bool a0_0, .int .i64 a0_1, .int .i64 a0_2, .int .i64 a0_3, .int .i64 a0_4, .int .i64 a0_5, .int .i64 a0_6, .int .i64 a1_0, .int .i64 a1_1], .int .i64 a2] w fun e w' => e = .panicked [{ v := .iface 29 (.int .i64 be), recovered := false }] ∧ Below w.heap.size w w' := by
  replace V := Aside0.mk V
  replace X := Aside0.mk X
  replace hs := Aside0.mk hs
  replace O := Aside0.mk O
  replace B := Aside0.mk B
  have hu25 := Try.underlying25
  have hu27 := Try.underlying27
  have hu55 := Try.underlying55
  have hu68 := Try.underlying68
  have hu50 := Try.underlying50
  have hu23 := Try.underlying23
  have HB := Aside0.mk (Below.refl w.heap.size w)
  obtain rfl := hs.out
  go_enter Try.func32, Try.ntmps32
  go_wp2_with (first | (go_at_call 34; (with_reducible refine (clock_Valid.calls a1_0 a1_1 true _ V.out).mono ?_); rintro e w1 ⟨rfl, hb1⟩; have N_1 : Aside0 ((w1).heap[w.heap.size]? = some (.cells #[.bool true, .int .i64 a0_1, .int .i64 a0_2, .int .i64 a0_3, .int .i64 a0_4, .int .i64 a0_5, .int .i64 a0_6, .int .i64 a1_0, .int .i64 a1_1] 68 (0, 0))) := ⟨blk_below (by exact blk_at_new_ (by simp)) hb1⟩; have HBL1 : Aside0 (Below w.heap.size w w1) := ⟨below_step (by apply below_alloc; exact HB.out) hb1⟩; have HBL1s : w.heap.size ≤ w1.heap.size := HBL1.out.size; clear hb1; obtain ⟨qN_1_0, qN_1_1, qN_1_2, qN_1_3, qN_1_4, qN_1_5, qN_1_6, qN_1_7, qN_1_8, qN_1_f, lN_1⟩ := c9_ N_1.out) | (go_at_call 20; (with_reducible refine (timesync_Hear.calls k true a0_1 a0_2 a0_3 a0_4 a0_5 a0_6 0 0 0 0 0 x0 x1 x2 x3 x4 x5 x6 x7 _ X.out).mono ?_); rintro e w2 ⟨rfl, hb2⟩; have N_2 : Aside0 ((w2).heap[w.heap.size]? = some (.cells #[.bool true, .int .i64 a0_1, .int .i64 a0_2, .int .i64 a0_3, .int .i64 a0_4, .int .i64 a0_5, .int .i64 a0_6, .int .i64 a1_0, .int .i64 a1_1] 68 (0, 0))) := ⟨blk_below (by exact N_1.out) hb2⟩; have HBL2 : Aside0 (Below w.heap.size w w2) := ⟨below_step (by exact HBL1.out) hb2⟩; have HBL2s : w.heap.size ≤ w2.heap.size := HBL2.out.size; clear hb2; clear qN_1_0 qN_1_1 qN_1_2 qN_1_3 qN_1_4 qN_1_5 qN_1_6 qN_1_7 qN_1_8 qN_1_f lN_1; obtain ⟨qN_2_0, qN_2_1, qN_2_2, qN_2_3, qN_2_4, qN_2_5, qN_2_6, qN_2_7, qN_2_8, qN_2_f, lN_2⟩ := c9_ N_2.out) | (go_at_call 51; (with_reducible refine (guard_node_ownTime.calls true a0_1 a0_2 a0_3 a0_4 a0_5 a0_6 a1_0 a1_1 a2 own _ O.out).mono ?_); rintro e w3 ⟨rfl, hb3⟩; have N_3 : Aside0 ((w3).heap[w.heap.size]? = some (.cells #[.bool true, .int .i64 a0_1, .int .i64 a0_2, .int .i64 a0_3, .int .i64 a0_4, .int .i64 a0_5, .int .i64 a0_6, .int .i64 a1_0, .int .i64 a1_1] 68 (0, 0))) := ⟨blk_below (by refine blk_alloc ?_ _; exact N_2.out) hb3⟩; have S_3 : Aside0 ((w3).heap[w2.heap.size]? = some (.cells #[.bool x0, .int .i64 x1, .int .i64 x2, .int .i64 x3, .int .i64 x4, .int .i64 x5, .int .i64 x6] 25 (0, 0))) := ⟨blk_below (by exact blk_at_new_ (by simp)) hb3⟩; have HBL3 : Aside0 (Below w.heap.size w w3) := ⟨below_step (by apply below_alloc; exact HBL2.out) hb3⟩; have HBL3s : w.heap.size ≤ w3.heap.size := HBL3.out.size; clear hb3; have lt3_0_0 : w.heap.size < w2.heap.size := (by omega); clear qN_2_0 qN_2_1 qN_2_2 qN_2_3 qN_2_4 qN_2_5 qN_2_6 qN_2_7 qN_2_8 qN_2_f lN_2; obtain ⟨qN_3_0, qN_3_1, qN_3_2, qN_3_3, qN_3_4, qN_3_5, qN_3_6, qN_3_7, qN_3_8, qN_3_f, lN_3⟩ := c9_ N_3.out; obtain ⟨qS_3_0, qS_3_1, qS_3_2, qS_3_3, qS_3_4, qS_3_5, qS_3_6, qS_3_f, lS_3⟩ := c7_ S_3.out) | (go_at_call 30; (with_reducible refine (timesync_Bound.calls k true a0_1 a0_2 a0_3 a0_4 a0_5 a0_6 own b be _ B.out).mono ?_); rintro e w4 ⟨rfl, hb4⟩; have N_4 : Aside0 ((w4).heap[w.heap.size]? = some (.cells #[.bool true, .int .i64 a0_1, .int .i64 a0_2, .int .i64 a0_3, .int .i64 a0_4, .int .i64 a0_5, .int .i64 a0_6, .int .i64 a1_0, .int .i64 a1_1] 68 (0, 0))) := ⟨blk_below (by exact N_3.out) hb4⟩; have S_4 : Aside0 ((w4).heap[w2.heap.size]? = some (.cells #[.bool x0, .int .i64 x1, .int .i64 x2, .int .i64 x3, .int .i64 x4, .int .i64 x5, .int .i64 x6] 25 (0, 0))) := ⟨blk_below (by exact S_3.out) hb4⟩; have HBL4 : Aside0 (Below w.heap.size w w4) := ⟨below_step (by exact HBL3.out) hb4⟩; have HBL4s : w.heap.size ≤ w4.heap.size := HBL4.out.size; clear hb4; clear qN_3_0 qN_3_1 qN_3_2 qN_3_3 qN_3_4 qN_3_5 qN_3_6 qN_3_7 qN_3_8 qN_3_f lN_3; clear qS_3_0 qS_3_1 qS_3_2 qS_3_3 qS_3_4 qS_3_5 qS_3_6 qS_3_f lS_3; obtain ⟨qN_4_0, qN_4_1, qN_4_2, qN_4_3, qN_4_4, qN_4_5, qN_4_6, qN_4_7, qN_4_8, qN_4_f, lN_4⟩ := c9_ N_4.out; obtain ⟨qS_4_0, qS_4_1, qS_4_2, qS_4_3, qS_4_4, qS_4_5, qS_4_6, qS_4_f, lS_4⟩ := c7_ S_4.out) | (go_at_call 52; (with_reducible refine (guard_Send.check_bad be hbe _).mono ?_); rintro e wc ⟨rfl, rfl⟩))
  exact ⟨rfl, by first | rfl | (simp; done), by exact HBL4.out⟩
set_option maxHeartbeats 8000000 in
set_option maxRecDepth 100000 in
theorem guard_Send.slot_g (k : Nat) (a0_0 : Bool) (a0_1 a0_2 a0_3 a0_4 a0_5 a0_6 a1_0 a1_1 : Int) (a2 x1 x2 x3 x4 x5 x6 x7 own b be g ge : Int) (x0 : Bool) (w : World) (V : clock_Valid.f a1_0 a1_1 = some true) (c0 : decide (a2 < 0) = false) (c1 : decide (1000000000 ≤ a2) = false) (X : timesync_Hear.f k a0_0 a0_1 a0_2 a0_3 a0_4 a0_5 a0_6 0 0 0 0 0 = some (x0, x1, x2, x3, x4, x5, x6, x7)) (h7 : (x7 == 1) = false) (hs : a0_0 = true) (O : guard_node_ownTime.f a0_0 a0_1 a0_2 a0_3 a0_4 a0_5 a0_6 a1_0 a1_1 a2 = some own) (B : timesync_Bound.f k a0_0 a0_1 a0_2 a0_3 a0_4 a0_5 a0_6 own = some (b, 0)) (G : guard_Send.begins k a1_0 a1_1 own = some (g, ge)) (hgn : ¬ ge = 0) :
    Calls Try.prog 32 #[.agg #[.bool a0_0, .int .i64 a0_1, .int .i64 a0_2, .int .i64 a0_3, .int .i64 a0_4, .int .i64 a0_5, .int .i64 a0_6, .int .i64 a1_0, .int .i64 a1_1], .int .i64 a2] w fun e w' => e = .panicked [{ v := .iface 29 (.int .i64 ge), recovered := false }] ∧ Below w.heap.size w w' := by
  replace V := Aside0.mk V
  replace X := Aside0.mk X
  replace hs := Aside0.mk hs
  replace O := Aside0.mk O
  replace B := Aside0.mk B
  replace G := Aside0.mk G
  have hu25 := Try.underlying25
  have hu27 := Try.underlying27
  have hu55 := Try.underlying55
  have hu68 := Try.underlying68
  have hu50 := Try.underlying50
  have hu23 := Try.underlying23
  have HB := Aside0.mk (Below.refl w.heap.size w)
  obtain rfl := hs.out
  go_enter Try.func32, Try.ntmps32
  go_wp2_with (first | (go_at_call 34; (with_reducible refine (clock_Valid.calls a1_0 a1_1 true _ V.out).mono ?_); rintro e w1 ⟨rfl, hb1⟩; have N_1 : Aside0 ((w1).heap[w.heap.size]? = some (.cells #[.bool true, .int .i64 a0_1, .int .i64 a0_2, .int .i64 a0_3, .int .i64 a0_4, .int .i64 a0_5, .int .i64 a0_6, .int .i64 a1_0, .int .i64 a1_1] 68 (0, 0))) := ⟨blk_below (by exact blk_at_new_ (by simp)) hb1⟩; have HBL1 : Aside0 (Below w.heap.size w w1) := ⟨below_step (by apply below_alloc; exact HB.out) hb1⟩; have HBL1s : w.heap.size ≤ w1.heap.size := HBL1.out.size; clear hb1; obtain ⟨qN_1_0, qN_1_1, qN_1_2, qN_1_3, qN_1_4, qN_1_5, qN_1_6, qN_1_7, qN_1_8, qN_1_f, lN_1⟩ := c9_ N_1.out) | (go_at_call 20; (with_reducible refine (timesync_Hear.calls k true a0_1 a0_2 a0_3 a0_4 a0_5 a0_6 0 0 0 0 0 x0 x1 x2 x3 x4 x5 x6 x7 _ X.out).mono ?_); rintro e w2 ⟨rfl, hb2⟩; have N_2 : Aside0 ((w2).heap[w.heap.size]? = some (.cells #[.bool true, .int .i64 a0_1, .int .i64 a0_2, .int .i64 a0_3, .int .i64 a0_4, .int .i64 a0_5, .int .i64 a0_6, .int .i64 a1_0, .int .i64 a1_1] 68 (0, 0))) := ⟨blk_below (by exact N_1.out) hb2⟩; have HBL2 : Aside0 (Below w.heap.size w w2) := ⟨below_step (by exact HBL1.out) hb2⟩; have HBL2s : w.heap.size ≤ w2.heap.size := HBL2.out.size; clear hb2; clear qN_1_0 qN_1_1 qN_1_2 qN_1_3 qN_1_4 qN_1_5 qN_1_6 qN_1_7 qN_1_8 qN_1_f lN_1; obtain ⟨qN_2_0, qN_2_1, qN_2_2, qN_2_3, qN_2_4, qN_2_5, qN_2_6, qN_2_7, qN_2_8, qN_2_f, lN_2⟩ := c9_ N_2.out) | (go_at_call 51; (with_reducible refine (guard_node_ownTime.calls true a0_1 a0_2 a0_3 a0_4 a0_5 a0_6 a1_0 a1_1 a2 own _ O.out).mono ?_); rintro e w3 ⟨rfl, hb3⟩; have N_3 : Aside0 ((w3).heap[w.heap.size]? = some (.cells #[.bool true, .int .i64 a0_1, .int .i64 a0_2, .int .i64 a0_3, .int .i64 a0_4, .int .i64 a0_5, .int .i64 a0_6, .int .i64 a1_0, .int .i64 a1_1] 68 (0, 0))) := ⟨blk_below (by refine blk_alloc ?_ _; exact N_2.out) hb3⟩; have S_3 : Aside0 ((w3).heap[w2.heap.size]? = some (.cells #[.bool x0, .int .i64 x1, .int .i64 x2, .int .i64 x3, .int .i64 x4, .int .i64 x5, .int .i64 x6] 25 (0, 0))) := ⟨blk_below (by exact blk_at_new_ (by simp)) hb3⟩; have HBL3 : Aside0 (Below w.heap.size w w3) := ⟨below_step (by apply below_alloc; exact HBL2.out) hb3⟩; have HBL3s : w.heap.size ≤ w3.heap.size := HBL3.out.size; clear hb3; have lt3_0_0 : w.heap.size < w2.heap.size := (by omega); clear qN_2_0 qN_2_1 qN_2_2 qN_2_3 qN_2_4 qN_2_5 qN_2_6 qN_2_7 qN_2_8 qN_2_f lN_2; obtain ⟨qN_3_0, qN_3_1, qN_3_2, qN_3_3, qN_3_4, qN_3_5, qN_3_6, qN_3_7, qN_3_8, qN_3_f, lN_3⟩ := c9_ N_3.out; obtain ⟨qS_3_0, qS_3_1, qS_3_2, qS_3_3, qS_3_4, qS_3_5, qS_3_6, qS_3_f, lS_3⟩ := c7_ S_3.out) | (go_at_call 30; (with_reducible refine (timesync_Bound.calls k true a0_1 a0_2 a0_3 a0_4 a0_5 a0_6 own b 0 _ B.out).mono ?_); rintro e w4 ⟨rfl, hb4⟩; have N_4 : Aside0 ((w4).heap[w.heap.size]? = some (.cells #[.bool true, .int .i64 a0_1, .int .i64 a0_2, .int .i64 a0_3, .int .i64 a0_4, .int .i64 a0_5, .int .i64 a0_6, .int .i64 a1_0, .int .i64 a1_1] 68 (0, 0))) := ⟨blk_below (by exact N_3.out) hb4⟩; have S_4 : Aside0 ((w4).heap[w2.heap.size]? = some (.cells #[.bool x0, .int .i64 x1, .int .i64 x2, .int .i64 x3, .int .i64 x4, .int .i64 x5, .int .i64 x6] 25 (0, 0))) := ⟨blk_below (by exact S_3.out) hb4⟩; have HBL4 : Aside0 (Below w.heap.size w w4) := ⟨below_step (by exact HBL3.out) hb4⟩; have HBL4s : w.heap.size ≤ w4.heap.size := HBL4.out.size; clear hb4; clear qN_3_0 qN_3_1 qN_3_2 qN_3_3 qN_3_4 qN_3_5 qN_3_6 qN_3_7 qN_3_8 qN_3_f lN_3; clear qS_3_0 qS_3_1 qS_3_2 qS_3_3 qS_3_4 qS_3_5 qS_3_6 qS_3_f lS_3; obtain ⟨qN_4_0, qN_4_1, qN_4_2, qN_4_3, qN_4_4, qN_4_5, qN_4_6, qN_4_7, qN_4_8, qN_4_f, lN_4⟩ := c9_ N_4.out; obtain ⟨qS_4_0, qS_4_1, qS_4_2, qS_4_3, qS_4_4, qS_4_5, qS_4_6, qS_4_f, lS_4⟩ := c7_ S_4.out) | (go_at_call 52; (with_reducible refine (guard_Send.check_ok _).mono ?_); rintro e wc ⟨rfl, rfl⟩) | (go_at_call 53; (with_reducible refine (guard_Send.begins_calls k true a0_1 a0_2 a0_3 a0_4 a0_5 a0_6 a1_0 a1_1 own g ge _ G.out).mono ?_); rintro e w5 ⟨hge, hb5⟩; (rw [if_neg hgn] at hge; subst hge); have N_5 : Aside0 ((w5).heap[w.heap.size]? = some (.cells #[.bool true, .int .i64 a0_1, .int .i64 a0_2, .int .i64 a0_3, .int .i64 a0_4, .int .i64 a0_5, .int .i64 a0_6, .int .i64 a1_0, .int .i64 a1_1] 68 (0, 0))) := ⟨blk_below (by exact N_4.out) hb5⟩; have S_5 : Aside0 ((w5).heap[w2.heap.size]? = some (.cells #[.bool x0, .int .i64 x1, .int .i64 x2, .int .i64 x3, .int .i64 x4, .int .i64 x5, .int .i64 x6] 25 (0, 0))) := ⟨blk_below (by exact S_4.out) hb5⟩; have HBL5 : Aside0 (Below w.heap.size w w5) := ⟨below_step (by exact HBL4.out) hb5⟩; have HBL5s : w.heap.size ≤ w5.heap.size := HBL5.out.size; clear hb5; clear qN_4_0 qN_4_1 qN_4_2 qN_4_3 qN_4_4 qN_4_5 qN_4_6 qN_4_7 qN_4_8 qN_4_f lN_4; clear qS_4_0 qS_4_1 qS_4_2 qS_4_3 qS_4_4 qS_4_5 qS_4_6 qS_4_f lS_4; obtain ⟨qN_5_0, qN_5_1, qN_5_2, qN_5_3, qN_5_4, qN_5_5, qN_5_6, qN_5_7, qN_5_8, qN_5_f, lN_5⟩ := c9_ N_5.out; obtain ⟨qS_5_0, qS_5_1, qS_5_2, qS_5_3, qS_5_4, qS_5_5, qS_5_6, qS_5_f, lS_5⟩ := c7_ S_5.out))
  exact ⟨rfl, by first | rfl | (simp; done), by exact HBL5.out⟩
set_option maxHeartbeats 8000000 in
set_option maxRecDepth 100000 in
theorem guard_Send.slot_ok (k : Nat) (a0_0 : Bool) (a0_1 a0_2 a0_3 a0_4 a0_5 a0_6 a1_0 a1_1 : Int) (a2 x1 x2 x3 x4 x5 x6 x7 own b be g ge : Int) (x0 : Bool) (w : World) (V : clock_Valid.f a1_0 a1_1 = some true) (c0 : decide (a2 < 0) = false) (c1 : decide (1000000000 ≤ a2) = false) (X : timesync_Hear.f k a0_0 a0_1 a0_2 a0_3 a0_4 a0_5 a0_6 0 0 0 0 0 = some (x0, x1, x2, x3, x4, x5, x6, x7)) (h7 : (x7 == 1) = false) (hs : a0_0 = true) (O : guard_node_ownTime.f a0_0 a0_1 a0_2 a0_3 a0_4 a0_5 a0_6 a1_0 a1_1 a2 = some own) (B : timesync_Bound.f k a0_0 a0_1 a0_2 a0_3 a0_4 a0_5 a0_6 own = some (b, 0)) (G : guard_Send.begins k a1_0 a1_1 own = some (g, 0))  :
    Calls Try.prog 32 #[.agg #[.bool a0_0, .int .i64 a0_1, .int .i64 a0_2, .int .i64 a0_3, .int .i64 a0_4, .int .i64 a0_5, .int .i64 a0_6, .int .i64 a1_0, .int .i64 a1_1], .int .i64 a2] w fun e w' => e = .returned (.tuple #[.int .i64 (wrap64 (g - wrap64 (a2 * 10000))), .int .i64 b]) ∧ Below w.heap.size w w' := by
  replace V := Aside0.mk V
  replace X := Aside0.mk X
  replace hs := Aside0.mk hs
  replace O := Aside0.mk O
  replace B := Aside0.mk B
  replace G := Aside0.mk G
  have hu25 := Try.underlying25
  have hu27 := Try.underlying27
  have hu55 := Try.underlying55
  have hu68 := Try.underlying68
  have hu50 := Try.underlying50
  have hu23 := Try.underlying23
  have HB := Aside0.mk (Below.refl w.heap.size w)
  obtain rfl := hs.out
  go_enter Try.func32, Try.ntmps32
  go_wp2_with (first | (go_at_call 34; (with_reducible refine (clock_Valid.calls a1_0 a1_1 true _ V.out).mono ?_); rintro e w1 ⟨rfl, hb1⟩; have N_1 : Aside0 ((w1).heap[w.heap.size]? = some (.cells #[.bool true, .int .i64 a0_1, .int .i64 a0_2, .int .i64 a0_3, .int .i64 a0_4, .int .i64 a0_5, .int .i64 a0_6, .int .i64 a1_0, .int .i64 a1_1] 68 (0, 0))) := ⟨blk_below (by exact blk_at_new_ (by simp)) hb1⟩; have HBL1 : Aside0 (Below w.heap.size w w1) := ⟨below_step (by apply below_alloc; exact HB.out) hb1⟩; have HBL1s : w.heap.size ≤ w1.heap.size := HBL1.out.size; clear hb1; obtain ⟨qN_1_0, qN_1_1, qN_1_2, qN_1_3, qN_1_4, qN_1_5, qN_1_6, qN_1_7, qN_1_8, qN_1_f, lN_1⟩ := c9_ N_1.out) | (go_at_call 20; (with_reducible refine (timesync_Hear.calls k true a0_1 a0_2 a0_3 a0_4 a0_5 a0_6 0 0 0 0 0 x0 x1 x2 x3 x4 x5 x6 x7 _ X.out).mono ?_); rintro e w2 ⟨rfl, hb2⟩; have N_2 : Aside0 ((w2).heap[w.heap.size]? = some (.cells #[.bool true, .int .i64 a0_1, .int .i64 a0_2, .int .i64 a0_3, .int .i64 a0_4, .int .i64 a0_5, .int .i64 a0_6, .int .i64 a1_0, .int .i64 a1_1] 68 (0, 0))) := ⟨blk_below (by exact N_1.out) hb2⟩; have HBL2 : Aside0 (Below w.heap.size w w2) := ⟨below_step (by exact HBL1.out) hb2⟩; have HBL2s : w.heap.size ≤ w2.heap.size := HBL2.out.size; clear hb2; clear qN_1_0 qN_1_1 qN_1_2 qN_1_3 qN_1_4 qN_1_5 qN_1_6 qN_1_7 qN_1_8 qN_1_f lN_1; obtain ⟨qN_2_0, qN_2_1, qN_2_2, qN_2_3, qN_2_4, qN_2_5, qN_2_6, qN_2_7, qN_2_8, qN_2_f, lN_2⟩ := c9_ N_2.out) | (go_at_call 51; (with_reducible refine (guard_node_ownTime.calls true a0_1 a0_2 a0_3 a0_4 a0_5 a0_6 a1_0 a1_1 a2 own _ O.out).mono ?_); rintro e w3 ⟨rfl, hb3⟩; have N_3 : Aside0 ((w3).heap[w.heap.size]? = some (.cells #[.bool true, .int .i64 a0_1, .int .i64 a0_2, .int .i64 a0_3, .int .i64 a0_4, .int .i64 a0_5, .int .i64 a0_6, .int .i64 a1_0, .int .i64 a1_1] 68 (0, 0))) := ⟨blk_below (by refine blk_alloc ?_ _; exact N_2.out) hb3⟩; have S_3 : Aside0 ((w3).heap[w2.heap.size]? = some (.cells #[.bool x0, .int .i64 x1, .int .i64 x2, .int .i64 x3, .int .i64 x4, .int .i64 x5, .int .i64 x6] 25 (0, 0))) := ⟨blk_below (by exact blk_at_new_ (by simp)) hb3⟩; have HBL3 : Aside0 (Below w.heap.size w w3) := ⟨below_step (by apply below_alloc; exact HBL2.out) hb3⟩; have HBL3s : w.heap.size ≤ w3.heap.size := HBL3.out.size; clear hb3; have lt3_0_0 : w.heap.size < w2.heap.size := (by omega); clear qN_2_0 qN_2_1 qN_2_2 qN_2_3 qN_2_4 qN_2_5 qN_2_6 qN_2_7 qN_2_8 qN_2_f lN_2; obtain ⟨qN_3_0, qN_3_1, qN_3_2, qN_3_3, qN_3_4, qN_3_5, qN_3_6, qN_3_7, qN_3_8, qN_3_f, lN_3⟩ := c9_ N_3.out; obtain ⟨qS_3_0, qS_3_1, qS_3_2, qS_3_3, qS_3_4, qS_3_5, qS_3_6, qS_3_f, lS_3⟩ := c7_ S_3.out) | (go_at_call 30; (with_reducible refine (timesync_Bound.calls k true a0_1 a0_2 a0_3 a0_4 a0_5 a0_6 own b 0 _ B.out).mono ?_); rintro e w4 ⟨rfl, hb4⟩; have N_4 : Aside0 ((w4).heap[w.heap.size]? = some (.cells #[.bool true, .int .i64 a0_1, .int .i64 a0_2, .int .i64 a0_3, .int .i64 a0_4, .int .i64 a0_5, .int .i64 a0_6, .int .i64 a1_0, .int .i64 a1_1] 68 (0, 0))) := ⟨blk_below (by exact N_3.out) hb4⟩; have S_4 : Aside0 ((w4).heap[w2.heap.size]? = some (.cells #[.bool x0, .int .i64 x1, .int .i64 x2, .int .i64 x3, .int .i64 x4, .int .i64 x5, .int .i64 x6] 25 (0, 0))) := ⟨blk_below (by exact S_3.out) hb4⟩; have HBL4 : Aside0 (Below w.heap.size w w4) := ⟨below_step (by exact HBL3.out) hb4⟩; have HBL4s : w.heap.size ≤ w4.heap.size := HBL4.out.size; clear hb4; clear qN_3_0 qN_3_1 qN_3_2 qN_3_3 qN_3_4 qN_3_5 qN_3_6 qN_3_7 qN_3_8 qN_3_f lN_3; clear qS_3_0 qS_3_1 qS_3_2 qS_3_3 qS_3_4 qS_3_5 qS_3_6 qS_3_f lS_3; obtain ⟨qN_4_0, qN_4_1, qN_4_2, qN_4_3, qN_4_4, qN_4_5, qN_4_6, qN_4_7, qN_4_8, qN_4_f, lN_4⟩ := c9_ N_4.out; obtain ⟨qS_4_0, qS_4_1, qS_4_2, qS_4_3, qS_4_4, qS_4_5, qS_4_6, qS_4_f, lS_4⟩ := c7_ S_4.out) | (go_at_call 52; (with_reducible refine (guard_Send.check_ok _).mono ?_); rintro e wc ⟨rfl, rfl⟩) | (go_at_call 53; (with_reducible refine (guard_Send.begins_calls k true a0_1 a0_2 a0_3 a0_4 a0_5 a0_6 a1_0 a1_1 own g 0 _ G.out).mono ?_); rintro e w5 ⟨hge, hb5⟩; (rw [if_pos rfl] at hge; subst hge); have N_5 : Aside0 ((w5).heap[w.heap.size]? = some (.cells #[.bool true, .int .i64 a0_1, .int .i64 a0_2, .int .i64 a0_3, .int .i64 a0_4, .int .i64 a0_5, .int .i64 a0_6, .int .i64 a1_0, .int .i64 a1_1] 68 (0, 0))) := ⟨blk_below (by exact N_4.out) hb5⟩; have S_5 : Aside0 ((w5).heap[w2.heap.size]? = some (.cells #[.bool x0, .int .i64 x1, .int .i64 x2, .int .i64 x3, .int .i64 x4, .int .i64 x5, .int .i64 x6] 25 (0, 0))) := ⟨blk_below (by exact S_4.out) hb5⟩; have HBL5 : Aside0 (Below w.heap.size w w5) := ⟨below_step (by exact HBL4.out) hb5⟩; have HBL5s : w.heap.size ≤ w5.heap.size := HBL5.out.size; clear hb5; clear qN_4_0 qN_4_1 qN_4_2 qN_4_3 qN_4_4 qN_4_5 qN_4_6 qN_4_7 qN_4_8 qN_4_f lN_4; clear qS_4_0 qS_4_1 qS_4_2 qS_4_3 qS_4_4 qS_4_5 qS_4_6 qS_4_f lS_4; obtain ⟨qN_5_0, qN_5_1, qN_5_2, qN_5_3, qN_5_4, qN_5_5, qN_5_6, qN_5_7, qN_5_8, qN_5_f, lN_5⟩ := c9_ N_5.out; obtain ⟨qS_5_0, qS_5_1, qS_5_2, qS_5_3, qS_5_4, qS_5_5, qS_5_6, qS_5_f, lS_5⟩ := c7_ S_5.out))
  go_ret2
  exact ⟨by first | rfl | (simp; done), by exact HBL5.out⟩
theorem guard_Send.slot_calls (k : Nat) (a0_0 : Bool) (a0_1 a0_2 a0_3 a0_4 a0_5 a0_6 a1_0 a1_1 : Int) (a2 r b e0 : Int) (w : World) (h : guard_Send.slot k a0_0 a0_1 a0_2 a0_3 a0_4 a0_5 a0_6 a1_0 a1_1 a2 = some (r, b, e0)) :
    Calls Try.prog 32 #[.agg #[.bool a0_0, .int .i64 a0_1, .int .i64 a0_2, .int .i64 a0_3, .int .i64 a0_4, .int .i64 a0_5, .int .i64 a0_6, .int .i64 a1_0, .int .i64 a1_1], .int .i64 a2] w fun e w' => (if e0 = 0 then e = .returned (.tuple #[.int .i64 r, .int .i64 b]) else e = .panicked [{ v := .iface 29 (.int .i64 e0), recovered := false }]) ∧ Below w.heap.size w w' := by
  have H := h
  clear h
  unfold guard_Send.slot at H
  replace H := Option.bind_eq_some_iff.mp H
  obtain ⟨v, V, H⟩ := H
  cases v with
  | false =>
    rw [if_neg (by decide)] at H
    simp only [Option.some.injEq, Prod.mk.injEq] at H
    obtain ⟨rfl, rfl, rfl⟩ := H
    exact (guard_Send.slot_v k a0_0 a0_1 a0_2 a0_3 a0_4 a0_5 a0_6 a1_0 a1_1 a2 0 0 0 0 0 0 0 0 0 0 0 0 false w V).mono (fun e w1 h1 => ⟨by rw [if_neg (by decide)]; exact h1.1, h1.2⟩)
  | true =>
    rw [if_pos rfl] at H
    by_cases b0 : a2 < 0
    · rw [if_pos b0] at H
      simp only [Option.some.injEq, Prod.mk.injEq] at H
      obtain ⟨rfl, rfl, rfl⟩ := H
      exact (guard_Send.slot_n k a0_0 a0_1 a0_2 a0_3 a0_4 a0_5 a0_6 a1_0 a1_1 a2 0 0 0 0 0 0 0 0 0 0 0 0 false w V (decide_eq_true b0)).mono (fun e w1 h1 => ⟨by rw [if_neg (by decide)]; exact h1.1, h1.2⟩)
    · rw [if_neg b0] at H
      by_cases b1 : a2 ≥ 1000000000
      · rw [if_pos b1] at H
        simp only [Option.some.injEq, Prod.mk.injEq] at H
        obtain ⟨rfl, rfl, rfl⟩ := H
        exact (guard_Send.slot_m k a0_0 a0_1 a0_2 a0_3 a0_4 a0_5 a0_6 a1_0 a1_1 a2 0 0 0 0 0 0 0 0 0 0 0 0 false w V (decide_eq_false b0) (decide_eq_true b1)).mono (fun e w1 h1 => ⟨by rw [if_neg (by decide)]; exact h1.1, h1.2⟩)
      · rw [if_neg b1] at H
        replace H := Option.bind_eq_some_iff.mp H
        obtain ⟨⟨x0, x1, x2, x3, x4, x5, x6, x7⟩, X, H⟩ := H
        dsimp only at H
        by_cases b2 : x7 = 1
        · subst b2
          rw [if_pos rfl] at H
          simp only [Option.some.injEq, Prod.mk.injEq] at H
          obtain ⟨rfl, rfl, rfl⟩ := H
          exact (guard_Send.slot_x k a0_0 a0_1 a0_2 a0_3 a0_4 a0_5 a0_6 a1_0 a1_1 a2 x1 x2 x3 x4 x5 x6 1 0 0 0 0 0 x0 w V (decide_eq_false b0) (decide_eq_false b1) X).mono (fun e w1 h1 => ⟨by rw [if_neg (by decide)]; exact h1.1, h1.2⟩)
        · rw [if_neg b2] at H
          by_cases b3 : a0_0 = true
          · rw [if_pos b3] at H
            replace H := Option.bind_eq_some_iff.mp H
            obtain ⟨own, O, H⟩ := H
            replace H := Option.bind_eq_some_iff.mp H
            obtain ⟨⟨b', be⟩, B, H⟩ := H
            dsimp only at H
            by_cases b4 : be = 0
            · subst b4
              rw [if_pos rfl] at H
              replace H := Option.bind_eq_some_iff.mp H
              obtain ⟨⟨g, ge⟩, G, H⟩ := H
              dsimp only at H
              by_cases b5 : ge = 0
              · subst b5
                rw [if_pos rfl] at H
                simp only [Option.some.injEq, Prod.mk.injEq] at H
                obtain ⟨rfl, rfl, rfl⟩ := H
                exact (guard_Send.slot_ok k a0_0 a0_1 a0_2 a0_3 a0_4 a0_5 a0_6 a1_0 a1_1 a2 x1 x2 x3 x4 x5 x6 x7 own b' 0 g 0 x0 w V (decide_eq_false b0) (decide_eq_false b1) X (beq_eq_false_iff_ne.2 b2) b3 O B G).mono (fun e w1 h1 => ⟨by rw [if_pos rfl]; exact h1.1, h1.2⟩)
              · rw [if_neg b5] at H
                simp only [Option.some.injEq, Prod.mk.injEq] at H
                obtain ⟨rfl, rfl, rfl⟩ := H
                exact (guard_Send.slot_g k a0_0 a0_1 a0_2 a0_3 a0_4 a0_5 a0_6 a1_0 a1_1 a2 x1 x2 x3 x4 x5 x6 x7 own b' 0 g _ x0 w V (decide_eq_false b0) (decide_eq_false b1) X (beq_eq_false_iff_ne.2 b2) b3 O B G b5).mono (fun e w1 h1 => ⟨by rw [if_neg b5]; exact h1.1, h1.2⟩)
            · rw [if_neg b4] at H
              simp only [Option.some.injEq, Prod.mk.injEq] at H
              obtain ⟨rfl, rfl, rfl⟩ := H
              exact (guard_Send.slot_b k a0_0 a0_1 a0_2 a0_3 a0_4 a0_5 a0_6 a1_0 a1_1 a2 x1 x2 x3 x4 x5 x6 x7 own b' _ 0 0 x0 w V (decide_eq_false b0) (decide_eq_false b1) X (beq_eq_false_iff_ne.2 b2) b3 O B (bne_iff_ne.2 b4)).mono (fun e w1 h1 => ⟨by rw [if_neg b4]; exact h1.1, h1.2⟩)
          · rw [if_neg b3] at H
            simp only [Option.some.injEq, Prod.mk.injEq] at H
            obtain ⟨rfl, rfl, rfl⟩ := H
            exact (guard_Send.slot_s k a0_0 a0_1 a0_2 a0_3 a0_4 a0_5 a0_6 a1_0 a1_1 a2 x1 x2 x3 x4 x5 x6 x7 0 0 0 0 0 x0 w V (decide_eq_false b0) (decide_eq_false b1) X (beq_eq_false_iff_ne.2 b2) (Bool.eq_false_iff.mpr b3)).mono (fun e w1 h1 => ⟨by rw [if_neg (by decide)]; exact h1.1, h1.2⟩)
theorem guard_Send.eqn_ (w : World) : (binOp BinOp.eql 20 .nilIface .nilIface).run Try.prog w = .ok (.bool true) w := by kernel_rfl
theorem guard_Send.eqi_ (v : Value) (w : World) : (binOp BinOp.eql 20 (.iface 29 v) .nilIface).run Try.prog w = .ok (.bool false) w := by kernel_rfl
theorem guard_Send.as_ (v : Value) (w : World) : (Instr.typeAssert (.iface 29 v) 20 29 true).run Try.prog w = .ok (.tuple #[v, .bool true]) w := by kernel_rfl
set_option maxHeartbeats 8000000 in
set_option maxRecDepth 100000 in
theorem guard_Send.rescue_idle (q : Addr) (w : World) :
    CallsD Try.prog 31 #[.pointer (some q)] .returning w fun e u' w' => e = .returned (.tuple #[]) ∧ u' = .returning ∧ w' = w := by
  refine callsD_of_wpS Try.func31 rfl fun c₀ cs hu => ?_
  have hn := guard_Send.eqn_ w
  apply wpS_seq
  apply wpS_region
  simp [wpOpsS, go_sem, recoverD, hu, Try.ntmps31, Exit.thenS]
  refine wpS_of_wp ?_
  go_wp2
  cases c₀
  simp_all [bodyPostS, results, Try.results31]
set_option maxHeartbeats 8000000 in
set_option maxRecDepth 100000 in
theorem guard_Send.rescue_caught (q : Addr) (y x : Int) (older : List PanicEntry) (w : World) (hc : w.cell? q = some (.int .i64 y)) (hz : w.frozen? q = false) :
    CallsD Try.prog 31 #[.pointer (some q)] (.panicking ({ v := .iface 29 (.int .i64 x), recovered := false } :: older)) w fun e u' w' =>
      e = .returned (.tuple #[]) ∧ u' = .panicking ({ v := .iface 29 (.int .i64 x), recovered := true } :: older) ∧ w' = w.setCell q (.int .i64 x) := by
  refine callsD_of_wpS Try.func31 rfl fun c₀ cs hu => ?_
  have hn := guard_Send.eqi_ (.int .i64 x) w
  have ha := guard_Send.as_ (.int .i64 x) w
  apply wpS_seq
  apply wpS_region
  simp [wpOpsS, go_sem, recoverD, hu, Try.ntmps31, Exit.thenS]
  refine wpS_of_wp ?_
  go_wp2
  simp_all [bodyPostS, results, Try.results31]
theorem guard_Send.load_ {P : Program} {ty : TypeId} {k : IntKind} (hu : P.underlying ty = some (.int k)) {w : World} {a : Addr} {v : Value} (hc : w.cell? a = some v) : (loadVar ty a).run P w = .ok v w := by
  have h1 : (isAgg ty).run P w = .ok false w := by simp [isAgg, run_underlying hu]
  simp [loadVar, h1, go_sem, hc]
theorem guard_Send.res_tc {fn : Func} {u p : Tmp} {ty : TypeId} {P : Program} {k : IntKind} (h : fn.results = #[.tmp u, .cell p ty]) (tmps : Array Value) (w : World) (g : Nat) (t : TypeId) (v : Value)
    (hp : tmps.getD p undef = .pointer (some ⟨g, 0, none⟩)) (hg : w.heap[g]? = some (.cells #[v] t (0, 0))) (hu : P.underlying ty = some (.int k)) :
    (results fn tmps).run P w = .ok (.tuple #[tmps.getD u undef, v]) w := by
  have hp' : tmps[p]?.getD undef = .pointer (some ⟨g, 0, none⟩) := by simpa using hp
  have hl := guard_Send.load_ hu (w := w) (a := ⟨g, 0, none⟩) (v := v) ((blk_cell hg 0).trans rfl)
  simp [results, h, hp', asAddr, hl]
theorem guard_Send.res_cc {fn : Func} {q p : Tmp} {ty ty' : TypeId} {P : Program} {k : IntKind} (h : fn.results = #[.cell q ty', .cell p ty]) (tmps : Array Value) (w : World) (g : Nat) (t : TypeId) (cs : Array Value) (fr : Nat × Nat) (fs : Array Field) (g2 : Nat) (t2 : TypeId) (v : Value)
    (hq : tmps.getD q undef = .pointer (some ⟨g, 0, none⟩)) (hg : w.heap[g]? = some (.cells cs t fr)) (hu : P.underlying ty' = some (.struct fs)) (hi : (P.info? ty').map (·.size) = some cs.size)
    (hp : tmps.getD p undef = .pointer (some ⟨g2, 0, none⟩)) (hc : w.heap[g2]? = some (.cells #[v] t2 (0, 0))) (hu2 : P.underlying ty = some (.int k)) :
    (results fn tmps).run P w = .ok (.tuple #[.agg cs, v]) w := by
  have hq' : tmps[q]?.getD undef = .pointer (some ⟨g, 0, none⟩) := by simpa using hq
  have hp' : tmps[p]?.getD undef = .pointer (some ⟨g2, 0, none⟩) := by simpa using hp
  have hl := guard_Send.load_ hu2 (w := w) (a := ⟨g2, 0, none⟩) (v := v) ((blk_cell hc 0).trans rfl)
  simp [results, h, hq', hp', asAddr, run_loadVar_row w g t ty' cs fr (.struct fs) hg hu rfl hi, hl]
set_option maxHeartbeats 8000000 in
set_option maxRecDepth 100000 in
theorem guard_Send.send_ok (k : Nat) (a0_0 : Bool) (a0_1 a0_2 a0_3 a0_4 a0_5 a0_6 a1_0 a1_1 : Int) (a2 r b e0 : Int) (w : World) (SL : guard_Send.slot k a0_0 a0_1 a0_2 a0_3 a0_4 a0_5 a0_6 a1_0 a1_1 a2 = some (r, b, 0))  :
    Calls Try.prog 13 #[.agg #[.bool a0_0, .int .i64 a0_1, .int .i64 a0_2, .int .i64 a0_3, .int .i64 a0_4, .int .i64 a0_5, .int .i64 a0_6], .agg #[.int .i64 a1_0, .int .i64 a1_1], .int .i64 a2] w fun e w' => e = .returned (.tuple #[.int .i64 r, .int .i64 0]) ∧ Below w.heap.size w w' := by
  replace SL := Aside0.mk SL
  have hu25 := Try.underlying25
  have hu27 := Try.underlying27
  have hu55 := Try.underlying55
  have hu68 := Try.underlying68
  have hu50 := Try.underlying50
  have hu23 := Try.underlying23
  have HB := Aside0.mk (Below.refl w.heap.size w)
  have hu29 := Try.underlying29
  have hmf : ∀ (fn : Fn) (first cap : Array Value) (w : World), (Instr.makeFunc fn first cap).run Try.prog w = .ok (.func fn first cap) w := fun _ _ _ _ => rfl
  go_enter_defers Try.func13, Try.ntmps13
  go_wp2_with (first | (go_at_call 32; (with_reducible refine (guard_Send.slot_calls k a0_0 a0_1 a0_2 a0_3 a0_4 a0_5 a0_6 a1_0 a1_1 a2 r b 0 _ SL.out).mono ?_); rintro e w1 ⟨hge, hb1⟩; (rw [if_pos rfl] at hge; subst hge); have S_1 : Aside0 ((w1).heap[w.heap.size]? = some (.cells #[.bool a0_0, .int .i64 a0_1, .int .i64 a0_2, .int .i64 a0_3, .int .i64 a0_4, .int .i64 a0_5, .int .i64 a0_6] 25 (0, 0))) := ⟨blk_below (by refine blk_alloc ?_ _; refine blk_alloc ?_ _; exact blk_at_new_ (by simp)) hb1⟩; have C_1 : Aside0 ((w1).heap[w.heap.size + 1]? = some (.cells #[.int .i64 a1_0, .int .i64 a1_1] 27 (0, 0))) := ⟨blk_below (by refine blk_alloc ?_ _; exact blk_at_new_ (by simp)) hb1⟩; have E_1 : Aside0 ((w1).heap[w.heap.size + 1 + 1]? = some (.cells #[.int .i64 0] 29 (0, 0))) := ⟨blk_below (by exact blk_at_new_ (by simp)) hb1⟩; have HBL1 : Aside0 (Below w.heap.size w w1) := ⟨below_step (by apply below_alloc; apply below_alloc; apply below_alloc; exact HB.out) hb1⟩; have HBL1s : w.heap.size ≤ w1.heap.size := HBL1.out.size; clear hb1; obtain ⟨qS_1_0, qS_1_1, qS_1_2, qS_1_3, qS_1_4, qS_1_5, qS_1_6, qS_1_f, lS_1⟩ := c7_ S_1.out; obtain ⟨qC_1_0, qC_1_1, qC_1_f, lC_1⟩ := c2_ C_1.out; obtain ⟨qE_1_0, qE_1_f, lE_1⟩ := c1_ E_1.out))
  refine leaves_cons (f := 31) (args := #[.pointer (some ⟨w.heap.size + 1 + 1, 0, none⟩)]) (by simp) (by simp [go_sem]) ?_
  refine (guard_Send.rescue_idle ⟨w.heap.size + 1 + 1, 0, none⟩ _).mono ?_
  rintro e u' w'' ⟨rfl, rfl, rfl⟩
  refine ⟨_, guard_Send.res_tc rfl _ _ (w.heap.size + 1 + 1) 29 (.int .i64 0) rfl (by refine blk_put (cs := #[.int .i64 0]) ?_ 0 _ rfl; exact E_1.out) hu29, ?_⟩
  exact ⟨by first | rfl | (simp; done), by refine below_set ?_ (by omega); exact HBL1.out⟩
set_option maxHeartbeats 8000000 in
set_option maxRecDepth 100000 in
theorem guard_Send.send_bad (k : Nat) (a0_0 : Bool) (a0_1 a0_2 a0_3 a0_4 a0_5 a0_6 a1_0 a1_1 : Int) (a2 r b e0 : Int) (w : World) (SL : guard_Send.slot k a0_0 a0_1 a0_2 a0_3 a0_4 a0_5 a0_6 a1_0 a1_1 a2 = some (r, b, e0)) (he : ¬ e0 = 0) :
    Calls Try.prog 13 #[.agg #[.bool a0_0, .int .i64 a0_1, .int .i64 a0_2, .int .i64 a0_3, .int .i64 a0_4, .int .i64 a0_5, .int .i64 a0_6], .agg #[.int .i64 a1_0, .int .i64 a1_1], .int .i64 a2] w fun e w' => e = .returned (.tuple #[.int .i64 0, .int .i64 e0]) ∧ Below w.heap.size w w' := by
  replace SL := Aside0.mk SL
  replace he := Aside0.mk he
  have hu25 := Try.underlying25
  have hu27 := Try.underlying27
  have hu55 := Try.underlying55
  have hu68 := Try.underlying68
  have hu50 := Try.underlying50
  have hu23 := Try.underlying23
  have HB := Aside0.mk (Below.refl w.heap.size w)
  have hu29 := Try.underlying29
  have hmf : ∀ (fn : Fn) (first cap : Array Value) (w : World), (Instr.makeFunc fn first cap).run Try.prog w = .ok (.func fn first cap) w := fun _ _ _ _ => rfl
  go_enter_defers Try.func13, Try.ntmps13
  go_wp2_with (first | (go_at_call 32; (with_reducible refine (guard_Send.slot_calls k a0_0 a0_1 a0_2 a0_3 a0_4 a0_5 a0_6 a1_0 a1_1 a2 r b e0 _ SL.out).mono ?_); rintro e w1 ⟨hge, hb1⟩; (rw [if_neg he.out] at hge; subst hge); have S_1 : Aside0 ((w1).heap[w.heap.size]? = some (.cells #[.bool a0_0, .int .i64 a0_1, .int .i64 a0_2, .int .i64 a0_3, .int .i64 a0_4, .int .i64 a0_5, .int .i64 a0_6] 25 (0, 0))) := ⟨blk_below (by refine blk_alloc ?_ _; refine blk_alloc ?_ _; exact blk_at_new_ (by simp)) hb1⟩; have C_1 : Aside0 ((w1).heap[w.heap.size + 1]? = some (.cells #[.int .i64 a1_0, .int .i64 a1_1] 27 (0, 0))) := ⟨blk_below (by refine blk_alloc ?_ _; exact blk_at_new_ (by simp)) hb1⟩; have E_1 : Aside0 ((w1).heap[w.heap.size + 1 + 1]? = some (.cells #[.int .i64 0] 29 (0, 0))) := ⟨blk_below (by exact blk_at_new_ (by simp)) hb1⟩; have HBL1 : Aside0 (Below w.heap.size w w1) := ⟨below_step (by apply below_alloc; apply below_alloc; apply below_alloc; exact HB.out) hb1⟩; have HBL1s : w.heap.size ≤ w1.heap.size := HBL1.out.size; clear hb1; obtain ⟨qS_1_0, qS_1_1, qS_1_2, qS_1_3, qS_1_4, qS_1_5, qS_1_6, qS_1_f, lS_1⟩ := c7_ S_1.out; obtain ⟨qC_1_0, qC_1_1, qC_1_f, lC_1⟩ := c2_ C_1.out; obtain ⟨qE_1_0, qE_1_f, lE_1⟩ := c1_ E_1.out))
  refine leaves_cons (f := 31) (args := #[.pointer (some ⟨w.heap.size + 1 + 1, 0, none⟩)]) (by simp) (by simp [go_sem]) ?_
  have hEc : (w1).cell? ⟨w.heap.size + 1 + 1, 0, none⟩ = some (.int .i64 0) := (blk_cell E_1.out 0).trans rfl
  have hEf := blk_frozen E_1.out 0
  refine (guard_Send.rescue_caught ⟨w.heap.size + 1 + 1, 0, none⟩ 0 e0 [] _ hEc hEf).mono ?_
  rintro e u' w'' ⟨rfl, rfl, rfl⟩
  refine ⟨_, guard_Send.res_tc rfl _ _ (w.heap.size + 1 + 1) 29 (.int .i64 e0) rfl (by refine blk_put (cs := #[.int .i64 0]) ?_ 0 _ rfl; exact E_1.out) hu29, ?_⟩
  exact ⟨by first | rfl | (simp; done), by refine below_set ?_ (by omega); exact HBL1.out⟩
theorem guard_Send.calls (k : Nat) (a0_0 : Bool) (a0_1 a0_2 a0_3 a0_4 a0_5 a0_6 a1_0 a1_1 : Int) (a2 r1 r2 : Int) (w : World) (h : guard_Send.f k a0_0 a0_1 a0_2 a0_3 a0_4 a0_5 a0_6 a1_0 a1_1 a2 = some (r1, r2)) :
    Calls Try.prog 13 #[.agg #[.bool a0_0, .int .i64 a0_1, .int .i64 a0_2, .int .i64 a0_3, .int .i64 a0_4, .int .i64 a0_5, .int .i64 a0_6], .agg #[.int .i64 a1_0, .int .i64 a1_1], .int .i64 a2] w fun e w' => e = .returned (.tuple #[.int .i64 r1, .int .i64 r2]) ∧ Below w.heap.size w w' := by
  have H := h
  clear h
  unfold guard_Send.f at H
  replace H := Option.bind_eq_some_iff.mp H
  obtain ⟨⟨r, b, e0⟩, SL, H⟩ := H
  dsimp only at H
  by_cases b0 : e0 = 0
  · subst b0
    rw [if_pos rfl] at H
    simp only [Option.some.injEq, Prod.mk.injEq] at H
    obtain ⟨rfl, rfl⟩ := H
    exact guard_Send.send_ok k a0_0 a0_1 a0_2 a0_3 a0_4 a0_5 a0_6 a1_0 a1_1 a2 r b 0 w SL
  · rw [if_neg b0] at H
    simp only [Option.some.injEq, Prod.mk.injEq] at H
    obtain ⟨rfl, rfl⟩ := H
    exact guard_Send.send_bad k a0_0 a0_1 a0_2 a0_3 a0_4 a0_5 a0_6 a1_0 a1_1 a2 r b e0 w SL b0
end
end Go.Proofs.Ytdpihbhkghjclaa.P
end
