/- A claim's own texts, laid together by wip/zip.py without what the claim does not use. Conditions: none. -/
import Derived.Test.YtdpihbhkghjclaaZcpx0
import Derived.BigRegion
import Derived.Defers
import Derived.Recover
import Derived.LaidEql
import Derived.Stop.Asserts
import Derived.WalkLawsBesides
import Derived.RowKitTokens
section
/- The Go functions of this claim as Lean functions, and the proofs that their calls answer so: written by wip/myprint.py over the kit's printer, hand-proved contracts laid in. Conditions: none. -/
namespace Go.Proofs.Ytdpihbhkghjclaa.P
open Go.RowKit Go.Proofs.YtdpihbhkghjclaaW.PrintWords Go.Proofs.YtdpihbhkghjclaaW.PrintLast Go.Proofs.YtdpihbhkghjclaaW.PrintMore
attribute [local go_sem] max2_int min2_int max_two min_two max_three min_three max_four min_four   -- for this text's walks alone
set_option linter.unusedVariables false
set_option linter.unusedSimpArgs false
/-! ### timesync_Start: function 16 (proved by hand) -/
def timesync_Start.f (a0 : Bool) : Option (Bool × Int × Int × Int × Int × Int × Int) := if a0 = true then (some (true, 0, 0, 0, 0, (-1), 0)) else (some (false, 0, 0, 0, 60, (-1), 0))
theorem timesync_Start.blk_at_new_ {W : World} {o : Obj} {g : Nat} (h : g = W.heap.size) : (W.alloc o).heap[g]? = some o := by subst h; exact blk_new W o
section
open timesync_Start (blk_at_new_)
set_option maxHeartbeats 8000000 in
set_option maxRecDepth 100000 in
theorem timesync_Start.true_ (w : World) :
    Calls Try.prog 16 #[.bool true] w fun e w' => e = .returned (.agg #[.bool true, .int .i64 0, .int .i64 0, .int .i64 0, .int .i64 0, .int .i64 (-1), .int .i64 0]) ∧ Below w.heap.size w w' := by
  have hu25 := Try.underlying25
  have HB := Aside0.mk (Below.refl w.heap.size w)
  go_enter Try.func16, Try.ntmps16
  go_wp2
  refine bodyPost_ret (results_cell_row rfl _ _ (w.heap.size) 25 #[.bool true, .int .i64 0, .int .i64 0, .int .i64 0, .int .i64 0, .int .i64 (-1), .int .i64 0] (0, 0) _ rfl (by refine zg ?_ _; exact blk_at_new_ (by simp)) Try.underlying25 rfl (by kernel_rfl)) rfl ?_
  exact ⟨by first | rfl | (simp; done), by apply zc; apply zc; exact HB.out⟩
set_option maxHeartbeats 8000000 in
set_option maxRecDepth 100000 in
theorem timesync_Start.false_ (w : World) :
    Calls Try.prog 16 #[.bool false] w fun e w' => e = .returned (.agg #[.bool false, .int .i64 0, .int .i64 0, .int .i64 0, .int .i64 60, .int .i64 (-1), .int .i64 0]) ∧ Below w.heap.size w w' := by
  have hu25 := Try.underlying25
  have HB := Aside0.mk (Below.refl w.heap.size w)
  go_enter Try.func16, Try.ntmps16
  go_wp2
  refine bodyPost_ret (results_cell_row rfl _ _ (w.heap.size) 25 #[.bool false, .int .i64 0, .int .i64 0, .int .i64 0, .int .i64 60, .int .i64 (-1), .int .i64 0] (0, 0) _ rfl (by refine zg ?_ _; exact blk_at_new_ (by simp)) Try.underlying25 rfl (by kernel_rfl)) rfl ?_
  exact ⟨by first | rfl | (simp; done), by apply zc; apply zc; exact HB.out⟩
theorem timesync_Start.calls (a0 : Bool) (r1 : Bool) (r2 : Int) (r3 : Int) (r4 : Int) (r5 : Int) (r6 : Int) (r7 : Int) (w : World) (h : timesync_Start.f a0 = some (r1, r2, r3, r4, r5, r6, r7)) :
    Calls Try.prog 16 #[.bool a0] w fun e w' => e = .returned (.agg #[.bool r1, .int .i64 r2, .int .i64 r3, .int .i64 r4, .int .i64 r5, .int .i64 r6, .int .i64 r7]) ∧ Below w.heap.size w w' := by
  have H := h
  clear h
  unfold timesync_Start.f at H
  cases a0 with
  | true =>
    simp only [if_true, Bool.false_eq_true, if_false, Option.some.injEq, Prod.mk.injEq] at H
    obtain ⟨rfl, rfl, rfl, rfl, rfl, rfl, rfl⟩ := H
    exact timesync_Start.true_ w
  | false =>
    simp only [if_true, Bool.false_eq_true, if_false, Option.some.injEq, Prod.mk.injEq] at H
    obtain ⟨rfl, rfl, rfl, rfl, rfl, rfl, rfl⟩ := H
    exact timesync_Start.false_ w
end
end Go.Proofs.Ytdpihbhkghjclaa.P
end
