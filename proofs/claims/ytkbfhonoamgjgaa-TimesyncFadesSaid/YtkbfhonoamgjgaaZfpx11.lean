/- A claim's own texts, laid together by wip/zip.py without what the claim does not use. Conditions: none. -/
import Derived.Test.YtkbfhonoamgjgaaZfpx0
import Derived.Test.YtkbfhonoamgjgaaZfpx6
import Derived.Test.YtkbfhonoamgjgaaZfpx10
import Derived.BigRegion
import Derived.Defers
import Derived.Recover
import Derived.LaidEql
import Derived.Stop.Asserts
import Derived.WalkLawsBesides
import Derived.RowKitTokens
section
/- The Go functions of this claim as Lean functions, and the proofs that their calls answer so: written by wip/myprint.py over the kit's printer, hand-proved contracts laid in. Conditions: none. -/
namespace Go.Proofs.Ytkbfhonoamgjgaa.P
open Go.RowKit Go.Proofs.YtkbfhonoamgjgaaW.PrintWords Go.Proofs.YtkbfhonoamgjgaaW.PrintLast Go.Proofs.YtkbfhonoamgjgaaW.PrintMore
attribute [local go_sem] max2_int min2_int max_two min_two max_three min_three max_four min_four   -- for this text's walks alone
set_option linter.unusedVariables false
set_option linter.unusedSimpArgs false
/-! ### bound_Meet: function 31 (proved by hand) -/
def bound_Meet.fin (g0 g1 y0 y1 y2 e : Int) : Option (Int × Int × Int × Int) :=
  if e = 0 then (if mx g0 y0 > mn g1 y1 then some (0, 0, 0, 16) else some (mx g0 y0, mn g1 y1, y2, 0)) else some (0, 0, 0, e)
def bound_Meet.core (k : Nat) (x0 x1 x2 y0 y1 y2 : Int) : Option (Int × Int × Int × Int) :=
  (bound_span_grow.f k x0 x1 x2 y2).bind fun g => if x2 = y2 then (if g.2.2.2 = 0 then ((bound_span_grow.f k y0 y1 y2 y2).bind fun h => bound_Meet.fin g.1 g.2.1 h.1 h.2.1 h.2.2.1 h.2.2.2) else bound_Meet.fin g.1 g.2.1 y0 y1 y2 g.2.2.2) else bound_Meet.fin g.1 g.2.1 y0 y1 y2 g.2.2.2
def bound_Meet.f (k : Nat) (a0_0 a0_1 a0_2 a1_0 a1_1 a1_2 : Int) : Option (Int × Int × Int × Int) :=
  (bound_span_valid.f k a0_0 a0_1 a0_2).bind fun va => if va = true then ((bound_span_valid.f k a1_0 a1_1 a1_2).bind fun vb => if vb = true then (if a0_2 > a1_2 then bound_Meet.core k a1_0 a1_1 a1_2 a0_0 a0_1 a0_2 else bound_Meet.core k a0_0 a0_1 a0_2 a1_0 a1_1 a1_2) else some (0, 0, 0, 1)) else some (0, 0, 0, 1)
theorem bound_Meet.blk_at_new {W : World} {o : Obj} {g : Nat} (h : g = W.heap.size) : (W.alloc o).heap[g]? = some o := by subst h; exact blk_new W o
theorem bound_Meet.max2 (k k' : IntKind) (x y : Int) : Builtin.max2 (.int k x) (.int k' y) = pure (.int k (mx x y)) := by rw [max2_int]; rfl
theorem bound_Meet.min2 (k k' : IntKind) (x y : Int) : Builtin.min2 (.int k x) (.int k' y) = pure (.int k (mn x y)) := by rw [min2_int]; rfl
section
attribute [local go_sem high] bound_Meet.max2 bound_Meet.min2
set_option maxHeartbeats 8000000 in
set_option maxRecDepth 100000 in
theorem bound_Meet.calls (k : Nat) (a0_0 a0_1 a0_2 a1_0 a1_1 a1_2 r1 r2 r3 r4 : Int) (w : World) (h : bound_Meet.f k a0_0 a0_1 a0_2 a1_0 a1_1 a1_2 = some (r1, r2, r3, r4)) :
    Calls Try.prog 31 #[.agg #[.int .i64 a0_0, .int .i64 a0_1, .int .i64 a0_2], .agg #[.int .i64 a1_0, .int .i64 a1_1, .int .i64 a1_2]] w fun e w' => e = .returned (.tuple #[.agg #[.int .i64 r1, .int .i64 r2, .int .i64 r3], .int .i64 r4]) ∧ Below w.heap.size w w' := by
  have hu23 := Try.underlying23
  have hu61 := Try.underlying61
  have HB := Aside0.mk (Below.refl w.heap.size w)
  have HH := Aside0.mk h
  clear h
  go_enter Try.func31, Try.ntmps31
  go_upto_region 1 with (fail)
  go_cut [6, 7] (fun v6 v7 wc => ∃ g6 g7 : Nat, v6 = .pointer (some ⟨g6, 0, none⟩) ∧ v7 = .pointer (some ⟨g7, 0, none⟩) ∧ Aside0 (wc.heap[w.heap.size + 1 + 1]? = some (.cells #[.int .i64 0, .int .i64 0, .int .i64 0] 23 (0, 0))) ∧ Aside0 (wc.heap[g6]? = some (.cells #[.int .i64 a0_0, .int .i64 a0_1, .int .i64 a0_2] 61 (0, 0))) ∧ Aside0 (wc.heap[g7]? = some (.cells #[.int .i64 a1_0, .int .i64 a1_1, .int .i64 a1_2] 61 (0, 0))) ∧ Aside0 (g6 ≠ g7) ∧ Aside0 (w.heap.size ≤ g6) ∧ Aside0 (w.heap.size ≤ g7) ∧ Aside0 (g6 ≠ w.heap.size + 1 + 1) ∧ Aside0 (g7 ≠ w.heap.size + 1 + 1) ∧ Aside0 (Below w.heap.size w wc))
  case first =>
    go_region
    all_goals go_wp2
    all_goals go_meet
    all_goals (case rel => exact ⟨_, _, rfl, rfl, ⟨by (repeat (first | exact bound_Meet.blk_at_new (by simp) | refine blk_drew ?_ | refine blk_alloc ?_ _))⟩, ⟨by (repeat (first | exact bound_Meet.blk_at_new (by simp) | refine blk_drew ?_ | refine blk_alloc ?_ _))⟩, ⟨by (repeat (first | exact bound_Meet.blk_at_new (by simp) | refine blk_drew ?_ | refine blk_alloc ?_ _))⟩, ⟨by omega⟩, ⟨by omega⟩, ⟨by omega⟩, ⟨by omega⟩, ⟨by omega⟩, ⟨by repeat (first | (with_reducible first | exact HB.out | apply below_drew1 | apply below_alloc) | exact HB.out)⟩⟩)
  case rest =>
    obtain ⟨g6, g7, rfl, rfl, BR, B6, B7, NE, G6, G7, N6, N7, HB1⟩ := hcut
    clear HB
    have ne1 := NE.out
    have ne2 := NE.out.symm
    have ne3 := N6.out
    have ne4 := N6.out.symm
    have ne5 := N7.out
    have ne6 := N7.out.symm
    have qB6_0 : (wc).cell? ⟨g6, 0, none⟩ = some (.int .i64 a0_0) := (blk_cell B6.out 0).trans rfl
    have qB6_1 : (wc).cell? ⟨g6, 1, none⟩ = some (.int .i64 a0_1) := (blk_cell B6.out 1).trans rfl
    have qB6_2 : (wc).cell? ⟨g6, 2, none⟩ = some (.int .i64 a0_2) := (blk_cell B6.out 2).trans rfl
    have qB6_f := blk_frozen B6.out
    have qB7_0 : (wc).cell? ⟨g7, 0, none⟩ = some (.int .i64 a1_0) := (blk_cell B7.out 0).trans rfl
    have qB7_1 : (wc).cell? ⟨g7, 1, none⟩ = some (.int .i64 a1_1) := (blk_cell B7.out 1).trans rfl
    have qB7_2 : (wc).cell? ⟨g7, 2, none⟩ = some (.int .i64 a1_2) := (blk_cell B7.out 2).trans rfl
    have qB7_f := blk_frozen B7.out
    have qBR_0 : (wc).cell? ⟨w.heap.size + 1 + 1, 0, none⟩ = some (.int .i64 0) := (blk_cell BR.out 0).trans rfl
    have qBR_1 : (wc).cell? ⟨w.heap.size + 1 + 1, 1, none⟩ = some (.int .i64 0) := (blk_cell BR.out 1).trans rfl
    have qBR_2 : (wc).cell? ⟨w.heap.size + 1 + 1, 2, none⟩ = some (.int .i64 0) := (blk_cell BR.out 2).trans rfl
    have qBR_f := blk_frozen BR.out
    have H := HH.out
    clear HH
    unfold bound_Meet.f at H
    replace H := Option.bind_eq_some_iff.mp H
    obtain ⟨va, A1, H⟩ := H
    have A1 := Aside0.mk A1
    by_cases c1 : va = true
    · subst c1
      rw [if_pos rfl] at H
      replace H := Option.bind_eq_some_iff.mp H
      obtain ⟨vb, A2, H⟩ := H
      have A2 := Aside0.mk A2
      by_cases c2 : vb = true
      · subst c2
        rw [if_pos rfl] at H
        have HH := Aside0.mk H
        clear H
        go_upto_if 29 with (first | (go_at_call 48; (with_reducible refine (bound_span_valid.calls k a0_0 a0_1 a0_2 true _ A1.out).mono ?_); rintro e w1 ⟨rfl, hb10⟩; have hb1 := Aside0.mk hb10; clear qB6_0 qB6_1 qB6_2 qB7_0 qB7_1 qB7_2 qBR_0 qBR_1 qBR_2 qB6_f qB7_f qBR_f; have C6 := Aside0.mk (blk_below B6.out hb10); have C7 := Aside0.mk (blk_below B7.out hb10); have CR := Aside0.mk (blk_below BR.out hb10); clear hb10; have qC6_0 : (w1).cell? ⟨g6, 0, none⟩ = some (.int .i64 a0_0) := (blk_cell C6.out 0).trans rfl; have qC6_1 : (w1).cell? ⟨g6, 1, none⟩ = some (.int .i64 a0_1) := (blk_cell C6.out 1).trans rfl; have qC6_2 : (w1).cell? ⟨g6, 2, none⟩ = some (.int .i64 a0_2) := (blk_cell C6.out 2).trans rfl; have qC6_f := blk_frozen C6.out; have qC7_0 : (w1).cell? ⟨g7, 0, none⟩ = some (.int .i64 a1_0) := (blk_cell C7.out 0).trans rfl; have qC7_1 : (w1).cell? ⟨g7, 1, none⟩ = some (.int .i64 a1_1) := (blk_cell C7.out 1).trans rfl; have qC7_2 : (w1).cell? ⟨g7, 2, none⟩ = some (.int .i64 a1_2) := (blk_cell C7.out 2).trans rfl; have qC7_f := blk_frozen C7.out; have qCR_0 : (w1).cell? ⟨w.heap.size + 1 + 1, 0, none⟩ = some (.int .i64 0) := (blk_cell CR.out 0).trans rfl; have qCR_1 : (w1).cell? ⟨w.heap.size + 1 + 1, 1, none⟩ = some (.int .i64 0) := (blk_cell CR.out 1).trans rfl; have qCR_2 : (w1).cell? ⟨w.heap.size + 1 + 1, 2, none⟩ = some (.int .i64 0) := (blk_cell CR.out 2).trans rfl; have qCR_f := blk_frozen CR.out) | (go_at_call 48; (with_reducible refine (bound_span_valid.calls k a1_0 a1_1 a1_2 true _ A2.out).mono ?_); rintro e w2 ⟨rfl, hb20⟩; have hb2 := Aside0.mk hb20; clear qC6_0 qC6_1 qC6_2 qC7_0 qC7_1 qC7_2 qCR_0 qCR_1 qCR_2 qC6_f qC7_f qCR_f; have D6 := Aside0.mk (blk_below C6.out hb20); have D7 := Aside0.mk (blk_below C7.out hb20); have DR := Aside0.mk (blk_below CR.out hb20); clear hb20; have qD6_0 : (w2).cell? ⟨g6, 0, none⟩ = some (.int .i64 a0_0) := (blk_cell D6.out 0).trans rfl; have qD6_1 : (w2).cell? ⟨g6, 1, none⟩ = some (.int .i64 a0_1) := (blk_cell D6.out 1).trans rfl; have qD6_2 : (w2).cell? ⟨g6, 2, none⟩ = some (.int .i64 a0_2) := (blk_cell D6.out 2).trans rfl; have qD6_f := blk_frozen D6.out; have qD7_0 : (w2).cell? ⟨g7, 0, none⟩ = some (.int .i64 a1_0) := (blk_cell D7.out 0).trans rfl; have qD7_1 : (w2).cell? ⟨g7, 1, none⟩ = some (.int .i64 a1_1) := (blk_cell D7.out 1).trans rfl; have qD7_2 : (w2).cell? ⟨g7, 2, none⟩ = some (.int .i64 a1_2) := (blk_cell D7.out 2).trans rfl; have qD7_f := blk_frozen D7.out; have qDR_0 : (w2).cell? ⟨w.heap.size + 1 + 1, 0, none⟩ = some (.int .i64 0) := (blk_cell DR.out 0).trans rfl; have qDR_1 : (w2).cell? ⟨w.heap.size + 1 + 1, 1, none⟩ = some (.int .i64 0) := (blk_cell DR.out 1).trans rfl; have qDR_2 : (w2).cell? ⟨w.heap.size + 1 + 1, 2, none⟩ = some (.int .i64 0) := (blk_cell DR.out 2).trans rfl; have qDR_f := blk_frozen DR.out))
        have HB2 := Aside0.mk (below_then (below_then HB1.out HB1.out.size hb1.out) (Nat.le_trans HB1.out.size hb1.out.size) hb2.out)
        clear A1 A2
        go_cut [] (fun wc => ∃ x0 x1 x2 y0 y1 y2 : Int, Aside0 (bound_Meet.core k x0 x1 x2 y0 y1 y2 = some (r1, r2, r3, r4)) ∧ Aside0 (wc.heap[w.heap.size + 1 + 1]? = some (.cells #[.int .i64 0, .int .i64 0, .int .i64 0] 23 (0, 0))) ∧ Aside0 (wc.heap[g6]? = some (.cells #[.int .i64 x0, .int .i64 x1, .int .i64 x2] 61 (0, 0))) ∧ Aside0 (wc.heap[g7]? = some (.cells #[.int .i64 y0, .int .i64 y1, .int .i64 y2] 61 (0, 0))) ∧ Aside0 (Below w.heap.size w wc))
        case first =>
          go_wp2
          · go_meet
            case rel =>
              have c3 : a0_2 > a1_2 := by first | assumption | omega
              have H := HH.out
              rw [if_pos c3] at H
              refine ⟨a1_0, a1_1, a1_2, a0_0, a0_1, a0_2, ⟨H⟩, ⟨?_⟩, ⟨?_⟩, ⟨?_⟩, ⟨?_⟩⟩
              · refine blk_far ?_ ne6 _; refine blk_far ?_ ne6 _; refine blk_far ?_ ne6 _; refine blk_far ?_ ne4 _; refine blk_far ?_ ne4 _; refine blk_far ?_ ne4 _; exact DR.out
              · refine blk_far ?_ ne1 _; refine blk_far ?_ ne1 _; refine blk_far ?_ ne1 _; refine blk_put (cs := #[.int .i64 a1_0, .int .i64 a1_1, .int .i64 a0_2]) ?_ 2 _ rfl; refine blk_put (cs := #[.int .i64 a1_0, .int .i64 a0_1, .int .i64 a0_2]) ?_ 1 _ rfl; refine blk_put (cs := #[.int .i64 a0_0, .int .i64 a0_1, .int .i64 a0_2]) ?_ 0 _ rfl; exact D6.out
              · refine blk_put (cs := #[.int .i64 a0_0, .int .i64 a0_1, .int .i64 a1_2]) ?_ 2 _ rfl; refine blk_put (cs := #[.int .i64 a0_0, .int .i64 a1_1, .int .i64 a1_2]) ?_ 1 _ rfl; refine blk_put (cs := #[.int .i64 a1_0, .int .i64 a1_1, .int .i64 a1_2]) ?_ 0 _ rfl; refine blk_far ?_ ne2 _; refine blk_far ?_ ne2 _; refine blk_far ?_ ne2 _; exact D7.out
              · refine below_set ?_ G7.out; refine below_set ?_ G7.out; refine below_set ?_ G7.out; refine below_set ?_ G6.out; refine below_set ?_ G6.out; refine below_set ?_ G6.out; exact HB2.out
          · go_meet
            case rel =>
              have c3 : ¬ a0_2 > a1_2 := by first | assumption | omega
              have H := HH.out
              rw [if_neg c3] at H
              exact ⟨a0_0, a0_1, a0_2, a1_0, a1_1, a1_2, ⟨H⟩, DR, D6, D7, HB2⟩
        case rest =>
          (try clear HH)
          (try clear c3)
          clear qD6_0 qD6_1 qD6_2 qD7_0 qD7_1 qD7_2 qDR_0 qDR_1 qDR_2 qD6_f qD7_f qDR_f
          clear hb1 hb2 HB1 HB2 B6 B7 BR C6 C7 CR D6 D7 DR
          obtain ⟨x0, x1, x2, y0, y1, y2, HM, ER, E6, E7, HB3⟩ := hcut
          have qE6_0 : (wc).cell? ⟨g6, 0, none⟩ = some (.int .i64 x0) := (blk_cell E6.out 0).trans rfl
          have qE6_1 : (wc).cell? ⟨g6, 1, none⟩ = some (.int .i64 x1) := (blk_cell E6.out 1).trans rfl
          have qE6_2 : (wc).cell? ⟨g6, 2, none⟩ = some (.int .i64 x2) := (blk_cell E6.out 2).trans rfl
          have qE6_f := blk_frozen E6.out
          have qE7_0 : (wc).cell? ⟨g7, 0, none⟩ = some (.int .i64 y0) := (blk_cell E7.out 0).trans rfl
          have qE7_1 : (wc).cell? ⟨g7, 1, none⟩ = some (.int .i64 y1) := (blk_cell E7.out 1).trans rfl
          have qE7_2 : (wc).cell? ⟨g7, 2, none⟩ = some (.int .i64 y2) := (blk_cell E7.out 2).trans rfl
          have qE7_f := blk_frozen E7.out
          have qER_0 : (wc).cell? ⟨w.heap.size + 1 + 1, 0, none⟩ = some (.int .i64 0) := (blk_cell ER.out 0).trans rfl
          have qER_1 : (wc).cell? ⟨w.heap.size + 1 + 1, 1, none⟩ = some (.int .i64 0) := (blk_cell ER.out 1).trans rfl
          have qER_2 : (wc).cell? ⟨w.heap.size + 1 + 1, 2, none⟩ = some (.int .i64 0) := (blk_cell ER.out 2).trans rfl
          have qER_f := blk_frozen ER.out
          have H := HM.out
          clear HM
          unfold bound_Meet.core at H
          replace H := Option.bind_eq_some_iff.mp H
          obtain ⟨⟨v0, v1, v2, v3⟩, A3, H⟩ := H
          have A3 := Aside0.mk A3
          dsimp only at H
          by_cases c4 : x2 = y2
          · subst c4
            rw [if_pos rfl] at H
            by_cases c5 : v3 = 0
            · subst c5
              rw [if_pos rfl] at H
              replace H := Option.bind_eq_some_iff.mp H
              obtain ⟨⟨h0, h1, h2, h3⟩, A4, H⟩ := H
              have A4 := Aside0.mk A4
              dsimp only at H
              have HF := Aside0.mk H
              clear H
              go_upto_if 51 with ((go_at_call 40; (with_reducible refine (bound_span_grow.calls k x0 x1 x2 x2 v0 v1 v2 0 _ A3.out).mono ?_); rintro e w3 ⟨rfl, hb30⟩; have hb3 := Aside0.mk hb30; clear qE6_0 qE6_1 qE6_2 qE7_0 qE7_1 qE7_2 qER_0 qER_1 qER_2 qE6_f qE7_f qER_f; have F6 := Aside0.mk (blk_below E6.out hb30); have F7 := Aside0.mk (blk_below E7.out hb30); have FR := Aside0.mk (blk_below ER.out hb30); clear hb30; have qF6_0 : (w3).cell? ⟨g6, 0, none⟩ = some (.int .i64 x0) := (blk_cell F6.out 0).trans rfl; have qF6_1 : (w3).cell? ⟨g6, 1, none⟩ = some (.int .i64 x1) := (blk_cell F6.out 1).trans rfl; have qF6_2 : (w3).cell? ⟨g6, 2, none⟩ = some (.int .i64 x2) := (blk_cell F6.out 2).trans rfl; have qF6_f := blk_frozen F6.out; have qF7_0 : (w3).cell? ⟨g7, 0, none⟩ = some (.int .i64 y0) := (blk_cell F7.out 0).trans rfl; have qF7_1 : (w3).cell? ⟨g7, 1, none⟩ = some (.int .i64 y1) := (blk_cell F7.out 1).trans rfl; have qF7_2 : (w3).cell? ⟨g7, 2, none⟩ = some (.int .i64 x2) := (blk_cell F7.out 2).trans rfl; have qF7_f := blk_frozen F7.out; have qFR_0 : (w3).cell? ⟨w.heap.size + 1 + 1, 0, none⟩ = some (.int .i64 0) := (blk_cell FR.out 0).trans rfl; have qFR_1 : (w3).cell? ⟨w.heap.size + 1 + 1, 1, none⟩ = some (.int .i64 0) := (blk_cell FR.out 1).trans rfl; have qFR_2 : (w3).cell? ⟨w.heap.size + 1 + 1, 2, none⟩ = some (.int .i64 0) := (blk_cell FR.out 2).trans rfl; have qFR_f := blk_frozen FR.out))
              go_cut [9] (fun v9 wc => ∃ s0 s1 s2 t0 t1 t2 er : Int, v9 = .int .i64 er ∧ Aside0 (bound_Meet.fin s0 s1 t0 t1 t2 er = some (r1, r2, r3, r4)) ∧ Aside0 (wc.heap[w.heap.size + 1 + 1]? = some (.cells #[.int .i64 0, .int .i64 0, .int .i64 0] 23 (0, 0))) ∧ Aside0 (wc.heap[g6]? = some (.cells #[.int .i64 s0, .int .i64 s1, .int .i64 s2] 61 (0, 0))) ∧ Aside0 (wc.heap[g7]? = some (.cells #[.int .i64 t0, .int .i64 t1, .int .i64 t2] 61 (0, 0))) ∧ Aside0 (Below w.heap.size w wc))
              case first =>
                go_wp2_with ((go_at_call 40; (with_reducible refine (bound_span_grow.calls k y0 y1 x2 x2 h0 h1 h2 h3 _ A4.out).mono ?_); rintro e w4 ⟨rfl, hb40⟩; have M6 : Aside0 ((w4).heap[g6]? = some (.cells #[.int .i64 v0, .int .i64 v1, .int .i64 v2] 61 (0, 0))) := ⟨blk_below (by refine blk_put (cs := #[.int .i64 v0, .int .i64 v1, .int .i64 x2]) ?_ 2 _ rfl; refine blk_put (cs := #[.int .i64 v0, .int .i64 x1, .int .i64 x2]) ?_ 1 _ rfl; refine blk_put (cs := #[.int .i64 x0, .int .i64 x1, .int .i64 x2]) ?_ 0 _ rfl; exact F6.out) hb40⟩; have M7 : Aside0 ((w4).heap[g7]? = some (.cells #[.int .i64 y0, .int .i64 y1, .int .i64 x2] 61 (0, 0))) := ⟨blk_below (by refine blk_far ?_ ne2 _; refine blk_far ?_ ne2 _; refine blk_far ?_ ne2 _; exact F7.out) hb40⟩; have MR : Aside0 ((w4).heap[w.heap.size + 1 + 1]? = some (.cells #[.int .i64 0, .int .i64 0, .int .i64 0] 23 (0, 0))) := ⟨blk_below (by refine blk_far ?_ ne4 _; refine blk_far ?_ ne4 _; refine blk_far ?_ ne4 _; exact FR.out) hb40⟩; have HBm : Aside0 (Below w.heap.size w w4) := ⟨below_step (by refine below_set ?_ G6.out; refine below_set ?_ G6.out; refine below_set ?_ G6.out; exact below_then HB3.out HB3.out.size hb3.out) hb40⟩; clear hb40; clear qF6_0 qF6_1 qF6_2 qF7_0 qF7_1 qF7_2 qFR_0 qFR_1 qFR_2 qF6_f qF7_f qFR_f; have qM6_0 : (w4).cell? ⟨g6, 0, none⟩ = some (.int .i64 v0) := (blk_cell M6.out 0).trans rfl; have qM6_1 : (w4).cell? ⟨g6, 1, none⟩ = some (.int .i64 v1) := (blk_cell M6.out 1).trans rfl; have qM6_2 : (w4).cell? ⟨g6, 2, none⟩ = some (.int .i64 v2) := (blk_cell M6.out 2).trans rfl; have qM6_f := blk_frozen M6.out; have qM7_0 : (w4).cell? ⟨g7, 0, none⟩ = some (.int .i64 y0) := (blk_cell M7.out 0).trans rfl; have qM7_1 : (w4).cell? ⟨g7, 1, none⟩ = some (.int .i64 y1) := (blk_cell M7.out 1).trans rfl; have qM7_2 : (w4).cell? ⟨g7, 2, none⟩ = some (.int .i64 x2) := (blk_cell M7.out 2).trans rfl; have qM7_f := blk_frozen M7.out; have qMR_0 : (w4).cell? ⟨w.heap.size + 1 + 1, 0, none⟩ = some (.int .i64 0) := (blk_cell MR.out 0).trans rfl; have qMR_1 : (w4).cell? ⟨w.heap.size + 1 + 1, 1, none⟩ = some (.int .i64 0) := (blk_cell MR.out 1).trans rfl; have qMR_2 : (w4).cell? ⟨w.heap.size + 1 + 1, 2, none⟩ = some (.int .i64 0) := (blk_cell MR.out 2).trans rfl; have qMR_f := blk_frozen MR.out))
                go_meet
                case rel =>
                  refine ⟨v0, v1, v2, h0, h1, h2, h3, rfl, HF, ⟨?_⟩, ⟨?_⟩, ⟨?_⟩, ⟨?_⟩⟩
                  · refine blk_far ?_ ne6 _; refine blk_far ?_ ne6 _; refine blk_far ?_ ne6 _; exact MR.out
                  · refine blk_far ?_ ne1 _; refine blk_far ?_ ne1 _; refine blk_far ?_ ne1 _; exact M6.out
                  · refine blk_put (cs := #[.int .i64 h0, .int .i64 h1, .int .i64 x2]) ?_ 2 _ rfl; refine blk_put (cs := #[.int .i64 h0, .int .i64 y1, .int .i64 x2]) ?_ 1 _ rfl; refine blk_put (cs := #[.int .i64 y0, .int .i64 y1, .int .i64 x2]) ?_ 0 _ rfl; exact M7.out
                  · refine below_set ?_ G7.out; refine below_set ?_ G7.out; refine below_set ?_ G7.out; exact HBm.out
              case rest =>
                clear FR F6 F7 hb3 HB3 ER E6 E7
                (try clear A3)
                (try clear A4)
                obtain ⟨s0, s1, s2, t0, t1, t2, er, rfl, HF, JR, J6, J7, HB4⟩ := hcut
                have H := HF.out
                clear HF
                unfold bound_Meet.fin at H
                have qJ6_0 : (wc).cell? ⟨g6, 0, none⟩ = some (.int .i64 s0) := (blk_cell J6.out 0).trans rfl
                have qJ6_1 : (wc).cell? ⟨g6, 1, none⟩ = some (.int .i64 s1) := (blk_cell J6.out 1).trans rfl
                have qJ6_2 : (wc).cell? ⟨g6, 2, none⟩ = some (.int .i64 s2) := (blk_cell J6.out 2).trans rfl
                have qJ6_f := blk_frozen J6.out
                have qJ7_0 : (wc).cell? ⟨g7, 0, none⟩ = some (.int .i64 t0) := (blk_cell J7.out 0).trans rfl
                have qJ7_1 : (wc).cell? ⟨g7, 1, none⟩ = some (.int .i64 t1) := (blk_cell J7.out 1).trans rfl
                have qJ7_2 : (wc).cell? ⟨g7, 2, none⟩ = some (.int .i64 t2) := (blk_cell J7.out 2).trans rfl
                have qJ7_f := blk_frozen J7.out
                have qJR_0 : (wc).cell? ⟨w.heap.size + 1 + 1, 0, none⟩ = some (.int .i64 0) := (blk_cell JR.out 0).trans rfl
                have qJR_1 : (wc).cell? ⟨w.heap.size + 1 + 1, 1, none⟩ = some (.int .i64 0) := (blk_cell JR.out 1).trans rfl
                have qJR_2 : (wc).cell? ⟨w.heap.size + 1 + 1, 2, none⟩ = some (.int .i64 0) := (blk_cell JR.out 2).trans rfl
                have qJR_f := blk_frozen JR.out
                by_cases c6 : er = 0
                · subst c6
                  rw [if_pos rfl] at H
                  by_cases c7 : mx s0 t0 > mn s1 t1
                  · rw [if_pos c7] at H
                    obtain ⟨rfl, rfl, rfl, rfl⟩ : 0 = r1 ∧ 0 = r2 ∧ 0 = r3 ∧ 16 = r4 := by simpa using H
                    clear H
                    replace c7 := decide_eq_true (show mn s1 t1 < mx s0 t0 from c7)
                    go_upto_region 12 with (fail)
                    go_region
                    go_wp2
                    refine bodyPost_ret (results_ct rfl _ _ (w.heap.size + 1 + 1) 23 #[.int .i64 0, .int .i64 0, .int .i64 0] (0, 0) _ rfl (by refine blk_drew ?_; refine blk_put (cs := #[.int .i64 0, .int .i64 0, .int .i64 0]) ?_ 2 _ rfl; refine blk_put (cs := #[.int .i64 0, .int .i64 0, .int .i64 0]) ?_ 1 _ rfl; refine blk_put (cs := #[.int .i64 0, .int .i64 0, .int .i64 0]) ?_ 0 _ rfl; refine blk_far ?_ ne6 _; refine blk_far ?_ ne6 _; exact JR.out) Try.underlying23 rfl (by kernel_rfl)) rfl ?_
                    exact ⟨by first | rfl | (simp; done), by refine below_drew1 ?_; refine below_set ?_ (by omega); refine below_set ?_ (by omega); refine below_set ?_ (by omega); refine below_set ?_ G7.out; refine below_set ?_ G7.out; exact HB4.out⟩
                  · rw [if_neg c7] at H
                    obtain ⟨rfl, rfl, rfl, rfl⟩ : mx s0 t0 = r1 ∧ mn s1 t1 = r2 ∧ t2 = r3 ∧ 0 = r4 := by simpa only [Option.some.injEq, Prod.mk.injEq] using H
                    clear H
                    replace c7 := decide_eq_false (show ¬ mn s1 t1 < mx s0 t0 from c7)
                    go_upto_region 12 with (fail)
                    go_region
                    go_wp2
                    refine bodyPost_ret (results_ct rfl _ _ (w.heap.size + 1 + 1) 23 #[.int .i64 (mx s0 t0), .int .i64 (mn s1 t1), .int .i64 t2] (0, 0) _ rfl (by refine blk_drew ?_; refine blk_put (cs := #[.int .i64 (mx s0 t0), .int .i64 (mn s1 t1), .int .i64 0]) ?_ 2 _ rfl; refine blk_put (cs := #[.int .i64 (mx s0 t0), .int .i64 0, .int .i64 0]) ?_ 1 _ rfl; refine blk_put (cs := #[.int .i64 0, .int .i64 0, .int .i64 0]) ?_ 0 _ rfl; refine blk_far ?_ ne6 _; refine blk_far ?_ ne6 _; exact JR.out) Try.underlying23 rfl (by kernel_rfl)) rfl ?_
                    exact ⟨by first | rfl | (simp; done), by refine below_drew1 ?_; refine below_set ?_ (by omega); refine below_set ?_ (by omega); refine below_set ?_ (by omega); refine below_set ?_ G7.out; refine below_set ?_ G7.out; exact HB4.out⟩
                · rw [if_neg c6] at H
                  obtain ⟨rfl, rfl, rfl, rfl⟩ : 0 = r1 ∧ 0 = r2 ∧ 0 = r3 ∧ er = r4 := by simpa using H
                  clear H
                  have c6b : (er == 0) = false := beq_eq_false_iff_ne.2 c6
                  have c6n : (er != 0) = true := bne_iff_ne.2 c6
                  clear c6
                  go_wp2
                  refine bodyPost_ret (results_ct rfl _ _ (w.heap.size + 1 + 1) 23 #[.int .i64 0, .int .i64 0, .int .i64 0] (0, 0) _ rfl (by repeat (first | (with_reducible exact JR.out) | (refine blk_put (cs := #[.int .i64 0, .int .i64 0, .int .i64 0]) ?_ _ _ rfl))) Try.underlying23 rfl (by kernel_rfl)) rfl ?_
                  exact ⟨by first | rfl | (simp; done), by repeat (first | (with_reducible first | exact HB4.out | refine below_set ?_ (by omega)) | refine below_set ?_ (by omega))⟩
            · rw [if_neg c5] at H
              have HF := Aside0.mk H
              clear H
              have c5b : (v3 == 0) = false := beq_eq_false_iff_ne.2 c5
              clear c5
              go_upto_if 51 with ((go_at_call 40; (with_reducible refine (bound_span_grow.calls k x0 x1 x2 x2 v0 v1 v2 v3 _ A3.out).mono ?_); rintro e w3 ⟨rfl, hb30⟩; have hb3 := Aside0.mk hb30; clear qE6_0 qE6_1 qE6_2 qE7_0 qE7_1 qE7_2 qER_0 qER_1 qER_2 qE6_f qE7_f qER_f; have F6 := Aside0.mk (blk_below E6.out hb30); have F7 := Aside0.mk (blk_below E7.out hb30); have FR := Aside0.mk (blk_below ER.out hb30); clear hb30; have qF6_0 : (w3).cell? ⟨g6, 0, none⟩ = some (.int .i64 x0) := (blk_cell F6.out 0).trans rfl; have qF6_1 : (w3).cell? ⟨g6, 1, none⟩ = some (.int .i64 x1) := (blk_cell F6.out 1).trans rfl; have qF6_2 : (w3).cell? ⟨g6, 2, none⟩ = some (.int .i64 x2) := (blk_cell F6.out 2).trans rfl; have qF6_f := blk_frozen F6.out; have qF7_0 : (w3).cell? ⟨g7, 0, none⟩ = some (.int .i64 y0) := (blk_cell F7.out 0).trans rfl; have qF7_1 : (w3).cell? ⟨g7, 1, none⟩ = some (.int .i64 y1) := (blk_cell F7.out 1).trans rfl; have qF7_2 : (w3).cell? ⟨g7, 2, none⟩ = some (.int .i64 x2) := (blk_cell F7.out 2).trans rfl; have qF7_f := blk_frozen F7.out; have qFR_0 : (w3).cell? ⟨w.heap.size + 1 + 1, 0, none⟩ = some (.int .i64 0) := (blk_cell FR.out 0).trans rfl; have qFR_1 : (w3).cell? ⟨w.heap.size + 1 + 1, 1, none⟩ = some (.int .i64 0) := (blk_cell FR.out 1).trans rfl; have qFR_2 : (w3).cell? ⟨w.heap.size + 1 + 1, 2, none⟩ = some (.int .i64 0) := (blk_cell FR.out 2).trans rfl; have qFR_f := blk_frozen FR.out))
              go_cut [9] (fun v9 wc => ∃ s0 s1 s2 t0 t1 t2 er : Int, v9 = .int .i64 er ∧ Aside0 (bound_Meet.fin s0 s1 t0 t1 t2 er = some (r1, r2, r3, r4)) ∧ Aside0 (wc.heap[w.heap.size + 1 + 1]? = some (.cells #[.int .i64 0, .int .i64 0, .int .i64 0] 23 (0, 0))) ∧ Aside0 (wc.heap[g6]? = some (.cells #[.int .i64 s0, .int .i64 s1, .int .i64 s2] 61 (0, 0))) ∧ Aside0 (wc.heap[g7]? = some (.cells #[.int .i64 t0, .int .i64 t1, .int .i64 t2] 61 (0, 0))) ∧ Aside0 (Below w.heap.size w wc))
              case first =>
                go_wp2
                go_meet
                case rel =>
                  refine ⟨v0, v1, v2, y0, y1, x2, v3, rfl, HF, ⟨?_⟩, ⟨?_⟩, ⟨?_⟩, ⟨?_⟩⟩
                  · refine blk_far ?_ ne4 _; refine blk_far ?_ ne4 _; refine blk_far ?_ ne4 _; exact FR.out
                  · refine blk_put (cs := #[.int .i64 v0, .int .i64 v1, .int .i64 x2]) ?_ 2 _ rfl; refine blk_put (cs := #[.int .i64 v0, .int .i64 x1, .int .i64 x2]) ?_ 1 _ rfl; refine blk_put (cs := #[.int .i64 x0, .int .i64 x1, .int .i64 x2]) ?_ 0 _ rfl; exact F6.out
                  · refine blk_far ?_ ne2 _; refine blk_far ?_ ne2 _; refine blk_far ?_ ne2 _; exact F7.out
                  · refine below_set ?_ G6.out; refine below_set ?_ G6.out; refine below_set ?_ G6.out; exact below_then HB3.out HB3.out.size hb3.out
              case rest =>
                clear FR F6 F7 hb3 HB3 ER E6 E7
                (try clear A3)
                (try clear A4)
                obtain ⟨s0, s1, s2, t0, t1, t2, er, rfl, HF, JR, J6, J7, HB4⟩ := hcut
                have H := HF.out
                clear HF
                unfold bound_Meet.fin at H
                have qJ6_0 : (wc).cell? ⟨g6, 0, none⟩ = some (.int .i64 s0) := (blk_cell J6.out 0).trans rfl
                have qJ6_1 : (wc).cell? ⟨g6, 1, none⟩ = some (.int .i64 s1) := (blk_cell J6.out 1).trans rfl
                have qJ6_2 : (wc).cell? ⟨g6, 2, none⟩ = some (.int .i64 s2) := (blk_cell J6.out 2).trans rfl
                have qJ6_f := blk_frozen J6.out
                have qJ7_0 : (wc).cell? ⟨g7, 0, none⟩ = some (.int .i64 t0) := (blk_cell J7.out 0).trans rfl
                have qJ7_1 : (wc).cell? ⟨g7, 1, none⟩ = some (.int .i64 t1) := (blk_cell J7.out 1).trans rfl
                have qJ7_2 : (wc).cell? ⟨g7, 2, none⟩ = some (.int .i64 t2) := (blk_cell J7.out 2).trans rfl
                have qJ7_f := blk_frozen J7.out
                have qJR_0 : (wc).cell? ⟨w.heap.size + 1 + 1, 0, none⟩ = some (.int .i64 0) := (blk_cell JR.out 0).trans rfl
                have qJR_1 : (wc).cell? ⟨w.heap.size + 1 + 1, 1, none⟩ = some (.int .i64 0) := (blk_cell JR.out 1).trans rfl
                have qJR_2 : (wc).cell? ⟨w.heap.size + 1 + 1, 2, none⟩ = some (.int .i64 0) := (blk_cell JR.out 2).trans rfl
                have qJR_f := blk_frozen JR.out
                by_cases c6 : er = 0
                · subst c6
                  rw [if_pos rfl] at H
                  by_cases c7 : mx s0 t0 > mn s1 t1
                  · rw [if_pos c7] at H
                    obtain ⟨rfl, rfl, rfl, rfl⟩ : 0 = r1 ∧ 0 = r2 ∧ 0 = r3 ∧ 16 = r4 := by simpa using H
                    clear H
                    replace c7 := decide_eq_true (show mn s1 t1 < mx s0 t0 from c7)
                    go_upto_region 12 with (fail)
                    go_region
                    go_wp2
                    refine bodyPost_ret (results_ct rfl _ _ (w.heap.size + 1 + 1) 23 #[.int .i64 0, .int .i64 0, .int .i64 0] (0, 0) _ rfl (by refine blk_drew ?_; refine blk_put (cs := #[.int .i64 0, .int .i64 0, .int .i64 0]) ?_ 2 _ rfl; refine blk_put (cs := #[.int .i64 0, .int .i64 0, .int .i64 0]) ?_ 1 _ rfl; refine blk_put (cs := #[.int .i64 0, .int .i64 0, .int .i64 0]) ?_ 0 _ rfl; refine blk_far ?_ ne6 _; refine blk_far ?_ ne6 _; exact JR.out) Try.underlying23 rfl (by kernel_rfl)) rfl ?_
                    exact ⟨by first | rfl | (simp; done), by refine below_drew1 ?_; refine below_set ?_ (by omega); refine below_set ?_ (by omega); refine below_set ?_ (by omega); refine below_set ?_ G7.out; refine below_set ?_ G7.out; exact HB4.out⟩
                  · rw [if_neg c7] at H
                    obtain ⟨rfl, rfl, rfl, rfl⟩ : mx s0 t0 = r1 ∧ mn s1 t1 = r2 ∧ t2 = r3 ∧ 0 = r4 := by simpa only [Option.some.injEq, Prod.mk.injEq] using H
                    clear H
                    replace c7 := decide_eq_false (show ¬ mn s1 t1 < mx s0 t0 from c7)
                    go_upto_region 12 with (fail)
                    go_region
                    go_wp2
                    refine bodyPost_ret (results_ct rfl _ _ (w.heap.size + 1 + 1) 23 #[.int .i64 (mx s0 t0), .int .i64 (mn s1 t1), .int .i64 t2] (0, 0) _ rfl (by refine blk_drew ?_; refine blk_put (cs := #[.int .i64 (mx s0 t0), .int .i64 (mn s1 t1), .int .i64 0]) ?_ 2 _ rfl; refine blk_put (cs := #[.int .i64 (mx s0 t0), .int .i64 0, .int .i64 0]) ?_ 1 _ rfl; refine blk_put (cs := #[.int .i64 0, .int .i64 0, .int .i64 0]) ?_ 0 _ rfl; refine blk_far ?_ ne6 _; refine blk_far ?_ ne6 _; exact JR.out) Try.underlying23 rfl (by kernel_rfl)) rfl ?_
                    exact ⟨by first | rfl | (simp; done), by refine below_drew1 ?_; refine below_set ?_ (by omega); refine below_set ?_ (by omega); refine below_set ?_ (by omega); refine below_set ?_ G7.out; refine below_set ?_ G7.out; exact HB4.out⟩
                · rw [if_neg c6] at H
                  obtain ⟨rfl, rfl, rfl, rfl⟩ : 0 = r1 ∧ 0 = r2 ∧ 0 = r3 ∧ er = r4 := by simpa using H
                  clear H
                  have c6b : (er == 0) = false := beq_eq_false_iff_ne.2 c6
                  have c6n : (er != 0) = true := bne_iff_ne.2 c6
                  clear c6
                  go_wp2
                  refine bodyPost_ret (results_ct rfl _ _ (w.heap.size + 1 + 1) 23 #[.int .i64 0, .int .i64 0, .int .i64 0] (0, 0) _ rfl (by repeat (first | (with_reducible exact JR.out) | (refine blk_put (cs := #[.int .i64 0, .int .i64 0, .int .i64 0]) ?_ _ _ rfl))) Try.underlying23 rfl (by kernel_rfl)) rfl ?_
                  exact ⟨by first | rfl | (simp; done), by repeat (first | (with_reducible first | exact HB4.out | refine below_set ?_ (by omega)) | refine below_set ?_ (by omega))⟩
          · rw [if_neg c4] at H
            have HF := Aside0.mk H
            clear H
            have c4b : (x2 == y2) = false := beq_eq_false_iff_ne.2 c4
            clear c4
            go_upto_if 51 with ((go_at_call 40; (with_reducible refine (bound_span_grow.calls k x0 x1 x2 y2 v0 v1 v2 v3 _ A3.out).mono ?_); rintro e w3 ⟨rfl, hb30⟩; have hb3 := Aside0.mk hb30; clear qE6_0 qE6_1 qE6_2 qE7_0 qE7_1 qE7_2 qER_0 qER_1 qER_2 qE6_f qE7_f qER_f; have F6 := Aside0.mk (blk_below E6.out hb30); have F7 := Aside0.mk (blk_below E7.out hb30); have FR := Aside0.mk (blk_below ER.out hb30); clear hb30; have qF6_0 : (w3).cell? ⟨g6, 0, none⟩ = some (.int .i64 x0) := (blk_cell F6.out 0).trans rfl; have qF6_1 : (w3).cell? ⟨g6, 1, none⟩ = some (.int .i64 x1) := (blk_cell F6.out 1).trans rfl; have qF6_2 : (w3).cell? ⟨g6, 2, none⟩ = some (.int .i64 x2) := (blk_cell F6.out 2).trans rfl; have qF6_f := blk_frozen F6.out; have qF7_0 : (w3).cell? ⟨g7, 0, none⟩ = some (.int .i64 y0) := (blk_cell F7.out 0).trans rfl; have qF7_1 : (w3).cell? ⟨g7, 1, none⟩ = some (.int .i64 y1) := (blk_cell F7.out 1).trans rfl; have qF7_2 : (w3).cell? ⟨g7, 2, none⟩ = some (.int .i64 y2) := (blk_cell F7.out 2).trans rfl; have qF7_f := blk_frozen F7.out; have qFR_0 : (w3).cell? ⟨w.heap.size + 1 + 1, 0, none⟩ = some (.int .i64 0) := (blk_cell FR.out 0).trans rfl; have qFR_1 : (w3).cell? ⟨w.heap.size + 1 + 1, 1, none⟩ = some (.int .i64 0) := (blk_cell FR.out 1).trans rfl; have qFR_2 : (w3).cell? ⟨w.heap.size + 1 + 1, 2, none⟩ = some (.int .i64 0) := (blk_cell FR.out 2).trans rfl; have qFR_f := blk_frozen FR.out))
            go_cut [9] (fun v9 wc => ∃ s0 s1 s2 t0 t1 t2 er : Int, v9 = .int .i64 er ∧ Aside0 (bound_Meet.fin s0 s1 t0 t1 t2 er = some (r1, r2, r3, r4)) ∧ Aside0 (wc.heap[w.heap.size + 1 + 1]? = some (.cells #[.int .i64 0, .int .i64 0, .int .i64 0] 23 (0, 0))) ∧ Aside0 (wc.heap[g6]? = some (.cells #[.int .i64 s0, .int .i64 s1, .int .i64 s2] 61 (0, 0))) ∧ Aside0 (wc.heap[g7]? = some (.cells #[.int .i64 t0, .int .i64 t1, .int .i64 t2] 61 (0, 0))) ∧ Aside0 (Below w.heap.size w wc))
            case first =>
              go_wp2
              go_meet
              case rel =>
                refine ⟨v0, v1, v2, y0, y1, y2, v3, rfl, HF, ⟨?_⟩, ⟨?_⟩, ⟨?_⟩, ⟨?_⟩⟩
                · refine blk_far ?_ ne4 _; refine blk_far ?_ ne4 _; refine blk_far ?_ ne4 _; exact FR.out
                · refine blk_put (cs := #[.int .i64 v0, .int .i64 v1, .int .i64 x2]) ?_ 2 _ rfl; refine blk_put (cs := #[.int .i64 v0, .int .i64 x1, .int .i64 x2]) ?_ 1 _ rfl; refine blk_put (cs := #[.int .i64 x0, .int .i64 x1, .int .i64 x2]) ?_ 0 _ rfl; exact F6.out
                · refine blk_far ?_ ne2 _; refine blk_far ?_ ne2 _; refine blk_far ?_ ne2 _; exact F7.out
                · refine below_set ?_ G6.out; refine below_set ?_ G6.out; refine below_set ?_ G6.out; exact below_then HB3.out HB3.out.size hb3.out
            case rest =>
              clear FR F6 F7 hb3 HB3 ER E6 E7
              (try clear A3)
              (try clear A4)
              obtain ⟨s0, s1, s2, t0, t1, t2, er, rfl, HF, JR, J6, J7, HB4⟩ := hcut
              have H := HF.out
              clear HF
              unfold bound_Meet.fin at H
              have qJ6_0 : (wc).cell? ⟨g6, 0, none⟩ = some (.int .i64 s0) := (blk_cell J6.out 0).trans rfl
              have qJ6_1 : (wc).cell? ⟨g6, 1, none⟩ = some (.int .i64 s1) := (blk_cell J6.out 1).trans rfl
              have qJ6_2 : (wc).cell? ⟨g6, 2, none⟩ = some (.int .i64 s2) := (blk_cell J6.out 2).trans rfl
              have qJ6_f := blk_frozen J6.out
              have qJ7_0 : (wc).cell? ⟨g7, 0, none⟩ = some (.int .i64 t0) := (blk_cell J7.out 0).trans rfl
              have qJ7_1 : (wc).cell? ⟨g7, 1, none⟩ = some (.int .i64 t1) := (blk_cell J7.out 1).trans rfl
              have qJ7_2 : (wc).cell? ⟨g7, 2, none⟩ = some (.int .i64 t2) := (blk_cell J7.out 2).trans rfl
              have qJ7_f := blk_frozen J7.out
              have qJR_0 : (wc).cell? ⟨w.heap.size + 1 + 1, 0, none⟩ = some (.int .i64 0) := (blk_cell JR.out 0).trans rfl
              have qJR_1 : (wc).cell? ⟨w.heap.size + 1 + 1, 1, none⟩ = some (.int .i64 0) := (blk_cell JR.out 1).trans rfl
              have qJR_2 : (wc).cell? ⟨w.heap.size + 1 + 1, 2, none⟩ = some (.int .i64 0) := (blk_cell JR.out 2).trans rfl
              have qJR_f := blk_frozen JR.out
              by_cases c6 : er = 0
              · subst c6
                rw [if_pos rfl] at H
                by_cases c7 : mx s0 t0 > mn s1 t1
                · rw [if_pos c7] at H
                  obtain ⟨rfl, rfl, rfl, rfl⟩ : 0 = r1 ∧ 0 = r2 ∧ 0 = r3 ∧ 16 = r4 := by simpa using H
                  clear H
                  replace c7 := decide_eq_true (show mn s1 t1 < mx s0 t0 from c7)
                  go_upto_region 12 with (fail)
                  go_region
                  go_wp2
                  refine bodyPost_ret (results_ct rfl _ _ (w.heap.size + 1 + 1) 23 #[.int .i64 0, .int .i64 0, .int .i64 0] (0, 0) _ rfl (by refine blk_drew ?_; refine blk_put (cs := #[.int .i64 0, .int .i64 0, .int .i64 0]) ?_ 2 _ rfl; refine blk_put (cs := #[.int .i64 0, .int .i64 0, .int .i64 0]) ?_ 1 _ rfl; refine blk_put (cs := #[.int .i64 0, .int .i64 0, .int .i64 0]) ?_ 0 _ rfl; refine blk_far ?_ ne6 _; refine blk_far ?_ ne6 _; exact JR.out) Try.underlying23 rfl (by kernel_rfl)) rfl ?_
                  exact ⟨by first | rfl | (simp; done), by refine below_drew1 ?_; refine below_set ?_ (by omega); refine below_set ?_ (by omega); refine below_set ?_ (by omega); refine below_set ?_ G7.out; refine below_set ?_ G7.out; exact HB4.out⟩
                · rw [if_neg c7] at H
                  obtain ⟨rfl, rfl, rfl, rfl⟩ : mx s0 t0 = r1 ∧ mn s1 t1 = r2 ∧ t2 = r3 ∧ 0 = r4 := by simpa only [Option.some.injEq, Prod.mk.injEq] using H
                  clear H
                  replace c7 := decide_eq_false (show ¬ mn s1 t1 < mx s0 t0 from c7)
                  go_upto_region 12 with (fail)
                  go_region
                  go_wp2
                  refine bodyPost_ret (results_ct rfl _ _ (w.heap.size + 1 + 1) 23 #[.int .i64 (mx s0 t0), .int .i64 (mn s1 t1), .int .i64 t2] (0, 0) _ rfl (by refine blk_drew ?_; refine blk_put (cs := #[.int .i64 (mx s0 t0), .int .i64 (mn s1 t1), .int .i64 0]) ?_ 2 _ rfl; refine blk_put (cs := #[.int .i64 (mx s0 t0), .int .i64 0, .int .i64 0]) ?_ 1 _ rfl; refine blk_put (cs := #[.int .i64 0, .int .i64 0, .int .i64 0]) ?_ 0 _ rfl; refine blk_far ?_ ne6 _; refine blk_far ?_ ne6 _; exact JR.out) Try.underlying23 rfl (by kernel_rfl)) rfl ?_
                  exact ⟨by first | rfl | (simp; done), by refine below_drew1 ?_; refine below_set ?_ (by omega); refine below_set ?_ (by omega); refine below_set ?_ (by omega); refine below_set ?_ G7.out; refine below_set ?_ G7.out; exact HB4.out⟩
              · rw [if_neg c6] at H
                obtain ⟨rfl, rfl, rfl, rfl⟩ : 0 = r1 ∧ 0 = r2 ∧ 0 = r3 ∧ er = r4 := by simpa using H
                clear H
                have c6b : (er == 0) = false := beq_eq_false_iff_ne.2 c6
                have c6n : (er != 0) = true := bne_iff_ne.2 c6
                clear c6
                go_wp2
                refine bodyPost_ret (results_ct rfl _ _ (w.heap.size + 1 + 1) 23 #[.int .i64 0, .int .i64 0, .int .i64 0] (0, 0) _ rfl (by repeat (first | (with_reducible exact JR.out) | (refine blk_put (cs := #[.int .i64 0, .int .i64 0, .int .i64 0]) ?_ _ _ rfl))) Try.underlying23 rfl (by kernel_rfl)) rfl ?_
                exact ⟨by first | rfl | (simp; done), by repeat (first | (with_reducible first | exact HB4.out | refine below_set ?_ (by omega)) | refine below_set ?_ (by omega))⟩
      · replace c2 := Bool.eq_false_iff.mpr c2
        subst c2
        rw [if_neg (by decide)] at H
        obtain ⟨rfl, rfl, rfl, rfl⟩ : 0 = r1 ∧ 0 = r2 ∧ 0 = r3 ∧ 1 = r4 := by simpa using H
        clear H
        go_wp2_with (first | (go_at_call 48; (with_reducible refine (bound_span_valid.calls k a0_0 a0_1 a0_2 true _ A1.out).mono ?_); rintro e w1 ⟨rfl, hb10⟩; have hb1 := Aside0.mk hb10; clear qB6_0 qB6_1 qB6_2 qB7_0 qB7_1 qB7_2 qBR_0 qBR_1 qBR_2 qB6_f qB7_f qBR_f; have C6 := Aside0.mk (blk_below B6.out hb10); have C7 := Aside0.mk (blk_below B7.out hb10); have CR := Aside0.mk (blk_below BR.out hb10); clear hb10; have qC6_0 : (w1).cell? ⟨g6, 0, none⟩ = some (.int .i64 a0_0) := (blk_cell C6.out 0).trans rfl; have qC6_1 : (w1).cell? ⟨g6, 1, none⟩ = some (.int .i64 a0_1) := (blk_cell C6.out 1).trans rfl; have qC6_2 : (w1).cell? ⟨g6, 2, none⟩ = some (.int .i64 a0_2) := (blk_cell C6.out 2).trans rfl; have qC6_f := blk_frozen C6.out; have qC7_0 : (w1).cell? ⟨g7, 0, none⟩ = some (.int .i64 a1_0) := (blk_cell C7.out 0).trans rfl; have qC7_1 : (w1).cell? ⟨g7, 1, none⟩ = some (.int .i64 a1_1) := (blk_cell C7.out 1).trans rfl; have qC7_2 : (w1).cell? ⟨g7, 2, none⟩ = some (.int .i64 a1_2) := (blk_cell C7.out 2).trans rfl; have qC7_f := blk_frozen C7.out; have qCR_0 : (w1).cell? ⟨w.heap.size + 1 + 1, 0, none⟩ = some (.int .i64 0) := (blk_cell CR.out 0).trans rfl; have qCR_1 : (w1).cell? ⟨w.heap.size + 1 + 1, 1, none⟩ = some (.int .i64 0) := (blk_cell CR.out 1).trans rfl; have qCR_2 : (w1).cell? ⟨w.heap.size + 1 + 1, 2, none⟩ = some (.int .i64 0) := (blk_cell CR.out 2).trans rfl; have qCR_f := blk_frozen CR.out) | (go_at_call 48; (with_reducible refine (bound_span_valid.calls k a1_0 a1_1 a1_2 false _ A2.out).mono ?_); rintro e w2 ⟨rfl, hb20⟩; have hb2 := Aside0.mk hb20; clear qC6_0 qC6_1 qC6_2 qC7_0 qC7_1 qC7_2 qCR_0 qCR_1 qCR_2 qC6_f qC7_f qCR_f; have D6 := Aside0.mk (blk_below C6.out hb20); have D7 := Aside0.mk (blk_below C7.out hb20); have DR := Aside0.mk (blk_below CR.out hb20); clear hb20; have qD6_0 : (w2).cell? ⟨g6, 0, none⟩ = some (.int .i64 a0_0) := (blk_cell D6.out 0).trans rfl; have qD6_1 : (w2).cell? ⟨g6, 1, none⟩ = some (.int .i64 a0_1) := (blk_cell D6.out 1).trans rfl; have qD6_2 : (w2).cell? ⟨g6, 2, none⟩ = some (.int .i64 a0_2) := (blk_cell D6.out 2).trans rfl; have qD6_f := blk_frozen D6.out; have qD7_0 : (w2).cell? ⟨g7, 0, none⟩ = some (.int .i64 a1_0) := (blk_cell D7.out 0).trans rfl; have qD7_1 : (w2).cell? ⟨g7, 1, none⟩ = some (.int .i64 a1_1) := (blk_cell D7.out 1).trans rfl; have qD7_2 : (w2).cell? ⟨g7, 2, none⟩ = some (.int .i64 a1_2) := (blk_cell D7.out 2).trans rfl; have qD7_f := blk_frozen D7.out; have qDR_0 : (w2).cell? ⟨w.heap.size + 1 + 1, 0, none⟩ = some (.int .i64 0) := (blk_cell DR.out 0).trans rfl; have qDR_1 : (w2).cell? ⟨w.heap.size + 1 + 1, 1, none⟩ = some (.int .i64 0) := (blk_cell DR.out 1).trans rfl; have qDR_2 : (w2).cell? ⟨w.heap.size + 1 + 1, 2, none⟩ = some (.int .i64 0) := (blk_cell DR.out 2).trans rfl; have qDR_f := blk_frozen DR.out))
        refine bodyPost_ret (results_ct rfl _ _ (w.heap.size + 1 + 1) 23 #[.int .i64 0, .int .i64 0, .int .i64 0] (0, 0) _ rfl (by repeat (first | (with_reducible exact DR.out) | (refine blk_put (cs := #[.int .i64 0, .int .i64 0, .int .i64 0]) ?_ _ _ rfl))) Try.underlying23 rfl (by kernel_rfl)) rfl ?_
        exact ⟨by first | rfl | (simp; done), by repeat (first | (with_reducible first | exact below_then (below_then HB1.out HB1.out.size hb1.out) (Nat.le_trans HB1.out.size hb1.out.size) hb2.out | refine below_set ?_ (by omega)) | refine below_set ?_ (by omega))⟩
    · replace c1 := Bool.eq_false_iff.mpr c1
      subst c1
      rw [if_neg (by decide)] at H
      obtain ⟨rfl, rfl, rfl, rfl⟩ : 0 = r1 ∧ 0 = r2 ∧ 0 = r3 ∧ 1 = r4 := by simpa using H
      clear H
      go_wp2_with ((go_at_call 48; (with_reducible refine (bound_span_valid.calls k a0_0 a0_1 a0_2 false _ A1.out).mono ?_); rintro e w1 ⟨rfl, hb10⟩; have hb1 := Aside0.mk hb10; clear qB6_0 qB6_1 qB6_2 qB7_0 qB7_1 qB7_2 qBR_0 qBR_1 qBR_2 qB6_f qB7_f qBR_f; have C6 := Aside0.mk (blk_below B6.out hb10); have C7 := Aside0.mk (blk_below B7.out hb10); have CR := Aside0.mk (blk_below BR.out hb10); clear hb10; have qC6_0 : (w1).cell? ⟨g6, 0, none⟩ = some (.int .i64 a0_0) := (blk_cell C6.out 0).trans rfl; have qC6_1 : (w1).cell? ⟨g6, 1, none⟩ = some (.int .i64 a0_1) := (blk_cell C6.out 1).trans rfl; have qC6_2 : (w1).cell? ⟨g6, 2, none⟩ = some (.int .i64 a0_2) := (blk_cell C6.out 2).trans rfl; have qC6_f := blk_frozen C6.out; have qC7_0 : (w1).cell? ⟨g7, 0, none⟩ = some (.int .i64 a1_0) := (blk_cell C7.out 0).trans rfl; have qC7_1 : (w1).cell? ⟨g7, 1, none⟩ = some (.int .i64 a1_1) := (blk_cell C7.out 1).trans rfl; have qC7_2 : (w1).cell? ⟨g7, 2, none⟩ = some (.int .i64 a1_2) := (blk_cell C7.out 2).trans rfl; have qC7_f := blk_frozen C7.out; have qCR_0 : (w1).cell? ⟨w.heap.size + 1 + 1, 0, none⟩ = some (.int .i64 0) := (blk_cell CR.out 0).trans rfl; have qCR_1 : (w1).cell? ⟨w.heap.size + 1 + 1, 1, none⟩ = some (.int .i64 0) := (blk_cell CR.out 1).trans rfl; have qCR_2 : (w1).cell? ⟨w.heap.size + 1 + 1, 2, none⟩ = some (.int .i64 0) := (blk_cell CR.out 2).trans rfl; have qCR_f := blk_frozen CR.out))
      refine bodyPost_ret (results_ct rfl _ _ (w.heap.size + 1 + 1) 23 #[.int .i64 0, .int .i64 0, .int .i64 0] (0, 0) _ rfl (by repeat (first | (with_reducible exact CR.out) | (refine blk_put (cs := #[.int .i64 0, .int .i64 0, .int .i64 0]) ?_ _ _ rfl))) Try.underlying23 rfl (by kernel_rfl)) rfl ?_
      exact ⟨by first | rfl | (simp; done), by repeat (first | (with_reducible first | exact below_then HB1.out HB1.out.size hb1.out | refine below_set ?_ (by omega)) | refine below_set ?_ (by omega))⟩
end
end Go.Proofs.Ytkbfhonoamgjgaa.P
end
