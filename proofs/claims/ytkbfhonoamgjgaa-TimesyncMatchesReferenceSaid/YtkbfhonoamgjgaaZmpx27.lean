/- A claim's own texts, laid together by wip/zip.py without what the claim does not use. Conditions: none. -/
import Derived.Test.YtkbfhonoamgjgaaZmpx0
import Derived.Test.YtkbfhonoamgjgaaZmpx19
import Derived.Test.YtkbfhonoamgjgaaZmpx26
section
/- The Go functions of this claim as Lean functions, and the proofs that their calls answer so: written by wip/myprint.py over the kit's printer, hand-proved contracts laid in. Conditions: none. -/
namespace Go.Proofs.Ytkbfhonoamgjgaa.P
open Go.RowKit Go.Proofs.YtkbfhonoamgjgaaW.PrintWords Go.Proofs.YtkbfhonoamgjgaaW.PrintLast Go.Proofs.YtkbfhonoamgjgaaW.PrintMore
attribute [local go_sem] max2_int min2_int max_two min_two max_three min_three max_four min_four   -- for this text's walks alone
set_option linter.unusedVariables false
set_option linter.unusedSimpArgs false
/-! ### R8_Grow: function 36 -/
def R8_Grow.j0 : Nat → Int → Bool → Int → Int → Int → Option (Int × Int × Int × Int)
  | 0, _, _, _, _, _ => none
  | k + 1, x1, x20, x274000, x274001, x274002 => if x20 = true then (some (0, 0, 0, 1)) else ((R8_More.f (wrap64 (x1 - x274002))).bind fun t276 => ((R8_Valid.f (wrap64 (x274000 - t276)) (wrap64 (x274001 + t276)) x1).bind fun t278 => (if t278 = true then (some (wrap64 (x274000 - t276), wrap64 (x274001 + t276), x1, 0)) else (some (0, 0, 0, 3)))))
def R8_Grow.f (k : Nat) (a0_0 : Int) (a0_1 : Int) (a0_2 : Int) (a1 : Int) : Option (Int × Int × Int × Int) := (R8_Valid.f a0_0 a0_1 a0_2).bind fun t275 => (if t275 = true then (if a1 < a0_2 then (R8_Grow.j0 k a1 true a0_0 a0_1 a0_2) else (R8_Grow.j0 k a1 (decide (a1 > 20000000000000)) a0_0 a0_1 a0_2)) else (R8_Grow.j0 k a1 true a0_0 a0_1 a0_2))
set_option maxHeartbeats 8000000 in
set_option maxRecDepth 100000 in
theorem R8_Grow.calls (k : Nat) (a0_0 : Int) (a0_1 : Int) (a0_2 : Int) (a1 : Int) (r1 : Int) (r2 : Int) (r3 : Int) (r4 : Int) (w : World) (h : R8_Grow.f k a0_0 a0_1 a0_2 a1 = some (r1, r2, r3, r4)) :
    Calls Try.prog 36 #[.agg #[.int .i64 a0_0, .int .i64 a0_1, .int .i64 a0_2], .int .i64 a1] w fun e w' => e = .returned (.tuple #[.agg #[.int .i64 r1, .int .i64 r2, .int .i64 r3], .int .i64 r4]) ∧ Below w.heap.size w w' := by
  have hu23 := Try.underlying23
  have HB := Aside0.mk (Below.refl w.heap.size w)
  have H : ((R8_Valid.f a0_0 a0_1 a0_2).bind fun t275 => (if t275 = true then (if a1 < a0_2 then (R8_Grow.j0 k a1 true a0_0 a0_1 a0_2) else (R8_Grow.j0 k a1 (decide (a1 > 20000000000000)) a0_0 a0_1 a0_2)) else (R8_Grow.j0 k a1 true a0_0 a0_1 a0_2))) = some (r1, r2, r3, r4) := h
  clear h
  have HC3 := Aside0.mk H
  clear H
  go_enter Try.func36, Try.ntmps36
  go_upto_region 1 with (first | ((with_reducible refine zr (N := 2) rfl ?_); refine zq ?hg (N := 2) ?hd (cs := #[.int .i64 a0_0, .int .i64 a0_1, .int .i64 a0_2]) (t := 23) ?hr ?_; (case hd => rfl); (case hg => rfl); (case hr => first | (go_simp; done) | (go_simp; rfl)); intro gb273 hg w4 hbox hb; have n0_ := Aside0.mk (zk (by repeat (first | (with_reducible first | exact HB.out | apply zf | apply zc | apply zi) | exact HB.out)) hb); have n1_ := Aside0.mk (hbox); have n2_ := Aside0.mk ((by rw [hg]; exact (zl (by repeat (first | (with_reducible first | exact HB.out | apply zf | apply zc | apply zi) | exact HB.out))) : w.heap.size ≤ gb273)); have n3_ := Aside0.mk ((by rw [hg]; exact (zl (by repeat (first | (with_reducible first | exact HB.out | apply zf | apply zc | apply zi) | exact HB.out))) : w.heap.size ≤ gb273)); clear HB; have HB := n0_; have BK273 := n1_; have GW273 := n2_; have GE273 := n3_; clear n0_ n1_ n2_ n3_; clear hb hbox hg) | ((with_reducible refine zr (N := 4) rfl ?_); refine zq ?hg (N := 4) ?hd (cs := #[.int .i64 0, .int .i64 0, .int .i64 0]) (t := 23) ?hr ?_; (case hd => rfl); (case hg => rfl); (case hr => first | (go_simp; done) | (go_simp; rfl)); intro gb274 hg w5 hbox hb; have n0_ := Aside0.mk (zj (g := gb273) (o := .cells #[.int .i64 a0_0, .int .i64 a0_1, .int .i64 a0_2] 23 (0, 0)) (by (with_reducible repeat (first | refine ze ?_ _ | refine zh ?_ | refine zd ?_ _)); exact BK273.out) hb); have n1_ := Aside0.mk (zk (by repeat (first | (with_reducible first | exact HB.out | apply zf | apply zc | apply zi | refine zg ?_ GE273.out) | exact HB.out)) hb); have n2_ := Aside0.mk (hbox); have n3_ := Aside0.mk ((by rw [hg]; exact (zl (by repeat (first | (with_reducible first | exact HB.out | apply zf | apply zc | apply zi | refine zg ?_ GE273.out) | exact HB.out))) : w.heap.size ≤ gb274)); have n4_ := Aside0.mk ((by rw [hg]; exact (zl (by repeat (first | (with_reducible first | exact HB.out | apply zf | apply zc | apply zi | refine zg ?_ GE273.out) | exact HB.out))) : w.heap.size ≤ gb274)); have n5_ := Aside0.mk ((by rw [hg]; exact Nat.ne_of_lt (zp (g := gb273) (o := .cells #[.int .i64 a0_0, .int .i64 a0_1, .int .i64 a0_2] 23 (0, 0)) (by (with_reducible repeat (first | refine ze ?_ _ | refine zh ?_ | refine zd ?_ _)); exact BK273.out)) : gb273 ≠ gb274)); have n6_ := Aside0.mk ((by rw [hg]; exact Nat.ne_of_gt (zp (g := gb273) (o := .cells #[.int .i64 a0_0, .int .i64 a0_1, .int .i64 a0_2] 23 (0, 0)) (by (with_reducible repeat (first | refine ze ?_ _ | refine zh ?_ | refine zd ?_ _)); exact BK273.out)) : gb274 ≠ gb273)); clear BK273; clear HB; have BK273 := n0_; have HB := n1_; have BK274 := n2_; have GW274 := n3_; have GE274 := n4_; have NB273_274 := n5_; have NB274_273 := n6_; clear n0_ n1_ n2_ n3_ n4_ n5_ n6_; clear hb hbox hg))
  (try simp only [Act.put, List.setIfInBounds_toArray, List.set_cons_zero, List.set_cons_succ])
  go_cut [20] (fun v20 wc => ∃ (kq : Nat) (x20_2 : Bool), v20 = .bool x20_2 ∧ Aside0 (R8_Grow.j0 kq a1 x20_2 a0_0 a0_1 a0_2 = some (r1, r2, r3, r4)) ∧ Aside0 (kq ≤ k) ∧ Aside0 (wc.heap[gb273]? = some (.cells #[.int .i64 a0_0, .int .i64 a0_1, .int .i64 a0_2] 23 (0, 0))) ∧ Aside0 (wc.heap[gb274]? = some (.cells #[.int .i64 0, .int .i64 0, .int .i64 0] 23 (0, 0))) ∧ Aside0 (Below w.heap.size w wc))
  case first =>
    have H := HC3.out
    clear HC3
    replace H := Option.bind_eq_some_iff.mp H
    obtain ⟨t275, A60, H⟩ := H
    replace H : (if t275 = true then (if a1 < a0_2 then (R8_Grow.j0 k a1 true a0_0 a0_1 a0_2) else (R8_Grow.j0 k a1 (decide (a1 > 20000000000000)) a0_0 a0_1 a0_2)) else (R8_Grow.j0 k a1 true a0_0 a0_1 a0_2)) = some (r1, r2, r3, r4) := H
    have A6 := Aside0.mk A60
    clear A60
    by_cases c7 : t275 = true
    · subst c7
      have H1 : (if a1 < a0_2 then (R8_Grow.j0 k a1 true a0_0 a0_1 a0_2) else (R8_Grow.j0 k a1 (decide (a1 > 20000000000000)) a0_0 a0_1 a0_2)) = some (r1, r2, r3, r4) := by rw [if_pos rfl] at H; exact H
      clear H
      have H := H1
      clear H1
      by_cases c8 : a1 < a0_2
      · rw [if_pos c8] at H
        have c8b0 : decide (a1 < a0_2) = true := decide_eq_true c8
        clear c8
        (first | rw [c8b0] | (simp only [i64_w, i32_w]; rw [c8b0]) | skip)
        have H' := Aside0.mk H
        clear H
        have hnb9 := NB273_274.out
        have hnc9 := NB274_273.out
        have hcz10_0 : w5.cell? ⟨gb273, 0, none⟩ = some (.int .i64 a0_0) := (zb BK273.out 0).trans rfl
        have hcz10_1 : w5.cell? ⟨gb273, 1, none⟩ = some (.int .i64 a0_1) := (zb BK273.out 1).trans rfl
        have hcz10_2 : w5.cell? ⟨gb273, 2, none⟩ = some (.int .i64 a0_2) := (zb BK273.out 2).trans rfl
        have hfz10_0 := za BK273.out 0
        have hfz10_1 := za BK273.out 1
        have hfz10_2 := za BK273.out 2
        go_wp2_with (first | ((with_reducible refine zo (f := 38) rfl ?_); refine zt (some 9) rfl rfl Try.func38 (by kernel_rfl) rfl #[.agg #[.int .i64 a0_0, .int .i64 a0_1, .int .i64 a0_2]] rfl (by (try simp only [List.map_toArray, List.map_cons, List.map_nil]); first | done | rfl | (simp only [List.length_drop, List.length_take]; rfl)) ?_; (with_reducible refine (R8_Valid.calls a0_0 a0_1 a0_2 true _ A6.out).mono ?_); rintro e w11 ⟨rfl, hb⟩; refine ⟨_, rfl, ?_⟩; have n0_ := Aside0.mk (zj (g := gb273) (o := .cells #[.int .i64 a0_0, .int .i64 a0_1, .int .i64 a0_2] 23 (0, 0)) (by (with_reducible repeat (first | refine ze ?_ _ | refine zh ?_ | refine zd ?_ _)); exact BK273.out) hb); have n1_ := Aside0.mk (zj (g := gb274) (o := .cells #[.int .i64 0, .int .i64 0, .int .i64 0] 23 (0, 0)) (by (with_reducible repeat (first | refine ze ?_ _ | refine zh ?_ | refine zd ?_ _)); exact BK274.out) hb); have n2_ := Aside0.mk (zk (by repeat (first | (with_reducible first | exact HB.out | apply zf | apply zc | apply zi | refine zg ?_ GE273.out | refine zg ?_ GE274.out) | exact HB.out)) hb); clear BK273; clear BK274; clear HB; have BK273 := n0_; have BK274 := n1_; have HB := n2_; clear n0_ n1_ n2_; (try clear hb); (try clear hb2); (try clear hk); (try clear hi); have hcz12_0 : w11.cell? ⟨gb273, 0, none⟩ = some (.int .i64 a0_0) := (zb BK273.out 0).trans rfl; have hcz12_1 : w11.cell? ⟨gb273, 1, none⟩ = some (.int .i64 a0_1) := (zb BK273.out 1).trans rfl; have hcz12_2 : w11.cell? ⟨gb273, 2, none⟩ = some (.int .i64 a0_2) := (zb BK273.out 2).trans rfl; have hfz12_0 := za BK273.out 0; have hfz12_1 := za BK273.out 1; have hfz12_2 := za BK273.out 2))
        go_meet
        case rel => exact ⟨_, (true), (by first | rfl | (simp; done) | (simp [*]; done)), H', ⟨by first | omega | exact Nat.le_refl _⟩, ⟨by (with_reducible repeat (first | refine ze ?_ _ | refine zh ?_ | refine zd ?_ _)); exact BK273.out⟩, ⟨by (with_reducible repeat (first | refine ze ?_ _ | refine zh ?_ | refine zd ?_ _)); exact BK274.out⟩, ⟨by repeat (first | (with_reducible first | exact HB.out | apply zf | apply zc | apply zi | refine zg ?_ GE273.out | refine zg ?_ GE274.out) | exact HB.out)⟩⟩
      · rw [if_neg c8] at H
        have c8b0 : decide (a1 < a0_2) = false := decide_eq_false c8
        clear c8
        (first | rw [c8b0] | (simp only [i64_w, i32_w]; rw [c8b0]) | skip)
        have H' := Aside0.mk H
        clear H
        have hnb13 := NB273_274.out
        have hnc13 := NB274_273.out
        have hcz14_0 : w5.cell? ⟨gb273, 0, none⟩ = some (.int .i64 a0_0) := (zb BK273.out 0).trans rfl
        have hcz14_1 : w5.cell? ⟨gb273, 1, none⟩ = some (.int .i64 a0_1) := (zb BK273.out 1).trans rfl
        have hcz14_2 : w5.cell? ⟨gb273, 2, none⟩ = some (.int .i64 a0_2) := (zb BK273.out 2).trans rfl
        have hfz14_0 := za BK273.out 0
        have hfz14_1 := za BK273.out 1
        have hfz14_2 := za BK273.out 2
        go_wp2_with (first | ((with_reducible refine zo (f := 38) rfl ?_); refine zt (some 9) rfl rfl Try.func38 (by kernel_rfl) rfl #[.agg #[.int .i64 a0_0, .int .i64 a0_1, .int .i64 a0_2]] rfl (by (try simp only [List.map_toArray, List.map_cons, List.map_nil]); first | done | rfl | (simp only [List.length_drop, List.length_take]; rfl)) ?_; (with_reducible refine (R8_Valid.calls a0_0 a0_1 a0_2 true _ A6.out).mono ?_); rintro e w15 ⟨rfl, hb⟩; refine ⟨_, rfl, ?_⟩; have n0_ := Aside0.mk (zj (g := gb273) (o := .cells #[.int .i64 a0_0, .int .i64 a0_1, .int .i64 a0_2] 23 (0, 0)) (by (with_reducible repeat (first | refine ze ?_ _ | refine zh ?_ | refine zd ?_ _)); exact BK273.out) hb); have n1_ := Aside0.mk (zj (g := gb274) (o := .cells #[.int .i64 0, .int .i64 0, .int .i64 0] 23 (0, 0)) (by (with_reducible repeat (first | refine ze ?_ _ | refine zh ?_ | refine zd ?_ _)); exact BK274.out) hb); have n2_ := Aside0.mk (zk (by repeat (first | (with_reducible first | exact HB.out | apply zf | apply zc | apply zi | refine zg ?_ GE273.out | refine zg ?_ GE274.out) | exact HB.out)) hb); clear BK273; clear BK274; clear HB; have BK273 := n0_; have BK274 := n1_; have HB := n2_; clear n0_ n1_ n2_; (try clear hb); (try clear hb2); (try clear hk); (try clear hi); have hcz16_0 : w15.cell? ⟨gb273, 0, none⟩ = some (.int .i64 a0_0) := (zb BK273.out 0).trans rfl; have hcz16_1 : w15.cell? ⟨gb273, 1, none⟩ = some (.int .i64 a0_1) := (zb BK273.out 1).trans rfl; have hcz16_2 : w15.cell? ⟨gb273, 2, none⟩ = some (.int .i64 a0_2) := (zb BK273.out 2).trans rfl; have hfz16_0 := za BK273.out 0; have hfz16_1 := za BK273.out 1; have hfz16_2 := za BK273.out 2))
        go_meet
        case rel => exact ⟨_, (decide (a1 > 20000000000000)), (by first | rfl | (simp; done) | (simp [*]; done)), H', ⟨by first | omega | exact Nat.le_refl _⟩, ⟨by (with_reducible repeat (first | refine ze ?_ _ | refine zh ?_ | refine zd ?_ _)); exact BK273.out⟩, ⟨by (with_reducible repeat (first | refine ze ?_ _ | refine zh ?_ | refine zd ?_ _)); exact BK274.out⟩, ⟨by repeat (first | (with_reducible first | exact HB.out | apply zf | apply zc | apply zi | refine zg ?_ GE273.out | refine zg ?_ GE274.out) | exact HB.out)⟩⟩
    · replace c7 := Bool.eq_false_iff.mpr c7
      subst c7
      have H1 : (R8_Grow.j0 k a1 true a0_0 a0_1 a0_2) = some (r1, r2, r3, r4) := by rw [if_neg (show ¬ (false = true) by decide)] at H; exact H
      clear H
      have H := H1
      clear H1
      have H' := Aside0.mk H
      clear H
      have hnb17 := NB273_274.out
      have hnc17 := NB274_273.out
      have hcz18_0 : w5.cell? ⟨gb273, 0, none⟩ = some (.int .i64 a0_0) := (zb BK273.out 0).trans rfl
      have hcz18_1 : w5.cell? ⟨gb273, 1, none⟩ = some (.int .i64 a0_1) := (zb BK273.out 1).trans rfl
      have hcz18_2 : w5.cell? ⟨gb273, 2, none⟩ = some (.int .i64 a0_2) := (zb BK273.out 2).trans rfl
      have hfz18_0 := za BK273.out 0
      have hfz18_1 := za BK273.out 1
      have hfz18_2 := za BK273.out 2
      go_wp2_with (first | ((with_reducible refine zo (f := 38) rfl ?_); refine zt (some 9) rfl rfl Try.func38 (by kernel_rfl) rfl #[.agg #[.int .i64 a0_0, .int .i64 a0_1, .int .i64 a0_2]] rfl (by (try simp only [List.map_toArray, List.map_cons, List.map_nil]); first | done | rfl | (simp only [List.length_drop, List.length_take]; rfl)) ?_; (with_reducible refine (R8_Valid.calls a0_0 a0_1 a0_2 false _ A6.out).mono ?_); rintro e w19 ⟨rfl, hb⟩; refine ⟨_, rfl, ?_⟩; have n0_ := Aside0.mk (zj (g := gb273) (o := .cells #[.int .i64 a0_0, .int .i64 a0_1, .int .i64 a0_2] 23 (0, 0)) (by (with_reducible repeat (first | refine ze ?_ _ | refine zh ?_ | refine zd ?_ _)); exact BK273.out) hb); have n1_ := Aside0.mk (zj (g := gb274) (o := .cells #[.int .i64 0, .int .i64 0, .int .i64 0] 23 (0, 0)) (by (with_reducible repeat (first | refine ze ?_ _ | refine zh ?_ | refine zd ?_ _)); exact BK274.out) hb); have n2_ := Aside0.mk (zk (by repeat (first | (with_reducible first | exact HB.out | apply zf | apply zc | apply zi | refine zg ?_ GE273.out | refine zg ?_ GE274.out) | exact HB.out)) hb); clear BK273; clear BK274; clear HB; have BK273 := n0_; have BK274 := n1_; have HB := n2_; clear n0_ n1_ n2_; (try clear hb); (try clear hb2); (try clear hk); (try clear hi)))
      go_meet
      case rel => exact ⟨_, (true), (by first | rfl | (simp; done) | (simp [*]; done)), H', ⟨by first | omega | exact Nat.le_refl _⟩, ⟨by (with_reducible repeat (first | refine ze ?_ _ | refine zh ?_ | refine zd ?_ _)); exact BK273.out⟩, ⟨by (with_reducible repeat (first | refine ze ?_ _ | refine zh ?_ | refine zd ?_ _)); exact BK274.out⟩, ⟨by repeat (first | (with_reducible first | exact HB.out | apply zf | apply zc | apply zi | refine zg ?_ GE273.out | refine zg ?_ GE274.out) | exact HB.out)⟩⟩
  case rest =>
    clear HC3
    try clear c1
    try clear p2
    try clear c3
    try clear c7
    try clear c8
    try clear c8b0
    try clear c9
    try clear c13
    try clear c17
    try clear hcz10_0
    try clear hcz10_1
    try clear hcz10_2
    try clear hcz12_0
    try clear hcz12_1
    try clear hcz12_2
    try clear hcz14_0
    try clear hcz14_1
    try clear hcz14_2
    try clear hcz16_0
    try clear hcz16_1
    try clear hcz16_2
    try clear hcz18_0
    try clear hcz18_1
    try clear hcz18_2
    try clear hfz10_0
    try clear hfz10_1
    try clear hfz10_2
    try clear hfz12_0
    try clear hfz12_1
    try clear hfz12_2
    try clear hfz14_0
    try clear hfz14_1
    try clear hfz14_2
    try clear hfz16_0
    try clear hfz16_1
    try clear hfz16_2
    try clear hfz18_0
    try clear hfz18_1
    try clear hfz18_2
    obtain ⟨kq, x20_2, rfl, HA, HJ2, BK273, BK274, HB⟩ := hcut
    cases kq with
    | zero => exact absurd HA.out (by simp [R8_Grow.j0])
    | succ kj2 =>
      have H := HA.out
      clear HA
      simp only [R8_Grow.j0] at H
      by_cases c20 : x20_2 = true
      · subst c20
        have H1 : (some (0, 0, 0, 1)) = some (r1, r2, r3, r4) := by rw [if_pos rfl] at H; exact H
        clear H
        have H := H1
        clear H1
        simp only [Option.some.injEq, Prod.mk.injEq] at H
        obtain ⟨rfl, rfl, rfl, rfl⟩ := H
        have hnb21 := NB274_273.out
        have hnc21 := NB273_274.out
        have hcz22_0 : wc.cell? ⟨gb274, 0, none⟩ = some (.int .i64 0) := (zb BK274.out 0).trans rfl
        have hcz22_1 : wc.cell? ⟨gb274, 1, none⟩ = some (.int .i64 0) := (zb BK274.out 1).trans rfl
        have hcz22_2 : wc.cell? ⟨gb274, 2, none⟩ = some (.int .i64 0) := (zb BK274.out 2).trans rfl
        have hfz22_0 := za BK274.out 0
        have hfz22_1 := za BK274.out 1
        have hfz22_2 := za BK274.out 2
        go_wp2
        refine bodyPost_ret (zs rfl _ _ gb274 23 #[.int .i64 0, .int .i64 0, .int .i64 0] (0, 0) _ rfl (by (with_reducible repeat (first | refine ze ?_ _ | refine zh ?_ | refine zd ?_ _)); refine zm (cs := #[.int .i64 0, .int .i64 0, .int .i64 0]) ?_ 2 _ rfl; (with_reducible repeat (first | refine ze ?_ _ | refine zh ?_ | refine zd ?_ _)); refine zm (cs := #[.int .i64 0, .int .i64 0, .int .i64 0]) ?_ 1 _ rfl; (with_reducible repeat (first | refine ze ?_ _ | refine zh ?_ | refine zd ?_ _)); refine zm (cs := #[.int .i64 0, .int .i64 0, .int .i64 0]) ?_ 0 _ rfl; (with_reducible repeat (first | refine ze ?_ _ | refine zh ?_ | refine zd ?_ _)); exact BK274.out) Try.underlying23 rfl (by kernel_rfl)) rfl ?_
        exact ⟨by first | rfl | (simp [errW_none, errW_some] <;> rfl) | (simp [*, errW_none, errW_some] <;> rfl), by repeat (first | (with_reducible first | exact HB.out | apply zf | apply zc | apply zi | refine zg ?_ GE273.out | refine zg ?_ GE274.out) | exact HB.out)⟩
      · replace c20 := Bool.eq_false_iff.mpr c20
        subst c20
        have H1 : ((R8_More.f (wrap64 (a1 - a0_2))).bind fun t276 => ((R8_Valid.f (wrap64 (a0_0 - t276)) (wrap64 (a0_1 + t276)) a1).bind fun t278 => (if t278 = true then (some (wrap64 (a0_0 - t276), wrap64 (a0_1 + t276), a1, 0)) else (some (0, 0, 0, 3))))) = some (r1, r2, r3, r4) := by rw [if_neg (show ¬ (false = true) by decide)] at H; exact H
        clear H
        have H := H1
        clear H1
        replace H := Option.bind_eq_some_iff.mp H
        obtain ⟨t276, A230, H⟩ := H
        replace H : ((R8_Valid.f (wrap64 (a0_0 - t276)) (wrap64 (a0_1 + t276)) a1).bind fun t278 => (if t278 = true then (some (wrap64 (a0_0 - t276), wrap64 (a0_1 + t276), a1, 0)) else (some (0, 0, 0, 3)))) = some (r1, r2, r3, r4) := H
        have A23 := Aside0.mk A230
        clear A230
        replace H := Option.bind_eq_some_iff.mp H
        obtain ⟨t278, A240, H⟩ := H
        replace H : (if t278 = true then (some (wrap64 (a0_0 - t276), wrap64 (a0_1 + t276), a1, 0)) else (some (0, 0, 0, 3))) = some (r1, r2, r3, r4) := H
        have A24 := Aside0.mk A240
        clear A240
        by_cases c25 : t278 = true
        · subst c25
          have H1 : (some (wrap64 (a0_0 - t276), wrap64 (a0_1 + t276), a1, 0)) = some (r1, r2, r3, r4) := by rw [if_pos rfl] at H; exact H
          clear H
          have H := H1
          clear H1
          simp only [Option.some.injEq, Prod.mk.injEq] at H
          obtain ⟨rfl, rfl, rfl, rfl⟩ := H
          have hnb26 := NB273_274.out
          have hnc26 := NB274_273.out
          have hcz27_0 : wc.cell? ⟨gb273, 0, none⟩ = some (.int .i64 a0_0) := (zb BK273.out 0).trans rfl
          have hcz27_1 : wc.cell? ⟨gb273, 1, none⟩ = some (.int .i64 a0_1) := (zb BK273.out 1).trans rfl
          have hcz27_2 : wc.cell? ⟨gb273, 2, none⟩ = some (.int .i64 a0_2) := (zb BK273.out 2).trans rfl
          have hfz27_0 := za BK273.out 0
          have hfz27_1 := za BK273.out 1
          have hfz27_2 := za BK273.out 2
          go_wp2_with (first | ((with_reducible refine zo (f := 49) rfl ?_); refine zt (some 26) rfl rfl Try.func49 (by kernel_rfl) rfl #[.int .i64 (wrap64 (a1 - a0_2))] rfl (by (try simp only [List.map_toArray, List.map_cons, List.map_nil]); first | done | rfl | (simp only [List.length_drop, List.length_take]; rfl)) ?_; (with_reducible refine (R8_More.calls (wrap64 (a1 - a0_2)) t276 _ A23.out).mono ?_); rintro e w' ⟨rfl, ⟨nd, rfl⟩⟩; refine ⟨_, rfl, ?_⟩; (try (rw [drewN_self wc]; generalize hq_ : World.drewN wc _ = wc; have n0_ : Aside0 (wc.heap[gb273]? = some (.cells #[.int .i64 a0_0, .int .i64 a0_1, .int .i64 a0_2] 23 (0, 0))) := ⟨by rw [← hq_]; exact (by (with_reducible repeat (first | refine ze ?_ _ | refine zh ?_ | refine zd ?_ _)); exact BK273.out)⟩; have n1_ : Aside0 (wc.heap[gb274]? = some (.cells #[.int .i64 0, .int .i64 0, .int .i64 0] 23 (0, 0))) := ⟨by rw [← hq_]; exact (by (with_reducible repeat (first | refine ze ?_ _ | refine zh ?_ | refine zd ?_ _)); exact BK274.out)⟩; have n2_ : Aside0 (Below w.heap.size w wc) := ⟨by rw [← hq_]; exact (by repeat (first | (with_reducible first | exact HB.out | apply zf | apply zc | apply zi | refine zg ?_ GE273.out | refine zg ?_ GE274.out) | exact HB.out))⟩; clear BK273 BK274 HB hq_; have BK273 := n0_; have BK274 := n1_; have HB := n2_; clear n0_ n1_ n2_)); (try have hcy273_0 : wc.cell? ⟨gb273, 0, none⟩ = some (.int .i64 a0_0) := (zb BK273.out 0).trans rfl); (try have hcy273_1 : wc.cell? ⟨gb273, 1, none⟩ = some (.int .i64 a0_1) := (zb BK273.out 1).trans rfl); (try have hcy273_2 : wc.cell? ⟨gb273, 2, none⟩ = some (.int .i64 a0_2) := (zb BK273.out 2).trans rfl); (try have hcy274_0 : wc.cell? ⟨gb274, 0, none⟩ = some (.int .i64 0) := (zb BK274.out 0).trans rfl); (try have hcy274_1 : wc.cell? ⟨gb274, 1, none⟩ = some (.int .i64 0) := (zb BK274.out 1).trans rfl); (try have hcy274_2 : wc.cell? ⟨gb274, 2, none⟩ = some (.int .i64 0) := (zb BK274.out 2).trans rfl); (try have hfy273_0 := za BK273.out 0); (try have hfy273_1 := za BK273.out 1); (try have hfy273_2 := za BK273.out 2); (try have hfy274_0 := za BK274.out 0); (try have hfy274_1 := za BK274.out 1); (try have hfy274_2 := za BK274.out 2)) | ((with_reducible refine zr (N := 7) rfl ?_); refine zq ?hg (N := 7) ?hd (cs := #[.int .i64 0, .int .i64 0, .int .i64 0]) (t := 23) ?hr ?_; (case hd => rfl); (case hg => rfl); (case hr => first | (go_simp; done) | (go_simp; rfl)); intro gb277 hg w28 hbox hb; have n0_ := Aside0.mk (zj (g := gb273) (o := .cells #[.int .i64 a0_0, .int .i64 a0_1, .int .i64 a0_2] 23 (0, 0)) (by (with_reducible repeat (first | refine ze ?_ _ | refine zh ?_ | refine zd ?_ _)); exact BK273.out) hb); have n1_ := Aside0.mk (zj (g := gb274) (o := .cells #[.int .i64 0, .int .i64 0, .int .i64 0] 23 (0, 0)) (by (with_reducible repeat (first | refine ze ?_ _ | refine zh ?_ | refine zd ?_ _)); exact BK274.out) hb); have n2_ := Aside0.mk (zk (by repeat (first | (with_reducible first | exact HB.out | apply zf | apply zc | apply zi | refine zg ?_ GE273.out | refine zg ?_ GE274.out) | exact HB.out)) hb); have n3_ := Aside0.mk (hbox); have n4_ := Aside0.mk ((by rw [hg]; exact (zl (by repeat (first | (with_reducible first | exact HB.out | apply zf | apply zc | apply zi | refine zg ?_ GE273.out | refine zg ?_ GE274.out) | exact HB.out))) : w.heap.size ≤ gb277)); have n5_ := Aside0.mk ((by rw [hg]; exact (zl (by repeat (first | (with_reducible first | exact HB.out | apply zf | apply zc | apply zi | refine zg ?_ GE273.out | refine zg ?_ GE274.out) | exact HB.out))) : w.heap.size ≤ gb277)); have n6_ := Aside0.mk ((by rw [hg]; exact Nat.ne_of_lt (zp (g := gb273) (o := .cells #[.int .i64 a0_0, .int .i64 a0_1, .int .i64 a0_2] 23 (0, 0)) (by (with_reducible repeat (first | refine ze ?_ _ | refine zh ?_ | refine zd ?_ _)); exact BK273.out)) : gb273 ≠ gb277)); have n7_ := Aside0.mk ((by rw [hg]; exact Nat.ne_of_gt (zp (g := gb273) (o := .cells #[.int .i64 a0_0, .int .i64 a0_1, .int .i64 a0_2] 23 (0, 0)) (by (with_reducible repeat (first | refine ze ?_ _ | refine zh ?_ | refine zd ?_ _)); exact BK273.out)) : gb277 ≠ gb273)); have n8_ := Aside0.mk ((by rw [hg]; exact Nat.ne_of_lt (zp (g := gb274) (o := .cells #[.int .i64 0, .int .i64 0, .int .i64 0] 23 (0, 0)) (by (with_reducible repeat (first | refine ze ?_ _ | refine zh ?_ | refine zd ?_ _)); exact BK274.out)) : gb274 ≠ gb277)); have n9_ := Aside0.mk ((by rw [hg]; exact Nat.ne_of_gt (zp (g := gb274) (o := .cells #[.int .i64 0, .int .i64 0, .int .i64 0] 23 (0, 0)) (by (with_reducible repeat (first | refine ze ?_ _ | refine zh ?_ | refine zd ?_ _)); exact BK274.out)) : gb277 ≠ gb274)); clear BK273; clear BK274; clear HB; have BK273 := n0_; have BK274 := n1_; have HB := n2_; have BK277 := n3_; have GW277 := n4_; have GE277 := n5_; have NB273_277 := n6_; have NB277_273 := n7_; have NB274_277 := n8_; have NB277_274 := n9_; clear n0_ n1_ n2_ n3_ n4_ n5_ n6_ n7_ n8_ n9_; clear hb hbox hg; have hnb29 := NB277_273.out; have hnc29 := NB273_277.out; have hnb30 := NB277_274.out; have hnc30 := NB274_277.out; have hcz31_0 : w28.cell? ⟨gb277, 0, none⟩ = some (.int .i64 0) := (zb BK277.out 0).trans rfl; have hcz31_1 : w28.cell? ⟨gb277, 1, none⟩ = some (.int .i64 0) := (zb BK277.out 1).trans rfl; have hcz31_2 : w28.cell? ⟨gb277, 2, none⟩ = some (.int .i64 0) := (zb BK277.out 2).trans rfl; have hfz31_0 := za BK277.out 0; have hfz31_1 := za BK277.out 1; have hfz31_2 := za BK277.out 2) | ((with_reducible refine zo (f := 38) rfl ?_); refine zt (some 38) rfl rfl Try.func38 (by kernel_rfl) rfl #[.agg #[.int .i64 (wrap64 (a0_0 - t276)), .int .i64 (wrap64 (a0_1 + t276)), .int .i64 a1]] rfl (by (try simp only [List.map_toArray, List.map_cons, List.map_nil]); first | done | rfl | (simp only [List.length_drop, List.length_take]; rfl)) ?_; (with_reducible refine (R8_Valid.calls (wrap64 (a0_0 - t276)) (wrap64 (a0_1 + t276)) a1 true _ A24.out).mono ?_); rintro e w32 ⟨rfl, hb⟩; refine ⟨_, rfl, ?_⟩; have n0_ := Aside0.mk (zj (g := gb273) (o := .cells #[.int .i64 a0_0, .int .i64 a0_1, .int .i64 a0_2] 23 (0, 0)) (by (with_reducible repeat (first | refine ze ?_ _ | refine zh ?_ | refine zd ?_ _)); refine zn ?_ NB273_277.out _; (with_reducible repeat (first | refine ze ?_ _ | refine zh ?_ | refine zd ?_ _)); refine zn ?_ NB273_277.out _; (with_reducible repeat (first | refine ze ?_ _ | refine zh ?_ | refine zd ?_ _)); refine zn ?_ NB273_277.out _; (with_reducible repeat (first | refine ze ?_ _ | refine zh ?_ | refine zd ?_ _)); exact BK273.out) hb); have n1_ := Aside0.mk (zj (g := gb274) (o := .cells #[.int .i64 0, .int .i64 0, .int .i64 0] 23 (0, 0)) (by (with_reducible repeat (first | refine ze ?_ _ | refine zh ?_ | refine zd ?_ _)); refine zn ?_ NB274_277.out _; (with_reducible repeat (first | refine ze ?_ _ | refine zh ?_ | refine zd ?_ _)); refine zn ?_ NB274_277.out _; (with_reducible repeat (first | refine ze ?_ _ | refine zh ?_ | refine zd ?_ _)); refine zn ?_ NB274_277.out _; (with_reducible repeat (first | refine ze ?_ _ | refine zh ?_ | refine zd ?_ _)); exact BK274.out) hb); have n2_ := Aside0.mk (zj (g := gb277) (o := .cells #[.int .i64 (wrap64 (a0_0 - t276)), .int .i64 (wrap64 (a0_1 + t276)), .int .i64 a1] 23 (0, 0)) (by (with_reducible repeat (first | refine ze ?_ _ | refine zh ?_ | refine zd ?_ _)); refine zm (cs := #[.int .i64 (wrap64 (a0_0 - t276)), .int .i64 (wrap64 (a0_1 + t276)), .int .i64 0]) ?_ 2 _ rfl; (with_reducible repeat (first | refine ze ?_ _ | refine zh ?_ | refine zd ?_ _)); refine zm (cs := #[.int .i64 (wrap64 (a0_0 - t276)), .int .i64 0, .int .i64 0]) ?_ 1 _ rfl; (with_reducible repeat (first | refine ze ?_ _ | refine zh ?_ | refine zd ?_ _)); refine zm (cs := #[.int .i64 0, .int .i64 0, .int .i64 0]) ?_ 0 _ rfl; (with_reducible repeat (first | refine ze ?_ _ | refine zh ?_ | refine zd ?_ _)); exact BK277.out) hb); have n3_ := Aside0.mk (zk (by repeat (first | (with_reducible first | exact HB.out | apply zf | apply zc | apply zi | refine zg ?_ GE273.out | refine zg ?_ GE274.out | refine zg ?_ GE277.out) | exact HB.out)) hb); clear BK273; clear BK274; clear BK277; clear HB; have BK273 := n0_; have BK274 := n1_; have BK277 := n2_; have HB := n3_; clear n0_ n1_ n2_ n3_; (try clear hb); (try clear hb2); (try clear hk); (try clear hi); have hcz33_0 : w32.cell? ⟨gb277, 0, none⟩ = some (.int .i64 (wrap64 (a0_0 - t276))) := (zb BK277.out 0).trans rfl; have hcz33_1 : w32.cell? ⟨gb277, 1, none⟩ = some (.int .i64 (wrap64 (a0_1 + t276))) := (zb BK277.out 1).trans rfl; have hcz33_2 : w32.cell? ⟨gb277, 2, none⟩ = some (.int .i64 a1) := (zb BK277.out 2).trans rfl; have hfz33_0 := za BK277.out 0; have hfz33_1 := za BK277.out 1; have hfz33_2 := za BK277.out 2; have hcz34_0 : w32.cell? ⟨gb274, 0, none⟩ = some (.int .i64 0) := (zb BK274.out 0).trans rfl; have hcz34_1 : w32.cell? ⟨gb274, 1, none⟩ = some (.int .i64 0) := (zb BK274.out 1).trans rfl; have hcz34_2 : w32.cell? ⟨gb274, 2, none⟩ = some (.int .i64 0) := (zb BK274.out 2).trans rfl; have hfz34_0 := za BK274.out 0; have hfz34_1 := za BK274.out 1; have hfz34_2 := za BK274.out 2))
          refine bodyPost_ret (zs rfl _ _ gb274 23 #[.int .i64 (wrap64 (a0_0 - t276)), .int .i64 (wrap64 (a0_1 + t276)), .int .i64 a1] (0, 0) _ rfl (by (with_reducible repeat (first | refine ze ?_ _ | refine zh ?_ | refine zd ?_ _)); refine zm (cs := #[.int .i64 (wrap64 (a0_0 - t276)), .int .i64 (wrap64 (a0_1 + t276)), .int .i64 0]) ?_ 2 _ rfl; (with_reducible repeat (first | refine ze ?_ _ | refine zh ?_ | refine zd ?_ _)); refine zm (cs := #[.int .i64 (wrap64 (a0_0 - t276)), .int .i64 0, .int .i64 0]) ?_ 1 _ rfl; (with_reducible repeat (first | refine ze ?_ _ | refine zh ?_ | refine zd ?_ _)); refine zm (cs := #[.int .i64 0, .int .i64 0, .int .i64 0]) ?_ 0 _ rfl; (with_reducible repeat (first | refine ze ?_ _ | refine zh ?_ | refine zd ?_ _)); exact BK274.out) Try.underlying23 rfl (by kernel_rfl)) rfl ?_
          exact ⟨by first | rfl | (simp [errW_none, errW_some] <;> rfl) | (simp [*, errW_none, errW_some] <;> rfl), by repeat (first | (with_reducible first | exact HB.out | apply zf | apply zc | apply zi | refine zg ?_ GE273.out | refine zg ?_ GE274.out | refine zg ?_ GE277.out) | exact HB.out)⟩
        · replace c25 := Bool.eq_false_iff.mpr c25
          subst c25
          have H1 : (some (0, 0, 0, 3)) = some (r1, r2, r3, r4) := by rw [if_neg (show ¬ (false = true) by decide)] at H; exact H
          clear H
          have H := H1
          clear H1
          simp only [Option.some.injEq, Prod.mk.injEq] at H
          obtain ⟨rfl, rfl, rfl, rfl⟩ := H
          have hnb35 := NB273_274.out
          have hnc35 := NB274_273.out
          have hcz36_0 : wc.cell? ⟨gb273, 0, none⟩ = some (.int .i64 a0_0) := (zb BK273.out 0).trans rfl
          have hcz36_1 : wc.cell? ⟨gb273, 1, none⟩ = some (.int .i64 a0_1) := (zb BK273.out 1).trans rfl
          have hcz36_2 : wc.cell? ⟨gb273, 2, none⟩ = some (.int .i64 a0_2) := (zb BK273.out 2).trans rfl
          have hfz36_0 := za BK273.out 0
          have hfz36_1 := za BK273.out 1
          have hfz36_2 := za BK273.out 2
          go_wp2_with (first | ((with_reducible refine zo (f := 49) rfl ?_); refine zt (some 26) rfl rfl Try.func49 (by kernel_rfl) rfl #[.int .i64 (wrap64 (a1 - a0_2))] rfl (by (try simp only [List.map_toArray, List.map_cons, List.map_nil]); first | done | rfl | (simp only [List.length_drop, List.length_take]; rfl)) ?_; (with_reducible refine (R8_More.calls (wrap64 (a1 - a0_2)) t276 _ A23.out).mono ?_); rintro e w' ⟨rfl, ⟨nd, rfl⟩⟩; refine ⟨_, rfl, ?_⟩; (try (rw [drewN_self wc]; generalize hq_ : World.drewN wc _ = wc; have n0_ : Aside0 (wc.heap[gb273]? = some (.cells #[.int .i64 a0_0, .int .i64 a0_1, .int .i64 a0_2] 23 (0, 0))) := ⟨by rw [← hq_]; exact (by (with_reducible repeat (first | refine ze ?_ _ | refine zh ?_ | refine zd ?_ _)); exact BK273.out)⟩; have n1_ : Aside0 (wc.heap[gb274]? = some (.cells #[.int .i64 0, .int .i64 0, .int .i64 0] 23 (0, 0))) := ⟨by rw [← hq_]; exact (by (with_reducible repeat (first | refine ze ?_ _ | refine zh ?_ | refine zd ?_ _)); exact BK274.out)⟩; have n2_ : Aside0 (Below w.heap.size w wc) := ⟨by rw [← hq_]; exact (by repeat (first | (with_reducible first | exact HB.out | apply zf | apply zc | apply zi | refine zg ?_ GE273.out | refine zg ?_ GE274.out) | exact HB.out))⟩; clear BK273 BK274 HB hq_; have BK273 := n0_; have BK274 := n1_; have HB := n2_; clear n0_ n1_ n2_)); (try have hcy273_0 : wc.cell? ⟨gb273, 0, none⟩ = some (.int .i64 a0_0) := (zb BK273.out 0).trans rfl); (try have hcy273_1 : wc.cell? ⟨gb273, 1, none⟩ = some (.int .i64 a0_1) := (zb BK273.out 1).trans rfl); (try have hcy273_2 : wc.cell? ⟨gb273, 2, none⟩ = some (.int .i64 a0_2) := (zb BK273.out 2).trans rfl); (try have hcy274_0 : wc.cell? ⟨gb274, 0, none⟩ = some (.int .i64 0) := (zb BK274.out 0).trans rfl); (try have hcy274_1 : wc.cell? ⟨gb274, 1, none⟩ = some (.int .i64 0) := (zb BK274.out 1).trans rfl); (try have hcy274_2 : wc.cell? ⟨gb274, 2, none⟩ = some (.int .i64 0) := (zb BK274.out 2).trans rfl); (try have hfy273_0 := za BK273.out 0); (try have hfy273_1 := za BK273.out 1); (try have hfy273_2 := za BK273.out 2); (try have hfy274_0 := za BK274.out 0); (try have hfy274_1 := za BK274.out 1); (try have hfy274_2 := za BK274.out 2)) | ((with_reducible refine zr (N := 7) rfl ?_); refine zq ?hg (N := 7) ?hd (cs := #[.int .i64 0, .int .i64 0, .int .i64 0]) (t := 23) ?hr ?_; (case hd => rfl); (case hg => rfl); (case hr => first | (go_simp; done) | (go_simp; rfl)); intro gb277 hg w37 hbox hb; have n0_ := Aside0.mk (zj (g := gb273) (o := .cells #[.int .i64 a0_0, .int .i64 a0_1, .int .i64 a0_2] 23 (0, 0)) (by (with_reducible repeat (first | refine ze ?_ _ | refine zh ?_ | refine zd ?_ _)); exact BK273.out) hb); have n1_ := Aside0.mk (zj (g := gb274) (o := .cells #[.int .i64 0, .int .i64 0, .int .i64 0] 23 (0, 0)) (by (with_reducible repeat (first | refine ze ?_ _ | refine zh ?_ | refine zd ?_ _)); exact BK274.out) hb); have n2_ := Aside0.mk (zk (by repeat (first | (with_reducible first | exact HB.out | apply zf | apply zc | apply zi | refine zg ?_ GE273.out | refine zg ?_ GE274.out) | exact HB.out)) hb); have n3_ := Aside0.mk (hbox); have n4_ := Aside0.mk ((by rw [hg]; exact (zl (by repeat (first | (with_reducible first | exact HB.out | apply zf | apply zc | apply zi | refine zg ?_ GE273.out | refine zg ?_ GE274.out) | exact HB.out))) : w.heap.size ≤ gb277)); have n5_ := Aside0.mk ((by rw [hg]; exact (zl (by repeat (first | (with_reducible first | exact HB.out | apply zf | apply zc | apply zi | refine zg ?_ GE273.out | refine zg ?_ GE274.out) | exact HB.out))) : w.heap.size ≤ gb277)); have n6_ := Aside0.mk ((by rw [hg]; exact Nat.ne_of_lt (zp (g := gb273) (o := .cells #[.int .i64 a0_0, .int .i64 a0_1, .int .i64 a0_2] 23 (0, 0)) (by (with_reducible repeat (first | refine ze ?_ _ | refine zh ?_ | refine zd ?_ _)); exact BK273.out)) : gb273 ≠ gb277)); have n7_ := Aside0.mk ((by rw [hg]; exact Nat.ne_of_gt (zp (g := gb273) (o := .cells #[.int .i64 a0_0, .int .i64 a0_1, .int .i64 a0_2] 23 (0, 0)) (by (with_reducible repeat (first | refine ze ?_ _ | refine zh ?_ | refine zd ?_ _)); exact BK273.out)) : gb277 ≠ gb273)); have n8_ := Aside0.mk ((by rw [hg]; exact Nat.ne_of_lt (zp (g := gb274) (o := .cells #[.int .i64 0, .int .i64 0, .int .i64 0] 23 (0, 0)) (by (with_reducible repeat (first | refine ze ?_ _ | refine zh ?_ | refine zd ?_ _)); exact BK274.out)) : gb274 ≠ gb277)); have n9_ := Aside0.mk ((by rw [hg]; exact Nat.ne_of_gt (zp (g := gb274) (o := .cells #[.int .i64 0, .int .i64 0, .int .i64 0] 23 (0, 0)) (by (with_reducible repeat (first | refine ze ?_ _ | refine zh ?_ | refine zd ?_ _)); exact BK274.out)) : gb277 ≠ gb274)); clear BK273; clear BK274; clear HB; have BK273 := n0_; have BK274 := n1_; have HB := n2_; have BK277 := n3_; have GW277 := n4_; have GE277 := n5_; have NB273_277 := n6_; have NB277_273 := n7_; have NB274_277 := n8_; have NB277_274 := n9_; clear n0_ n1_ n2_ n3_ n4_ n5_ n6_ n7_ n8_ n9_; clear hb hbox hg; have hnb38 := NB277_273.out; have hnc38 := NB273_277.out; have hnb39 := NB277_274.out; have hnc39 := NB274_277.out; have hcz40_0 : w37.cell? ⟨gb277, 0, none⟩ = some (.int .i64 0) := (zb BK277.out 0).trans rfl; have hcz40_1 : w37.cell? ⟨gb277, 1, none⟩ = some (.int .i64 0) := (zb BK277.out 1).trans rfl; have hcz40_2 : w37.cell? ⟨gb277, 2, none⟩ = some (.int .i64 0) := (zb BK277.out 2).trans rfl; have hfz40_0 := za BK277.out 0; have hfz40_1 := za BK277.out 1; have hfz40_2 := za BK277.out 2) | ((with_reducible refine zo (f := 38) rfl ?_); refine zt (some 38) rfl rfl Try.func38 (by kernel_rfl) rfl #[.agg #[.int .i64 (wrap64 (a0_0 - t276)), .int .i64 (wrap64 (a0_1 + t276)), .int .i64 a1]] rfl (by (try simp only [List.map_toArray, List.map_cons, List.map_nil]); first | done | rfl | (simp only [List.length_drop, List.length_take]; rfl)) ?_; (with_reducible refine (R8_Valid.calls (wrap64 (a0_0 - t276)) (wrap64 (a0_1 + t276)) a1 false _ A24.out).mono ?_); rintro e w41 ⟨rfl, hb⟩; refine ⟨_, rfl, ?_⟩; have n0_ := Aside0.mk (zj (g := gb273) (o := .cells #[.int .i64 a0_0, .int .i64 a0_1, .int .i64 a0_2] 23 (0, 0)) (by (with_reducible repeat (first | refine ze ?_ _ | refine zh ?_ | refine zd ?_ _)); refine zn ?_ NB273_277.out _; (with_reducible repeat (first | refine ze ?_ _ | refine zh ?_ | refine zd ?_ _)); refine zn ?_ NB273_277.out _; (with_reducible repeat (first | refine ze ?_ _ | refine zh ?_ | refine zd ?_ _)); refine zn ?_ NB273_277.out _; (with_reducible repeat (first | refine ze ?_ _ | refine zh ?_ | refine zd ?_ _)); exact BK273.out) hb); have n1_ := Aside0.mk (zj (g := gb274) (o := .cells #[.int .i64 0, .int .i64 0, .int .i64 0] 23 (0, 0)) (by (with_reducible repeat (first | refine ze ?_ _ | refine zh ?_ | refine zd ?_ _)); refine zn ?_ NB274_277.out _; (with_reducible repeat (first | refine ze ?_ _ | refine zh ?_ | refine zd ?_ _)); refine zn ?_ NB274_277.out _; (with_reducible repeat (first | refine ze ?_ _ | refine zh ?_ | refine zd ?_ _)); refine zn ?_ NB274_277.out _; (with_reducible repeat (first | refine ze ?_ _ | refine zh ?_ | refine zd ?_ _)); exact BK274.out) hb); have n2_ := Aside0.mk (zj (g := gb277) (o := .cells #[.int .i64 (wrap64 (a0_0 - t276)), .int .i64 (wrap64 (a0_1 + t276)), .int .i64 a1] 23 (0, 0)) (by (with_reducible repeat (first | refine ze ?_ _ | refine zh ?_ | refine zd ?_ _)); refine zm (cs := #[.int .i64 (wrap64 (a0_0 - t276)), .int .i64 (wrap64 (a0_1 + t276)), .int .i64 0]) ?_ 2 _ rfl; (with_reducible repeat (first | refine ze ?_ _ | refine zh ?_ | refine zd ?_ _)); refine zm (cs := #[.int .i64 (wrap64 (a0_0 - t276)), .int .i64 0, .int .i64 0]) ?_ 1 _ rfl; (with_reducible repeat (first | refine ze ?_ _ | refine zh ?_ | refine zd ?_ _)); refine zm (cs := #[.int .i64 0, .int .i64 0, .int .i64 0]) ?_ 0 _ rfl; (with_reducible repeat (first | refine ze ?_ _ | refine zh ?_ | refine zd ?_ _)); exact BK277.out) hb); have n3_ := Aside0.mk (zk (by repeat (first | (with_reducible first | exact HB.out | apply zf | apply zc | apply zi | refine zg ?_ GE273.out | refine zg ?_ GE274.out | refine zg ?_ GE277.out) | exact HB.out)) hb); clear BK273; clear BK274; clear BK277; clear HB; have BK273 := n0_; have BK274 := n1_; have BK277 := n2_; have HB := n3_; clear n0_ n1_ n2_ n3_; (try clear hb); (try clear hb2); (try clear hk); (try clear hi); have hcz42_0 : w41.cell? ⟨gb274, 0, none⟩ = some (.int .i64 0) := (zb BK274.out 0).trans rfl; have hcz42_1 : w41.cell? ⟨gb274, 1, none⟩ = some (.int .i64 0) := (zb BK274.out 1).trans rfl; have hcz42_2 : w41.cell? ⟨gb274, 2, none⟩ = some (.int .i64 0) := (zb BK274.out 2).trans rfl; have hfz42_0 := za BK274.out 0; have hfz42_1 := za BK274.out 1; have hfz42_2 := za BK274.out 2))
          refine bodyPost_ret (zs rfl _ _ gb274 23 #[.int .i64 0, .int .i64 0, .int .i64 0] (0, 0) _ rfl (by (with_reducible repeat (first | refine ze ?_ _ | refine zh ?_ | refine zd ?_ _)); refine zm (cs := #[.int .i64 0, .int .i64 0, .int .i64 0]) ?_ 2 _ rfl; (with_reducible repeat (first | refine ze ?_ _ | refine zh ?_ | refine zd ?_ _)); refine zm (cs := #[.int .i64 0, .int .i64 0, .int .i64 0]) ?_ 1 _ rfl; (with_reducible repeat (first | refine ze ?_ _ | refine zh ?_ | refine zd ?_ _)); refine zm (cs := #[.int .i64 0, .int .i64 0, .int .i64 0]) ?_ 0 _ rfl; (with_reducible repeat (first | refine ze ?_ _ | refine zh ?_ | refine zd ?_ _)); exact BK274.out) Try.underlying23 rfl (by kernel_rfl)) rfl ?_
          exact ⟨by first | rfl | (simp [errW_none, errW_some] <;> rfl) | (simp [*, errW_none, errW_some] <;> rfl), by repeat (first | (with_reducible first | exact HB.out | apply zf | apply zc | apply zi | refine zg ?_ GE273.out | refine zg ?_ GE274.out | refine zg ?_ GE277.out) | exact HB.out)⟩
end Go.Proofs.Ytkbfhonoamgjgaa.P
end
