/- A claim's own texts, laid together by wip/zip.py without what the claim does not use. Conditions: none. -/
import Derived.Test.YtdpihbhkghjclaaZcpx0
import Derived.Test.YtdpihbhkghjclaaZcpx4
import Derived.Test.YtdpihbhkghjclaaZcpx10
section
/- The Go functions of this claim as Lean functions, and the proofs that their calls answer so: written by wip/myprint.py over the kit's printer, hand-proved contracts laid in. Conditions: none. -/
namespace Go.Proofs.Ytdpihbhkghjclaa.P
open Go.RowKit Go.Proofs.YtdpihbhkghjclaaW.PrintWords Go.Proofs.YtdpihbhkghjclaaW.PrintLast Go.Proofs.YtdpihbhkghjclaaW.PrintMore
attribute [local go_sem] max2_int min2_int max_two min_two max_three min_three max_four min_four   -- for this text's walks alone
set_option linter.unusedVariables false
set_option linter.unusedSimpArgs false
/-! ### timesync_state_valid: function 37 -/
def timesync_state_valid.j0 : Nat → Bool → Bool → Int → Int → Int → Int → Int → Int → Option (Bool)
 | 0, _, _, _, _, _, _, _, _ => none
 | k + 1, x3, x133000, x133001, x133002, x133003, x133004, x133005, x133006 => if x3 = true then (some false) else (if x133000 = true then ((timesync_state_root.f x133000 x133001 x133002 x133003 x133004 x133005 x133006).bind fun t133 => (if t133 = true then (some true) else (if x133004 ≥ 1 then (if x133004 ≤ 60 then ((bound_Valid.f k x133001 x133002 x133003).bind fun t134 => (some t134)) else (some false)) else (some false)))) else (some (x133004 == 60)))
def timesync_state_valid.f (k : Nat) (a0_0 : Bool) (a0_1 : Int) (a0_2 : Int) (a0_3 : Int) (a0_4 : Int) (a0_5 : Int) (a0_6 : Int) : Option (Bool) := if a0_5 < (-1) then (timesync_state_valid.j0 k true a0_0 a0_1 a0_2 a0_3 a0_4 a0_5 a0_6) else (if a0_5 ≥ 60 then (timesync_state_valid.j0 k true a0_0 a0_1 a0_2 a0_3 a0_4 a0_5 a0_6) else (if a0_6 < 0 then (timesync_state_valid.j0 k true a0_0 a0_1 a0_2 a0_3 a0_4 a0_5 a0_6) else (timesync_state_valid.j0 k (decide (a0_6 > 1000000000)) a0_0 a0_1 a0_2 a0_3 a0_4 a0_5 a0_6)))
theorem timesync_state_valid.mono_l : ∀ k, (∀ y0 y1 y2 y3 y4 y5 y6 y7, LeO (timesync_state_valid.j0 k y0 y1 y2 y3 y4 y5 y6 y7) (timesync_state_valid.j0 (k + 1) y0 y1 y2 y3 y4 y5 y6 y7))
 | 0 => fun _ _ _ _ _ _ _ _ r h => by simp [timesync_state_valid.j0] at h
 | k + 1 => by
  have ih0 := timesync_state_valid.mono_l k
  ·intro y0 y1 y2 y3 y4 y5 y6 y7; unfold timesync_state_valid.j0; repeat' first
   | (with_reducible exact ih0 _ _ _ _ _ _ _ _)
   | (with_reducible exact bound_Valid.mono _ _ _ _)
   | (with_reducible exact LeO.refl _)
   | (with_reducible exact LeO.none _)
   | (with_reducible refine LeO.ite ?_ ?_)
   | (with_reducible refine LeO.bind ?_ (fun _ => ?_))
   | exact ih0 _ _ _ _ _ _ _ _
   | exact bound_Valid.mono _ _ _ _
   | exact LeO.none _
   | refine LeO.ite ?_ ?_
   | refine LeO.bind ?_ (fun _ => ?_)
theorem timesync_state_valid.mono : ∀ a0 a1 a2 a3 a4 a5 a6 k, LeO (timesync_state_valid.f k a0 a1 a2 a3 a4 a5 a6) (timesync_state_valid.f (k + 1) a0 a1 a2 a3 a4 a5 a6) := by
 intro a0 a1 a2 a3 a4 a5 a6 k; have ih0 := timesync_state_valid.mono_l k; unfold timesync_state_valid.f; repeat' first
   | (with_reducible exact ih0 _ _ _ _ _ _ _ _)
   | (with_reducible exact bound_Valid.mono _ _ _ _)
   | (with_reducible exact LeO.refl _)
   | (with_reducible exact LeO.none _)
   | (with_reducible refine LeO.ite ?_ ?_)
   | (with_reducible refine LeO.bind ?_ (fun _ => ?_))
   | exact ih0 _ _ _ _ _ _ _ _
   | exact bound_Valid.mono _ _ _ _
   | exact LeO.none _
   | refine LeO.ite ?_ ?_
   | refine LeO.bind ?_ (fun _ => ?_)
set_option maxHeartbeats 8000000 in
set_option maxRecDepth 100000 in
theorem timesync_state_valid.calls (k : Nat) (a0_0 : Bool) (a0_1 : Int) (a0_2 : Int) (a0_3 : Int) (a0_4 : Int) (a0_5 : Int) (a0_6 : Int) (r : Bool) (w : World) (h : timesync_state_valid.f k a0_0 a0_1 a0_2 a0_3 a0_4 a0_5 a0_6 = some r) :
  Calls Try.prog 37 #[.agg #[.bool a0_0, .int .i64 a0_1, .int .i64 a0_2, .int .i64 a0_3, .int .i64 a0_4, .int .i64 a0_5, .int .i64 a0_6]] w fun e w' => e = .returned (.bool r) ∧ Below w.heap.size w w' := by
 have hu76 := Try.underlying76; have hu23 := Try.underlying23; have HB := Aside0.mk (Below.refl w.heap.size w); have H : (if a0_5 < (-1) then (timesync_state_valid.j0 k true a0_0 a0_1 a0_2 a0_3 a0_4 a0_5 a0_6) else (if a0_5 ≥ 60 then (timesync_state_valid.j0 k true a0_0 a0_1 a0_2 a0_3 a0_4 a0_5 a0_6) else (if a0_6 < 0 then (timesync_state_valid.j0 k true a0_0 a0_1 a0_2 a0_3 a0_4 a0_5 a0_6) else (timesync_state_valid.j0 k (decide (a0_6 > 1000000000)) a0_0 a0_1 a0_2 a0_3 a0_4 a0_5 a0_6)))) = some r := h; clear h; have HC2 := Aside0.mk H; clear H; go_enter Try.func37, Try.ntmps37
 go_upto_region 1 with (first | ((with_reducible refine zx (N := 1) rfl ?_); refine zw ?hg (N := 1) ?hd (cs := #[.bool a0_0, .int .i64 a0_1, .int .i64 a0_2, .int .i64 a0_3, .int .i64 a0_4, .int .i64 a0_5, .int .i64 a0_6]) (t := 76) ?hr ?_; (case hd => rfl); (case hg => rfl); (case hr => first | (go_simp; done) | (go_simp; rfl)); intro gb132 hg w3 hbox hb; have n0_ := Aside0.mk (zl (by repeat (first | (with_reducible first | exact HB.out | apply zc | apply zb | apply zf) | exact HB.out)) hb); have n1_ := Aside0.mk (hbox); have n2_ := Aside0.mk ((by rw [hg]; exact (zn (by repeat (first | (with_reducible first | exact HB.out | apply zc | apply zb | apply zf) | exact HB.out))) : w.heap.size ≤ gb132)); have n3_ := Aside0.mk ((by rw [hg]; exact (zn (by repeat (first | (with_reducible first | exact HB.out | apply zc | apply zb | apply zf) | exact HB.out))) : w.heap.size ≤ gb132)); clear HB; have HB := n0_; have BK132 := n1_; have GW132 := n2_; have GE132 := n3_; clear n0_ n1_ n2_ n3_; clear hb hbox hg))
 (try simp only [Act.put, List.setIfInBounds_toArray, List.set_cons_zero, List.set_cons_succ])
 go_cut [3] (fun v3 wc => ∃ (kq : Nat) (x3_1 : Bool), v3 = .bool x3_1 ∧ Aside0 (timesync_state_valid.j0 kq x3_1 a0_0 a0_1 a0_2 a0_3 a0_4 a0_5 a0_6 = some r) ∧ Aside0 (kq ≤ k) ∧ Aside0 (wc.heap[gb132]? = some (.cells #[.bool a0_0, .int .i64 a0_1, .int .i64 a0_2, .int .i64 a0_3, .int .i64 a0_4, .int .i64 a0_5, .int .i64 a0_6] 76 (0, 0))) ∧ Aside0 (Below w.heap.size w wc))
 case first =>
  have H := HC2.out; clear HC2; by_cases c4 : a0_5 < (-1)
  ·rw [if_pos c4] at H; have c4b0 : decide (a0_5 < (-1)) = true := decide_eq_true c4; clear c4; (first | rw [c4b0] | (simp only [zr, zs]; rw [c4b0]) | skip)
   have H' := Aside0.mk H; clear H; have hcz5_0 : w3.cell? ⟨gb132, 0, none⟩ = some (.bool a0_0) := (zd BK132.out 0).trans rfl; have hcz5_1 : w3.cell? ⟨gb132, 1, none⟩ = some (.int .i64 a0_1) := (zd BK132.out 1).trans rfl; have hcz5_2 : w3.cell? ⟨gb132, 2, none⟩ = some (.int .i64 a0_2) := (zd BK132.out 2).trans rfl; have hcz5_3 : w3.cell? ⟨gb132, 3, none⟩ = some (.int .i64 a0_3) := (zd BK132.out 3).trans rfl; have hcz5_4 : w3.cell? ⟨gb132, 4, none⟩ = some (.int .i64 a0_4) := (zd BK132.out 4).trans rfl; have hcz5_5 : w3.cell? ⟨gb132, 5, none⟩ = some (.int .i64 a0_5) := (zd BK132.out 5).trans rfl; have hcz5_6 : w3.cell? ⟨gb132, 6, none⟩ = some (.int .i64 a0_6) := (zd BK132.out 6).trans rfl; have hfz5_0 := za BK132.out 0; have hfz5_1 := za BK132.out 1; have hfz5_2 := za BK132.out 2; have hfz5_3 := za BK132.out 3; have hfz5_4 := za BK132.out 4; have hfz5_5 := za BK132.out 5; have hfz5_6 := za BK132.out 6; go_wp2
   go_meet
   case rel => exact ⟨_, (true), (by first | rfl | (simp; done) | (simp [*]; done)), H', ⟨by first | omega | exact Nat.le_refl _⟩, ⟨by (with_reducible repeat (first | refine zi ?_ _ | refine zk ?_ | refine zg ?_ _)); exact BK132.out⟩, ⟨by repeat (first | (with_reducible first | exact HB.out | apply zc | apply zb | apply zf | refine zh ?_ GE132.out) | exact HB.out)⟩⟩
  ·rw [if_neg c4] at H; have c4b0 : decide (a0_5 < (-1)) = false := decide_eq_false c4; clear c4; (first | rw [c4b0] | (simp only [zr, zs]; rw [c4b0]) | skip)
   by_cases c6 : a0_5 ≥ 60
   ·rw [if_pos c6] at H; have c6b0 : decide (60 ≤ a0_5) = true := decide_eq_true c6; clear c6; have H' := Aside0.mk H; clear H; have hcz7_0 : w3.cell? ⟨gb132, 0, none⟩ = some (.bool a0_0) := (zd BK132.out 0).trans rfl; have hcz7_1 : w3.cell? ⟨gb132, 1, none⟩ = some (.int .i64 a0_1) := (zd BK132.out 1).trans rfl; have hcz7_2 : w3.cell? ⟨gb132, 2, none⟩ = some (.int .i64 a0_2) := (zd BK132.out 2).trans rfl; have hcz7_3 : w3.cell? ⟨gb132, 3, none⟩ = some (.int .i64 a0_3) := (zd BK132.out 3).trans rfl; have hcz7_4 : w3.cell? ⟨gb132, 4, none⟩ = some (.int .i64 a0_4) := (zd BK132.out 4).trans rfl; have hcz7_5 : w3.cell? ⟨gb132, 5, none⟩ = some (.int .i64 a0_5) := (zd BK132.out 5).trans rfl; have hcz7_6 : w3.cell? ⟨gb132, 6, none⟩ = some (.int .i64 a0_6) := (zd BK132.out 6).trans rfl; have hfz7_0 := za BK132.out 0; have hfz7_1 := za BK132.out 1; have hfz7_2 := za BK132.out 2; have hfz7_3 := za BK132.out 3; have hfz7_4 := za BK132.out 4; have hfz7_5 := za BK132.out 5; have hfz7_6 := za BK132.out 6; go_wp2
    go_meet
    case rel => exact ⟨_, (true), (by first | rfl | (simp; done) | (simp [*]; done)), H', ⟨by first | omega | exact Nat.le_refl _⟩, ⟨by (with_reducible repeat (first | refine zi ?_ _ | refine zk ?_ | refine zg ?_ _)); exact BK132.out⟩, ⟨by repeat (first | (with_reducible first | exact HB.out | apply zc | apply zb | apply zf | refine zh ?_ GE132.out) | exact HB.out)⟩⟩
   ·rw [if_neg c6] at H; have c6b0 : decide (60 ≤ a0_5) = false := decide_eq_false c6; clear c6; by_cases c8 : a0_6 < 0
    ·rw [if_pos c8] at H; have c8b0 : decide (a0_6 < 0) = true := decide_eq_true c8; clear c8; have H' := Aside0.mk H; clear H; have hcz9_0 : w3.cell? ⟨gb132, 0, none⟩ = some (.bool a0_0) := (zd BK132.out 0).trans rfl; have hcz9_1 : w3.cell? ⟨gb132, 1, none⟩ = some (.int .i64 a0_1) := (zd BK132.out 1).trans rfl; have hcz9_2 : w3.cell? ⟨gb132, 2, none⟩ = some (.int .i64 a0_2) := (zd BK132.out 2).trans rfl; have hcz9_3 : w3.cell? ⟨gb132, 3, none⟩ = some (.int .i64 a0_3) := (zd BK132.out 3).trans rfl; have hcz9_4 : w3.cell? ⟨gb132, 4, none⟩ = some (.int .i64 a0_4) := (zd BK132.out 4).trans rfl; have hcz9_5 : w3.cell? ⟨gb132, 5, none⟩ = some (.int .i64 a0_5) := (zd BK132.out 5).trans rfl; have hcz9_6 : w3.cell? ⟨gb132, 6, none⟩ = some (.int .i64 a0_6) := (zd BK132.out 6).trans rfl; have hfz9_0 := za BK132.out 0; have hfz9_1 := za BK132.out 1; have hfz9_2 := za BK132.out 2; have hfz9_3 := za BK132.out 3; have hfz9_4 := za BK132.out 4; have hfz9_5 := za BK132.out 5; have hfz9_6 := za BK132.out 6; go_wp2
     go_meet
     case rel => exact ⟨_, (true), (by first | rfl | (simp; done) | (simp [*]; done)), H', ⟨by first | omega | exact Nat.le_refl _⟩, ⟨by (with_reducible repeat (first | refine zi ?_ _ | refine zk ?_ | refine zg ?_ _)); exact BK132.out⟩, ⟨by repeat (first | (with_reducible first | exact HB.out | apply zc | apply zb | apply zf | refine zh ?_ GE132.out) | exact HB.out)⟩⟩
    ·rw [if_neg c8] at H; have c8b0 : decide (a0_6 < 0) = false := decide_eq_false c8; clear c8; have H' := Aside0.mk H; clear H; have hcz10_0 : w3.cell? ⟨gb132, 0, none⟩ = some (.bool a0_0) := (zd BK132.out 0).trans rfl; have hcz10_1 : w3.cell? ⟨gb132, 1, none⟩ = some (.int .i64 a0_1) := (zd BK132.out 1).trans rfl; have hcz10_2 : w3.cell? ⟨gb132, 2, none⟩ = some (.int .i64 a0_2) := (zd BK132.out 2).trans rfl; have hcz10_3 : w3.cell? ⟨gb132, 3, none⟩ = some (.int .i64 a0_3) := (zd BK132.out 3).trans rfl; have hcz10_4 : w3.cell? ⟨gb132, 4, none⟩ = some (.int .i64 a0_4) := (zd BK132.out 4).trans rfl; have hcz10_5 : w3.cell? ⟨gb132, 5, none⟩ = some (.int .i64 a0_5) := (zd BK132.out 5).trans rfl; have hcz10_6 : w3.cell? ⟨gb132, 6, none⟩ = some (.int .i64 a0_6) := (zd BK132.out 6).trans rfl; have hfz10_0 := za BK132.out 0; have hfz10_1 := za BK132.out 1; have hfz10_2 := za BK132.out 2; have hfz10_3 := za BK132.out 3; have hfz10_4 := za BK132.out 4; have hfz10_5 := za BK132.out 5; have hfz10_6 := za BK132.out 6; go_wp2
     go_meet
     case rel => exact ⟨_, (decide (a0_6 > 1000000000)), (by first | rfl | (simp; done) | (simp [*]; done)), H', ⟨by first | omega | exact Nat.le_refl _⟩, ⟨by (with_reducible repeat (first | refine zi ?_ _ | refine zk ?_ | refine zg ?_ _)); exact BK132.out⟩, ⟨by repeat (first | (with_reducible first | exact HB.out | apply zc | apply zb | apply zf | refine zh ?_ GE132.out) | exact HB.out)⟩⟩
 case rest =>
  clear HC2; try clear p2
  try clear c3
  try clear c4
  try clear c4b0
  try clear c6
  try clear c6b0
  try clear c8
  try clear c8b0
  try clear hcz10_0
  try clear hcz10_1
  try clear hcz10_2
  try clear hcz10_3
  try clear hcz10_4
  try clear hcz10_5
  try clear hcz10_6
  try clear hcz5_0
  try clear hcz5_1
  try clear hcz5_2
  try clear hcz5_3
  try clear hcz5_4
  try clear hcz5_5
  try clear hcz5_6
  try clear hcz7_0
  try clear hcz7_1
  try clear hcz7_2
  try clear hcz7_3
  try clear hcz7_4
  try clear hcz7_5
  try clear hcz7_6
  try clear hcz9_0
  try clear hcz9_1
  try clear hcz9_2
  try clear hcz9_3
  try clear hcz9_4
  try clear hcz9_5
  try clear hcz9_6
  try clear hfz10_0
  try clear hfz10_1
  try clear hfz10_2
  try clear hfz10_3
  try clear hfz10_4
  try clear hfz10_5
  try clear hfz10_6
  try clear hfz5_0
  try clear hfz5_1
  try clear hfz5_2
  try clear hfz5_3
  try clear hfz5_4
  try clear hfz5_5
  try clear hfz5_6
  try clear hfz7_0
  try clear hfz7_1
  try clear hfz7_2
  try clear hfz7_3
  try clear hfz7_4
  try clear hfz7_5
  try clear hfz7_6
  try clear hfz9_0
  try clear hfz9_1
  try clear hfz9_2
  try clear hfz9_3
  try clear hfz9_4
  try clear hfz9_5
  try clear hfz9_6
  obtain ⟨kq, x3_1, rfl, HA, HJ1, BK132, HB⟩ := hcut; cases kq with
  | zero => exact absurd HA.out (by simp [timesync_state_valid.j0])
  | succ kj1 =>
   have H := HA.out; clear HA; simp only [timesync_state_valid.j0] at H; by_cases c11 : x3_1 = true
   ·subst c11; have H1 : (some false) = some r := by rw [if_pos rfl] at H; exact H
    clear H; have H := H1; clear H1; obtain rfl := Option.some.inj H; go_wp2
    go_ret; exact ⟨by first | rfl | (simp [errW_none, errW_some] <;> rfl) | (simp [*, errW_none, errW_some] <;> rfl), by repeat (first | (with_reducible first | exact HB.out | apply zc | apply zb | apply zf | refine zh ?_ GE132.out) | exact HB.out)⟩
   ·replace c11 := Bool.eq_false_iff.mpr c11; subst c11; have H1 : (if a0_0 = true then ((timesync_state_root.f a0_0 a0_1 a0_2 a0_3 a0_4 a0_5 a0_6).bind fun t133 => (if t133 = true then (some true) else (if a0_4 ≥ 1 then (if a0_4 ≤ 60 then ((bound_Valid.f kj1 a0_1 a0_2 a0_3).bind fun t134 => (some t134)) else (some false)) else (some false)))) else (some (a0_4 == 60))) = some r := by rw [if_neg (show ¬ (false = true) by decide)] at H; exact H
    clear H; have H := H1; clear H1; by_cases c12 : a0_0 = true
    ·subst c12; have H1 : ((timesync_state_root.f true a0_1 a0_2 a0_3 a0_4 a0_5 a0_6).bind fun t133 => (if t133 = true then (some true) else (if a0_4 ≥ 1 then (if a0_4 ≤ 60 then ((bound_Valid.f kj1 a0_1 a0_2 a0_3).bind fun t134 => (some t134)) else (some false)) else (some false)))) = some r := by rw [if_pos rfl] at H; exact H
     clear H; have H := H1; clear H1; replace H := Option.bind_eq_some_iff.mp H; obtain ⟨t133, A130, H⟩ := H; replace H : (if t133 = true then (some true) else (if a0_4 ≥ 1 then (if a0_4 ≤ 60 then ((bound_Valid.f kj1 a0_1 a0_2 a0_3).bind fun t134 => (some t134)) else (some false)) else (some false))) = some r := H; have A13 := Aside0.mk A130; clear A130; by_cases c14 : t133 = true
     ·subst c14; have H1 : (some true) = some r := by rw [if_pos rfl] at H; exact H
      clear H; have H := H1; clear H1; obtain rfl := Option.some.inj H; have hcz15_0 : wc.cell? ⟨gb132, 0, none⟩ = some (.bool true) := (zd BK132.out 0).trans rfl; have hcz15_1 : wc.cell? ⟨gb132, 1, none⟩ = some (.int .i64 a0_1) := (zd BK132.out 1).trans rfl; have hcz15_2 : wc.cell? ⟨gb132, 2, none⟩ = some (.int .i64 a0_2) := (zd BK132.out 2).trans rfl; have hcz15_3 : wc.cell? ⟨gb132, 3, none⟩ = some (.int .i64 a0_3) := (zd BK132.out 3).trans rfl; have hcz15_4 : wc.cell? ⟨gb132, 4, none⟩ = some (.int .i64 a0_4) := (zd BK132.out 4).trans rfl; have hcz15_5 : wc.cell? ⟨gb132, 5, none⟩ = some (.int .i64 a0_5) := (zd BK132.out 5).trans rfl; have hcz15_6 : wc.cell? ⟨gb132, 6, none⟩ = some (.int .i64 a0_6) := (zd BK132.out 6).trans rfl; have hfz15_0 := za BK132.out 0; have hfz15_1 := za BK132.out 1; have hfz15_2 := za BK132.out 2; have hfz15_3 := za BK132.out 3; have hfz15_4 := za BK132.out 4; have hfz15_5 := za BK132.out 5; have hfz15_6 := za BK132.out 6; go_wp2_with (first | ((with_reducible refine zt (f := 48) rfl ?_); refine goesL_ (some 36) rfl rfl Try.func48 (by kernel_rfl) rfl #[.agg #[.bool true, .int .i64 a0_1, .int .i64 a0_2, .int .i64 a0_3, .int .i64 a0_4, .int .i64 a0_5, .int .i64 a0_6]] rfl (by (try simp only [List.map_toArray, List.map_cons, List.map_nil]); first | done | rfl | (simp only [List.length_drop, List.length_take]; rfl)) ?_; (with_reducible refine (timesync_state_root.calls true a0_1 a0_2 a0_3 a0_4 a0_5 a0_6 true _ A13.out).mono ?_); rintro e w16 ⟨rfl, hb⟩; refine ⟨_, rfl, ?_⟩; have n0_ := Aside0.mk (zj (g := gb132) (o := .cells #[.bool true, .int .i64 a0_1, .int .i64 a0_2, .int .i64 a0_3, .int .i64 a0_4, .int .i64 a0_5, .int .i64 a0_6] 76 (0, 0)) (by (with_reducible repeat (first | refine zi ?_ _ | refine zk ?_ | refine zg ?_ _)); exact BK132.out) hb); have n1_ := Aside0.mk (zl (by repeat (first | (with_reducible first | exact HB.out | apply zc | apply zb | apply zf | refine zh ?_ GE132.out) | exact HB.out)) hb); clear BK132; clear HB; have BK132 := n0_; have HB := n1_; clear n0_ n1_; (try clear hb); (try clear hb2); (try clear hk); (try clear hi)))
      go_ret; exact ⟨by first | rfl | (simp [errW_none, errW_some] <;> rfl) | (simp [*, errW_none, errW_some] <;> rfl), by repeat (first | (with_reducible first | exact HB.out | apply zc | apply zb | apply zf | refine zh ?_ GE132.out) | exact HB.out)⟩
     ·replace c14 := Bool.eq_false_iff.mpr c14; subst c14; have H1 : (if a0_4 ≥ 1 then (if a0_4 ≤ 60 then ((bound_Valid.f kj1 a0_1 a0_2 a0_3).bind fun t134 => (some t134)) else (some false)) else (some false)) = some r := by rw [if_neg (show ¬ (false = true) by decide)] at H; exact H
      clear H; have H := H1; clear H1; by_cases c17 : a0_4 ≥ 1
      ·rw [if_pos c17] at H; have c17b0 : decide (1 ≤ a0_4) = true := decide_eq_true c17; clear c17; by_cases c18 : a0_4 ≤ 60
       ·rw [if_pos c18] at H; have c18b0 : decide (a0_4 ≤ 60) = true := decide_eq_true c18; clear c18; replace H := Option.bind_eq_some_iff.mp H; obtain ⟨t134, A190, H⟩ := H; replace H : (some t134) = some r := H; have A19 := Aside0.mk A190; clear A190; obtain rfl := Option.some.inj H; have hcz20_0 : wc.cell? ⟨gb132, 0, none⟩ = some (.bool true) := (zd BK132.out 0).trans rfl; have hcz20_1 : wc.cell? ⟨gb132, 1, none⟩ = some (.int .i64 a0_1) := (zd BK132.out 1).trans rfl; have hcz20_2 : wc.cell? ⟨gb132, 2, none⟩ = some (.int .i64 a0_2) := (zd BK132.out 2).trans rfl; have hcz20_3 : wc.cell? ⟨gb132, 3, none⟩ = some (.int .i64 a0_3) := (zd BK132.out 3).trans rfl; have hcz20_4 : wc.cell? ⟨gb132, 4, none⟩ = some (.int .i64 a0_4) := (zd BK132.out 4).trans rfl; have hcz20_5 : wc.cell? ⟨gb132, 5, none⟩ = some (.int .i64 a0_5) := (zd BK132.out 5).trans rfl; have hcz20_6 : wc.cell? ⟨gb132, 6, none⟩ = some (.int .i64 a0_6) := (zd BK132.out 6).trans rfl; have hfz20_0 := za BK132.out 0; have hfz20_1 := za BK132.out 1; have hfz20_2 := za BK132.out 2; have hfz20_3 := za BK132.out 3; have hfz20_4 := za BK132.out 4; have hfz20_5 := za BK132.out 5; have hfz20_6 := za BK132.out 6; go_wp2_with (first | ((with_reducible refine zt (f := 48) rfl ?_); refine goesL_ (some 36) rfl rfl Try.func48 (by kernel_rfl) rfl #[.agg #[.bool true, .int .i64 a0_1, .int .i64 a0_2, .int .i64 a0_3, .int .i64 a0_4, .int .i64 a0_5, .int .i64 a0_6]] rfl (by (try simp only [List.map_toArray, List.map_cons, List.map_nil]); first | done | rfl | (simp only [List.length_drop, List.length_take]; rfl)) ?_; (with_reducible refine (timesync_state_root.calls true a0_1 a0_2 a0_3 a0_4 a0_5 a0_6 false _ A13.out).mono ?_); rintro e w21 ⟨rfl, hb⟩; refine ⟨_, rfl, ?_⟩; have n0_ := Aside0.mk (zj (g := gb132) (o := .cells #[.bool true, .int .i64 a0_1, .int .i64 a0_2, .int .i64 a0_3, .int .i64 a0_4, .int .i64 a0_5, .int .i64 a0_6] 76 (0, 0)) (by (with_reducible repeat (first | refine zi ?_ _ | refine zk ?_ | refine zg ?_ _)); exact BK132.out) hb); have n1_ := Aside0.mk (zl (by repeat (first | (with_reducible first | exact HB.out | apply zc | apply zb | apply zf | refine zh ?_ GE132.out) | exact HB.out)) hb); clear BK132; clear HB; have BK132 := n0_; have HB := n1_; clear n0_ n1_; (try clear hb); (try clear hb2); (try clear hk); (try clear hi); have hcz22_0 : w21.cell? ⟨gb132, 0, none⟩ = some (.bool true) := (zd BK132.out 0).trans rfl; have hcz22_1 : w21.cell? ⟨gb132, 1, none⟩ = some (.int .i64 a0_1) := (zd BK132.out 1).trans rfl; have hcz22_2 : w21.cell? ⟨gb132, 2, none⟩ = some (.int .i64 a0_2) := (zd BK132.out 2).trans rfl; have hcz22_3 : w21.cell? ⟨gb132, 3, none⟩ = some (.int .i64 a0_3) := (zd BK132.out 3).trans rfl; have hcz22_4 : w21.cell? ⟨gb132, 4, none⟩ = some (.int .i64 a0_4) := (zd BK132.out 4).trans rfl; have hcz22_5 : w21.cell? ⟨gb132, 5, none⟩ = some (.int .i64 a0_5) := (zd BK132.out 5).trans rfl; have hcz22_6 : w21.cell? ⟨gb132, 6, none⟩ = some (.int .i64 a0_6) := (zd BK132.out 6).trans rfl; have hfz22_0 := za BK132.out 0; have hfz22_1 := za BK132.out 1; have hfz22_2 := za BK132.out 2; have hfz22_3 := za BK132.out 3; have hfz22_4 := za BK132.out 4; have hfz22_5 := za BK132.out 5; have hfz22_6 := za BK132.out 6) | (go_at_call 56; (with_reducible refine (bound_Valid.calls kj1 a0_1 a0_2 a0_3 t134 _ A19.out).mono ?_); rintro e w23 ⟨rfl, hb⟩; have n0_ := Aside0.mk (zj (g := gb132) (o := .cells #[.bool true, .int .i64 a0_1, .int .i64 a0_2, .int .i64 a0_3, .int .i64 a0_4, .int .i64 a0_5, .int .i64 a0_6] 76 (0, 0)) (by (with_reducible repeat (first | refine zi ?_ _ | refine zk ?_ | refine zg ?_ _)); exact BK132.out) hb); have n1_ := Aside0.mk (zl (by repeat (first | (with_reducible first | exact HB.out | apply zc | apply zb | apply zf | refine zh ?_ GE132.out) | exact HB.out)) hb); clear BK132; clear HB; have BK132 := n0_; have HB := n1_; clear n0_ n1_; (try clear hb); (try clear hb2); (try clear hk); (try clear hi)))
        go_ret; exact ⟨by first | rfl | (simp [errW_none, errW_some] <;> rfl) | (simp [*, errW_none, errW_some] <;> rfl), by repeat (first | (with_reducible first | exact HB.out | apply zc | apply zb | apply zf | refine zh ?_ GE132.out) | exact HB.out)⟩
       ·rw [if_neg c18] at H; have c18b0 : decide (a0_4 ≤ 60) = false := decide_eq_false c18; clear c18; obtain rfl := Option.some.inj H; have hcz24_0 : wc.cell? ⟨gb132, 0, none⟩ = some (.bool true) := (zd BK132.out 0).trans rfl; have hcz24_1 : wc.cell? ⟨gb132, 1, none⟩ = some (.int .i64 a0_1) := (zd BK132.out 1).trans rfl; have hcz24_2 : wc.cell? ⟨gb132, 2, none⟩ = some (.int .i64 a0_2) := (zd BK132.out 2).trans rfl; have hcz24_3 : wc.cell? ⟨gb132, 3, none⟩ = some (.int .i64 a0_3) := (zd BK132.out 3).trans rfl; have hcz24_4 : wc.cell? ⟨gb132, 4, none⟩ = some (.int .i64 a0_4) := (zd BK132.out 4).trans rfl; have hcz24_5 : wc.cell? ⟨gb132, 5, none⟩ = some (.int .i64 a0_5) := (zd BK132.out 5).trans rfl; have hcz24_6 : wc.cell? ⟨gb132, 6, none⟩ = some (.int .i64 a0_6) := (zd BK132.out 6).trans rfl; have hfz24_0 := za BK132.out 0; have hfz24_1 := za BK132.out 1; have hfz24_2 := za BK132.out 2; have hfz24_3 := za BK132.out 3; have hfz24_4 := za BK132.out 4; have hfz24_5 := za BK132.out 5; have hfz24_6 := za BK132.out 6; go_wp2_with (first | ((with_reducible refine zt (f := 48) rfl ?_); refine goesL_ (some 36) rfl rfl Try.func48 (by kernel_rfl) rfl #[.agg #[.bool true, .int .i64 a0_1, .int .i64 a0_2, .int .i64 a0_3, .int .i64 a0_4, .int .i64 a0_5, .int .i64 a0_6]] rfl (by (try simp only [List.map_toArray, List.map_cons, List.map_nil]); first | done | rfl | (simp only [List.length_drop, List.length_take]; rfl)) ?_; (with_reducible refine (timesync_state_root.calls true a0_1 a0_2 a0_3 a0_4 a0_5 a0_6 false _ A13.out).mono ?_); rintro e w25 ⟨rfl, hb⟩; refine ⟨_, rfl, ?_⟩; have n0_ := Aside0.mk (zj (g := gb132) (o := .cells #[.bool true, .int .i64 a0_1, .int .i64 a0_2, .int .i64 a0_3, .int .i64 a0_4, .int .i64 a0_5, .int .i64 a0_6] 76 (0, 0)) (by (with_reducible repeat (first | refine zi ?_ _ | refine zk ?_ | refine zg ?_ _)); exact BK132.out) hb); have n1_ := Aside0.mk (zl (by repeat (first | (with_reducible first | exact HB.out | apply zc | apply zb | apply zf | refine zh ?_ GE132.out) | exact HB.out)) hb); clear BK132; clear HB; have BK132 := n0_; have HB := n1_; clear n0_ n1_; (try clear hb); (try clear hb2); (try clear hk); (try clear hi); have hcz26_0 : w25.cell? ⟨gb132, 0, none⟩ = some (.bool true) := (zd BK132.out 0).trans rfl; have hcz26_1 : w25.cell? ⟨gb132, 1, none⟩ = some (.int .i64 a0_1) := (zd BK132.out 1).trans rfl; have hcz26_2 : w25.cell? ⟨gb132, 2, none⟩ = some (.int .i64 a0_2) := (zd BK132.out 2).trans rfl; have hcz26_3 : w25.cell? ⟨gb132, 3, none⟩ = some (.int .i64 a0_3) := (zd BK132.out 3).trans rfl; have hcz26_4 : w25.cell? ⟨gb132, 4, none⟩ = some (.int .i64 a0_4) := (zd BK132.out 4).trans rfl; have hcz26_5 : w25.cell? ⟨gb132, 5, none⟩ = some (.int .i64 a0_5) := (zd BK132.out 5).trans rfl; have hcz26_6 : w25.cell? ⟨gb132, 6, none⟩ = some (.int .i64 a0_6) := (zd BK132.out 6).trans rfl; have hfz26_0 := za BK132.out 0; have hfz26_1 := za BK132.out 1; have hfz26_2 := za BK132.out 2; have hfz26_3 := za BK132.out 3; have hfz26_4 := za BK132.out 4; have hfz26_5 := za BK132.out 5; have hfz26_6 := za BK132.out 6))
        go_ret; exact ⟨by first | rfl | (simp [errW_none, errW_some] <;> rfl) | (simp [*, errW_none, errW_some] <;> rfl), by repeat (first | (with_reducible first | exact HB.out | apply zc | apply zb | apply zf | refine zh ?_ GE132.out) | exact HB.out)⟩
      ·rw [if_neg c17] at H; have c17b0 : decide (1 ≤ a0_4) = false := decide_eq_false c17; clear c17; obtain rfl := Option.some.inj H; have hcz27_0 : wc.cell? ⟨gb132, 0, none⟩ = some (.bool true) := (zd BK132.out 0).trans rfl; have hcz27_1 : wc.cell? ⟨gb132, 1, none⟩ = some (.int .i64 a0_1) := (zd BK132.out 1).trans rfl; have hcz27_2 : wc.cell? ⟨gb132, 2, none⟩ = some (.int .i64 a0_2) := (zd BK132.out 2).trans rfl; have hcz27_3 : wc.cell? ⟨gb132, 3, none⟩ = some (.int .i64 a0_3) := (zd BK132.out 3).trans rfl; have hcz27_4 : wc.cell? ⟨gb132, 4, none⟩ = some (.int .i64 a0_4) := (zd BK132.out 4).trans rfl; have hcz27_5 : wc.cell? ⟨gb132, 5, none⟩ = some (.int .i64 a0_5) := (zd BK132.out 5).trans rfl; have hcz27_6 : wc.cell? ⟨gb132, 6, none⟩ = some (.int .i64 a0_6) := (zd BK132.out 6).trans rfl; have hfz27_0 := za BK132.out 0; have hfz27_1 := za BK132.out 1; have hfz27_2 := za BK132.out 2; have hfz27_3 := za BK132.out 3; have hfz27_4 := za BK132.out 4; have hfz27_5 := za BK132.out 5; have hfz27_6 := za BK132.out 6; go_wp2_with (first | ((with_reducible refine zt (f := 48) rfl ?_); refine goesL_ (some 36) rfl rfl Try.func48 (by kernel_rfl) rfl #[.agg #[.bool true, .int .i64 a0_1, .int .i64 a0_2, .int .i64 a0_3, .int .i64 a0_4, .int .i64 a0_5, .int .i64 a0_6]] rfl (by (try simp only [List.map_toArray, List.map_cons, List.map_nil]); first | done | rfl | (simp only [List.length_drop, List.length_take]; rfl)) ?_; (with_reducible refine (timesync_state_root.calls true a0_1 a0_2 a0_3 a0_4 a0_5 a0_6 false _ A13.out).mono ?_); rintro e w28 ⟨rfl, hb⟩; refine ⟨_, rfl, ?_⟩; have n0_ := Aside0.mk (zj (g := gb132) (o := .cells #[.bool true, .int .i64 a0_1, .int .i64 a0_2, .int .i64 a0_3, .int .i64 a0_4, .int .i64 a0_5, .int .i64 a0_6] 76 (0, 0)) (by (with_reducible repeat (first | refine zi ?_ _ | refine zk ?_ | refine zg ?_ _)); exact BK132.out) hb); have n1_ := Aside0.mk (zl (by repeat (first | (with_reducible first | exact HB.out | apply zc | apply zb | apply zf | refine zh ?_ GE132.out) | exact HB.out)) hb); clear BK132; clear HB; have BK132 := n0_; have HB := n1_; clear n0_ n1_; (try clear hb); (try clear hb2); (try clear hk); (try clear hi); have hcz29_0 : w28.cell? ⟨gb132, 0, none⟩ = some (.bool true) := (zd BK132.out 0).trans rfl; have hcz29_1 : w28.cell? ⟨gb132, 1, none⟩ = some (.int .i64 a0_1) := (zd BK132.out 1).trans rfl; have hcz29_2 : w28.cell? ⟨gb132, 2, none⟩ = some (.int .i64 a0_2) := (zd BK132.out 2).trans rfl; have hcz29_3 : w28.cell? ⟨gb132, 3, none⟩ = some (.int .i64 a0_3) := (zd BK132.out 3).trans rfl; have hcz29_4 : w28.cell? ⟨gb132, 4, none⟩ = some (.int .i64 a0_4) := (zd BK132.out 4).trans rfl; have hcz29_5 : w28.cell? ⟨gb132, 5, none⟩ = some (.int .i64 a0_5) := (zd BK132.out 5).trans rfl; have hcz29_6 : w28.cell? ⟨gb132, 6, none⟩ = some (.int .i64 a0_6) := (zd BK132.out 6).trans rfl; have hfz29_0 := za BK132.out 0; have hfz29_1 := za BK132.out 1; have hfz29_2 := za BK132.out 2; have hfz29_3 := za BK132.out 3; have hfz29_4 := za BK132.out 4; have hfz29_5 := za BK132.out 5; have hfz29_6 := za BK132.out 6))
       go_ret; exact ⟨by first | rfl | (simp [errW_none, errW_some] <;> rfl) | (simp [*, errW_none, errW_some] <;> rfl), by repeat (first | (with_reducible first | exact HB.out | apply zc | apply zb | apply zf | refine zh ?_ GE132.out) | exact HB.out)⟩
    ·replace c12 := Bool.eq_false_iff.mpr c12; subst c12; have H1 : (some (a0_4 == 60)) = some r := by rw [if_neg (show ¬ (false = true) by decide)] at H; exact H
     clear H; have H := H1; clear H1; obtain rfl := Option.some.inj H; have hcz30_0 : wc.cell? ⟨gb132, 0, none⟩ = some (.bool false) := (zd BK132.out 0).trans rfl; have hcz30_1 : wc.cell? ⟨gb132, 1, none⟩ = some (.int .i64 a0_1) := (zd BK132.out 1).trans rfl; have hcz30_2 : wc.cell? ⟨gb132, 2, none⟩ = some (.int .i64 a0_2) := (zd BK132.out 2).trans rfl; have hcz30_3 : wc.cell? ⟨gb132, 3, none⟩ = some (.int .i64 a0_3) := (zd BK132.out 3).trans rfl; have hcz30_4 : wc.cell? ⟨gb132, 4, none⟩ = some (.int .i64 a0_4) := (zd BK132.out 4).trans rfl; have hcz30_5 : wc.cell? ⟨gb132, 5, none⟩ = some (.int .i64 a0_5) := (zd BK132.out 5).trans rfl; have hcz30_6 : wc.cell? ⟨gb132, 6, none⟩ = some (.int .i64 a0_6) := (zd BK132.out 6).trans rfl; have hfz30_0 := za BK132.out 0; have hfz30_1 := za BK132.out 1; have hfz30_2 := za BK132.out 2; have hfz30_3 := za BK132.out 3; have hfz30_4 := za BK132.out 4; have hfz30_5 := za BK132.out 5; have hfz30_6 := za BK132.out 6; go_wp2
     go_ret; exact ⟨by first | rfl | (simp [errW_none, errW_some] <;> rfl) | (simp [*, errW_none, errW_some] <;> rfl), by repeat (first | (with_reducible first | exact HB.out | apply zc | apply zb | apply zf | refine zh ?_ GE132.out) | exact HB.out)⟩
end Go.Proofs.Ytdpihbhkghjclaa.P
end
