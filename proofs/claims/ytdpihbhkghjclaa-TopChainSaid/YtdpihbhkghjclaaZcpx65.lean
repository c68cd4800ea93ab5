/- A claim's own texts, laid together by wip/zip.py without what the claim does not use. Conditions: none. -/
import Derived.Test.YtdpihbhkghjclaaZcpx0
import Derived.Test.YtdpihbhkghjclaaZcpx1
import Derived.Test.YtdpihbhkghjclaaZcpx15
import Derived.Test.YtdpihbhkghjclaaZcpx23
import Derived.Test.YtdpihbhkghjclaaZcpx36
import Derived.Test.YtdpihbhkghjclaaZcpx51
import Derived.Test.YtdpihbhkghjclaaZcpx58
import Derived.Test.YtdpihbhkghjclaaZcpx60
import Derived.Test.YtdpihbhkghjclaaZcpx62
import Derived.Test.YtdpihbhkghjclaaZcpx63
import Derived.Test.YtdpihbhkghjclaaZcpx64
section
/- The Go functions of this claim as Lean functions, and the proofs that their calls answer so: written by wip/myprint.py over the kit's printer, hand-proved contracts laid in. Conditions: none. -/
namespace Go.Proofs.Ytdpihbhkghjclaa.P
open Go.RowKit Go.Proofs.YtdpihbhkghjclaaW.PrintWords Go.Proofs.YtdpihbhkghjclaaW.PrintLast Go.Proofs.YtdpihbhkghjclaaW.PrintMore
attribute [local go_sem] max2_int min2_int max_two min_two max_three min_three max_four min_four   -- for this text's walks alone
set_option linter.unusedVariables false
set_option linter.unusedSimpArgs false
attribute [local go_sem high] eqA25
theorem tb_ (b : Bool) : (true == b) = b := by cases b <;> rfl
theorem farb_ {a g o i : Nat} (h : a ≠ g) : (⟨a, o, none⟩ : Addr).block ≠ (⟨g, i, none⟩ : Addr).block := h
theorem fb_ (b : Bool) : (false == b) = !b := by cases b <;> rfl
/-! ### slotmeshtop_TopChain: function 4 -/
mutual
def slotmeshtop_TopChain.j0 : Nat → List (S27) → List (S42) → Int → Bool → Bool → Option (Bool)
 | 0, _, _, _, _, _ => none
 | k + 1, x0, x1, x2, x7, x38 => if x38 = true then (some x7) else ((some (([(⟨0, 0⟩ : S27)] : List (S27)) : List (S27))).bind fun y454 => (if y454.length + x0.length < 8796093022208 then (slotmeshtop_TopChain.l0 k x1 x2 x7 (y454 ++ x0) ([] : List (S25)) 0) else (none)))
def slotmeshtop_TopChain.l0 : Nat → List (S42) → Int → Bool → List (S27) → List (S25) → Int → Option (Bool)
 | 0, _, _, _, _, _, _ => none
 | k + 1, x1, x2, x7, x8, x9, x10 => if x10 < (x8.length : Int) then (if 0 ≤ x10 then ((slotmeshref07_Valid.f ((rd_T27 x8 x10).f0) ((rd_T27 x8 x10).f1)).bind fun t461 => (if t461 = true then ((timesync_Start.f (x10 == 0)).bind fun bt462 => (if x9.length < 2513169434916 then (slotmeshtop_TopChain.l0 k x1 x2 x7 x8 (x9 ++ [(⟨bt462.1, (⟨bt462.2.1, bt462.2.2.1, bt462.2.2.2.1⟩ : S23), bt462.2.2.2.2.1, bt462.2.2.2.2.2.1, bt462.2.2.2.2.2.2⟩ : S25)]) (wrap64 (x10 + 1))) else (none))) else (some x7))) else (none)) else (slotmeshtop_TopChain.l1 k x1 x7 x8 x9 (Int.tmod (wrap64 (x2)) 500000000) 0)
def slotmeshtop_TopChain.l1 : Nat → List (S42) → Bool → List (S27) → List (S25) → Int → Int → Option (Bool)
 | 0, _, _, _, _, _, _ => none
 | k + 1, x1, x7, x8, x9, x12, x13 => if x13 < (x1.length : Int) then (if 0 ≤ x13 then (if (x9.length : Int) = 0 then (none) else ((slotmeshtop_w17Catch.f k x9 x8 (wrap64 (x12 + (wrap64 (1 + (Int.tmod (wrap64 ((rd_T42 x1 x13).f2)) 2000)))))).bind fun t475 => (if x7 = true then (slotmeshtop_TopChain.j3 k x1 t475 x8 x9 (wrap64 (x12 + (wrap64 (1 + (Int.tmod (wrap64 ((rd_T42 x1 x13).f2)) 2000))))) x13 (Int.tmod (wrap64 ((rd_T42 x1 x13).f0)) (x9.length : Int)) (Int.tmod (wrap64 ((rd_T42 x1 x13).f1)) (x9.length : Int))) else (slotmeshtop_TopChain.j3 k x1 false x8 x9 (wrap64 (x12 + (wrap64 (1 + (Int.tmod (wrap64 ((rd_T42 x1 x13).f2)) 2000))))) x13 (Int.tmod (wrap64 ((rd_T42 x1 x13).f0)) (x9.length : Int)) (Int.tmod (wrap64 ((rd_T42 x1 x13).f1)) (x9.length : Int)))))) else (none)) else (some x7)
def slotmeshtop_TopChain.j3 : Nat → List (S42) → Bool → List (S27) → List (S25) → Int → Int → Int → Int → Option (Bool)
 | 0, _, _, _, _, _, _, _, _ => none
 | k + 1, x1, x7, x8, x9, x12, x13, x14, x15 => if 0 ≤ x14 then (if x14 < (x9.length : Int) then (if x14 < (x8.length : Int) then ((slotmeshtop_w17Tells.f k ((rd_T25 x9 x14).f0) ((rd_T25 x9 x14).f1.f0) ((rd_T25 x9 x14).f1.f1) ((rd_T25 x9 x14).f1.f2) ((rd_T25 x9 x14).f2) ((rd_T25 x9 x14).f3) ((rd_T25 x9 x14).f4) ((rd_T27 x8 x14).f0) ((rd_T27 x8 x14).f1) (x14 == 0) x12).bind fun bt478 => (if bt478.2.2 = true then (slotmeshtop_TopChain.j4 k x1 x7 x8 x9 x12 x13 x14 x15 bt478.1 bt478.2.1 (x14 == x15)) else (slotmeshtop_TopChain.j4 k x1 x7 x8 x9 x12 x13 x14 x15 bt478.1 bt478.2.1 true))) else (none)) else (none)) else (none)
def slotmeshtop_TopChain.j4 : Nat → List (S42) → Bool → List (S27) → List (S25) → Int → Int → Int → Int → Int → Int → Bool → Option (Bool)
 | 0, _, _, _, _, _, _, _, _, _, _, _ => none
 | k + 1, x1, x7, x8, x9, x12, x13, x14, x15, x17, x18, x131 => if x131 = true then (slotmeshtop_TopChain.l1 k x1 x7 x8 x9 x12 (wrap64 (x13 + 1))) else (if 0 ≤ x15 then (if x15 < (x8.length : Int) then ((clock_Show.f ((rd_T27 x8 x15).f0) ((rd_T27 x8 x15).f1) (wrap64 ((wrap64 (x12 * 10000)) + x17))).bind fun bt482 => (if x15 < (x9.length : Int) then (if 0 ≤ x14 then (if x14 < (x9.length : Int) then ((timesync_Hear.f k ((rd_T25 x9 x15).f0) ((rd_T25 x9 x15).f1.f0) ((rd_T25 x9 x15).f1.f1) ((rd_T25 x9 x15).f1.f2) ((rd_T25 x9 x15).f2) ((rd_T25 x9 x15).f3) ((rd_T25 x9 x15).f4) x14 ((rd_T25 x9 x14).f2) x18 x12 bt482.1).bind fun bt486 => (if bt482.2 = 0 then (slotmeshtop_TopChain.j5 k x1 x7 x8 x9 x12 x13 x14 x15 (wrap64 ((wrap64 (x12 * 10000)) + x17)) bt482.1 (bt486.2.2.2.2.2.2.2 != 0) bt486.1 bt486.2.1 bt486.2.2.1 bt486.2.2.2.1 bt486.2.2.2.2.1 bt486.2.2.2.2.2.1 bt486.2.2.2.2.2.2.1) else (none))) else (none)) else (none)) else (none))) else (none)) else (none))
def slotmeshtop_TopChain.j5 : Nat → List (S42) → Bool → List (S27) → List (S25) → Int → Int → Int → Int → Int → Int → Bool → Bool → Int → Int → Int → Int → Int → Int → Option (Bool)
 | 0, _, _, _, _, _, _, _, _, _, _, _, _, _, _, _, _, _, _ => none
 | k + 1, x1, x7, x8, x9, x12, x13, x14, x15, x20, x21, x168, x495000, x495001, x495002, x495003, x495004, x495005, x495006 => if x168 = true then (none) else (if x7 = true then (if 0 ≤ x15 then (if x15 < (x9.length : Int) then (if (x495000 == ((rd_T25 x9 x15).f0) && ((x495001 == ((rd_T25 x9 x15).f1.f0) && (x495002 == ((rd_T25 x9 x15).f1.f1) && (x495003 == ((rd_T25 x9 x15).f1.f2)))) && (x495004 == ((rd_T25 x9 x15).f2) && (x495005 == ((rd_T25 x9 x15).f3) && (x495006 == ((rd_T25 x9 x15).f4)))))) = true then (slotmeshtop_TopChain.j6 k x1 true x8 x9 x12 x13 x15 x21 x495000 x495001 x495002 x495003 x495004 x495005 x495006) else (if x495000 = true then ((R8_True.f x495001 x495002 x495003 x20 x21).bind fun t496 => (if t496 = true then (if 0 ≤ x14 then (if x14 < (x9.length : Int) then (slotmeshtop_TopChain.j6 k x1 (x495004 == (wrap64 (((rd_T25 x9 x14).f2) + 1))) x8 x9 x12 x13 x15 x21 x495000 x495001 x495002 x495003 x495004 x495005 x495006) else (none)) else (none)) else (slotmeshtop_TopChain.j6 k x1 false x8 x9 x12 x13 x15 x21 x495000 x495001 x495002 x495003 x495004 x495005 x495006))) else (slotmeshtop_TopChain.j6 k x1 false x8 x9 x12 x13 x15 x21 x495000 x495001 x495002 x495003 x495004 x495005 x495006))) else (none)) else (none)) else (slotmeshtop_TopChain.j6 k x1 false x8 x9 x12 x13 x15 x21 x495000 x495001 x495002 x495003 x495004 x495005 x495006))
def slotmeshtop_TopChain.j6 : Nat → List (S42) → Bool → List (S27) → List (S25) → Int → Int → Int → Int → Bool → Int → Int → Int → Int → Int → Int → Option (Bool)
 | 0, _, _, _, _, _, _, _, _, _, _, _, _, _, _, _ => none
 | k + 1, x1, x7, x8, x9, x12, x13, x15, x21, x495000, x495001, x495002, x495003, x495004, x495005, x495006 => (timesync_Tick.f k x495000 x495001 x495002 x495003 x495004 x495005 x495006 x21).bind fun bt498 => (if 0 ≤ x15 then (if x15 < (x9.length : Int) then (slotmeshtop_TopChain.l1 k x1 x7 x8 (x9.set (x15 : Int).toNat (⟨bt498.1, (⟨bt498.2.1, bt498.2.2.1, bt498.2.2.2.1⟩ : S23), bt498.2.2.2.2.1, bt498.2.2.2.2.2.1, bt498.2.2.2.2.2.2⟩ : S25)) x12 (wrap64 (x13 + 1))) else (none)) else (none))
end
def slotmeshtop_TopChain.f (k : Nat) (l0 : List (S27)) (l1 : List (S42)) (a2 : Int) : Option (Bool) := (slotmeshtop_w17Time.f k).bind fun t453 => (if (l0.length : Int) = 0 then (slotmeshtop_TopChain.j0 k l0 l1 a2 t453 true) else (if (l0.length : Int) > 6 then (slotmeshtop_TopChain.j0 k l0 l1 a2 t453 true) else (slotmeshtop_TopChain.j0 k l0 l1 a2 t453 (decide ((l1.length : Int) > 60)))))
def slotmeshtop_TopChain.T22 : Bool × List (List Nat × List Nat) := (true, [([], []), ([], []), ([0, 1], [0, 1]), ([2], [2]), ([], []), ([], []), ([4, 5], [4, 5]), ([6], [6]), ([], []), ([8], [8]), ([], []), ([3, 7, 9, 10], [3, 7, 9, 10]), ([11], [11]), ([12], [12]), ([12], [12]), ([12], [12]), ([13, 11, 0, 1, 2, 3, 4, 5, 6, 7, 8, 9, 10, 11, 12, 13], [13]), ([14, 16, 0, 1, 2, 3, 4, 5, 6, 7, 8, 9, 10, 11, 12, 13, 14, 16], [14]), ([15, 17, 0, 1, 2, 3, 4, 5, 6, 7, 8, 9, 10, 11, 12, 13, 14, 15, 16, 17], [15])])
def slotmeshtop_TopChain.B22 : List Nat := [0, 0, 3, 7, 0, 0, 48, 112, 0, 256, 0, 2047, 4095, 8191, 8191, 8191, 16383, 98303, 262143]
theorem slotmeshtop_TopChain.tab22 : rtab .any (opsOf Try.f4 22) = slotmeshtop_TopChain.T22 := by kernel_rfl
theorem slotmeshtop_TopChain.bits22 : waitsOk slotmeshtop_TopChain.T22.2 slotmeshtop_TopChain.B22 = true := by kernel_rfl
def slotmeshtop_TopChain.T26 : Bool × List (List Nat × List Nat) := (true, [([], []), ([], []), ([0, 1], [0, 1]), ([2], [2]), ([], []), ([], []), ([], []), ([5, 6], [5, 6]), ([7], [7]), ([8], [8]), ([], []), ([], []), ([], []), ([4, 9, 10, 11, 12], [4, 9, 10, 11, 12]), ([3, 13], [3, 13]), ([14], [14]), ([15], [15]), ([15], [15]), ([], []), ([18, 16, 14, 0, 1, 2, 3, 4, 5, 6, 7, 8, 9, 10, 11, 12, 13, 14, 15, 16, 18], [16, 18]), ([17, 19, 0, 1, 2, 3, 4, 5, 6, 7, 8, 9, 10, 11, 12, 13, 14, 15, 16, 17, 18, 19], [17])])
def slotmeshtop_TopChain.B26 : List Nat := [0, 0, 3, 7, 0, 0, 0, 96, 224, 480, 0, 0, 0, 8176, 16383, 32767, 65535, 65535, 0, 393215, 1048575]
theorem slotmeshtop_TopChain.tab26 : rtab .any (opsOf Try.f4 26) = slotmeshtop_TopChain.T26 := by kernel_rfl
theorem slotmeshtop_TopChain.bits26 : waitsOk slotmeshtop_TopChain.T26.2 slotmeshtop_TopChain.B26 = true := by kernel_rfl
def slotmeshtop_TopChain.T29 : Bool × List (List Nat × List Nat) := (true, [([], []), ([0], [0]), ([1], [1]), ([1], [1]), ([1], [1]), ([3, 4, 1], [1, 3, 4]), ([5, 1], [1, 5]), ([2, 6, 1], [1, 2, 6]), ([7, 1, 1], [1, 7]), ([8], [8]), ([9, 8], [8, 9]), ([10, 8, 8], [8, 10]), ([11], [11]), ([12, 11], [11, 12]), ([11], [11]), ([11], [11]), ([13, 14, 15, 11, 11], [11, 13, 14, 15]), ([11, 16, 8], [8, 11, 16]), ([17, 16, 8], [8, 17]), ([18], [18]), ([19, 18], [18, 19]), ([18], [18]), ([18], [18]), ([21, 22, 18], [18, 21, 22]), ([23, 18], [18, 23]), ([24, 18], [18, 24]), ([25, 18], [18, 25]), ([20, 26, 18], [18, 20, 26]), ([18, 27, 8], [8, 18, 27]), ([8, 28, 1], [1, 8, 28]), ([1, 29], [1, 29]), ([30, 18, 0, 1, 2, 3, 4, 5, 6, 7, 8, 9, 10, 11, 12, 13, 14, 15, 16, 17, 18, 19, 20, 21, 22, 23, 24, 25, 26, 27, 28, 29, 30], [0, 30])])
def slotmeshtop_TopChain.B29 : List Nat := [0, 1, 3, 3, 3, 27, 59, 127, 255, 511, 1023, 2047, 4095, 8191, 4095, 4095, 65535, 131071, 262143, 524287, 1048575, 524287, 524287, 6815743, 15204351, 31981567, 65535999, 134217727, 268435455, 536870911, 1073741823, 2147483647]
theorem slotmeshtop_TopChain.tab29 : rtab .any (opsOf Try.f4 29) = slotmeshtop_TopChain.T29 := by kernel_rfl
theorem slotmeshtop_TopChain.bits29 : waitsOk slotmeshtop_TopChain.T29.2 slotmeshtop_TopChain.B29 = true := by kernel_rfl
set_option maxHeartbeats 60000000 in
set_option maxRecDepth 100000 in
theorem slotmeshtop_TopChain.calls (k : Nat) (A0 : Option Addr) (c0 : Nat) (l0 : List (S27)) (A1 : Option Addr) (c1 : Nat) (l1 : List (S42)) (a2 : Int) (r : Bool) (w : World) (hr0 : Kd.C k27 w A0 l0.length l0) (hc0 : l0.length ≤ c0) (hr1 : Kd.C k42 w A1 l1.length l1) (hc1 : l1.length ≤ c1) (h : slotmeshtop_TopChain.f k l0 l1 a2 = some r) :
  Calls Try.prog 4 #[.slice A0 l0.length c0, .slice A1 l1.length c1, .int .u32 a2] w fun e w' => e = .returned (.bool r) ∧ Below w.heap.size w w' := by
 have hu27 := Try.underlying27; have hu25 := Try.underlying25; have hu50 := Try.underlying50; have hu23 := Try.underlying23; have HR0 := Aside0.mk hr0; have HC0 := Aside0.mk hc0; clear hr0 hc0; have HR1 := Aside0.mk hr1; have HC1 := Aside0.mk hc1; clear hr1 hc1; have HB := Aside0.mk (Below.refl w.heap.size w); have H : ((slotmeshtop_w17Time.f k).bind fun t453 => (if (l0.length : Int) = 0 then (slotmeshtop_TopChain.j0 k l0 l1 a2 t453 true) else (if (l0.length : Int) > 6 then (slotmeshtop_TopChain.j0 k l0 l1 a2 t453 true) else (slotmeshtop_TopChain.j0 k l0 l1 a2 t453 (decide ((l1.length : Int) > 60)))))) = some r := h; clear h; replace H := Option.bind_eq_some_iff.mp H; obtain ⟨t453, A40, H⟩ := H; replace H : (if (l0.length : Int) = 0 then (slotmeshtop_TopChain.j0 k l0 l1 a2 t453 true) else (if (l0.length : Int) > 6 then (slotmeshtop_TopChain.j0 k l0 l1 a2 t453 true) else (slotmeshtop_TopChain.j0 k l0 l1 a2 t453 (decide ((l1.length : Int) > 60))))) = some r := H; have A4 := Aside0.mk A40; clear A40; have HC5 := Aside0.mk H; clear H; go_enter Try.func4, Try.ntmps4
 go_upto_region 2 with (first | ((with_reducible refine zt (f := 12) rfl ?_); refine goesL_ (some 25) rfl rfl Try.func12 (by kernel_rfl) rfl #[] rfl (by (try simp only [List.map_toArray, List.map_cons, List.map_nil]); first | done | rfl | (simp only [List.length_drop, List.length_take]; rfl)) ?_; (with_reducible refine (slotmeshtop_w17Time.calls k  t453 _ A4.out).mono ?_); rintro e w6 ⟨rfl, hb⟩; refine ⟨_, rfl, ?_⟩; have n0_ := Aside0.mk (zl (by repeat (first | (with_reducible first | exact HB.out | apply zc | apply zb | apply zf) | exact HB.out)) hb); clear HB; have HB := n0_; clear n0_; (try clear hb); (try clear hb2); (try clear hk); (try clear hi)))
 (try simp only [Act.put, List.setIfInBounds_toArray, List.set_cons_zero, List.set_cons_succ])
 go_cut [38] (fun v38 wc => ∃ (kq : Nat) (x38_4 : Bool), v38 = .bool x38_4 ∧ Aside0 (slotmeshtop_TopChain.j0 kq l0 l1 a2 t453 x38_4 = some r) ∧ Aside0 (kq ≤ k) ∧ Aside0 (Below w.heap.size w wc))
 case first =>
  have H := HC5.out; clear HC5; by_cases c7 : (l0.length : Int) = 0
  ·rw [if_pos c7] at H; have c7b0 : ((l0.length : Int) == 0) = true := beq_iff_eq.mpr c7; have c7b1 : ((l0.length : Int) != 0) = false := bne_eq_false_iff_eq.mpr c7; clear c7; (first | rw [c7b0] | (simp only [zr, zs]; rw [c7b0]) | skip)
   have H' := Aside0.mk H; clear H; go_wp2
   go_meet
   case rel => exact ⟨_, (true), (by first | rfl | (simp; done) | (simp [*]; done)), H', ⟨by first | omega | exact Nat.le_refl _⟩, ⟨by repeat (first | (with_reducible first | exact HB.out | apply zc | apply zb | apply zf) | exact HB.out)⟩⟩
  ·rw [if_neg c7] at H; have c7b0 : ((l0.length : Int) == 0) = false := beq_eq_false_iff_ne.mpr c7; have c7b1 : ((l0.length : Int) != 0) = true := bne_iff_ne.mpr c7; have c7b2 : ¬ (l0 = []) := fun h_ => c7 (by rw [h_]; rfl)
   (first | rw [c7b0] | (simp only [zr, zs]; rw [c7b0]) | skip)
   by_cases c8 : (l0.length : Int) > 6
   ·rw [if_pos c8] at H; have c8b0 : decide (6 < (l0.length : Int)) = true := decide_eq_true c8; have c8b1 : decide (6 < l0.length) = true := decide_eq_true (by omega); clear c8; have H' := Aside0.mk H; clear H; go_wp2
    go_meet
    case rel => exact ⟨_, (true), (by first | rfl | (simp; done) | (simp [*]; done)), H', ⟨by first | omega | exact Nat.le_refl _⟩, ⟨by repeat (first | (with_reducible first | exact HB.out | apply zc | apply zb | apply zf) | exact HB.out)⟩⟩
   ·rw [if_neg c8] at H; have c8b0 : decide (6 < (l0.length : Int)) = false := decide_eq_false c8; have c8b1 : decide (6 < l0.length) = false := decide_eq_false (by omega); clear c8; have H' := Aside0.mk H; clear H; go_wp2
    go_meet
    case rel => exact ⟨_, (decide ((l1.length : Int) > 60)), (by first | rfl | (simp; done) | (simp [*]; done)), H', ⟨by first | omega | exact Nat.le_refl _⟩, ⟨by repeat (first | (with_reducible first | exact HB.out | apply zc | apply zb | apply zf) | exact HB.out)⟩⟩
 case rest =>
  clear HC5; try clear c1
  try clear p2
  try clear c4
  try clear c7
  try clear c7b0
  try clear c7b1
  try clear c7b2
  try clear c8
  try clear c8b0
  try clear c8b1
  obtain ⟨kq, x38_4, rfl, HA, HJ4, HB⟩ := hcut; cases kq with
  | zero => exact absurd HA.out (by simp [slotmeshtop_TopChain.j0])
  | succ kj4 =>
   have H := HA.out; clear HA; simp only [slotmeshtop_TopChain.j0] at H; by_cases c9 : x38_4 = true
   ·subst c9; have H1 : (some t453) = some r := by rw [if_pos rfl] at H; exact H
    clear H; have H := H1; clear H1; obtain rfl := Option.some.inj H; go_wp2
    go_ret; exact ⟨by first | rfl | (simp [errW_none, errW_some] <;> rfl) | (simp [*, errW_none, errW_some] <;> rfl), by repeat (first | (with_reducible first | exact HB.out | apply zc | apply zb | apply zf) | exact HB.out)⟩
   ·replace c9 := Bool.eq_false_iff.mpr c9; subst c9; have H1 : ((some (([(⟨0, 0⟩ : S27)] : List (S27)) : List (S27))).bind fun y454 => (if y454.length + l0.length < 8796093022208 then (slotmeshtop_TopChain.l0 kj4 l1 a2 t453 (y454 ++ l0) ([] : List (S25)) 0) else (none))) = some r := by rw [if_neg (show ¬ (false = true) by decide)] at H; exact H
    clear H; have H := H1; clear H1; obtain ⟨y454, hy454⟩ : ∃ y_ : List (S27), y_ = (([(⟨0, 0⟩ : S27)] : List (S27))) := ⟨_, rfl⟩; replace H : (if y454.length + l0.length < 8796093022208 then (slotmeshtop_TopChain.l0 kj4 l1 a2 t453 (y454 ++ l0) ([] : List (S25)) 0) else (none)) = some r := by first | (rw [hy454]; with_reducible exact H) | (have H2_ := (Option.bind_some _ _).symm.trans H; rw [hy454]; with_reducible exact H2_) | (have H2_ := (Option.bind_some _ _).symm.trans H; with_reducible exact H2_) | with_reducible exact H | (rw [hy454]; exact H) | exact H
    have Ny454 := Aside0.mk hy454; clear hy454; by_cases c10 : y454.length + l0.length < 8796093022208
    ·rw [if_pos c10] at H; have LMc10 := Aside0.mk c10; clear c10; obtain ⟨y457, hy457⟩ : ∃ y_ : List (S27), y_ = (y454 ++ l0) := ⟨_, rfl⟩; replace H : (slotmeshtop_TopChain.l0 kj4 l1 a2 t453 y457 ([] : List (S25)) 0) = some r := by first | (rw [hy457]; with_reducible exact H) | (have H2_ := (Option.bind_some _ _).symm.trans H; rw [hy457]; with_reducible exact H2_) | (have H2_ := (Option.bind_some _ _).symm.trans H; with_reducible exact H2_) | with_reducible exact H | (rw [hy457]; exact H) | exact H
     have Ny457 := Aside0.mk hy457; clear hy457; have H' := Aside0.mk H; clear H; go_wp2_with (first | ((with_reducible refine zx (N := 41) rfl ?_); (try (refine gate_guard (by rfl) ?_; dsimp only)); refine Kd.R_lit k27 _ 27 ?hg (N := 41) ?hd (xs := ([(⟨0, 0⟩ : S27)] : List (S27))) (inner := [.int .i64 0, .int .i64 0]) (ok := fun _ => True) (okp := fun _ => True) ?hr ?hp (fun _ hk => hk) trivial (Below.refl _ _) (Nat.le_refl _) (by simp) ?_; (case hd => rfl); (case hg => rfl); (case hr => first | (go_simp; done) | (go_simp; rfl)); (case hp => exact (Reps.c2 (show Kd.M k27 _ _ _ (⟨0, 0⟩ : S27) [.int .i64 0, .int .i64 0] from (k27_mkM _ _ _ (⟨0, 0⟩ : S27) )) (Reps.none _ _))); intro v455 w11 ho12 hb hg_ hnew_; clear hg_ hnew_; (first | rw [← Ny454.out] at ho12 | (simp only [Int.reduceToNat] at ho12; rw [← Ny454.out] at ho12)); have n0_ := Aside0.mk (Kd.R_lower ho12 (zn (by repeat (first | (with_reducible first | exact HB.out | apply zc | apply zb | apply zf) | exact HB.out)))); have n1_ := Aside0.mk (zl (by repeat (first | (with_reducible first | exact HB.out | apply zc | apply zb | apply zf) | exact HB.out)) hb); clear HB; have HO456 := n0_; have HB := n1_; clear n0_ n1_; clear hb ho12) | ((with_reducible refine gate_builtin (b := .append) (xs := #[.tmp 41, .tmp 42]) rfl ?_); (try (refine gate_guard (by rfl) ?_; dsimp only)); at_builtin; refine Kd.R_append_rows k27 (w0 := w) w.heap.size rfl (.tmp 41) (.tmp 42) 34 27 (.agg #[(.int .i64 0), (.int .i64 0)]) 16 rfl Try.underlying34 info27 rfl (by decide) (by omega) v455 y454 l0 _ _ _ (fun _ => True) (fun _ => False) rfl rfl ?aO ?aR (fun _ _ h => h) (fun _ h => h.elim) ?aF ?aB ?aS ?aL ?_; (case aR => repeat (first | exact (Kd.C_below HR0.out HB.out) | (with_reducible refine Kd.C_alloc ?_ _) | (with_reducible refine Kd.C_drewN ?_ _) | (with_reducible refine Kd.C_drew ?_))); (case aB => exact (by repeat (first | (with_reducible first | exact HB.out | apply zc | apply zb | apply zf) | exact HB.out))); (case aF => exact (fun _ _ => trivial)); (case aO => exact (by (with_reducible repeat (first | apply Kd.R_alloc | apply Kd.R_drewN | apply Kd.R_drew)); exact HO456.out)); (case aS => exact (zn (by repeat (first | (with_reducible first | exact HB.out | apply zc | apply zb | apply zf) | exact HB.out)))); (case aL => have := LMc10.out; omega); intro v458 w13 ho hb hg hat; rw [← Ny457.out] at ho; have n0_ := Aside0.mk (hb); have n1_ := Aside0.mk (ho); clear HB; clear HO456; have HB := n0_; have HO459 := n1_; clear n0_ n1_; clear ho hb hg hat))
     go_loopg [9, 10] kj4 (fun kq v9 v10 w' => ∃ (x9_2 : List (S25)) (x10_2 : Int), v10 = .int .i64 x10_2 ∧ Aside0 (slotmeshtop_TopChain.l0 kq l1 a2 t453 y457 x9_2 x10_2 = some r) ∧ Aside0 (kq ≤ kj4) ∧ Aside0 (Kd.R k27 27 w' w.heap.size (fun _ => True) v458 y457) ∧ Aside0 (Kd.R k25 25 w' w.heap.size (fun _ => True) v9 x9_2) ∧ Aside0 (Below w.heap.size w w'))
     case atStart => exact ⟨(([] : List (S25))), (0), (by first | rfl | (simp; done) | (simp [*]; done)), H', ⟨Nat.le_refl _⟩, ⟨by (with_reducible repeat (first | apply Kd.R_alloc | apply Kd.R_drewN | apply Kd.R_drew)); exact HO459.out⟩, ⟨by first | exact Kd.R_nil _ _ _ _ _ | exact Kd.N_nil _ _ _ _ _ | exact Kd.V_nil _ _ _ _ _ | exact Kd.Q_nil _ _ _ _ _ | exact Kd.S_nil _ _ _ _ _⟩, ⟨by repeat (first | (with_reducible first | exact HB.out | apply zc | apply zb | apply zf) | exact HB.out)⟩⟩
     case round =>
      clear H'; try clear c1
      try clear c2
      try clear p2
      try clear c4
      try clear c7
      try clear c7b0
      try clear c7b1
      try clear c7b2
      try clear c8
      try clear c8b0
      try clear c8b1
      try clear c9
      try clear c10
      try clear c12
      try clear p2
      obtain ⟨x9_2, x10_2, rfl, HA, HK2, HO_8, HO_9, HB⟩ := hrel; cases gk with
      | zero => exact absurd HA.out (by simp [slotmeshtop_TopChain.l0])
      | succ k2 =>
       have H := HA.out; clear HA; simp only [slotmeshtop_TopChain.l0] at H; by_cases c14 : x10_2 < (y457.length : Int)
       ·rw [if_pos c14] at H; have c14b0 : decide (x10_2 < (y457.length : Int)) = true := decide_eq_true c14; clear c14; by_cases c15 : 0 ≤ x10_2
        ·rw [if_pos c15] at H; have c15b0 : decide (0 ≤ x10_2) = true := decide_eq_true c15; clear c15; replace H := Option.bind_eq_some_iff.mp H; obtain ⟨t461, A160, H⟩ := H; replace H : (if t461 = true then ((timesync_Start.f (x10_2 == 0)).bind fun bt462 => (if x9_2.length < 2513169434916 then (slotmeshtop_TopChain.l0 k2 l1 a2 t453 y457 (x9_2 ++ [(⟨bt462.1, (⟨bt462.2.1, bt462.2.2.1, bt462.2.2.2.1⟩ : S23), bt462.2.2.2.2.1, bt462.2.2.2.2.2.1, bt462.2.2.2.2.2.2⟩ : S25)]) (wrap64 (x10_2 + 1))) else (none))) else (some t453)) = some r := H; have A16 := Aside0.mk A160; clear A160; by_cases c17 : t461 = true
         ·subst c17; have H1 : ((timesync_Start.f (x10_2 == 0)).bind fun bt462 => (if x9_2.length < 2513169434916 then (slotmeshtop_TopChain.l0 k2 l1 a2 t453 y457 (x9_2 ++ [(⟨bt462.1, (⟨bt462.2.1, bt462.2.2.1, bt462.2.2.2.1⟩ : S23), bt462.2.2.2.2.1, bt462.2.2.2.2.2.1, bt462.2.2.2.2.2.2⟩ : S25)]) (wrap64 (x10_2 + 1))) else (none))) = some r := by rw [if_pos rfl] at H; exact H
          clear H; have H := H1; clear H1; replace H := Option.bind_eq_some_iff.mp H; obtain ⟨⟨t462, t463, t464, t465, t466, t467, t468⟩, A180, H⟩ := H; replace H : (if x9_2.length < 2513169434916 then (slotmeshtop_TopChain.l0 k2 l1 a2 t453 y457 (x9_2 ++ [(⟨t462, (⟨t463, t464, t465⟩ : S23), t466, t467, t468⟩ : S25)]) (wrap64 (x10_2 + 1))) else (none)) = some r := H; have A18 := Aside0.mk A180; clear A180; by_cases c19 : x9_2.length < 2513169434916
          ·rw [if_pos c19] at H; have LMc19 := Aside0.mk c19; clear c19; obtain ⟨y469, hy469⟩ : ∃ y_ : List (S25), y_ = (x9_2 ++ [(⟨t462, (⟨t463, t464, t465⟩ : S23), t466, t467, t468⟩ : S25)]) := ⟨_, rfl⟩; replace H : (slotmeshtop_TopChain.l0 k2 l1 a2 t453 y457 y469 (wrap64 (x10_2 + 1))) = some r := by first | (rw [hy469]; with_reducible exact H) | (have H2_ := (Option.bind_some _ _).symm.trans H; rw [hy469]; with_reducible exact H2_) | (have H2_ := (Option.bind_some _ _).symm.trans H; with_reducible exact H2_) | with_reducible exact H | (rw [hy469]; exact H) | exact H
           have Ny469 := Aside0.mk hy469; clear hy469; have H' := Aside0.mk H; clear H; obtain ⟨Ao20, co20, eo20⟩ := Kd.R_slice HO_8.out; subst eo20; have p460 : 0 ≤ (x10_2 : Int) := of_decide_eq_true (by first | (with_reducible assumption) | assumption); have q460 : x10_2 < (y457.length : Int) := of_decide_eq_true (by first | (with_reducible assumption) | assumption); obtain ⟨ad460, e460, hx460_0, hx460_1⟩ := at_T27 (Kd.R_reads' HO_8.out).2.2 x10_2 p460 q460; cases e460
           replace p460 := eq_true p460; replace q460 := eq_true q460; go_wp2_with (first | ((with_reducible refine zt (f := 15) rfl ?_); refine goesL_ (some 54) rfl rfl Try.func15 (by kernel_rfl) rfl #[.agg #[.int .i64 ((rd_T27 y457 x10_2).f0), .int .i64 ((rd_T27 y457 x10_2).f1)]] rfl (by (try simp only [List.map_toArray, List.map_cons, List.map_nil]); first | done | rfl | (simp only [List.length_drop, List.length_take]; rfl)) ?_; (with_reducible refine (slotmeshref07_Valid.calls ((rd_T27 y457 x10_2).f0) ((rd_T27 y457 x10_2).f1) true _ A16.out).mono ?_); rintro e w21 ⟨rfl, hb⟩; refine ⟨_, rfl, ?_⟩; have n0_ := Aside0.mk (Kd.R_below (by (with_reducible repeat (first | apply Kd.R_alloc | apply Kd.R_drewN | apply Kd.R_drew)); exact HO_8.out) hb); have n1_ := Aside0.mk (Kd.R_below (by (with_reducible repeat (first | apply Kd.R_alloc | apply Kd.R_drewN | apply Kd.R_drew)); exact HO_9.out) hb); have n2_ := Aside0.mk (zl (by repeat (first | (with_reducible first | exact HB.out | apply zc | apply zb | apply zf) | exact HB.out)) hb); clear HO_8; clear HO_9; clear HB; have HO_8 := n0_; have HO_9 := n1_; have HB := n2_; clear n0_ n1_ n2_; (try clear hb); (try clear hb2); (try clear hk); (try clear hi)) | ((with_reducible refine zt (f := 16) rfl ?_); refine goesL_ (some 61) rfl rfl Try.func16 (by kernel_rfl) rfl #[.bool (x10_2 == 0)] rfl (by (try simp only [List.map_toArray, List.map_cons, List.map_nil]); first | done | rfl | (simp only [List.length_drop, List.length_take]; rfl)) ?_; (with_reducible refine (timesync_Start.calls (x10_2 == 0) t462 t463 t464 t465 t466 t467 t468 _ A18.out).mono ?_); rintro e w22 ⟨rfl, hb⟩; refine ⟨_, rfl, ?_⟩; have n0_ := Aside0.mk (Kd.R_below (by (with_reducible repeat (first | apply Kd.R_alloc | apply Kd.R_drewN | apply Kd.R_drew)); exact HO_8.out) hb); have n1_ := Aside0.mk (Kd.R_below (by (with_reducible repeat (first | apply Kd.R_alloc | apply Kd.R_drewN | apply Kd.R_drew)); exact HO_9.out) hb); have n2_ := Aside0.mk (zl (by repeat (first | (with_reducible first | exact HB.out | apply zc | apply zb | apply zf) | exact HB.out)) hb); clear HO_8; clear HO_9; clear HB; have HO_8 := n0_; have HO_9 := n1_; have HB := n2_; clear n0_ n1_ n2_; (try clear hb); (try clear hb2); (try clear hk); (try clear hi)) | ((with_reducible refine gate_builtin (b := .append) (xs := #[.tmp 58, .tmp 62]) rfl ?_); (try (refine gate_guard (by rfl) ?_; dsimp only)); at_builtin; refine Kd.R_append k25 (w0 := w) w.heap.size rfl (.tmp 58) (.tmp 62) 37 25 (.agg #[(.bool false), (.int .i64 0), (.int .i64 0), (.int .i64 0), (.int .i64 0), (.int .i64 0), (.int .i64 0)]) 56 rfl Try.underlying37 info25 rfl (by decide) (by omega) u9 x9_2 (⟨t462, (⟨t463, t464, t465⟩ : S23), t466, t467, t468⟩ : S25) [.bool t462, .int .i64 t463, .int .i64 t464, .int .i64 t465, .int .i64 t466, .int .i64 t467, .int .i64 t468] (fun _ => True) (fun _ => False) rfl rfl ?aP (fun _ hk => hk.elim) ?aF ?aO ?aB ?aS ?aL ?_; (case aP => exact k25_mkM _ _ _ (⟨t462, (⟨t463, t464, t465⟩ : S23), t466, t467, t468⟩ : S25)); (case aB => exact (by repeat (first | (with_reducible first | exact HB.out | apply zc | apply zb | apply zf) | exact HB.out))); (case aF => exact (fun _ _ => trivial)); (case aO => exact (by (with_reducible repeat (first | apply Kd.R_alloc | apply Kd.R_drewN | apply Kd.R_drew)); exact HO_9.out)); (case aS => exact (zn (by repeat (first | (with_reducible first | exact HB.out | apply zc | apply zb | apply zf) | exact HB.out)))); (case aL => have := LMc19.out; omega); intro v470 w23 ho hb hg hat; rw [← Ny469.out] at ho; have n0_ := Aside0.mk (Kd.R_over' (by (with_reducible repeat (first | apply Kd.R_alloc | apply Kd.R_drewN | apply Kd.R_drew)); exact HO_8.out) (Kd.R_typed (by (with_reducible repeat (first | apply Kd.R_alloc | apply Kd.R_drewN | apply Kd.R_drew)); exact HO_9.out)) (by decide) hg); have n1_ := Aside0.mk (hb); have n2_ := Aside0.mk (ho); clear HO_8; clear HB; clear HO_9; have HO_8 := n0_; have HB := n1_; have HO471 := n2_; clear n0_ n1_ n2_; clear ho hb hg hat))
           go_roundg k2
           case measure => have := HJ4.out; have := HK2.out; omega
           case rel => exact ⟨(y469), (wrap64 (x10_2 + 1)), (by first | rfl | (simp; done) | (simp [*]; done)), H', ⟨by have := HJ4.out; have := HK2.out; omega⟩, ⟨by (with_reducible repeat (first | apply Kd.R_alloc | apply Kd.R_drewN | apply Kd.R_drew)); exact HO_8.out⟩, ⟨by (with_reducible repeat (first | apply Kd.R_alloc | apply Kd.R_drewN | apply Kd.R_drew)); exact HO471.out⟩, ⟨by repeat (first | (with_reducible first | exact HB.out | apply zc | apply zb | apply zf) | exact HB.out)⟩⟩
          ·rw [if_neg c19] at H; exact absurd H (by simp)
         ·replace c17 := Bool.eq_false_iff.mpr c17; subst c17; have H1 : (some t453) = some r := by rw [if_neg (show ¬ (false = true) by decide)] at H; exact H
          clear H; have H := H1; clear H1; obtain rfl := Option.some.inj H; obtain ⟨Ao24, co24, eo24⟩ := Kd.R_slice HO_8.out; subst eo24; have p460 : 0 ≤ (x10_2 : Int) := of_decide_eq_true (by first | (with_reducible assumption) | assumption); have q460 : x10_2 < (y457.length : Int) := of_decide_eq_true (by first | (with_reducible assumption) | assumption); obtain ⟨ad460, e460, hx460_0, hx460_1⟩ := at_T27 (Kd.R_reads' HO_8.out).2.2 x10_2 p460 q460; cases e460
          replace p460 := eq_true p460; replace q460 := eq_true q460; go_wp2_with (first | ((with_reducible refine zt (f := 15) rfl ?_); refine goesL_ (some 54) rfl rfl Try.func15 (by kernel_rfl) rfl #[.agg #[.int .i64 ((rd_T27 y457 x10_2).f0), .int .i64 ((rd_T27 y457 x10_2).f1)]] rfl (by (try simp only [List.map_toArray, List.map_cons, List.map_nil]); first | done | rfl | (simp only [List.length_drop, List.length_take]; rfl)) ?_; (with_reducible refine (slotmeshref07_Valid.calls ((rd_T27 y457 x10_2).f0) ((rd_T27 y457 x10_2).f1) false _ A16.out).mono ?_); rintro e w25 ⟨rfl, hb⟩; refine ⟨_, rfl, ?_⟩; have n0_ := Aside0.mk (Kd.R_below (by (with_reducible repeat (first | apply Kd.R_alloc | apply Kd.R_drewN | apply Kd.R_drew)); exact HO_8.out) hb); have n1_ := Aside0.mk (Kd.R_below (by (with_reducible repeat (first | apply Kd.R_alloc | apply Kd.R_drewN | apply Kd.R_drew)); exact HO_9.out) hb); have n2_ := Aside0.mk (zl (by repeat (first | (with_reducible first | exact HB.out | apply zc | apply zb | apply zf) | exact HB.out)) hb); clear HO_8; clear HO_9; clear HB; have HO_8 := n0_; have HO_9 := n1_; have HB := n2_; clear n0_ n1_ n2_; (try clear hb); (try clear hb2); (try clear hk); (try clear hi)))
          go_ret; exact ⟨by first | rfl | (simp [errW_none, errW_some] <;> rfl) | (simp [*, errW_none, errW_some] <;> rfl), by repeat (first | (with_reducible first | exact HB.out | apply zc | apply zb | apply zf) | exact HB.out)⟩
        ·rw [if_neg c15] at H; exact absurd H (by simp)
       ·rw [if_neg c14] at H; have c14b0 : decide (x10_2 < (y457.length : Int)) = false := decide_eq_false c14; clear c14; have H' := Aside0.mk H; clear H; obtain ⟨Ao26, co26, eo26⟩ := Kd.R_slice HO_8.out; subst eo26; go_wp2
        go_loopg [7, 12, 13] k2 (fun kq v7 v12 v13 w' => ∃ (x7_3 : Bool) (x9_3 : List (S25)) (x12_3 : Int) (x13_3 : Int), v7 = .bool x7_3 ∧ v12 = .int .i64 x12_3 ∧ v13 = .int .i64 x13_3 ∧ Aside0 (slotmeshtop_TopChain.l1 kq l1 x7_3 y457 x9_3 x12_3 x13_3 = some r) ∧ Aside0 (kq ≤ k2) ∧ Aside0 (Kd.R k27 27 w' w.heap.size (fun _ => True) (.slice Ao26 y457.length co26) y457) ∧ Aside0 (Kd.R k25 25 w' w.heap.size (fun _ => True) u9 x9_3) ∧ Aside0 (Below w.heap.size w w'))
        case atStart => exact ⟨(t453), (x9_2), (Int.tmod (wrap64 (a2)) 500000000), (0), (by first | rfl | (simp; done) | (simp [*]; done)), (by first | rfl | (simp; done) | (simp [*]; done)), (by first | rfl | (simp; done) | (simp [*]; done)), H', ⟨Nat.le_refl _⟩, ⟨by (with_reducible repeat (first | apply Kd.R_alloc | apply Kd.R_drewN | apply Kd.R_drew)); exact HO_8.out⟩, ⟨by (with_reducible repeat (first | apply Kd.R_alloc | apply Kd.R_drewN | apply Kd.R_drew)); exact HO_9.out⟩, ⟨by repeat (first | (with_reducible first | exact HB.out | apply zc | apply zb | apply zf) | exact HB.out)⟩⟩
        case round => as_aux_lemma =>
         clear H'; try clear c1
         try clear c2
         try clear p2
         try clear c4
         try clear p4
         try clear q4
         try clear hx4
         try clear p6
         try clear c7
         try clear c7b0
         try clear c7b1
         try clear c7b2
         try clear c8
         try clear c8b0
         try clear c8b1
         try clear c9
         try clear c10
         try clear c12
         try clear c14
         try clear c14b0
         try clear c15
         try clear c15b0
         try clear c16
         try clear c17
         try clear c19
         try clear hx460_0
         try clear hx460_1
         try clear p2
         try clear p460
         try clear q460
         obtain ⟨x7_3, x9_3, x12_3, x13_3, rfl, rfl, rfl, HA, HK3, HO_8, HO_9, HB⟩ := hrel; cases gk with
         | zero => exact absurd HA.out (by simp [slotmeshtop_TopChain.l1])
         | succ k3 =>
          have H := HA.out; clear HA; simp only [slotmeshtop_TopChain.l1] at H; by_cases c27 : x13_3 < (l1.length : Int)
          ·rw [if_pos c27] at H; have c27b0 : decide (x13_3 < (l1.length : Int)) = true := decide_eq_true c27; clear c27; by_cases c28 : 0 ≤ x13_3
           ·rw [if_pos c28] at H; have c28b0 : decide (0 ≤ x13_3) = true := decide_eq_true c28; clear c28; by_cases c29 : (x9_3.length : Int) = 0
            ·rw [if_pos c29] at H; exact absurd H (by simp)
            ·rw [if_neg c29] at H; have c29b0 : ((x9_3.length : Int) == 0) = false := beq_eq_false_iff_ne.mpr c29; have c29b1 : ((x9_3.length : Int) != 0) = true := bne_iff_ne.mpr c29; have c29b2 : ¬ (x9_3 = []) := fun h_ => c29 (by rw [h_]; rfl)
             replace H := Option.bind_eq_some_iff.mp H; obtain ⟨t475, A300, H⟩ := H; replace H : (if x7_3 = true then (slotmeshtop_TopChain.j3 k3 l1 t475 y457 x9_3 (wrap64 (x12_3 + (wrap64 (1 + (Int.tmod (wrap64 ((rd_T42 l1 x13_3).f2)) 2000))))) x13_3 (Int.tmod (wrap64 ((rd_T42 l1 x13_3).f0)) (x9_3.length : Int)) (Int.tmod (wrap64 ((rd_T42 l1 x13_3).f1)) (x9_3.length : Int))) else (slotmeshtop_TopChain.j3 k3 l1 false y457 x9_3 (wrap64 (x12_3 + (wrap64 (1 + (Int.tmod (wrap64 ((rd_T42 l1 x13_3).f2)) 2000))))) x13_3 (Int.tmod (wrap64 ((rd_T42 l1 x13_3).f0)) (x9_3.length : Int)) (Int.tmod (wrap64 ((rd_T42 l1 x13_3).f1)) (x9_3.length : Int)))) = some r := H; have A30 := Aside0.mk A300; clear A300; have HC31 := Aside0.mk H; clear H; have p472 : 0 ≤ (x13_3 : Int) := of_decide_eq_true (by first | (with_reducible assumption) | assumption); have q472 : x13_3 < (l1.length : Int) := of_decide_eq_true (by first | (with_reducible assumption) | assumption); obtain ⟨ad472, e472, hx472_0, hx472_1, hx472_2⟩ := at_T42 HR1.out x13_3 p472 q472; cases e472
             replace hx472_0 := (HB.out.cell (World.block_lt_of_cell? w _ hx472_0)).trans hx472_0; replace hx472_1 := (HB.out.cell (World.block_lt_of_cell? w _ hx472_1)).trans hx472_1; replace hx472_2 := (HB.out.cell (World.block_lt_of_cell? w _ hx472_2)).trans hx472_2; replace p472 := eq_true p472; replace q472 := eq_true q472; have p473 : 0 ≤ (x13_3 : Int) := of_decide_eq_true (by first | (with_reducible assumption) | assumption); have q473 : x13_3 < (l1.length : Int) := of_decide_eq_true (by first | (with_reducible assumption) | assumption); obtain ⟨ad473, e473, hx473_0, hx473_1, hx473_2⟩ := at_T42 HR1.out x13_3 p473 q473; obtain rfl : ad472 = ad473 := (by injection e473); replace hx473_0 := (HB.out.cell (World.block_lt_of_cell? w _ hx473_0)).trans hx473_0; replace hx473_1 := (HB.out.cell (World.block_lt_of_cell? w _ hx473_1)).trans hx473_1; replace hx473_2 := (HB.out.cell (World.block_lt_of_cell? w _ hx473_2)).trans hx473_2; replace p473 := eq_true p473; replace q473 := eq_true q473; obtain ⟨Ao32, co32, eo32⟩ := Kd.R_slice HO_9.out; subst eo32; have p474 : 0 ≤ (x13_3 : Int) := of_decide_eq_true (by first | (with_reducible assumption) | assumption); have q474 : x13_3 < (l1.length : Int) := of_decide_eq_true (by first | (with_reducible assumption) | assumption); obtain ⟨ad474, e474, hx474_0, hx474_1, hx474_2⟩ := at_T42 HR1.out x13_3 p474 q474; obtain rfl : ad472 = ad474 := (by injection e474); replace hx474_0 := (HB.out.cell (World.block_lt_of_cell? w _ hx474_0)).trans hx474_0; replace hx474_1 := (HB.out.cell (World.block_lt_of_cell? w _ hx474_1)).trans hx474_1; replace hx474_2 := (HB.out.cell (World.block_lt_of_cell? w _ hx474_2)).trans hx474_2; replace p474 := eq_true p474; replace q474 := eq_true q474; go_upto_region 21 with (first | ((with_reducible refine zt (f := 17) rfl ?_); refine goesL_ (some 104) rfl rfl Try.func17 (by kernel_rfl) rfl #[.slice Ao32 x9_3.length co32, .slice Ao26 y457.length co26, .int .i64 (wrap64 (x12_3 + (wrap64 (1 + (Int.tmod (wrap64 ((rd_T42 l1 x13_3).f2)) 2000)))))] rfl (by (try simp only [List.map_toArray, List.map_cons, List.map_nil]); first | done | rfl | (simp only [List.length_drop, List.length_take]; rfl)) ?_; (with_reducible refine (slotmeshtop_w17Catch.calls k3 _ _ x9_3 _ _ y457 (wrap64 (x12_3 + (wrap64 (1 + (Int.tmod (wrap64 ((rd_T42 l1 x13_3).f2)) 2000))))) t475 _ ?side1 ?side2 ?side3 ?side4 A30.out).mono ?_); (case side1 => repeat (first | exact (Kd.R_reads' HO_9.out).2.2 | (with_reducible refine Kd.C_alloc ?_ _) | (with_reducible refine Kd.C_drewN ?_ _) | (with_reducible refine Kd.C_drew ?_))); (case side2 => exact (Kd.R_reads' HO_9.out).2.1); (case side3 => repeat (first | exact (Kd.R_reads' HO_8.out).2.2 | (with_reducible refine Kd.C_alloc ?_ _) | (with_reducible refine Kd.C_drewN ?_ _) | (with_reducible refine Kd.C_drew ?_))); (case side4 => exact (Kd.R_reads' HO_8.out).2.1); rintro e w33 ⟨rfl, hb⟩; refine ⟨_, rfl, ?_⟩; have n0_ := Aside0.mk (Kd.R_below (by (with_reducible repeat (first | apply Kd.R_alloc | apply Kd.R_drewN | apply Kd.R_drew)); exact HO_8.out) hb); have n1_ := Aside0.mk (Kd.R_below (by (with_reducible repeat (first | apply Kd.R_alloc | apply Kd.R_drewN | apply Kd.R_drew)); exact HO_9.out) hb); have n2_ := Aside0.mk (zl (by repeat (first | (with_reducible first | exact HB.out | apply zc | apply zb | apply zf) | exact HB.out)) hb); clear HO_8; clear HO_9; clear HB; have HO_8 := n0_; have HO_9 := n1_; have HB := n2_; clear n0_ n1_ n2_; (try clear hb); (try clear hb2); (try clear hk); (try clear hi)))
             (try simp only [Act.put, List.setIfInBounds_toArray, List.set_cons_zero, List.set_cons_succ])
             go_cut [7] (fun v7 wc => ∃ (kq : Nat) (x7_30 : Bool), v7 = .bool x7_30 ∧ Aside0 (slotmeshtop_TopChain.j3 kq l1 x7_30 y457 x9_3 (wrap64 (x12_3 + (wrap64 (1 + (Int.tmod (wrap64 ((rd_T42 l1 x13_3).f2)) 2000))))) x13_3 (Int.tmod (wrap64 ((rd_T42 l1 x13_3).f0)) (x9_3.length : Int)) (Int.tmod (wrap64 ((rd_T42 l1 x13_3).f1)) (x9_3.length : Int)) = some r) ∧ Aside0 (kq ≤ k3) ∧ Aside0 (Kd.R k27 27 wc w.heap.size (fun _ => True) (.slice Ao26 y457.length co26) y457) ∧ Aside0 (Kd.R k25 25 wc w.heap.size (fun _ => True) (.slice Ao32 x9_3.length co32) x9_3) ∧ Aside0 (Below w.heap.size w wc))
             case first =>
              have H := HC31.out; clear HC31; by_cases c34 : x7_3 = true
              ·subst c34; have H1 : (slotmeshtop_TopChain.j3 k3 l1 t475 y457 x9_3 (wrap64 (x12_3 + (wrap64 (1 + (Int.tmod (wrap64 ((rd_T42 l1 x13_3).f2)) 2000))))) x13_3 (Int.tmod (wrap64 ((rd_T42 l1 x13_3).f0)) (x9_3.length : Int)) (Int.tmod (wrap64 ((rd_T42 l1 x13_3).f1)) (x9_3.length : Int))) = some r := by rw [if_pos rfl] at H; exact H
               clear H; have H := H1; clear H1; have H' := Aside0.mk H; clear H; go_wp2
               go_meet
               case rel => exact ⟨_, (t475), (by first | rfl | (simp; done) | (simp [*]; done)), H', ⟨by have := HJ4.out; have := HK2.out; have := HK3.out; first | omega | exact Nat.le_refl _⟩, ⟨by (with_reducible repeat (first | apply Kd.R_alloc | apply Kd.R_drewN | apply Kd.R_drew)); exact HO_8.out⟩, ⟨by (with_reducible repeat (first | apply Kd.R_alloc | apply Kd.R_drewN | apply Kd.R_drew)); exact HO_9.out⟩, ⟨by repeat (first | (with_reducible first | exact HB.out | apply zc | apply zb | apply zf) | exact HB.out)⟩⟩
              ·replace c34 := Bool.eq_false_iff.mpr c34; subst c34; have H1 : (slotmeshtop_TopChain.j3 k3 l1 false y457 x9_3 (wrap64 (x12_3 + (wrap64 (1 + (Int.tmod (wrap64 ((rd_T42 l1 x13_3).f2)) 2000))))) x13_3 (Int.tmod (wrap64 ((rd_T42 l1 x13_3).f0)) (x9_3.length : Int)) (Int.tmod (wrap64 ((rd_T42 l1 x13_3).f1)) (x9_3.length : Int))) = some r := by rw [if_neg (show ¬ (false = true) by decide)] at H; exact H
               clear H; have H := H1; clear H1; have H' := Aside0.mk H; clear H; go_wp2
               go_meet
               case rel => exact ⟨_, (false), (by first | rfl | (simp; done) | (simp [*]; done)), H', ⟨by have := HJ4.out; have := HK2.out; have := HK3.out; first | omega | exact Nat.le_refl _⟩, ⟨by (with_reducible repeat (first | apply Kd.R_alloc | apply Kd.R_drewN | apply Kd.R_drew)); exact HO_8.out⟩, ⟨by (with_reducible repeat (first | apply Kd.R_alloc | apply Kd.R_drewN | apply Kd.R_drew)); exact HO_9.out⟩, ⟨by repeat (first | (with_reducible first | exact HB.out | apply zc | apply zb | apply zf) | exact HB.out)⟩⟩
             case rest =>
              clear HC31; try clear c1
              try clear c2
              try clear p2
              try clear c3
              try clear c4
              try clear p4
              try clear q4
              try clear hx4
              try clear p6
              try clear c7
              try clear c7b0
              try clear c7b1
              try clear c7b2
              try clear c8
              try clear c8b0
              try clear c8b1
              try clear c9
              try clear c10
              try clear c12
              try clear c14
              try clear c14b0
              try clear c15
              try clear c15b0
              try clear c16
              try clear c17
              try clear c19
              try clear c27
              try clear c27b0
              try clear c28
              try clear c28b0
              try clear c29
              try clear c29b0
              try clear c29b1
              try clear c29b2
              try clear c34
              try clear hx460_0
              try clear hx460_1
              try clear hx472_0
              try clear hx472_1
              try clear hx472_2
              try clear hx473_0
              try clear hx473_1
              try clear hx473_2
              try clear hx474_0
              try clear hx474_1
              try clear hx474_2
              try clear p2
              try clear p4
              try clear p460
              try clear p472
              try clear p473
              try clear p474
              try clear p6
              try clear q4
              try clear q460
              try clear q472
              try clear q473
              try clear q474
              obtain ⟨kq, x7_30, rfl, HA, HJ30, HO_8, HO_9, HB⟩ := hcut; cases kq with
              | zero => exact absurd HA.out (by simp [slotmeshtop_TopChain.j3])
              | succ kj30 =>
               have H := HA.out; clear HA; simp only [slotmeshtop_TopChain.j3] at H; obtain ⟨ji35, hji35⟩ : ∃ j_ : Int, (Int.tmod (wrap64 ((rd_T42 l1 x13_3).f0)) (x9_3.length : Int)) = j_ := ⟨_, rfl⟩; replace H : (if 0 ≤ (ji35) then (if (ji35) < (x9_3.length : Int) then (if (ji35) < (y457.length : Int) then ((slotmeshtop_w17Tells.f kj30 ((rd_T25 x9_3 (ji35)).f0) ((rd_T25 x9_3 (ji35)).f1.f0) ((rd_T25 x9_3 (ji35)).f1.f1) ((rd_T25 x9_3 (ji35)).f1.f2) ((rd_T25 x9_3 (ji35)).f2) ((rd_T25 x9_3 (ji35)).f3) ((rd_T25 x9_3 (ji35)).f4) ((rd_T27 y457 (ji35)).f0) ((rd_T27 y457 (ji35)).f1) ((ji35) == 0) (wrap64 (x12_3 + (wrap64 (1 + (Int.tmod (wrap64 ((rd_T42 l1 x13_3).f2)) 2000)))))).bind fun bt478 => (if bt478.2.2 = true then (slotmeshtop_TopChain.j4 kj30 l1 x7_30 y457 x9_3 (wrap64 (x12_3 + (wrap64 (1 + (Int.tmod (wrap64 ((rd_T42 l1 x13_3).f2)) 2000))))) x13_3 (ji35) (Int.tmod (wrap64 ((rd_T42 l1 x13_3).f1)) (x9_3.length : Int)) bt478.1 bt478.2.1 ((ji35) == (Int.tmod (wrap64 ((rd_T42 l1 x13_3).f1)) (x9_3.length : Int)))) else (slotmeshtop_TopChain.j4 kj30 l1 x7_30 y457 x9_3 (wrap64 (x12_3 + (wrap64 (1 + (Int.tmod (wrap64 ((rd_T42 l1 x13_3).f2)) 2000))))) x13_3 (ji35) (Int.tmod (wrap64 ((rd_T42 l1 x13_3).f1)) (x9_3.length : Int)) bt478.1 bt478.2.1 true))) else (none)) else (none)) else (none)) = some r := by first | (rw [hji35] at H; exact H) | (simp only [hji35] at H ⊢; exact H)
               by_cases c36 : 0 ≤ (ji35)
               ·rw [if_pos c36] at H; have c36b0 : decide (0 ≤ (ji35)) = true := decide_eq_true c36; clear c36; by_cases c37 : (ji35) < (x9_3.length : Int)
                ·rw [if_pos c37] at H; have c37b0 : decide ((ji35) < (x9_3.length : Int)) = true := decide_eq_true c37; clear c37; by_cases c38 : (ji35) < (y457.length : Int)
                 ·rw [if_pos c38] at H; have c38b0 : decide ((ji35) < (y457.length : Int)) = true := decide_eq_true c38; clear c38; replace H := Option.bind_eq_some_iff.mp H; obtain ⟨⟨t478, t479, t480⟩, A390, H⟩ := H; replace H : (if t480 = true then (slotmeshtop_TopChain.j4 kj30 l1 x7_30 y457 x9_3 (wrap64 (x12_3 + (wrap64 (1 + (Int.tmod (wrap64 ((rd_T42 l1 x13_3).f2)) 2000))))) x13_3 (ji35) (Int.tmod (wrap64 ((rd_T42 l1 x13_3).f1)) (x9_3.length : Int)) t478 t479 ((ji35) == (Int.tmod (wrap64 ((rd_T42 l1 x13_3).f1)) (x9_3.length : Int)))) else (slotmeshtop_TopChain.j4 kj30 l1 x7_30 y457 x9_3 (wrap64 (x12_3 + (wrap64 (1 + (Int.tmod (wrap64 ((rd_T42 l1 x13_3).f2)) 2000))))) x13_3 (ji35) (Int.tmod (wrap64 ((rd_T42 l1 x13_3).f1)) (x9_3.length : Int)) t478 t479 true)) = some r := H; have A39 := Aside0.mk A390; clear A390; have HC40 := Aside0.mk H; clear H; try go_wp2
                  have n0_ := Aside0.mk (Kd.R_drew HO_8.out); have n1_ := Aside0.mk (Kd.R_drew HO_9.out); have n2_ := Aside0.mk (zf HB.out); clear HO_8; clear HO_9; clear HB; have HO_8 := n0_; have HO_9 := n1_; have HB := n2_; clear n0_ n1_ n2_; have p476 : 0 ≤ ((ji35) : Int) := of_decide_eq_true (by first | (with_reducible assumption) | assumption); have q476 : (ji35) < (x9_3.length : Int) := of_decide_eq_true (by first | (with_reducible assumption) | assumption); obtain ⟨ad476, e476, hx476_0, hx476_1, hx476_2, hx476_3, hx476_4, hx476_5, hx476_6⟩ := at_T25 (Kd.R_reads' HO_9.out).2.2 (ji35) p476 q476; cases e476
                  replace p476 := eq_true p476; replace q476 := eq_true q476; have p477 : 0 ≤ ((ji35) : Int) := of_decide_eq_true (by first | (with_reducible assumption) | assumption); have q477 : (ji35) < (y457.length : Int) := of_decide_eq_true (by first | (with_reducible assumption) | assumption); obtain ⟨ad477, e477, hx477_0, hx477_1⟩ := at_T27 (Kd.R_reads' HO_8.out).2.2 (ji35) p477 q477; cases e477
                  replace p477 := eq_true p477; replace q477 := eq_true q477; refine start_ (n := 19) (S := fun w' => w'.cell? (ad476.add (((ji35)).toNat * 7)) = some (.bool ((rd_T25 x9_3 (ji35)).f0)) ∧ w'.cell? ⟨(ad476.add (((ji35)).toNat * 7)).block, (ad476.add (((ji35)).toNat * 7)).off + 1, none⟩ = some (.int .i64 ((rd_T25 x9_3 (ji35)).f1.f0)) ∧ w'.cell? ⟨(ad476.add (((ji35)).toNat * 7)).block, (ad476.add (((ji35)).toNat * 7)).off + 2, none⟩ = some (.int .i64 ((rd_T25 x9_3 (ji35)).f1.f1)) ∧ w'.cell? ⟨(ad476.add (((ji35)).toNat * 7)).block, (ad476.add (((ji35)).toNat * 7)).off + 3, none⟩ = some (.int .i64 ((rd_T25 x9_3 (ji35)).f1.f2)) ∧ w'.cell? ⟨(ad476.add (((ji35)).toNat * 7)).block, (ad476.add (((ji35)).toNat * 7)).off + 4, none⟩ = some (.int .i64 ((rd_T25 x9_3 (ji35)).f2)) ∧ w'.cell? ⟨(ad476.add (((ji35)).toNat * 7)).block, (ad476.add (((ji35)).toNat * 7)).off + 5, none⟩ = some (.int .i64 ((rd_T25 x9_3 (ji35)).f3)) ∧ w'.cell? ⟨(ad476.add (((ji35)).toNat * 7)).block, (ad476.add (((ji35)).toNat * 7)).off + 6, none⟩ = some (.int .i64 ((rd_T25 x9_3 (ji35)).f4)) ∧ w'.cell? (ad477.add (((ji35)).toNat * 2)) = some (.int .i64 ((rd_T27 y457 (ji35)).f0)) ∧ w'.cell? ⟨(ad477.add (((ji35)).toNat * 2)).block, (ad477.add (((ji35)).toNat * 2)).off + 1, none⟩ = some (.int .i64 ((rd_T27 y457 (ji35)).f1))) (ds := []) #[false, false, false, false, false, false, false, false, false, false, false, false, false, false, false, false, false, false, false] (by kernel_rfl) rfl rfl ⟨hx476_0, hx476_1, hx476_2, hx476_3, hx476_4, hx476_5, hx476_6, hx477_0, hx477_1⟩ (fun hHeld => ?_); refine with_tabW slotmeshtop_TopChain.tab22 slotmeshtop_TopChain.bits22 (fun HT_ HW_ => ?_)
                  generalize wc.drew = w41 at HO_8 HO_9 HB hx476_0 hx476_1 hx476_2 hx476_3 hx476_4 hx476_5 hx476_6 hx477_0 hx477_1 hHeld ⊢
                  refine zv (i := 0) (N := some 110) (v := ?_) (a' := ?_) #[true, false, false, false, false, false, false, false, false, false, false, false, false, false, false, false, false, false, false] rfl rfl (zq HT_.out (by kernel_rfl)) (fun _ _ _ h => h) (Or.inl ⟨by rfl, ?_⟩) ?_ ?_; rotate_left
                  ·intro w'; go_simp
                   with_reducible rfl
                  rotate_left
                  ·simp only [Act.put, List.setIfInBounds_toArray, List.set_cons_zero, List.set_cons_succ, zr, zs]; rfl
                  refine zv (i := 1) (N := some 111) (v := ?_) (a' := ?_) #[true, true, false, false, false, false, false, false, false, false, false, false, false, false, false, false, false, false, false] rfl rfl (zq HT_.out (by kernel_rfl)) (fun _ _ _ h => h) (Or.inl ⟨by rfl, ?_⟩) ?_ ?_; rotate_left
                  ·intro w'; go_simp
                   with_reducible rfl
                  rotate_left
                  ·simp only [Act.put, List.setIfInBounds_toArray, List.set_cons_zero, List.set_cons_succ, zr, zs]; rfl
                  refine zv (i := 2) (N := some 112) (v := ?_) (a' := ?_) #[true, true, true, false, false, false, false, false, false, false, false, false, false, false, false, false, false, false, false] rfl rfl (zq HT_.out (by kernel_rfl)) (fun _ _ _ h => h) (Or.inl ⟨by rfl, ?_⟩) ?_ ?_; rotate_left
                  ·intro w'; go_simp
                   with_reducible rfl
                  rotate_left
                  ·simp only [Act.put, List.setIfInBounds_toArray, List.set_cons_zero, List.set_cons_succ, zr, zs]; rfl
                  refine zv (i := 4) (N := some 114) (v := ?_) (a' := ?_) #[true, true, true, false, true, false, false, false, false, false, false, false, false, false, false, false, false, false, false] rfl rfl (zq HT_.out (by kernel_rfl)) (fun _ _ _ h => h) (Or.inl ⟨by rfl, ?_⟩) ?_ ?_; rotate_left
                  ·intro w'; go_simp
                   with_reducible rfl
                  rotate_left
                  ·simp only [Act.put, List.setIfInBounds_toArray, List.set_cons_zero, List.set_cons_succ, zr, zs]; rfl
                  refine zv (i := 5) (N := some 115) (v := ?_) (a' := ?_) #[true, true, true, false, true, true, false, false, false, false, false, false, false, false, false, false, false, false, false] rfl rfl (zq HT_.out (by kernel_rfl)) (fun _ _ _ h => h) (Or.inl ⟨by rfl, ?_⟩) ?_ ?_; rotate_left
                  ·intro w'; go_simp
                   with_reducible rfl
                  rotate_left
                  ·simp only [Act.put, List.setIfInBounds_toArray, List.set_cons_zero, List.set_cons_succ, zr, zs]; rfl
                  refine zv (i := 6) (N := some 116) (v := ?_) (a' := ?_) #[true, true, true, false, true, true, true, false, false, false, false, false, false, false, false, false, false, false, false] rfl rfl (zq HT_.out (by kernel_rfl)) (fun _ _ _ h => h) (Or.inl ⟨by rfl, ?_⟩) ?_ ?_; rotate_left
                  ·intro w'; go_simp
                   with_reducible rfl
                  rotate_left
                  ·simp only [Act.put, List.setIfInBounds_toArray, List.set_cons_zero, List.set_cons_succ, zr, zs]; rfl
                  refine zv (i := 8) (N := some 118) (v := ?_) (a' := ?_) #[true, true, true, false, true, true, true, false, true, false, false, false, false, false, false, false, false, false, false] rfl rfl (zq HT_.out (by kernel_rfl)) (fun _ _ _ h => h) (Or.inl ⟨by rfl, ?_⟩) ?_ ?_; rotate_left
                  ·intro w'; go_simp
                   with_reducible rfl
                  rotate_left
                  ·simp only [Act.put, List.setIfInBounds_toArray, List.set_cons_zero, List.set_cons_succ, zr, zs]; rfl
                  refine zv (i := 9) (N := some 119) (v := ?_) (a' := ?_) #[true, true, true, false, true, true, true, false, true, true, false, false, false, false, false, false, false, false, false] rfl rfl (zq HT_.out (by kernel_rfl)) (fun _ _ _ h => h) (Or.inl ⟨by rfl, ?_⟩) ?_ ?_; rotate_left
                  ·intro w'; go_simp
                   with_reducible rfl
                  rotate_left
                  ·simp only [Act.put, List.setIfInBounds_toArray, List.set_cons_zero, List.set_cons_succ, zr, zs]; rfl
                  refine zv (i := 10) (N := some 120) (v := ?_) (a' := ?_) #[true, true, true, false, true, true, true, false, true, true, true, false, false, false, false, false, false, false, false] rfl rfl (zq HT_.out (by kernel_rfl)) (fun _ _ _ h => h) (Or.inl ⟨by rfl, ?_⟩) ?_ ?_; rotate_left
                  ·intro w'; go_simp
                   with_reducible rfl
                  rotate_left
                  ·simp only [Act.put, List.setIfInBounds_toArray, List.set_cons_zero, List.set_cons_succ, zr, zs]; rfl
                  refine take_ (i := 3) (N := some 113) (v := ?_) (a' := ?_) #[true, true, true, true, true, true, true, false, true, true, true, false, false, false, false, false, false, false, false] rfl rfl (take_ofW HT_.out HW_.out (by kernel_rfl)) (fun _ _ _ h => h) (Or.inl ⟨by rfl, ?_⟩) hHeld ?_ ?_; rotate_left
                  ·rintro w' ⟨s0, s1, s2, s3, s4, s5, s6, s7, s8⟩; go_simp
                   with_reducible rfl
                  rotate_left
                  ·simp only [Act.put, List.setIfInBounds_toArray, List.set_cons_zero, List.set_cons_succ, zr, zs]; rfl
                  refine take_ (i := 7) (N := some 117) (v := ?_) (a' := ?_) #[true, true, true, true, true, true, true, true, true, true, true, false, false, false, false, false, false, false, false] rfl rfl (take_ofW HT_.out HW_.out (by kernel_rfl)) (fun _ _ _ h => h) (Or.inl ⟨by rfl, ?_⟩) hHeld ?_ ?_; rotate_left
                  ·rintro w' ⟨s0, s1, s2, s3, s4, s5, s6, s7, s8⟩; go_simp
                   with_reducible rfl
                  rotate_left
                  ·simp only [Act.put, List.setIfInBounds_toArray, List.set_cons_zero, List.set_cons_succ, zr, zs]; rfl
                  refine one_ (i := 11) (N := some 121) #[true, true, true, true, true, true, true, true, true, true, true, true, false, false, false, false, false, false, false] rfl rfl (one_of HT_.out (by kernel_rfl)) (by decide) (fun K hK => ?_); refine goes_ Try.func18 (by kernel_rfl) rfl #[.agg #[.bool ((rd_T25 x9_3 (ji35)).f0), .int .i64 ((rd_T25 x9_3 (ji35)).f1.f0), .int .i64 ((rd_T25 x9_3 (ji35)).f1.f1), .int .i64 ((rd_T25 x9_3 (ji35)).f1.f2), .int .i64 ((rd_T25 x9_3 (ji35)).f2), .int .i64 ((rd_T25 x9_3 (ji35)).f3), .int .i64 ((rd_T25 x9_3 (ji35)).f4)], .agg #[.int .i64 ((rd_T27 y457 (ji35)).f0), .int .i64 ((rd_T27 y457 (ji35)).f1)], .bool ((ji35) == 0), .int .i64 (wrap64 (x12_3 + (wrap64 (1 + (Int.tmod (wrap64 ((rd_T42 l1 x13_3).f2)) 2000)))))] (by rfl) rfl rfl (by (try simp only [List.map_toArray, List.map_cons, List.map_nil]); first | done | (simp only [hji35]; rfl) | rfl | (simp only [List.length_drop, List.length_take]; rfl)) ?_; with_reducible refine (slotmeshtop_w17Tells.calls kj30 ((rd_T25 x9_3 (ji35)).f0) ((rd_T25 x9_3 (ji35)).f1.f0) ((rd_T25 x9_3 (ji35)).f1.f1) ((rd_T25 x9_3 (ji35)).f1.f2) ((rd_T25 x9_3 (ji35)).f2) ((rd_T25 x9_3 (ji35)).f3) ((rd_T25 x9_3 (ji35)).f4) ((rd_T27 y457 (ji35)).f0) ((rd_T27 y457 (ji35)).f1) ((ji35) == 0) (wrap64 (x12_3 + (wrap64 (1 + (Int.tmod (wrap64 ((rd_T42 l1 x13_3).f2)) 2000))))) t478 t479 t480 _ A39.out).mono ?_
                  rintro e w42 ⟨rfl, hb⟩; have HS0_ := (hb.cell (World.block_lt_of_cell? _ _ (hHeld.1))).trans (hHeld.1); have HS1_ := (hb.cell (World.block_lt_of_cell? _ _ (hHeld.2.1))).trans (hHeld.2.1); have HS2_ := (hb.cell (World.block_lt_of_cell? _ _ (hHeld.2.2.1))).trans (hHeld.2.2.1); have HS3_ := (hb.cell (World.block_lt_of_cell? _ _ (hHeld.2.2.2.1))).trans (hHeld.2.2.2.1); have HS4_ := (hb.cell (World.block_lt_of_cell? _ _ (hHeld.2.2.2.2.1))).trans (hHeld.2.2.2.2.1); have HS5_ := (hb.cell (World.block_lt_of_cell? _ _ (hHeld.2.2.2.2.2.1))).trans (hHeld.2.2.2.2.2.1); have HS6_ := (hb.cell (World.block_lt_of_cell? _ _ (hHeld.2.2.2.2.2.2.1))).trans (hHeld.2.2.2.2.2.2.1); have HS7_ := (hb.cell (World.block_lt_of_cell? _ _ (hHeld.2.2.2.2.2.2.2.1))).trans (hHeld.2.2.2.2.2.2.2.1); have HS8_ := (hb.cell (World.block_lt_of_cell? _ _ (hHeld.2.2.2.2.2.2.2.2))).trans (hHeld.2.2.2.2.2.2.2.2); refine ⟨_, rfl, ?_⟩; have n0_ := Aside0.mk (Kd.R_below (by (with_reducible repeat (first | apply Kd.R_alloc | apply Kd.R_drewN | apply Kd.R_drew)); exact HO_8.out) hb); have n1_ := Aside0.mk (Kd.R_below (by (with_reducible repeat (first | apply Kd.R_alloc | apply Kd.R_drewN | apply Kd.R_drew)); exact HO_9.out) hb); have n2_ := Aside0.mk (zl (by repeat (first | (with_reducible first | exact HB.out | apply zc | apply zb | apply zf) | exact HB.out)) hb); clear HO_8; clear HO_9; clear HB; have HO_8 := n0_; have HO_9 := n1_; have HB := n2_; clear n0_ n1_ n2_; (try clear hb)
                  (try clear hb2)
                  (try clear hk)
                  (try clear hi)
                  refine hK.out _ _ ⟨HS0_, HS1_, HS2_, HS3_, HS4_, HS5_, HS6_, HS7_, HS8_⟩ (fun hHeld => ?_); clear hK K; refine norm_ (a' := ?_) ?_ ?_; rotate_left
                  ·show Act.put _ (some 121) _ = _
                   simp only [Act.put, List.setIfInBounds_toArray, List.set_cons_zero, List.set_cons_succ, zr, zs]; rfl
                  refine zv (i := 12) (N := some 109) (v := ?_) (a' := ?_) #[true, true, true, true, true, true, true, true, true, true, true, true, true, false, false, false, false, false, false] rfl rfl (zq HT_.out (by kernel_rfl)) (fun _ _ _ h => h) (Or.inl ⟨by rfl, ?_⟩) ?_ ?_; rotate_left
                  ·intro w'; go_simp
                   with_reducible rfl
                  rotate_left
                  ·simp only [Act.put, List.setIfInBounds_toArray, List.set_cons_zero, List.set_cons_succ, zr, zs]; rfl
                  refine zv (i := 13) (N := some 122) (v := ?_) (a' := ?_) #[true, true, true, true, true, true, true, true, true, true, true, true, true, true, false, false, false, false, false] rfl rfl (zq HT_.out (by kernel_rfl)) (fun _ _ _ h => h) (Or.inl ⟨by rfl, ?_⟩) ?_ ?_; rotate_left
                  ·intro w'; go_simp
                   with_reducible rfl
                  rotate_left
                  ·simp only [Act.put, List.setIfInBounds_toArray, List.set_cons_zero, List.set_cons_succ, zr, zs]; rfl
                  refine zv (i := 14) (N := some 123) (v := ?_) (a' := ?_) #[true, true, true, true, true, true, true, true, true, true, true, true, true, true, true, false, false, false, false] rfl rfl (zq HT_.out (by kernel_rfl)) (fun _ _ _ h => h) (Or.inl ⟨by rfl, ?_⟩) ?_ ?_; rotate_left
                  ·intro w'; go_simp
                   with_reducible rfl
                  rotate_left
                  ·simp only [Act.put, List.setIfInBounds_toArray, List.set_cons_zero, List.set_cons_succ, zr, zs]; rfl
                  refine zv (i := 15) (N := some 124) (v := ?_) (a' := ?_) #[true, true, true, true, true, true, true, true, true, true, true, true, true, true, true, true, false, false, false] rfl rfl (zq HT_.out (by kernel_rfl)) (fun _ _ _ h => h) (Or.inl ⟨by rfl, ?_⟩) ?_ ?_; rotate_left
                  ·intro w'; go_simp
                   with_reducible rfl
                  rotate_left
                  ·simp only [Act.put, List.setIfInBounds_toArray, List.set_cons_zero, List.set_cons_succ, zr, zs]; rfl
                  refine zv (i := 16) (N := some 17) (v := ?_) (a' := ?_) #[true, true, true, true, true, true, true, true, true, true, true, true, true, true, true, true, true, false, false] rfl rfl (zq HT_.out (by kernel_rfl)) (fun _ _ _ h => h) (Or.inl ⟨by rfl, ?_⟩) ?_ ?_; rotate_left
                  ·intro w'; go_simp
                   with_reducible rfl
                  rotate_left
                  ·simp only [Act.put, List.setIfInBounds_toArray, List.set_cons_zero, List.set_cons_succ, zr, zs]; rfl
                  refine zv (i := 17) (N := some 18) (v := ?_) (a' := ?_) #[true, true, true, true, true, true, true, true, true, true, true, true, true, true, true, true, true, true, false] rfl rfl (zq HT_.out (by kernel_rfl)) (fun _ _ _ h => h) (Or.inl ⟨by rfl, ?_⟩) ?_ ?_; rotate_left
                  ·intro w'; go_simp
                   with_reducible rfl
                  rotate_left
                  ·simp only [Act.put, List.setIfInBounds_toArray, List.set_cons_zero, List.set_cons_succ, zr, zs]; rfl
                  refine zv (i := 18) (N := some 19) (v := ?_) (a' := ?_) #[true, true, true, true, true, true, true, true, true, true, true, true, true, true, true, true, true, true, true] rfl rfl (zq HT_.out (by kernel_rfl)) (fun _ _ _ h => h) (Or.inl ⟨by rfl, ?_⟩) ?_ ?_; rotate_left
                  ·intro w'; go_simp
                   with_reducible rfl
                  rotate_left
                  ·simp only [Act.put, List.setIfInBounds_toArray, List.set_cons_zero, List.set_cons_succ, zr, zs]; rfl
                  refine done_ (done_of HT_.out (by kernel_rfl)) ?_; go_upto_region 23 with (fail)
                  go_cut [131] (fun v131 wc => ∃ (kq : Nat) (x131_39 : Bool), v131 = .bool x131_39 ∧ Aside0 (slotmeshtop_TopChain.j4 kq l1 x7_30 y457 x9_3 (wrap64 (x12_3 + (wrap64 (1 + (Int.tmod (wrap64 ((rd_T42 l1 x13_3).f2)) 2000))))) x13_3 (ji35) (Int.tmod (wrap64 ((rd_T42 l1 x13_3).f1)) (x9_3.length : Int)) t478 t479 x131_39 = some r) ∧ Aside0 (kq ≤ kj30) ∧ Aside0 (Kd.R k27 27 wc w.heap.size (fun _ => True) (.slice (some ad477) y457.length co26) y457) ∧ Aside0 (Kd.R k25 25 wc w.heap.size (fun _ => True) (.slice (some ad476) x9_3.length co32) x9_3) ∧ Aside0 (Below w.heap.size w wc))
                  case first =>
                   have H := HC40.out; clear HC40; by_cases c43 : t480 = true
                   ·subst c43; have H1 : (slotmeshtop_TopChain.j4 kj30 l1 x7_30 y457 x9_3 (wrap64 (x12_3 + (wrap64 (1 + (Int.tmod (wrap64 ((rd_T42 l1 x13_3).f2)) 2000))))) x13_3 (ji35) (Int.tmod (wrap64 ((rd_T42 l1 x13_3).f1)) (x9_3.length : Int)) t478 t479 ((ji35) == (Int.tmod (wrap64 ((rd_T42 l1 x13_3).f1)) (x9_3.length : Int)))) = some r := by rw [if_pos rfl] at H; exact H
                    clear H; have H := H1; clear H1; have H' := Aside0.mk H; clear H; go_wp2
                    go_meet
                    case rel => exact ⟨_, (((ji35) == (Int.tmod (wrap64 ((rd_T42 l1 x13_3).f1)) (x9_3.length : Int)))), (by first | rfl | (simp; done) | (simp only [← hji35] <;> (first | rfl | simp)) | (simp [*]; done)), H', ⟨by have := HJ4.out; have := HK2.out; have := HK3.out; have := HJ30.out; first | omega | exact Nat.le_refl _⟩, ⟨by (with_reducible repeat (first | apply Kd.R_alloc | apply Kd.R_drewN | apply Kd.R_drew)); exact HO_8.out⟩, ⟨by (with_reducible repeat (first | apply Kd.R_alloc | apply Kd.R_drewN | apply Kd.R_drew)); exact HO_9.out⟩, ⟨by repeat (first | (with_reducible first | exact HB.out | apply zc | apply zb | apply zf) | exact HB.out)⟩⟩
                   ·replace c43 := Bool.eq_false_iff.mpr c43; subst c43; have H1 : (slotmeshtop_TopChain.j4 kj30 l1 x7_30 y457 x9_3 (wrap64 (x12_3 + (wrap64 (1 + (Int.tmod (wrap64 ((rd_T42 l1 x13_3).f2)) 2000))))) x13_3 (ji35) (Int.tmod (wrap64 ((rd_T42 l1 x13_3).f1)) (x9_3.length : Int)) t478 t479 true) = some r := by rw [if_neg (show ¬ (false = true) by decide)] at H; exact H
                    clear H; have H := H1; clear H1; have H' := Aside0.mk H; clear H; go_wp2
                    go_meet
                    case rel => exact ⟨_, (true), (by first | rfl | (simp; done) | (simp [*]; done)), H', ⟨by have := HJ4.out; have := HK2.out; have := HK3.out; have := HJ30.out; first | omega | exact Nat.le_refl _⟩, ⟨by (with_reducible repeat (first | apply Kd.R_alloc | apply Kd.R_drewN | apply Kd.R_drew)); exact HO_8.out⟩, ⟨by (with_reducible repeat (first | apply Kd.R_alloc | apply Kd.R_drewN | apply Kd.R_drew)); exact HO_9.out⟩, ⟨by repeat (first | (with_reducible first | exact HB.out | apply zc | apply zb | apply zf) | exact HB.out)⟩⟩
                  case rest => as_aux_lemma =>
                   clear HC40; try clear c1
                   try clear c2
                   try clear p2
                   try clear c3
                   try clear c4
                   try clear p4
                   try clear q4
                   try clear hx4
                   try clear p6
                   try clear c7
                   try clear c7b0
                   try clear c7b1
                   try clear c7b2
                   try clear c8
                   try clear c8b0
                   try clear c8b1
                   try clear c9
                   try clear c10
                   try clear c12
                   try clear c14
                   try clear c14b0
                   try clear c15
                   try clear c15b0
                   try clear c16
                   try clear c17
                   try clear c18
                   try clear c19
                   try clear c27
                   try clear c27b0
                   try clear c28
                   try clear c28b0
                   try clear c29
                   try clear c29b0
                   try clear c29b1
                   try clear c29b2
                   try clear c34
                   try clear c36
                   try clear c36b0
                   try clear c37
                   try clear c37b0
                   try clear c38
                   try clear c38b0
                   try clear c43
                   try clear hx460_0
                   try clear hx460_1
                   try clear hx472_0
                   try clear hx472_1
                   try clear hx472_2
                   try clear hx473_0
                   try clear hx473_1
                   try clear hx473_2
                   try clear hx474_0
                   try clear hx474_1
                   try clear hx474_2
                   try clear hx476_0
                   try clear hx476_1
                   try clear hx476_2
                   try clear hx476_3
                   try clear hx476_4
                   try clear hx476_5
                   try clear hx476_6
                   try clear hx477_0
                   try clear hx477_1
                   try clear p2
                   try clear p4
                   try clear p460
                   try clear p472
                   try clear p473
                   try clear p474
                   try clear p476
                   try clear p477
                   try clear p6
                   try clear q4
                   try clear q460
                   try clear q472
                   try clear q473
                   try clear q474
                   try clear q476
                   try clear q477
                   obtain ⟨kq, x131_39, rfl, HA, HJ39, HO_8, HO_9, HB⟩ := hcut; cases kq with
                   | zero => exact absurd HA.out (by simp [slotmeshtop_TopChain.j4])
                   | succ kj39 =>
                    have H := HA.out; clear HA; simp only [slotmeshtop_TopChain.j4] at H; by_cases c44 : x131_39 = true
                    ·subst c44; have H1 : (slotmeshtop_TopChain.l1 kj39 l1 x7_30 y457 x9_3 (wrap64 (x12_3 + (wrap64 (1 + (Int.tmod (wrap64 ((rd_T42 l1 x13_3).f2)) 2000))))) (wrap64 (x13_3 + 1))) = some r := by rw [if_pos rfl] at H; exact H
                     clear H; have H := H1; clear H1; have H' := Aside0.mk H; clear H; go_wp2
                     go_roundg kj39
                     case measure => have := HJ4.out; have := HK2.out; have := HK3.out; have := HJ30.out; have := HJ39.out; omega
                     case rel => exact ⟨(x7_30), (x9_3), ((wrap64 (x12_3 + (wrap64 (1 + (Int.tmod (wrap64 ((rd_T42 l1 x13_3).f2)) 2000)))))), (wrap64 (x13_3 + 1)), (by first | rfl | (simp; done) | (simp [*]; done)), (by first | rfl | (simp; done) | (simp [*]; done)), (by first | rfl | (simp; done) | (simp [*]; done)), H', ⟨by have := HJ4.out; have := HK2.out; have := HK3.out; have := HJ30.out; have := HJ39.out; omega⟩, ⟨by (with_reducible repeat (first | apply Kd.R_alloc | apply Kd.R_drewN | apply Kd.R_drew)); exact HO_8.out⟩, ⟨by (with_reducible repeat (first | apply Kd.R_alloc | apply Kd.R_drewN | apply Kd.R_drew)); exact HO_9.out⟩, ⟨by repeat (first | (with_reducible first | exact HB.out | apply zc | apply zb | apply zf) | exact HB.out)⟩⟩
                    ·replace c44 := Bool.eq_false_iff.mpr c44; subst c44; have H1 : (if 0 ≤ (Int.tmod (wrap64 ((rd_T42 l1 x13_3).f1)) (x9_3.length : Int)) then (if (Int.tmod (wrap64 ((rd_T42 l1 x13_3).f1)) (x9_3.length : Int)) < (y457.length : Int) then ((clock_Show.f ((rd_T27 y457 (Int.tmod (wrap64 ((rd_T42 l1 x13_3).f1)) (x9_3.length : Int))).f0) ((rd_T27 y457 (Int.tmod (wrap64 ((rd_T42 l1 x13_3).f1)) (x9_3.length : Int))).f1) (wrap64 ((wrap64 ((wrap64 (x12_3 + (wrap64 (1 + (Int.tmod (wrap64 ((rd_T42 l1 x13_3).f2)) 2000))))) * 10000)) + t478))).bind fun bt482 => (if (Int.tmod (wrap64 ((rd_T42 l1 x13_3).f1)) (x9_3.length : Int)) < (x9_3.length : Int) then (if 0 ≤ (ji35) then (if (ji35) < (x9_3.length : Int) then ((timesync_Hear.f kj39 ((rd_T25 x9_3 (Int.tmod (wrap64 ((rd_T42 l1 x13_3).f1)) (x9_3.length : Int))).f0) ((rd_T25 x9_3 (Int.tmod (wrap64 ((rd_T42 l1 x13_3).f1)) (x9_3.length : Int))).f1.f0) ((rd_T25 x9_3 (Int.tmod (wrap64 ((rd_T42 l1 x13_3).f1)) (x9_3.length : Int))).f1.f1) ((rd_T25 x9_3 (Int.tmod (wrap64 ((rd_T42 l1 x13_3).f1)) (x9_3.length : Int))).f1.f2) ((rd_T25 x9_3 (Int.tmod (wrap64 ((rd_T42 l1 x13_3).f1)) (x9_3.length : Int))).f2) ((rd_T25 x9_3 (Int.tmod (wrap64 ((rd_T42 l1 x13_3).f1)) (x9_3.length : Int))).f3) ((rd_T25 x9_3 (Int.tmod (wrap64 ((rd_T42 l1 x13_3).f1)) (x9_3.length : Int))).f4) (ji35) ((rd_T25 x9_3 (ji35)).f2) t479 (wrap64 (x12_3 + (wrap64 (1 + (Int.tmod (wrap64 ((rd_T42 l1 x13_3).f2)) 2000))))) bt482.1).bind fun bt486 => (if bt482.2 = 0 then (slotmeshtop_TopChain.j5 kj39 l1 x7_30 y457 x9_3 (wrap64 (x12_3 + (wrap64 (1 + (Int.tmod (wrap64 ((rd_T42 l1 x13_3).f2)) 2000))))) x13_3 (ji35) (Int.tmod (wrap64 ((rd_T42 l1 x13_3).f1)) (x9_3.length : Int)) (wrap64 ((wrap64 ((wrap64 (x12_3 + (wrap64 (1 + (Int.tmod (wrap64 ((rd_T42 l1 x13_3).f2)) 2000))))) * 10000)) + t478)) bt482.1 (bt486.2.2.2.2.2.2.2 != 0) bt486.1 bt486.2.1 bt486.2.2.1 bt486.2.2.2.1 bt486.2.2.2.2.1 bt486.2.2.2.2.2.1 bt486.2.2.2.2.2.2.1) else (none))) else (none)) else (none)) else (none))) else (none)) else (none)) = some r := by rw [if_neg (show ¬ (false = true) by decide)] at H; exact H
                     clear H; have H := H1; clear H1; obtain ⟨ji45, hji45⟩ : ∃ j_ : Int, (Int.tmod (wrap64 ((rd_T42 l1 x13_3).f1)) (x9_3.length : Int)) = j_ := ⟨_, rfl⟩; replace H : (if 0 ≤ (ji45) then (if (ji45) < (y457.length : Int) then ((clock_Show.f ((rd_T27 y457 (ji45)).f0) ((rd_T27 y457 (ji45)).f1) (wrap64 ((wrap64 ((wrap64 (x12_3 + (wrap64 (1 + (Int.tmod (wrap64 ((rd_T42 l1 x13_3).f2)) 2000))))) * 10000)) + t478))).bind fun bt482 => (if (ji45) < (x9_3.length : Int) then (if 0 ≤ (ji35) then (if (ji35) < (x9_3.length : Int) then ((timesync_Hear.f kj39 ((rd_T25 x9_3 (ji45)).f0) ((rd_T25 x9_3 (ji45)).f1.f0) ((rd_T25 x9_3 (ji45)).f1.f1) ((rd_T25 x9_3 (ji45)).f1.f2) ((rd_T25 x9_3 (ji45)).f2) ((rd_T25 x9_3 (ji45)).f3) ((rd_T25 x9_3 (ji45)).f4) (ji35) ((rd_T25 x9_3 (ji35)).f2) t479 (wrap64 (x12_3 + (wrap64 (1 + (Int.tmod (wrap64 ((rd_T42 l1 x13_3).f2)) 2000))))) bt482.1).bind fun bt486 => (if bt482.2 = 0 then (slotmeshtop_TopChain.j5 kj39 l1 x7_30 y457 x9_3 (wrap64 (x12_3 + (wrap64 (1 + (Int.tmod (wrap64 ((rd_T42 l1 x13_3).f2)) 2000))))) x13_3 (ji35) (ji45) (wrap64 ((wrap64 ((wrap64 (x12_3 + (wrap64 (1 + (Int.tmod (wrap64 ((rd_T42 l1 x13_3).f2)) 2000))))) * 10000)) + t478)) bt482.1 (bt486.2.2.2.2.2.2.2 != 0) bt486.1 bt486.2.1 bt486.2.2.1 bt486.2.2.2.1 bt486.2.2.2.2.1 bt486.2.2.2.2.2.1 bt486.2.2.2.2.2.2.1) else (none))) else (none)) else (none)) else (none))) else (none)) else (none)) = some r := by first | (rw [hji45] at H; exact H) | (simp only [hji45] at H ⊢; exact H)
                     by_cases c46 : 0 ≤ (ji45)
                     ·rw [if_pos c46] at H; have c46b0 : decide (0 ≤ (ji45)) = true := decide_eq_true c46; clear c46; by_cases c47 : (ji45) < (y457.length : Int)
                      ·rw [if_pos c47] at H; have c47b0 : decide ((ji45) < (y457.length : Int)) = true := decide_eq_true c47; clear c47; replace H := Option.bind_eq_some_iff.mp H; obtain ⟨⟨t482, t483⟩, A480, H⟩ := H; replace H : (if (ji45) < (x9_3.length : Int) then (if 0 ≤ (ji35) then (if (ji35) < (x9_3.length : Int) then ((timesync_Hear.f kj39 ((rd_T25 x9_3 (ji45)).f0) ((rd_T25 x9_3 (ji45)).f1.f0) ((rd_T25 x9_3 (ji45)).f1.f1) ((rd_T25 x9_3 (ji45)).f1.f2) ((rd_T25 x9_3 (ji45)).f2) ((rd_T25 x9_3 (ji45)).f3) ((rd_T25 x9_3 (ji45)).f4) (ji35) ((rd_T25 x9_3 (ji35)).f2) t479 (wrap64 (x12_3 + (wrap64 (1 + (Int.tmod (wrap64 ((rd_T42 l1 x13_3).f2)) 2000))))) t482).bind fun bt486 => (if t483 = 0 then (slotmeshtop_TopChain.j5 kj39 l1 x7_30 y457 x9_3 (wrap64 (x12_3 + (wrap64 (1 + (Int.tmod (wrap64 ((rd_T42 l1 x13_3).f2)) 2000))))) x13_3 (ji35) (ji45) (wrap64 ((wrap64 ((wrap64 (x12_3 + (wrap64 (1 + (Int.tmod (wrap64 ((rd_T42 l1 x13_3).f2)) 2000))))) * 10000)) + t478)) t482 (bt486.2.2.2.2.2.2.2 != 0) bt486.1 bt486.2.1 bt486.2.2.1 bt486.2.2.2.1 bt486.2.2.2.2.1 bt486.2.2.2.2.2.1 bt486.2.2.2.2.2.2.1) else (none))) else (none)) else (none)) else (none)) = some r := H; have A48 := Aside0.mk A480; clear A480; by_cases c49 : (ji45) < (x9_3.length : Int)
                       ·rw [if_pos c49] at H; have c49b0 : decide ((ji45) < (x9_3.length : Int)) = true := decide_eq_true c49; clear c49; by_cases c50 : 0 ≤ (ji35)
                        ·rw [if_pos c50] at H; have c50b0 : decide (0 ≤ (ji35)) = true := decide_eq_true c50; clear c50; by_cases c51 : (ji35) < (x9_3.length : Int)
                         ·rw [if_pos c51] at H; have c51b0 : decide ((ji35) < (x9_3.length : Int)) = true := decide_eq_true c51; clear c51; replace H := Option.bind_eq_some_iff.mp H; obtain ⟨⟨t486, t487, t488, t489, t490, t491, t492, t493⟩, A520, H⟩ := H; replace H : (if t483 = 0 then (slotmeshtop_TopChain.j5 kj39 l1 x7_30 y457 x9_3 (wrap64 (x12_3 + (wrap64 (1 + (Int.tmod (wrap64 ((rd_T42 l1 x13_3).f2)) 2000))))) x13_3 (ji35) (ji45) (wrap64 ((wrap64 ((wrap64 (x12_3 + (wrap64 (1 + (Int.tmod (wrap64 ((rd_T42 l1 x13_3).f2)) 2000))))) * 10000)) + t478)) t482 (t493 != 0) t486 t487 t488 t489 t490 t491 t492) else (none)) = some r := H; have A52 := Aside0.mk A520; clear A520; have HC53 := Aside0.mk H; clear H; have p481 : 0 ≤ ((ji45) : Int) := of_decide_eq_true (by first | (with_reducible assumption) | assumption); have q481 : (ji45) < (y457.length : Int) := of_decide_eq_true (by first | (with_reducible assumption) | assumption); obtain ⟨ad481, e481, hx481_0, hx481_1⟩ := at_T27 (Kd.R_reads' HO_8.out).2.2 (ji45) p481 q481; obtain rfl : ad477 = ad481 := (by injection e481); replace p481 := eq_true p481; replace q481 := eq_true q481; try go_wp2_with (first | ((with_reducible refine zt (f := 19) rfl ?_); refine goesL_ (some 142) rfl rfl Try.func19 (by kernel_rfl) rfl #[.agg #[.int .i64 ((rd_T27 y457 (ji45)).f0), .int .i64 ((rd_T27 y457 (ji45)).f1)], .int .i64 (wrap64 ((wrap64 ((wrap64 (x12_3 + (wrap64 (1 + (Int.tmod (wrap64 ((rd_T42 l1 x13_3).f2)) 2000))))) * 10000)) + t478))] rfl (by (try simp only [List.map_toArray, List.map_cons, List.map_nil]); first | done | (simp only [hji45]; rfl) | rfl | (simp only [List.length_drop, List.length_take]; rfl)) ?_; (with_reducible refine (clock_Show.calls ((rd_T27 y457 (ji45)).f0) ((rd_T27 y457 (ji45)).f1) (wrap64 ((wrap64 ((wrap64 (x12_3 + (wrap64 (1 + (Int.tmod (wrap64 ((rd_T42 l1 x13_3).f2)) 2000))))) * 10000)) + t478)) t482 t483 _ A48.out).mono ?_); rintro e w54 ⟨rfl, hb⟩; refine ⟨_, rfl, ?_⟩; have n0_ := Aside0.mk (Kd.R_below (by (with_reducible repeat (first | apply Kd.R_alloc | apply Kd.R_drewN | apply Kd.R_drew)); exact HO_8.out) hb); have n1_ := Aside0.mk (Kd.R_below (by (with_reducible repeat (first | apply Kd.R_alloc | apply Kd.R_drewN | apply Kd.R_drew)); exact HO_9.out) hb); have n2_ := Aside0.mk (zl (by repeat (first | (with_reducible first | exact HB.out | apply zc | apply zb | apply zf) | exact HB.out)) hb); clear HO_8; clear HO_9; clear HB; have HO_8 := n0_; have HO_9 := n1_; have HB := n2_; clear n0_ n1_ n2_; (try clear hb); (try clear hb2); (try clear hk); (try clear hi)))
                          have n0_ := Aside0.mk (Kd.R_drew HO_8.out); have n1_ := Aside0.mk (Kd.R_drew HO_9.out); have n2_ := Aside0.mk (zf HB.out); clear HO_8; clear HO_9; clear HB; have HO_8 := n0_; have HO_9 := n1_; have HB := n2_; clear n0_ n1_ n2_; have p484 : 0 ≤ ((ji45) : Int) := of_decide_eq_true (by first | (with_reducible assumption) | assumption); have q484 : (ji45) < (x9_3.length : Int) := of_decide_eq_true (by first | (with_reducible assumption) | assumption); obtain ⟨ad484, e484, hx484_0, hx484_1, hx484_2, hx484_3, hx484_4, hx484_5, hx484_6⟩ := at_T25 (Kd.R_reads' HO_9.out).2.2 (ji45) p484 q484; obtain rfl : ad476 = ad484 := (by injection e484); replace p484 := eq_true p484; replace q484 := eq_true q484; have p485 : 0 ≤ ((ji35) : Int) := of_decide_eq_true (by first | (with_reducible assumption) | assumption); have q485 : (ji35) < (x9_3.length : Int) := of_decide_eq_true (by first | (with_reducible assumption) | assumption); obtain ⟨ad485, e485, hx485_0, hx485_1, hx485_2, hx485_3, hx485_4, hx485_5, hx485_6⟩ := at_T25 (Kd.R_reads' HO_9.out).2.2 (ji35) p485 q485; obtain rfl : ad476 = ad485 := (by injection e485); replace p485 := eq_true p485; replace q485 := eq_true q485; refine start_ (n := 21) (S := fun w' => w'.cell? (ad476.add (((ji45)).toNat * 7)) = some (.bool ((rd_T25 x9_3 (ji45)).f0)) ∧ w'.cell? ⟨(ad476.add (((ji45)).toNat * 7)).block, (ad476.add (((ji45)).toNat * 7)).off + 1, none⟩ = some (.int .i64 ((rd_T25 x9_3 (ji45)).f1.f0)) ∧ w'.cell? ⟨(ad476.add (((ji45)).toNat * 7)).block, (ad476.add (((ji45)).toNat * 7)).off + 2, none⟩ = some (.int .i64 ((rd_T25 x9_3 (ji45)).f1.f1)) ∧ w'.cell? ⟨(ad476.add (((ji45)).toNat * 7)).block, (ad476.add (((ji45)).toNat * 7)).off + 3, none⟩ = some (.int .i64 ((rd_T25 x9_3 (ji45)).f1.f2)) ∧ w'.cell? ⟨(ad476.add (((ji45)).toNat * 7)).block, (ad476.add (((ji45)).toNat * 7)).off + 4, none⟩ = some (.int .i64 ((rd_T25 x9_3 (ji45)).f2)) ∧ w'.cell? ⟨(ad476.add (((ji45)).toNat * 7)).block, (ad476.add (((ji45)).toNat * 7)).off + 5, none⟩ = some (.int .i64 ((rd_T25 x9_3 (ji45)).f3)) ∧ w'.cell? ⟨(ad476.add (((ji45)).toNat * 7)).block, (ad476.add (((ji45)).toNat * 7)).off + 6, none⟩ = some (.int .i64 ((rd_T25 x9_3 (ji45)).f4)) ∧ w'.cell? (ad476.add (((ji35)).toNat * 7)) = some (.bool ((rd_T25 x9_3 (ji35)).f0)) ∧ w'.cell? ⟨(ad476.add (((ji35)).toNat * 7)).block, (ad476.add (((ji35)).toNat * 7)).off + 1, none⟩ = some (.int .i64 ((rd_T25 x9_3 (ji35)).f1.f0)) ∧ w'.cell? ⟨(ad476.add (((ji35)).toNat * 7)).block, (ad476.add (((ji35)).toNat * 7)).off + 2, none⟩ = some (.int .i64 ((rd_T25 x9_3 (ji35)).f1.f1)) ∧ w'.cell? ⟨(ad476.add (((ji35)).toNat * 7)).block, (ad476.add (((ji35)).toNat * 7)).off + 3, none⟩ = some (.int .i64 ((rd_T25 x9_3 (ji35)).f1.f2)) ∧ w'.cell? ⟨(ad476.add (((ji35)).toNat * 7)).block, (ad476.add (((ji35)).toNat * 7)).off + 4, none⟩ = some (.int .i64 ((rd_T25 x9_3 (ji35)).f2)) ∧ w'.cell? ⟨(ad476.add (((ji35)).toNat * 7)).block, (ad476.add (((ji35)).toNat * 7)).off + 5, none⟩ = some (.int .i64 ((rd_T25 x9_3 (ji35)).f3)) ∧ w'.cell? ⟨(ad476.add (((ji35)).toNat * 7)).block, (ad476.add (((ji35)).toNat * 7)).off + 6, none⟩ = some (.int .i64 ((rd_T25 x9_3 (ji35)).f4))) (ds := []) #[false, false, false, false, false, false, false, false, false, false, false, false, false, false, false, false, false, false, false, false, false] (by kernel_rfl) rfl rfl ⟨hx484_0, hx484_1, hx484_2, hx484_3, hx484_4, hx484_5, hx484_6, hx485_0, hx485_1, hx485_2, hx485_3, hx485_4, hx485_5, hx485_6⟩ (fun hHeld => ?_); refine with_tabW slotmeshtop_TopChain.tab26 slotmeshtop_TopChain.bits26 (fun HT_ HW_ => ?_)
                          generalize w54.drew = w55 at HO_8 HO_9 HB hx484_0 hx484_1 hx484_2 hx484_3 hx484_4 hx484_5 hx484_6 hx485_0 hx485_1 hx485_2 hx485_3 hx485_4 hx485_5 hx485_6 hHeld ⊢
                          refine zv (i := 0) (N := some 146) (v := ?_) (a' := ?_) #[true, false, false, false, false, false, false, false, false, false, false, false, false, false, false, false, false, false, false, false, false] rfl rfl (zq HT_.out (by kernel_rfl)) (fun _ _ _ h => h) (Or.inl ⟨by rfl, ?_⟩) ?_ ?_; rotate_left
                          ·intro w'; go_simp
                           with_reducible rfl
                          rotate_left
                          ·simp only [Act.put, List.setIfInBounds_toArray, List.set_cons_zero, List.set_cons_succ, zr, zs]; rfl
                          refine zv (i := 1) (N := some 147) (v := ?_) (a' := ?_) #[true, true, false, false, false, false, false, false, false, false, false, false, false, false, false, false, false, false, false, false, false] rfl rfl (zq HT_.out (by kernel_rfl)) (fun _ _ _ h => h) (Or.inl ⟨by rfl, ?_⟩) ?_ ?_; rotate_left
                          ·intro w'; go_simp
                           with_reducible rfl
                          rotate_left
                          ·simp only [Act.put, List.setIfInBounds_toArray, List.set_cons_zero, List.set_cons_succ, zr, zs]; rfl
                          refine zv (i := 2) (N := some 148) (v := ?_) (a' := ?_) #[true, true, true, false, false, false, false, false, false, false, false, false, false, false, false, false, false, false, false, false, false] rfl rfl (zq HT_.out (by kernel_rfl)) (fun _ _ _ h => h) (Or.inl ⟨by rfl, ?_⟩) ?_ ?_; rotate_left
                          ·intro w'; go_simp
                           with_reducible rfl
                          rotate_left
                          ·simp only [Act.put, List.setIfInBounds_toArray, List.set_cons_zero, List.set_cons_succ, zr, zs]; rfl
                          refine zv (i := 4) (N := some 150) (v := ?_) (a' := ?_) #[true, true, true, false, true, false, false, false, false, false, false, false, false, false, false, false, false, false, false, false, false] rfl rfl (zq HT_.out (by kernel_rfl)) (fun _ _ _ h => h) (Or.inl ⟨by rfl, ?_⟩) ?_ ?_; rotate_left
                          ·intro w'; go_simp
                           with_reducible rfl
                          rotate_left
                          ·simp only [Act.put, List.setIfInBounds_toArray, List.set_cons_zero, List.set_cons_succ, zr, zs]; rfl
                          refine zv (i := 5) (N := some 151) (v := ?_) (a' := ?_) #[true, true, true, false, true, true, false, false, false, false, false, false, false, false, false, false, false, false, false, false, false] rfl rfl (zq HT_.out (by kernel_rfl)) (fun _ _ _ h => h) (Or.inl ⟨by rfl, ?_⟩) ?_ ?_; rotate_left
                          ·intro w'; go_simp
                           with_reducible rfl
                          rotate_left
                          ·simp only [Act.put, List.setIfInBounds_toArray, List.set_cons_zero, List.set_cons_succ, zr, zs]; rfl
                          refine zv (i := 6) (N := some 152) (v := ?_) (a' := ?_) #[true, true, true, false, true, true, true, false, false, false, false, false, false, false, false, false, false, false, false, false, false] rfl rfl (zq HT_.out (by kernel_rfl)) (fun _ _ _ h => h) (Or.inl ⟨by rfl, ?_⟩) ?_ ?_; rotate_left
                          ·intro w'; go_simp
                           with_reducible rfl
                          rotate_left
                          ·simp only [Act.put, List.setIfInBounds_toArray, List.set_cons_zero, List.set_cons_succ, zr, zs]; rfl
                          refine zv (i := 7) (N := some 153) (v := ?_) (a' := ?_) #[true, true, true, false, true, true, true, true, false, false, false, false, false, false, false, false, false, false, false, false, false] rfl rfl (zq HT_.out (by kernel_rfl)) (fun _ _ _ h => h) (Or.inl ⟨by rfl, ?_⟩) ?_ ?_; rotate_left
                          ·intro w'; go_simp
                           with_reducible rfl
                          rotate_left
                          ·simp only [Act.put, List.setIfInBounds_toArray, List.set_cons_zero, List.set_cons_succ, zr, zs]; rfl
                          refine zv (i := 8) (N := some 154) (v := ?_) (a' := ?_) #[true, true, true, false, true, true, true, true, true, false, false, false, false, false, false, false, false, false, false, false, false] rfl rfl (zq HT_.out (by kernel_rfl)) (fun _ _ _ h => h) (Or.inl ⟨by rfl, ?_⟩) ?_ ?_; rotate_left
                          ·intro w'; go_simp
                           with_reducible rfl
                          rotate_left
                          ·simp only [Act.put, List.setIfInBounds_toArray, List.set_cons_zero, List.set_cons_succ, zr, zs]; rfl
                          refine zv (i := 10) (N := some 156) (v := ?_) (a' := ?_) #[true, true, true, false, true, true, true, true, true, false, true, false, false, false, false, false, false, false, false, false, false] rfl rfl (zq HT_.out (by kernel_rfl)) (fun _ _ _ h => h) (Or.inl ⟨by rfl, ?_⟩) ?_ ?_; rotate_left
                          ·intro w'; go_simp
                           with_reducible rfl
                          rotate_left
                          ·simp only [Act.put, List.setIfInBounds_toArray, List.set_cons_zero, List.set_cons_succ, zr, zs]; rfl
                          refine zv (i := 11) (N := some 157) (v := ?_) (a' := ?_) #[true, true, true, false, true, true, true, true, true, false, true, true, false, false, false, false, false, false, false, false, false] rfl rfl (zq HT_.out (by kernel_rfl)) (fun _ _ _ h => h) (Or.inl ⟨by rfl, ?_⟩) ?_ ?_; rotate_left
                          ·intro w'; go_simp
                           with_reducible rfl
                          rotate_left
                          ·simp only [Act.put, List.setIfInBounds_toArray, List.set_cons_zero, List.set_cons_succ, zr, zs]; rfl
                          refine zv (i := 12) (N := some 158) (v := ?_) (a' := ?_) #[true, true, true, false, true, true, true, true, true, false, true, true, true, false, false, false, false, false, false, false, false] rfl rfl (zq HT_.out (by kernel_rfl)) (fun _ _ _ h => h) (Or.inl ⟨by rfl, ?_⟩) ?_ ?_; rotate_left
                          ·intro w'; go_simp
                           with_reducible rfl
                          rotate_left
                          ·simp only [Act.put, List.setIfInBounds_toArray, List.set_cons_zero, List.set_cons_succ, zr, zs]; rfl
                          refine take_ (i := 3) (N := some 149) (v := ?_) (a' := ?_) #[true, true, true, true, true, true, true, true, true, false, true, true, true, false, false, false, false, false, false, false, false] rfl rfl (take_ofW HT_.out HW_.out (by kernel_rfl)) (fun _ _ _ h => h) (Or.inl ⟨by rfl, ?_⟩) hHeld ?_ ?_; rotate_left
                          ·rintro w' ⟨s0, s1, s2, s3, s4, s5, s6, s7, s8, s9, s10, s11, s12, s13⟩; go_simp
                           with_reducible rfl
                          rotate_left
                          ·simp only [Act.put, List.setIfInBounds_toArray, List.set_cons_zero, List.set_cons_succ, zr, zs]; rfl
                          refine take_ (i := 9) (N := some 155) (v := ?_) (a' := ?_) #[true, true, true, true, true, true, true, true, true, true, true, true, true, false, false, false, false, false, false, false, false] rfl rfl (take_ofW HT_.out HW_.out (by kernel_rfl)) (fun _ _ _ h => h) (Or.inl ⟨by rfl, ?_⟩) hHeld ?_ ?_; rotate_left
                          ·rintro w' ⟨s0, s1, s2, s3, s4, s5, s6, s7, s8, s9, s10, s11, s12, s13⟩; go_simp
                           with_reducible rfl
                          rotate_left
                          ·simp only [Act.put, List.setIfInBounds_toArray, List.set_cons_zero, List.set_cons_succ, zr, zs]; rfl
                          refine zv (i := 13) (N := some 159) (v := ?_) (a' := ?_) #[true, true, true, true, true, true, true, true, true, true, true, true, true, true, false, false, false, false, false, false, false] rfl rfl (zq HT_.out (by kernel_rfl)) (fun _ _ _ h => h) (Or.inl ⟨by rfl, ?_⟩) ?_ ?_; rotate_left
                          ·intro w'; go_simp
                           with_reducible rfl
                          rotate_left
                          ·simp only [Act.put, List.setIfInBounds_toArray, List.set_cons_zero, List.set_cons_succ, zr, zs]; rfl
                          refine join_ (σ := Nat) 2 #[true, true, true, true, true, true, true, true, true, true, true, true, true, true, true, true, true, true, true, false, false] (fun s_ => [(160, .tuple #[.agg #[.bool t486, .int .i64 t487, .int .i64 t488, .int .i64 t489, .int .i64 t490, .int .i64 t491, .int .i64 t492], .int .i64 t493]), (23, .pointer (some ⟨s_, 0, none⟩)), (145, .tuple #[.agg #[.bool t486, .int .i64 t487, .int .i64 t488, .int .i64 t489, .int .i64 t490, .int .i64 t491, .int .i64 t492], .int .i64 t493]), (161, .agg #[.bool t486, .int .i64 t487, .int .i64 t488, .int .i64 t489, .int .i64 t490, .int .i64 t491, .int .i64 t492]), (162, .int .i64 t493)]) (fun s_ w' => (w'.cell? (ad476.add (((ji45)).toNat * 7)) = some (.bool ((rd_T25 x9_3 (ji45)).f0)) ∧ w'.cell? ⟨(ad476.add (((ji45)).toNat * 7)).block, (ad476.add (((ji45)).toNat * 7)).off + 1, none⟩ = some (.int .i64 ((rd_T25 x9_3 (ji45)).f1.f0)) ∧ w'.cell? ⟨(ad476.add (((ji45)).toNat * 7)).block, (ad476.add (((ji45)).toNat * 7)).off + 2, none⟩ = some (.int .i64 ((rd_T25 x9_3 (ji45)).f1.f1)) ∧ w'.cell? ⟨(ad476.add (((ji45)).toNat * 7)).block, (ad476.add (((ji45)).toNat * 7)).off + 3, none⟩ = some (.int .i64 ((rd_T25 x9_3 (ji45)).f1.f2)) ∧ w'.cell? ⟨(ad476.add (((ji45)).toNat * 7)).block, (ad476.add (((ji45)).toNat * 7)).off + 4, none⟩ = some (.int .i64 ((rd_T25 x9_3 (ji45)).f2)) ∧ w'.cell? ⟨(ad476.add (((ji45)).toNat * 7)).block, (ad476.add (((ji45)).toNat * 7)).off + 5, none⟩ = some (.int .i64 ((rd_T25 x9_3 (ji45)).f3)) ∧ w'.cell? ⟨(ad476.add (((ji45)).toNat * 7)).block, (ad476.add (((ji45)).toNat * 7)).off + 6, none⟩ = some (.int .i64 ((rd_T25 x9_3 (ji45)).f4)) ∧ w'.cell? (ad476.add (((ji35)).toNat * 7)) = some (.bool ((rd_T25 x9_3 (ji35)).f0)) ∧ w'.cell? ⟨(ad476.add (((ji35)).toNat * 7)).block, (ad476.add (((ji35)).toNat * 7)).off + 1, none⟩ = some (.int .i64 ((rd_T25 x9_3 (ji35)).f1.f0)) ∧ w'.cell? ⟨(ad476.add (((ji35)).toNat * 7)).block, (ad476.add (((ji35)).toNat * 7)).off + 2, none⟩ = some (.int .i64 ((rd_T25 x9_3 (ji35)).f1.f1)) ∧ w'.cell? ⟨(ad476.add (((ji35)).toNat * 7)).block, (ad476.add (((ji35)).toNat * 7)).off + 3, none⟩ = some (.int .i64 ((rd_T25 x9_3 (ji35)).f1.f2)) ∧ w'.cell? ⟨(ad476.add (((ji35)).toNat * 7)).block, (ad476.add (((ji35)).toNat * 7)).off + 4, none⟩ = some (.int .i64 ((rd_T25 x9_3 (ji35)).f2)) ∧ w'.cell? ⟨(ad476.add (((ji35)).toNat * 7)).block, (ad476.add (((ji35)).toNat * 7)).off + 5, none⟩ = some (.int .i64 ((rd_T25 x9_3 (ji35)).f3)) ∧ w'.cell? ⟨(ad476.add (((ji35)).toNat * 7)).block, (ad476.add (((ji35)).toNat * 7)).off + 6, none⟩ = some (.int .i64 ((rd_T25 x9_3 (ji35)).f4))) ∧ (Kd.R k27 27 w' w.heap.size (fun _ => True) (.slice (some ad477) y457.length co26) y457) ∧ (Kd.R k25 25 w' w.heap.size (fun k_ => k_ ≠ s_) (.slice (some ad476) x9_3.length co32) x9_3) ∧ (w'.heap[s_]? = some (.cells #[.bool false, .int .i64 0, .int .i64 0, .int .i64 0, .int .i64 0, .int .i64 0, .int .i64 0] 25 (0, 0))) ∧ (w.heap.size ≤ s_) ∧ (w.heap.size ≤ s_) ∧ (Below w.heap.size w w')) ?_ ?_; rotate_left
                          ·intro hCont; refine two_ (i := 14) (j := 18) (Ni := some 160) (Nj := some 23) #[true, true, true, true, true, true, true, true, true, true, true, true, true, true, true, false, false, false, false, false, false] #[true, true, true, true, true, true, true, true, true, true, true, true, true, true, false, false, false, false, true, false, false] rfl rfl rfl rfl (two_of HT_.out (by kernel_rfl)) (by decide) (by decide) (fun K hK => ?_) (fun K hK => ?_)
                           ·skip
                            refine goes_ Try.func20 (by kernel_rfl) rfl #[.agg #[.bool ((rd_T25 x9_3 (ji45)).f0), .int .i64 ((rd_T25 x9_3 (ji45)).f1.f0), .int .i64 ((rd_T25 x9_3 (ji45)).f1.f1), .int .i64 ((rd_T25 x9_3 (ji45)).f1.f2), .int .i64 ((rd_T25 x9_3 (ji45)).f2), .int .i64 ((rd_T25 x9_3 (ji45)).f3), .int .i64 ((rd_T25 x9_3 (ji45)).f4)], .agg #[.int .i64 (ji35), .int .i64 ((rd_T25 x9_3 (ji35)).f2), .int .i64 t479, .int .i64 (wrap64 (x12_3 + (wrap64 (1 + (Int.tmod (wrap64 ((rd_T42 l1 x13_3).f2)) 2000))))), .int .i64 t482]] (by rfl) rfl rfl (by (try simp only [List.map_toArray, List.map_cons, List.map_nil]); first | done | (simp only [hji35, hji45]; rfl) | rfl | (simp only [List.length_drop, List.length_take]; rfl)) ?_; with_reducible refine (timesync_Hear.calls kj39 ((rd_T25 x9_3 (ji45)).f0) ((rd_T25 x9_3 (ji45)).f1.f0) ((rd_T25 x9_3 (ji45)).f1.f1) ((rd_T25 x9_3 (ji45)).f1.f2) ((rd_T25 x9_3 (ji45)).f2) ((rd_T25 x9_3 (ji45)).f3) ((rd_T25 x9_3 (ji45)).f4) (ji35) ((rd_T25 x9_3 (ji35)).f2) t479 (wrap64 (x12_3 + (wrap64 (1 + (Int.tmod (wrap64 ((rd_T42 l1 x13_3).f2)) 2000))))) t482 t486 t487 t488 t489 t490 t491 t492 t493 _ A52.out).mono ?_
                            rintro e w56 ⟨rfl, hb⟩; have HS0_ := (hb.cell (World.block_lt_of_cell? _ _ (hHeld.1))).trans (hHeld.1); have HS1_ := (hb.cell (World.block_lt_of_cell? _ _ (hHeld.2.1))).trans (hHeld.2.1); have HS2_ := (hb.cell (World.block_lt_of_cell? _ _ (hHeld.2.2.1))).trans (hHeld.2.2.1); have HS3_ := (hb.cell (World.block_lt_of_cell? _ _ (hHeld.2.2.2.1))).trans (hHeld.2.2.2.1); have HS4_ := (hb.cell (World.block_lt_of_cell? _ _ (hHeld.2.2.2.2.1))).trans (hHeld.2.2.2.2.1); have HS5_ := (hb.cell (World.block_lt_of_cell? _ _ (hHeld.2.2.2.2.2.1))).trans (hHeld.2.2.2.2.2.1); have HS6_ := (hb.cell (World.block_lt_of_cell? _ _ (hHeld.2.2.2.2.2.2.1))).trans (hHeld.2.2.2.2.2.2.1); have HS7_ := (hb.cell (World.block_lt_of_cell? _ _ (hHeld.2.2.2.2.2.2.2.1))).trans (hHeld.2.2.2.2.2.2.2.1); have HS8_ := (hb.cell (World.block_lt_of_cell? _ _ (hHeld.2.2.2.2.2.2.2.2.1))).trans (hHeld.2.2.2.2.2.2.2.2.1); have HS9_ := (hb.cell (World.block_lt_of_cell? _ _ (hHeld.2.2.2.2.2.2.2.2.2.1))).trans (hHeld.2.2.2.2.2.2.2.2.2.1); have HS10_ := (hb.cell (World.block_lt_of_cell? _ _ (hHeld.2.2.2.2.2.2.2.2.2.2.1))).trans (hHeld.2.2.2.2.2.2.2.2.2.2.1); have HS11_ := (hb.cell (World.block_lt_of_cell? _ _ (hHeld.2.2.2.2.2.2.2.2.2.2.2.1))).trans (hHeld.2.2.2.2.2.2.2.2.2.2.2.1); have HS12_ := (hb.cell (World.block_lt_of_cell? _ _ (hHeld.2.2.2.2.2.2.2.2.2.2.2.2.1))).trans (hHeld.2.2.2.2.2.2.2.2.2.2.2.2.1); have HS13_ := (hb.cell (World.block_lt_of_cell? _ _ (hHeld.2.2.2.2.2.2.2.2.2.2.2.2.2))).trans (hHeld.2.2.2.2.2.2.2.2.2.2.2.2.2); refine ⟨_, rfl, ?_⟩; have n0_ := Aside0.mk (Kd.R_below (by (with_reducible repeat (first | apply Kd.R_alloc | apply Kd.R_drewN | apply Kd.R_drew)); exact HO_8.out) hb); have n1_ := Aside0.mk (Kd.R_below (by (with_reducible repeat (first | apply Kd.R_alloc | apply Kd.R_drewN | apply Kd.R_drew)); exact HO_9.out) hb); have n2_ := Aside0.mk (zl (by repeat (first | (with_reducible first | exact HB.out | apply zc | apply zb | apply zf) | exact HB.out)) hb); clear HO_8; clear HO_9; clear HB; have HO_8 := n0_; have HO_9 := n1_; have HB := n2_; clear n0_ n1_ n2_; (try clear hb)
                            (try clear hb2)
                            (try clear hk)
                            (try clear hi)
                            refine hK.out _ _ ⟨HS0_, HS1_, HS2_, HS3_, HS4_, HS5_, HS6_, HS7_, HS8_, HS9_, HS10_, HS11_, HS12_, HS13_⟩ (fun hHeld => ?_); clear hK K; refine norm_ (a' := ?_) ?_ ?_; rotate_left
                            ·show Act.put _ (some 160) _ = _
                             simp only [Act.put, List.setIfInBounds_toArray, List.set_cons_zero, List.set_cons_succ, zr, zs]; rfl
                            refine zv (i := 15) (N := some 145) (v := ?_) (a' := ?_) #[true, true, true, true, true, true, true, true, true, true, true, true, true, true, true, true, false, false, false, false, false] rfl rfl (zq HT_.out (by kernel_rfl)) (fun _ _ _ h => h) (Or.inl ⟨by rfl, ?_⟩) ?_ ?_; rotate_left
                            ·intro w'; go_simp
                             with_reducible rfl
                            rotate_left
                            ·simp only [Act.put, List.setIfInBounds_toArray, List.set_cons_zero, List.set_cons_succ, zr, zs]; rfl
                            refine zv (i := 16) (N := some 161) (v := ?_) (a' := ?_) #[true, true, true, true, true, true, true, true, true, true, true, true, true, true, true, true, true, false, false, false, false] rfl rfl (zq HT_.out (by kernel_rfl)) (fun _ _ _ h => h) (Or.inl ⟨by rfl, ?_⟩) ?_ ?_; rotate_left
                            ·intro w'; go_simp
                             with_reducible rfl
                            rotate_left
                            ·simp only [Act.put, List.setIfInBounds_toArray, List.set_cons_zero, List.set_cons_succ, zr, zs]; rfl
                            refine zv (i := 17) (N := some 162) (v := ?_) (a' := ?_) #[true, true, true, true, true, true, true, true, true, true, true, true, true, true, true, true, true, true, false, false, false] rfl rfl (zq HT_.out (by kernel_rfl)) (fun _ _ _ h => h) (Or.inl ⟨by rfl, ?_⟩) ?_ ?_; rotate_left
                            ·intro w'; go_simp
                             with_reducible rfl
                            rotate_left
                            ·simp only [Act.put, List.setIfInBounds_toArray, List.set_cons_zero, List.set_cons_succ, zr, zs]; rfl
                            refine one_ (i := 18) (N := some 23) #[true, true, true, true, true, true, true, true, true, true, true, true, true, true, true, true, true, true, true, false, false] rfl rfl (one_of HT_.out (by kernel_rfl)) (by decide) (fun K hK => ?_); refine box_step ?hg (N := 23) ?hd (cs := #[.bool false, .int .i64 0, .int .i64 0, .int .i64 0, .int .i64 0, .int .i64 0, .int .i64 0]) (t := 25) ?hr ?_; (case hd => rfl); (case hg => rfl); (case hr => first | (go_simp; done) | (go_simp; rfl))
                            intro gb494 hg w57 hbox hb; have HS0_ := (hb.cell (World.block_lt_of_cell? _ _ (hHeld.1))).trans (hHeld.1); have HS1_ := (hb.cell (World.block_lt_of_cell? _ _ (hHeld.2.1))).trans (hHeld.2.1); have HS2_ := (hb.cell (World.block_lt_of_cell? _ _ (hHeld.2.2.1))).trans (hHeld.2.2.1); have HS3_ := (hb.cell (World.block_lt_of_cell? _ _ (hHeld.2.2.2.1))).trans (hHeld.2.2.2.1); have HS4_ := (hb.cell (World.block_lt_of_cell? _ _ (hHeld.2.2.2.2.1))).trans (hHeld.2.2.2.2.1); have HS5_ := (hb.cell (World.block_lt_of_cell? _ _ (hHeld.2.2.2.2.2.1))).trans (hHeld.2.2.2.2.2.1); have HS6_ := (hb.cell (World.block_lt_of_cell? _ _ (hHeld.2.2.2.2.2.2.1))).trans (hHeld.2.2.2.2.2.2.1); have HS7_ := (hb.cell (World.block_lt_of_cell? _ _ (hHeld.2.2.2.2.2.2.2.1))).trans (hHeld.2.2.2.2.2.2.2.1); have HS8_ := (hb.cell (World.block_lt_of_cell? _ _ (hHeld.2.2.2.2.2.2.2.2.1))).trans (hHeld.2.2.2.2.2.2.2.2.1); have HS9_ := (hb.cell (World.block_lt_of_cell? _ _ (hHeld.2.2.2.2.2.2.2.2.2.1))).trans (hHeld.2.2.2.2.2.2.2.2.2.1); have HS10_ := (hb.cell (World.block_lt_of_cell? _ _ (hHeld.2.2.2.2.2.2.2.2.2.2.1))).trans (hHeld.2.2.2.2.2.2.2.2.2.2.1); have HS11_ := (hb.cell (World.block_lt_of_cell? _ _ (hHeld.2.2.2.2.2.2.2.2.2.2.2.1))).trans (hHeld.2.2.2.2.2.2.2.2.2.2.2.1); have HS12_ := (hb.cell (World.block_lt_of_cell? _ _ (hHeld.2.2.2.2.2.2.2.2.2.2.2.2.1))).trans (hHeld.2.2.2.2.2.2.2.2.2.2.2.2.1); have HS13_ := (hb.cell (World.block_lt_of_cell? _ _ (hHeld.2.2.2.2.2.2.2.2.2.2.2.2.2))).trans (hHeld.2.2.2.2.2.2.2.2.2.2.2.2.2); have n0_ := Aside0.mk (Kd.R_below (by (with_reducible repeat (first | apply Kd.R_alloc | apply Kd.R_drewN | apply Kd.R_drew)); exact HO_8.out) hb); have n1_ := Aside0.mk (Kd.R_below (Kd.R_elderB (by (with_reducible repeat (first | apply Kd.R_alloc | apply Kd.R_drewN | apply Kd.R_drew)); exact HO_9.out) gb494 (Nat.le_of_eq hg.symm)) hb); have n2_ := Aside0.mk (zl (by repeat (first | (with_reducible first | exact HB.out | apply zc | apply zb | apply zf) | exact HB.out)) hb); have n3_ := Aside0.mk (hbox); have n4_ := Aside0.mk ((by rw [hg]; exact (zn (by repeat (first | (with_reducible first | exact HB.out | apply zc | apply zb | apply zf) | exact HB.out))) : w.heap.size ≤ gb494)); have n5_ := Aside0.mk ((by rw [hg]; exact (zn (by repeat (first | (with_reducible first | exact HB.out | apply zc | apply zb | apply zf) | exact HB.out))) : w.heap.size ≤ gb494)); clear HO_8; clear HO_9; clear HB; have HO_8 := n0_; have HO_9 := n1_; have HB := n2_; have BK494 := n3_; have GW494 := n4_; have GE494 := n5_; clear n0_ n1_ n2_ n3_ n4_ n5_; clear hb hbox hg; refine hK.out _ _ ⟨HS0_, HS1_, HS2_, HS3_, HS4_, HS5_, HS6_, HS7_, HS8_, HS9_, HS10_, HS11_, HS12_, HS13_⟩ (fun hHeld => ?_); clear hK K; refine norm_ (a' := ?_) ?_ ?_; rotate_left
                            ·show Act.put _ (some 23) _ = _
                             simp only [Act.put, List.setIfInBounds_toArray, List.set_cons_zero, List.set_cons_succ, zr, zs]; rfl
                            exact norm_ (by simp only [putAll, Act.put, List.setIfInBounds_toArray, List.set_cons_zero, List.set_cons_succ]) (hCont (gb494) _ ⟨hHeld, (by (with_reducible repeat (first | apply Kd.R_alloc | apply Kd.R_drewN | apply Kd.R_drew)); exact HO_8.out), (by (with_reducible repeat (first | apply Kd.R_alloc | apply Kd.R_drewN | apply Kd.R_drew)); exact Kd.R_mono HO_9.out (fun _ hk => hk.2)), (by (with_reducible repeat (first | refine zi ?_ _ | refine zk ?_ | refine zg ?_ _)); exact BK494.out), GW494.out, GE494.out, (by repeat (first | (with_reducible first | exact HB.out | apply zc | apply zb | apply zf | refine zh ?_ GE494.out) | exact HB.out))⟩)
                           ·skip
                            refine box_step ?hg (N := 23) ?hd (cs := #[.bool false, .int .i64 0, .int .i64 0, .int .i64 0, .int .i64 0, .int .i64 0, .int .i64 0]) (t := 25) ?hr ?_; (case hd => rfl); (case hg => rfl); (case hr => first | (go_simp; done) | (go_simp; rfl))
                            intro gb494 hg w56 hbox hb; have HS0_ := (hb.cell (World.block_lt_of_cell? _ _ (hHeld.1))).trans (hHeld.1); have HS1_ := (hb.cell (World.block_lt_of_cell? _ _ (hHeld.2.1))).trans (hHeld.2.1); have HS2_ := (hb.cell (World.block_lt_of_cell? _ _ (hHeld.2.2.1))).trans (hHeld.2.2.1); have HS3_ := (hb.cell (World.block_lt_of_cell? _ _ (hHeld.2.2.2.1))).trans (hHeld.2.2.2.1); have HS4_ := (hb.cell (World.block_lt_of_cell? _ _ (hHeld.2.2.2.2.1))).trans (hHeld.2.2.2.2.1); have HS5_ := (hb.cell (World.block_lt_of_cell? _ _ (hHeld.2.2.2.2.2.1))).trans (hHeld.2.2.2.2.2.1); have HS6_ := (hb.cell (World.block_lt_of_cell? _ _ (hHeld.2.2.2.2.2.2.1))).trans (hHeld.2.2.2.2.2.2.1); have HS7_ := (hb.cell (World.block_lt_of_cell? _ _ (hHeld.2.2.2.2.2.2.2.1))).trans (hHeld.2.2.2.2.2.2.2.1); have HS8_ := (hb.cell (World.block_lt_of_cell? _ _ (hHeld.2.2.2.2.2.2.2.2.1))).trans (hHeld.2.2.2.2.2.2.2.2.1); have HS9_ := (hb.cell (World.block_lt_of_cell? _ _ (hHeld.2.2.2.2.2.2.2.2.2.1))).trans (hHeld.2.2.2.2.2.2.2.2.2.1); have HS10_ := (hb.cell (World.block_lt_of_cell? _ _ (hHeld.2.2.2.2.2.2.2.2.2.2.1))).trans (hHeld.2.2.2.2.2.2.2.2.2.2.1); have HS11_ := (hb.cell (World.block_lt_of_cell? _ _ (hHeld.2.2.2.2.2.2.2.2.2.2.2.1))).trans (hHeld.2.2.2.2.2.2.2.2.2.2.2.1); have HS12_ := (hb.cell (World.block_lt_of_cell? _ _ (hHeld.2.2.2.2.2.2.2.2.2.2.2.2.1))).trans (hHeld.2.2.2.2.2.2.2.2.2.2.2.2.1); have HS13_ := (hb.cell (World.block_lt_of_cell? _ _ (hHeld.2.2.2.2.2.2.2.2.2.2.2.2.2))).trans (hHeld.2.2.2.2.2.2.2.2.2.2.2.2.2); have n0_ := Aside0.mk (Kd.R_below (by (with_reducible repeat (first | apply Kd.R_alloc | apply Kd.R_drewN | apply Kd.R_drew)); exact HO_8.out) hb); have n1_ := Aside0.mk (Kd.R_below (Kd.R_elderB (by (with_reducible repeat (first | apply Kd.R_alloc | apply Kd.R_drewN | apply Kd.R_drew)); exact HO_9.out) gb494 (Nat.le_of_eq hg.symm)) hb); have n2_ := Aside0.mk (zl (by repeat (first | (with_reducible first | exact HB.out | apply zc | apply zb | apply zf) | exact HB.out)) hb); have n3_ := Aside0.mk (hbox); have n4_ := Aside0.mk ((by rw [hg]; exact (zn (by repeat (first | (with_reducible first | exact HB.out | apply zc | apply zb | apply zf) | exact HB.out))) : w.heap.size ≤ gb494)); have n5_ := Aside0.mk ((by rw [hg]; exact (zn (by repeat (first | (with_reducible first | exact HB.out | apply zc | apply zb | apply zf) | exact HB.out))) : w.heap.size ≤ gb494)); clear HO_8; clear HO_9; clear HB; have HO_8 := n0_; have HO_9 := n1_; have HB := n2_; have BK494 := n3_; have GW494 := n4_; have GE494 := n5_; clear n0_ n1_ n2_ n3_ n4_ n5_; clear hb hbox hg; refine hK.out _ _ ⟨HS0_, HS1_, HS2_, HS3_, HS4_, HS5_, HS6_, HS7_, HS8_, HS9_, HS10_, HS11_, HS12_, HS13_⟩ (fun hHeld => ?_); clear hK K; refine norm_ (a' := ?_) ?_ ?_; rotate_left
                            ·show Act.put _ (some 23) _ = _
                             simp only [Act.put, List.setIfInBounds_toArray, List.set_cons_zero, List.set_cons_succ, zr, zs]; rfl
                            refine one_ (i := 14) (N := some 160) #[true, true, true, true, true, true, true, true, true, true, true, true, true, true, true, false, false, false, true, false, false] rfl rfl (one_of HT_.out (by kernel_rfl)) (by decide) (fun K hK => ?_); refine goes_ Try.func20 (by kernel_rfl) rfl #[.agg #[.bool ((rd_T25 x9_3 (ji45)).f0), .int .i64 ((rd_T25 x9_3 (ji45)).f1.f0), .int .i64 ((rd_T25 x9_3 (ji45)).f1.f1), .int .i64 ((rd_T25 x9_3 (ji45)).f1.f2), .int .i64 ((rd_T25 x9_3 (ji45)).f2), .int .i64 ((rd_T25 x9_3 (ji45)).f3), .int .i64 ((rd_T25 x9_3 (ji45)).f4)], .agg #[.int .i64 (ji35), .int .i64 ((rd_T25 x9_3 (ji35)).f2), .int .i64 t479, .int .i64 (wrap64 (x12_3 + (wrap64 (1 + (Int.tmod (wrap64 ((rd_T42 l1 x13_3).f2)) 2000))))), .int .i64 t482]] (by rfl) rfl rfl (by (try simp only [List.map_toArray, List.map_cons, List.map_nil]); first | done | (simp only [hji35, hji45]; rfl) | rfl | (simp only [List.length_drop, List.length_take]; rfl)) ?_; with_reducible refine (timesync_Hear.calls kj39 ((rd_T25 x9_3 (ji45)).f0) ((rd_T25 x9_3 (ji45)).f1.f0) ((rd_T25 x9_3 (ji45)).f1.f1) ((rd_T25 x9_3 (ji45)).f1.f2) ((rd_T25 x9_3 (ji45)).f2) ((rd_T25 x9_3 (ji45)).f3) ((rd_T25 x9_3 (ji45)).f4) (ji35) ((rd_T25 x9_3 (ji35)).f2) t479 (wrap64 (x12_3 + (wrap64 (1 + (Int.tmod (wrap64 ((rd_T42 l1 x13_3).f2)) 2000))))) t482 t486 t487 t488 t489 t490 t491 t492 t493 _ A52.out).mono ?_
                            rintro e w57 ⟨rfl, hb⟩; have HS0_ := (hb.cell (World.block_lt_of_cell? _ _ (hHeld.1))).trans (hHeld.1); have HS1_ := (hb.cell (World.block_lt_of_cell? _ _ (hHeld.2.1))).trans (hHeld.2.1); have HS2_ := (hb.cell (World.block_lt_of_cell? _ _ (hHeld.2.2.1))).trans (hHeld.2.2.1); have HS3_ := (hb.cell (World.block_lt_of_cell? _ _ (hHeld.2.2.2.1))).trans (hHeld.2.2.2.1); have HS4_ := (hb.cell (World.block_lt_of_cell? _ _ (hHeld.2.2.2.2.1))).trans (hHeld.2.2.2.2.1); have HS5_ := (hb.cell (World.block_lt_of_cell? _ _ (hHeld.2.2.2.2.2.1))).trans (hHeld.2.2.2.2.2.1); have HS6_ := (hb.cell (World.block_lt_of_cell? _ _ (hHeld.2.2.2.2.2.2.1))).trans (hHeld.2.2.2.2.2.2.1); have HS7_ := (hb.cell (World.block_lt_of_cell? _ _ (hHeld.2.2.2.2.2.2.2.1))).trans (hHeld.2.2.2.2.2.2.2.1); have HS8_ := (hb.cell (World.block_lt_of_cell? _ _ (hHeld.2.2.2.2.2.2.2.2.1))).trans (hHeld.2.2.2.2.2.2.2.2.1); have HS9_ := (hb.cell (World.block_lt_of_cell? _ _ (hHeld.2.2.2.2.2.2.2.2.2.1))).trans (hHeld.2.2.2.2.2.2.2.2.2.1); have HS10_ := (hb.cell (World.block_lt_of_cell? _ _ (hHeld.2.2.2.2.2.2.2.2.2.2.1))).trans (hHeld.2.2.2.2.2.2.2.2.2.2.1); have HS11_ := (hb.cell (World.block_lt_of_cell? _ _ (hHeld.2.2.2.2.2.2.2.2.2.2.2.1))).trans (hHeld.2.2.2.2.2.2.2.2.2.2.2.1); have HS12_ := (hb.cell (World.block_lt_of_cell? _ _ (hHeld.2.2.2.2.2.2.2.2.2.2.2.2.1))).trans (hHeld.2.2.2.2.2.2.2.2.2.2.2.2.1); have HS13_ := (hb.cell (World.block_lt_of_cell? _ _ (hHeld.2.2.2.2.2.2.2.2.2.2.2.2.2))).trans (hHeld.2.2.2.2.2.2.2.2.2.2.2.2.2); refine ⟨_, rfl, ?_⟩; have n0_ := Aside0.mk (Kd.R_below (by (with_reducible repeat (first | apply Kd.R_alloc | apply Kd.R_drewN | apply Kd.R_drew)); exact HO_8.out) hb); have n1_ := Aside0.mk (Kd.R_below (by (with_reducible repeat (first | apply Kd.R_alloc | apply Kd.R_drewN | apply Kd.R_drew)); exact HO_9.out) hb); have n2_ := Aside0.mk (zj (g := gb494) (o := .cells #[.bool false, .int .i64 0, .int .i64 0, .int .i64 0, .int .i64 0, .int .i64 0, .int .i64 0] 25 (0, 0)) (by (with_reducible repeat (first | refine zi ?_ _ | refine zk ?_ | refine zg ?_ _)); exact BK494.out) hb); have n3_ := Aside0.mk (zl (by repeat (first | (with_reducible first | exact HB.out | apply zc | apply zb | apply zf | refine zh ?_ GE494.out) | exact HB.out)) hb); clear HO_8; clear HO_9; clear BK494; clear HB; have HO_8 := n0_; have HO_9 := n1_; have BK494 := n2_; have HB := n3_; clear n0_ n1_ n2_ n3_; (try clear hb)
                            (try clear hb2)
                            (try clear hk)
                            (try clear hi)
                            refine hK.out _ _ ⟨HS0_, HS1_, HS2_, HS3_, HS4_, HS5_, HS6_, HS7_, HS8_, HS9_, HS10_, HS11_, HS12_, HS13_⟩ (fun hHeld => ?_); clear hK K; refine norm_ (a' := ?_) ?_ ?_; rotate_left
                            ·show Act.put _ (some 160) _ = _
                             simp only [Act.put, List.setIfInBounds_toArray, List.set_cons_zero, List.set_cons_succ, zr, zs]; rfl
                            refine zv (i := 15) (N := some 145) (v := ?_) (a' := ?_) #[true, true, true, true, true, true, true, true, true, true, true, true, true, true, true, true, false, false, true, false, false] rfl rfl (zq HT_.out (by kernel_rfl)) (fun _ _ _ h => h) (Or.inl ⟨by rfl, ?_⟩) ?_ ?_; rotate_left
                            ·intro w'; go_simp
                             with_reducible rfl
                            rotate_left
                            ·simp only [Act.put, List.setIfInBounds_toArray, List.set_cons_zero, List.set_cons_succ, zr, zs]; rfl
                            refine zv (i := 16) (N := some 161) (v := ?_) (a' := ?_) #[true, true, true, true, true, true, true, true, true, true, true, true, true, true, true, true, true, false, true, false, false] rfl rfl (zq HT_.out (by kernel_rfl)) (fun _ _ _ h => h) (Or.inl ⟨by rfl, ?_⟩) ?_ ?_; rotate_left
                            ·intro w'; go_simp
                             with_reducible rfl
                            rotate_left
                            ·simp only [Act.put, List.setIfInBounds_toArray, List.set_cons_zero, List.set_cons_succ, zr, zs]; rfl
                            refine zv (i := 17) (N := some 162) (v := ?_) (a' := ?_) #[true, true, true, true, true, true, true, true, true, true, true, true, true, true, true, true, true, true, true, false, false] rfl rfl (zq HT_.out (by kernel_rfl)) (fun _ _ _ h => h) (Or.inl ⟨by rfl, ?_⟩) ?_ ?_; rotate_left
                            ·intro w'; go_simp
                             with_reducible rfl
                            rotate_left
                            ·simp only [Act.put, List.setIfInBounds_toArray, List.set_cons_zero, List.set_cons_succ, zr, zs]; rfl
                            exact norm_ (by simp only [putAll, Act.put, List.setIfInBounds_toArray, List.set_cons_zero, List.set_cons_succ]) (hCont (gb494) _ ⟨hHeld, (by (with_reducible repeat (first | apply Kd.R_alloc | apply Kd.R_drewN | apply Kd.R_drew)); exact HO_8.out), (by (with_reducible repeat (first | apply Kd.R_alloc | apply Kd.R_drewN | apply Kd.R_drew)); exact Kd.R_mono HO_9.out (fun _ hk => hk.2)), (by (with_reducible repeat (first | refine zi ?_ _ | refine zk ?_ | refine zg ?_ _)); exact BK494.out), GW494.out, GE494.out, (by repeat (first | (with_reducible first | exact HB.out | apply zc | apply zb | apply zf | refine zh ?_ GE494.out) | exact HB.out))⟩)
                          rintro gb494 w58 ⟨hS_, h0_, h1_, h2_, h3_, h4_, h5_⟩; have n0_ : Aside0 (Kd.R k27 27 w58 w.heap.size (fun _ => True) (.slice (some ad477) y457.length co26) y457) := ⟨h0_⟩; have n1_ : Aside0 (Kd.R k25 25 w58 w.heap.size (fun k_ => k_ ≠ gb494) (.slice (some ad476) x9_3.length co32) x9_3) := ⟨h1_⟩; have n2_ : Aside0 (w58.heap[gb494]? = some (.cells #[.bool false, .int .i64 0, .int .i64 0, .int .i64 0, .int .i64 0, .int .i64 0, .int .i64 0] 25 (0, 0))) := ⟨h2_⟩; have n3_ : Aside0 (w.heap.size ≤ gb494) := ⟨h3_⟩; have n4_ : Aside0 (w.heap.size ≤ gb494) := ⟨h4_⟩; have n5_ : Aside0 (Below w.heap.size w w58) := ⟨h5_⟩; clear HO_8; clear HO_9; clear HB; clear h0_ h1_ h2_ h3_ h4_ h5_; have HO_8 := n0_; have HO_9 := n1_; have BK494 := n2_; have GW494 := n3_; have GE494 := n4_; have HB := n5_; clear n0_ n1_ n2_ n3_ n4_ n5_; have hHeld : w58.cell? (ad476.add (((ji45)).toNat * 7)) = some (.bool ((rd_T25 x9_3 (ji45)).f0)) ∧ w58.cell? ⟨(ad476.add (((ji45)).toNat * 7)).block, (ad476.add (((ji45)).toNat * 7)).off + 1, none⟩ = some (.int .i64 ((rd_T25 x9_3 (ji45)).f1.f0)) ∧ w58.cell? ⟨(ad476.add (((ji45)).toNat * 7)).block, (ad476.add (((ji45)).toNat * 7)).off + 2, none⟩ = some (.int .i64 ((rd_T25 x9_3 (ji45)).f1.f1)) ∧ w58.cell? ⟨(ad476.add (((ji45)).toNat * 7)).block, (ad476.add (((ji45)).toNat * 7)).off + 3, none⟩ = some (.int .i64 ((rd_T25 x9_3 (ji45)).f1.f2)) ∧ w58.cell? ⟨(ad476.add (((ji45)).toNat * 7)).block, (ad476.add (((ji45)).toNat * 7)).off + 4, none⟩ = some (.int .i64 ((rd_T25 x9_3 (ji45)).f2)) ∧ w58.cell? ⟨(ad476.add (((ji45)).toNat * 7)).block, (ad476.add (((ji45)).toNat * 7)).off + 5, none⟩ = some (.int .i64 ((rd_T25 x9_3 (ji45)).f3)) ∧ w58.cell? ⟨(ad476.add (((ji45)).toNat * 7)).block, (ad476.add (((ji45)).toNat * 7)).off + 6, none⟩ = some (.int .i64 ((rd_T25 x9_3 (ji45)).f4)) ∧ w58.cell? (ad476.add (((ji35)).toNat * 7)) = some (.bool ((rd_T25 x9_3 (ji35)).f0)) ∧ w58.cell? ⟨(ad476.add (((ji35)).toNat * 7)).block, (ad476.add (((ji35)).toNat * 7)).off + 1, none⟩ = some (.int .i64 ((rd_T25 x9_3 (ji35)).f1.f0)) ∧ w58.cell? ⟨(ad476.add (((ji35)).toNat * 7)).block, (ad476.add (((ji35)).toNat * 7)).off + 2, none⟩ = some (.int .i64 ((rd_T25 x9_3 (ji35)).f1.f1)) ∧ w58.cell? ⟨(ad476.add (((ji35)).toNat * 7)).block, (ad476.add (((ji35)).toNat * 7)).off + 3, none⟩ = some (.int .i64 ((rd_T25 x9_3 (ji35)).f1.f2)) ∧ w58.cell? ⟨(ad476.add (((ji35)).toNat * 7)).block, (ad476.add (((ji35)).toNat * 7)).off + 4, none⟩ = some (.int .i64 ((rd_T25 x9_3 (ji35)).f2)) ∧ w58.cell? ⟨(ad476.add (((ji35)).toNat * 7)).block, (ad476.add (((ji35)).toNat * 7)).off + 5, none⟩ = some (.int .i64 ((rd_T25 x9_3 (ji35)).f3)) ∧ w58.cell? ⟨(ad476.add (((ji35)).toNat * 7)).block, (ad476.add (((ji35)).toNat * 7)).off + 6, none⟩ = some (.int .i64 ((rd_T25 x9_3 (ji35)).f4)) := hS_; refine norm_ (a' := ?_) ?_ ?_; rotate_left
                          ·simp only [putAll, Act.put, List.setIfInBounds_toArray, List.set_cons_zero, List.set_cons_succ]; rfl
                          refine one_ (i := 19) (N := none) #[true, true, true, true, true, true, true, true, true, true, true, true, true, true, true, true, true, true, true, true, false] rfl rfl (one_of HT_.out (by kernel_rfl)) (by decide) (fun K hK => ?_); have hs59 : w58.cell? ⟨gb494, 0, none⟩ = some (.bool false) := (zd BK494.out 0).trans rfl; have hfs59 := za BK494.out 0; have hs60 : w58.cell? ⟨gb494, 1, none⟩ = some (.int .i64 0) := (zd BK494.out 1).trans rfl; have hfs60 := za BK494.out 1; have hs61 : w58.cell? ⟨gb494, 2, none⟩ = some (.int .i64 0) := (zd BK494.out 2).trans rfl; have hfs61 := za BK494.out 2; have hs62 : w58.cell? ⟨gb494, 3, none⟩ = some (.int .i64 0) := (zd BK494.out 3).trans rfl; have hfs62 := za BK494.out 3; have hs63 : w58.cell? ⟨gb494, 4, none⟩ = some (.int .i64 0) := (zd BK494.out 4).trans rfl; have hfs63 := za BK494.out 4; have hs64 : w58.cell? ⟨gb494, 5, none⟩ = some (.int .i64 0) := (zd BK494.out 5).trans rfl; have hfs64 := za BK494.out 5; have hs65 : w58.cell? ⟨gb494, 6, none⟩ = some (.int .i64 0) := (zd BK494.out 6).trans rfl; have hfs65 := za BK494.out 6; refine skip_ (w1 := ?_) (by rfl) rfl ?_ ?_; rotate_left
                          ·go_simp
                           rfl
                          have far_ : ∀ n : Nat, (ad476.add n).block ≠ gb494 := fun n => by rw [zm]; exact Kd.own_blk (Kd.R_away HO_9.out (fun _ hk => hk))
                          refine hK.out _ _ ⟨((zp (p := ⟨gb494, _, none⟩) (far_ _) _).trans (((zp (p := ⟨gb494, _, none⟩) (far_ _) _).trans (((zp (p := ⟨gb494, _, none⟩) (far_ _) _).trans (((zp (p := ⟨gb494, _, none⟩) (far_ _) _).trans (((zp (p := ⟨gb494, _, none⟩) (far_ _) _).trans (((zp (p := ⟨gb494, _, none⟩) (far_ _) _).trans (((zp (p := ⟨gb494, _, none⟩) (far_ _) _).trans (hHeld.1)))))))))))))), ((zp (p := ⟨gb494, _, none⟩) (farb_ (far_ _)) _).trans (((zp (p := ⟨gb494, _, none⟩) (farb_ (far_ _)) _).trans (((zp (p := ⟨gb494, _, none⟩) (farb_ (far_ _)) _).trans (((zp (p := ⟨gb494, _, none⟩) (farb_ (far_ _)) _).trans (((zp (p := ⟨gb494, _, none⟩) (farb_ (far_ _)) _).trans (((zp (p := ⟨gb494, _, none⟩) (farb_ (far_ _)) _).trans (((zp (p := ⟨gb494, _, none⟩) (farb_ (far_ _)) _).trans (hHeld.2.1)))))))))))))), ((zp (p := ⟨gb494, _, none⟩) (farb_ (far_ _)) _).trans (((zp (p := ⟨gb494, _, none⟩) (farb_ (far_ _)) _).trans (((zp (p := ⟨gb494, _, none⟩) (farb_ (far_ _)) _).trans (((zp (p := ⟨gb494, _, none⟩) (farb_ (far_ _)) _).trans (((zp (p := ⟨gb494, _, none⟩) (farb_ (far_ _)) _).trans (((zp (p := ⟨gb494, _, none⟩) (farb_ (far_ _)) _).trans (((zp (p := ⟨gb494, _, none⟩) (farb_ (far_ _)) _).trans (hHeld.2.2.1)))))))))))))), ((zp (p := ⟨gb494, _, none⟩) (farb_ (far_ _)) _).trans (((zp (p := ⟨gb494, _, none⟩) (farb_ (far_ _)) _).trans (((zp (p := ⟨gb494, _, none⟩) (farb_ (far_ _)) _).trans (((zp (p := ⟨gb494, _, none⟩) (farb_ (far_ _)) _).trans (((zp (p := ⟨gb494, _, none⟩) (farb_ (far_ _)) _).trans (((zp (p := ⟨gb494, _, none⟩) (farb_ (far_ _)) _).trans (((zp (p := ⟨gb494, _, none⟩) (farb_ (far_ _)) _).trans (hHeld.2.2.2.1)))))))))))))), ((zp (p := ⟨gb494, _, none⟩) (farb_ (far_ _)) _).trans (((zp (p := ⟨gb494, _, none⟩) (farb_ (far_ _)) _).trans (((zp (p := ⟨gb494, _, none⟩) (farb_ (far_ _)) _).trans (((zp (p := ⟨gb494, _, none⟩) (farb_ (far_ _)) _).trans (((zp (p := ⟨gb494, _, none⟩) (farb_ (far_ _)) _).trans (((zp (p := ⟨gb494, _, none⟩) (farb_ (far_ _)) _).trans (((zp (p := ⟨gb494, _, none⟩) (farb_ (far_ _)) _).trans (hHeld.2.2.2.2.1)))))))))))))), ((zp (p := ⟨gb494, _, none⟩) (farb_ (far_ _)) _).trans (((zp (p := ⟨gb494, _, none⟩) (farb_ (far_ _)) _).trans (((zp (p := ⟨gb494, _, none⟩) (farb_ (far_ _)) _).trans (((zp (p := ⟨gb494, _, none⟩) (farb_ (far_ _)) _).trans (((zp (p := ⟨gb494, _, none⟩) (farb_ (far_ _)) _).trans (((zp (p := ⟨gb494, _, none⟩) (farb_ (far_ _)) _).trans (((zp (p := ⟨gb494, _, none⟩) (farb_ (far_ _)) _).trans (hHeld.2.2.2.2.2.1)))))))))))))), ((zp (p := ⟨gb494, _, none⟩) (farb_ (far_ _)) _).trans (((zp (p := ⟨gb494, _, none⟩) (farb_ (far_ _)) _).trans (((zp (p := ⟨gb494, _, none⟩) (farb_ (far_ _)) _).trans (((zp (p := ⟨gb494, _, none⟩) (farb_ (far_ _)) _).trans (((zp (p := ⟨gb494, _, none⟩) (farb_ (far_ _)) _).trans (((zp (p := ⟨gb494, _, none⟩) (farb_ (far_ _)) _).trans (((zp (p := ⟨gb494, _, none⟩) (farb_ (far_ _)) _).trans (hHeld.2.2.2.2.2.2.1)))))))))))))), ((zp (p := ⟨gb494, _, none⟩) (far_ _) _).trans (((zp (p := ⟨gb494, _, none⟩) (far_ _) _).trans (((zp (p := ⟨gb494, _, none⟩) (far_ _) _).trans (((zp (p := ⟨gb494, _, none⟩) (far_ _) _).trans (((zp (p := ⟨gb494, _, none⟩) (far_ _) _).trans (((zp (p := ⟨gb494, _, none⟩) (far_ _) _).trans (((zp (p := ⟨gb494, _, none⟩) (far_ _) _).trans (hHeld.2.2.2.2.2.2.2.1)))))))))))))), ((zp (p := ⟨gb494, _, none⟩) (farb_ (far_ _)) _).trans (((zp (p := ⟨gb494, _, none⟩) (farb_ (far_ _)) _).trans (((zp (p := ⟨gb494, _, none⟩) (farb_ (far_ _)) _).trans (((zp (p := ⟨gb494, _, none⟩) (farb_ (far_ _)) _).trans (((zp (p := ⟨gb494, _, none⟩) (farb_ (far_ _)) _).trans (((zp (p := ⟨gb494, _, none⟩) (farb_ (far_ _)) _).trans (((zp (p := ⟨gb494, _, none⟩) (farb_ (far_ _)) _).trans (hHeld.2.2.2.2.2.2.2.2.1)))))))))))))), ((zp (p := ⟨gb494, _, none⟩) (farb_ (far_ _)) _).trans (((zp (p := ⟨gb494, _, none⟩) (farb_ (far_ _)) _).trans (((zp (p := ⟨gb494, _, none⟩) (farb_ (far_ _)) _).trans (((zp (p := ⟨gb494, _, none⟩) (farb_ (far_ _)) _).trans (((zp (p := ⟨gb494, _, none⟩) (farb_ (far_ _)) _).trans (((zp (p := ⟨gb494, _, none⟩) (farb_ (far_ _)) _).trans (((zp (p := ⟨gb494, _, none⟩) (farb_ (far_ _)) _).trans (hHeld.2.2.2.2.2.2.2.2.2.1)))))))))))))), ((zp (p := ⟨gb494, _, none⟩) (farb_ (far_ _)) _).trans (((zp (p := ⟨gb494, _, none⟩) (farb_ (far_ _)) _).trans (((zp (p := ⟨gb494, _, none⟩) (farb_ (far_ _)) _).trans (((zp (p := ⟨gb494, _, none⟩) (farb_ (far_ _)) _).trans (((zp (p := ⟨gb494, _, none⟩) (farb_ (far_ _)) _).trans (((zp (p := ⟨gb494, _, none⟩) (farb_ (far_ _)) _).trans (((zp (p := ⟨gb494, _, none⟩) (farb_ (far_ _)) _).trans (hHeld.2.2.2.2.2.2.2.2.2.2.1)))))))))))))), ((zp (p := ⟨gb494, _, none⟩) (farb_ (far_ _)) _).trans (((zp (p := ⟨gb494, _, none⟩) (farb_ (far_ _)) _).trans (((zp (p := ⟨gb494, _, none⟩) (farb_ (far_ _)) _).trans (((zp (p := ⟨gb494, _, none⟩) (farb_ (far_ _)) _).trans (((zp (p := ⟨gb494, _, none⟩) (farb_ (far_ _)) _).trans (((zp (p := ⟨gb494, _, none⟩) (farb_ (far_ _)) _).trans (((zp (p := ⟨gb494, _, none⟩) (farb_ (far_ _)) _).trans (hHeld.2.2.2.2.2.2.2.2.2.2.2.1)))))))))))))), ((zp (p := ⟨gb494, _, none⟩) (farb_ (far_ _)) _).trans (((zp (p := ⟨gb494, _, none⟩) (farb_ (far_ _)) _).trans (((zp (p := ⟨gb494, _, none⟩) (farb_ (far_ _)) _).trans (((zp (p := ⟨gb494, _, none⟩) (farb_ (far_ _)) _).trans (((zp (p := ⟨gb494, _, none⟩) (farb_ (far_ _)) _).trans (((zp (p := ⟨gb494, _, none⟩) (farb_ (far_ _)) _).trans (((zp (p := ⟨gb494, _, none⟩) (farb_ (far_ _)) _).trans (hHeld.2.2.2.2.2.2.2.2.2.2.2.2.1)))))))))))))), ((zp (p := ⟨gb494, _, none⟩) (farb_ (far_ _)) _).trans (((zp (p := ⟨gb494, _, none⟩) (farb_ (far_ _)) _).trans (((zp (p := ⟨gb494, _, none⟩) (farb_ (far_ _)) _).trans (((zp (p := ⟨gb494, _, none⟩) (farb_ (far_ _)) _).trans (((zp (p := ⟨gb494, _, none⟩) (farb_ (far_ _)) _).trans (((zp (p := ⟨gb494, _, none⟩) (farb_ (far_ _)) _).trans (((zp (p := ⟨gb494, _, none⟩) (farb_ (far_ _)) _).trans (hHeld.2.2.2.2.2.2.2.2.2.2.2.2.2))))))))))))))⟩ (fun hHeld => ?_); clear hK K; refine zv (i := 20) (N := some 24) (v := ?_) (a' := ?_) #[true, true, true, true, true, true, true, true, true, true, true, true, true, true, true, true, true, true, true, true, true] rfl rfl (zq HT_.out (by kernel_rfl)) (fun _ _ _ h => h) (Or.inl ⟨by rfl, ?_⟩) ?_ ?_; rotate_left
                          ·intro w'; go_simp
                           with_reducible rfl
                          rotate_left
                          ·simp only [Act.put, List.setIfInBounds_toArray, List.set_cons_zero, List.set_cons_succ, zr, zs]; rfl
                          refine done_ (done_of HT_.out (by kernel_rfl)) ?_; go_upto_region 27 with (fail)
                          go_cut [168] (fun v168 wc => ∃ (kq : Nat) (x168_52 : Bool), v168 = .bool x168_52 ∧ Aside0 (slotmeshtop_TopChain.j5 kq l1 x7_30 y457 x9_3 (wrap64 (x12_3 + (wrap64 (1 + (Int.tmod (wrap64 ((rd_T42 l1 x13_3).f2)) 2000))))) x13_3 (ji35) (ji45) (wrap64 ((wrap64 ((wrap64 (x12_3 + (wrap64 (1 + (Int.tmod (wrap64 ((rd_T42 l1 x13_3).f2)) 2000))))) * 10000)) + t478)) t482 x168_52 t486 t487 t488 t489 t490 t491 t492 = some r) ∧ Aside0 (kq ≤ kj39) ∧ Aside0 (Kd.R k27 27 wc w.heap.size (fun _ => True) (.slice (some ad477) y457.length co26) y457) ∧ Aside0 (Kd.R k25 25 wc w.heap.size (fun k_ => k_ ≠ gb494) (.slice (some ad476) x9_3.length co32) x9_3) ∧ Aside0 (wc.heap[gb494]? = some (.cells #[.bool t486, .int .i64 t487, .int .i64 t488, .int .i64 t489, .int .i64 t490, .int .i64 t491, .int .i64 t492] 25 (0, 0))) ∧ Aside0 (Below w.heap.size w wc))
                          case first =>
                           have H := HC53.out; clear HC53; by_cases c66 : t483 = 0
                           ·rw [if_pos c66] at H; have c66b0 : (t483 == 0) = true := beq_iff_eq.mpr c66; have c66b1 : (t483 != 0) = false := bne_eq_false_iff_eq.mpr c66; clear c66; (first | rw [c66b0] | (simp only [zr, zs]; rw [c66b0]) | skip)
                            have H' := Aside0.mk H; clear H; go_wp2
                            go_meet
                            case rel => exact ⟨_, ((t493 != 0)), (by first | rfl | (simp; done) | (simp [*]; done)), H', ⟨by have := HJ4.out; have := HK2.out; have := HK3.out; have := HJ30.out; have := HJ39.out; first | omega | exact Nat.le_refl _⟩, ⟨by (with_reducible repeat (first | apply Kd.R_alloc | apply Kd.R_drewN | apply Kd.R_drew)); exact Kd.R_mono (Kd.R_far (p := ⟨gb494, 6, none⟩) (Kd.R_far (p := ⟨gb494, 5, none⟩) (Kd.R_far (p := ⟨gb494, 4, none⟩) (Kd.R_far (p := ⟨gb494, 3, none⟩) (Kd.R_far (p := ⟨gb494, 2, none⟩) (Kd.R_far (p := ⟨gb494, 1, none⟩) (Kd.R_far (p := ⟨gb494, 0, none⟩) (Kd.R_types HO_8.out BK494.out (by decide)) (fun _ hk => hk.2) (.bool t486)) (fun _ hk => hk.2) (.int .i64 t487)) (fun _ hk => hk.2) (.int .i64 t488)) (fun _ hk => hk.2) (.int .i64 t489)) (fun _ hk => hk.2) (.int .i64 t490)) (fun _ hk => hk.2) (.int .i64 t491)) (fun _ hk => hk.2) (.int .i64 t492)) (fun _ hk => trivial)⟩, ⟨by (with_reducible repeat (first | apply Kd.R_alloc | apply Kd.R_drewN | apply Kd.R_drew)); exact Kd.R_mono (Kd.R_far (p := ⟨gb494, 6, none⟩) (Kd.R_far (p := ⟨gb494, 5, none⟩) (Kd.R_far (p := ⟨gb494, 4, none⟩) (Kd.R_far (p := ⟨gb494, 3, none⟩) (Kd.R_far (p := ⟨gb494, 2, none⟩) (Kd.R_far (p := ⟨gb494, 1, none⟩) (Kd.R_far (p := ⟨gb494, 0, none⟩) (Kd.R_mono HO_9.out (fun k_ hk => (⟨hk, hk⟩ : _ ∧ k_ ≠ gb494))) (fun _ hk => hk.2) (.bool t486)) (fun _ hk => hk.2) (.int .i64 t487)) (fun _ hk => hk.2) (.int .i64 t488)) (fun _ hk => hk.2) (.int .i64 t489)) (fun _ hk => hk.2) (.int .i64 t490)) (fun _ hk => hk.2) (.int .i64 t491)) (fun _ hk => hk.2) (.int .i64 t492)) (fun _ hk => hk.1)⟩, ⟨by (with_reducible repeat (first | refine zi ?_ _ | refine zk ?_ | refine zg ?_ _)); refine zo (cs := #[.bool t486, .int .i64 t487, .int .i64 t488, .int .i64 t489, .int .i64 t490, .int .i64 t491, .int .i64 0]) ?_ 6 _ rfl; (with_reducible repeat (first | refine zi ?_ _ | refine zk ?_ | refine zg ?_ _)); refine zo (cs := #[.bool t486, .int .i64 t487, .int .i64 t488, .int .i64 t489, .int .i64 t490, .int .i64 0, .int .i64 0]) ?_ 5 _ rfl; (with_reducible repeat (first | refine zi ?_ _ | refine zk ?_ | refine zg ?_ _)); refine zo (cs := #[.bool t486, .int .i64 t487, .int .i64 t488, .int .i64 t489, .int .i64 0, .int .i64 0, .int .i64 0]) ?_ 4 _ rfl; (with_reducible repeat (first | refine zi ?_ _ | refine zk ?_ | refine zg ?_ _)); refine zo (cs := #[.bool t486, .int .i64 t487, .int .i64 t488, .int .i64 0, .int .i64 0, .int .i64 0, .int .i64 0]) ?_ 3 _ rfl; (with_reducible repeat (first | refine zi ?_ _ | refine zk ?_ | refine zg ?_ _)); refine zo (cs := #[.bool t486, .int .i64 t487, .int .i64 0, .int .i64 0, .int .i64 0, .int .i64 0, .int .i64 0]) ?_ 2 _ rfl; (with_reducible repeat (first | refine zi ?_ _ | refine zk ?_ | refine zg ?_ _)); refine zo (cs := #[.bool t486, .int .i64 0, .int .i64 0, .int .i64 0, .int .i64 0, .int .i64 0, .int .i64 0]) ?_ 1 _ rfl; (with_reducible repeat (first | refine zi ?_ _ | refine zk ?_ | refine zg ?_ _)); refine zo (cs := #[.bool false, .int .i64 0, .int .i64 0, .int .i64 0, .int .i64 0, .int .i64 0, .int .i64 0]) ?_ 0 _ rfl; (with_reducible repeat (first | refine zi ?_ _ | refine zk ?_ | refine zg ?_ _)); exact BK494.out⟩, ⟨by repeat (first | (with_reducible first | exact HB.out | apply zc | apply zb | apply zf | refine zh ?_ GE494.out) | exact HB.out)⟩⟩
                           ·rw [if_neg c66] at H; exact absurd H (by simp)
                          case rest =>
                           clear HC53; try clear c1
                           try clear c2
                           try clear p2
                           try clear c3
                           try clear c4
                           try clear p4
                           try clear q4
                           try clear hx4
                           try clear c5
                           try clear c6
                           try clear p6
                           try clear c7
                           try clear c7b0
                           try clear c7b1
                           try clear c7b2
                           try clear c8
                           try clear c8b0
                           try clear c8b1
                           try clear c9
                           try clear c10
                           try clear c12
                           try clear c14
                           try clear c14b0
                           try clear c15
                           try clear c15b0
                           try clear c16
                           try clear c17
                           try clear c18
                           try clear c19
                           try clear c20
                           try clear c27
                           try clear c27b0
                           try clear c28
                           try clear c28b0
                           try clear c29
                           try clear c29b0
                           try clear c29b1
                           try clear c29b2
                           try clear c34
                           try clear c36
                           try clear c36b0
                           try clear c37
                           try clear c37b0
                           try clear c38
                           try clear c38b0
                           try clear c43
                           try clear c44
                           try clear c46
                           try clear c46b0
                           try clear p46
                           try clear q46
                           try clear hx46
                           try clear c47
                           try clear c47b0
                           try clear p47
                           try clear q47
                           try clear hx47
                           try clear p48
                           try clear q48
                           try clear hx48
                           try clear c49
                           try clear c49b0
                           try clear c50
                           try clear c50b0
                           try clear c51
                           try clear c51b0
                           try clear p64
                           try clear c66
                           try clear c66b0
                           try clear c66b1
                           try clear hx460_0
                           try clear hx460_1
                           try clear hx472_0
                           try clear hx472_1
                           try clear hx472_2
                           try clear hx473_0
                           try clear hx473_1
                           try clear hx473_2
                           try clear hx474_0
                           try clear hx474_1
                           try clear hx474_2
                           try clear hx476_0
                           try clear hx476_1
                           try clear hx476_2
                           try clear hx476_3
                           try clear hx476_4
                           try clear hx476_5
                           try clear hx476_6
                           try clear hx477_0
                           try clear hx477_1
                           try clear hx481_0
                           try clear hx481_1
                           try clear hx484_0
                           try clear hx484_1
                           try clear hx484_2
                           try clear hx484_3
                           try clear hx484_4
                           try clear hx484_5
                           try clear hx484_6
                           try clear hx485_0
                           try clear hx485_1
                           try clear hx485_2
                           try clear hx485_3
                           try clear hx485_4
                           try clear hx485_5
                           try clear hx485_6
                           try clear p2
                           try clear p4
                           try clear p460
                           try clear p472
                           try clear p473
                           try clear p474
                           try clear p476
                           try clear p477
                           try clear p481
                           try clear p484
                           try clear p485
                           try clear p6
                           try clear q4
                           try clear q460
                           try clear q472
                           try clear q473
                           try clear q474
                           try clear q476
                           try clear q477
                           try clear q481
                           try clear q484
                           try clear q485
                           obtain ⟨kq, x168_52, rfl, HA, HJ52, HO_8, HO_9, BK494, HB⟩ := hcut; cases kq with
                           | zero => exact absurd HA.out (by simp [slotmeshtop_TopChain.j5])
                           | succ kj52 =>
                            have H := HA.out; clear HA; simp only [slotmeshtop_TopChain.j5] at H; by_cases c67 : x168_52 = true
                            ·subst c67; have H1 : (none) = some r := by rw [if_pos rfl] at H; exact H
                             clear H; have H := H1; clear H1; exact absurd H (by simp)
                            ·replace c67 := Bool.eq_false_iff.mpr c67; subst c67; have H1 : (if x7_30 = true then (if 0 ≤ (ji45) then (if (ji45) < (x9_3.length : Int) then (if (t486 == ((rd_T25 x9_3 (ji45)).f0) && ((t487 == ((rd_T25 x9_3 (ji45)).f1.f0) && (t488 == ((rd_T25 x9_3 (ji45)).f1.f1) && (t489 == ((rd_T25 x9_3 (ji45)).f1.f2)))) && (t490 == ((rd_T25 x9_3 (ji45)).f2) && (t491 == ((rd_T25 x9_3 (ji45)).f3) && (t492 == ((rd_T25 x9_3 (ji45)).f4)))))) = true then (slotmeshtop_TopChain.j6 kj52 l1 true y457 x9_3 (wrap64 (x12_3 + (wrap64 (1 + (Int.tmod (wrap64 ((rd_T42 l1 x13_3).f2)) 2000))))) x13_3 (ji45) t482 t486 t487 t488 t489 t490 t491 t492) else (if t486 = true then ((R8_True.f t487 t488 t489 (wrap64 ((wrap64 ((wrap64 (x12_3 + (wrap64 (1 + (Int.tmod (wrap64 ((rd_T42 l1 x13_3).f2)) 2000))))) * 10000)) + t478)) t482).bind fun t496 => (if t496 = true then (if 0 ≤ (ji35) then (if (ji35) < (x9_3.length : Int) then (slotmeshtop_TopChain.j6 kj52 l1 (t490 == (wrap64 (((rd_T25 x9_3 (ji35)).f2) + 1))) y457 x9_3 (wrap64 (x12_3 + (wrap64 (1 + (Int.tmod (wrap64 ((rd_T42 l1 x13_3).f2)) 2000))))) x13_3 (ji45) t482 t486 t487 t488 t489 t490 t491 t492) else (none)) else (none)) else (slotmeshtop_TopChain.j6 kj52 l1 false y457 x9_3 (wrap64 (x12_3 + (wrap64 (1 + (Int.tmod (wrap64 ((rd_T42 l1 x13_3).f2)) 2000))))) x13_3 (ji45) t482 t486 t487 t488 t489 t490 t491 t492))) else (slotmeshtop_TopChain.j6 kj52 l1 false y457 x9_3 (wrap64 (x12_3 + (wrap64 (1 + (Int.tmod (wrap64 ((rd_T42 l1 x13_3).f2)) 2000))))) x13_3 (ji45) t482 t486 t487 t488 t489 t490 t491 t492))) else (none)) else (none)) else (slotmeshtop_TopChain.j6 kj52 l1 false y457 x9_3 (wrap64 (x12_3 + (wrap64 (1 + (Int.tmod (wrap64 ((rd_T42 l1 x13_3).f2)) 2000))))) x13_3 (ji45) t482 t486 t487 t488 t489 t490 t491 t492)) = some r := by rw [if_neg (show ¬ (false = true) by decide)] at H; exact H
                             clear H; have H := H1; clear H1; have HC68 := Aside0.mk H; clear H; go_upto_region 29 with (fail)
                             go_cut [7] (fun v7 wc => ∃ (kq : Nat) (x7_67 : Bool), v7 = .bool x7_67 ∧ Aside0 (slotmeshtop_TopChain.j6 kq l1 x7_67 y457 x9_3 (wrap64 (x12_3 + (wrap64 (1 + (Int.tmod (wrap64 ((rd_T42 l1 x13_3).f2)) 2000))))) x13_3 (ji45) t482 t486 t487 t488 t489 t490 t491 t492 = some r) ∧ Aside0 (kq ≤ kj52) ∧ Aside0 (Kd.R k27 27 wc w.heap.size (fun _ => True) (.slice (some ad477) y457.length co26) y457) ∧ Aside0 (Kd.R k25 25 wc w.heap.size (fun k_ => k_ ≠ gb494) (.slice (some ad476) x9_3.length co32) x9_3) ∧ Aside0 (wc.heap[gb494]? = some (.cells #[.bool t486, .int .i64 t487, .int .i64 t488, .int .i64 t489, .int .i64 t490, .int .i64 t491, .int .i64 t492] 25 (0, 0))) ∧ Aside0 (Below w.heap.size w wc))
                             case first => as_aux_lemma =>
                              have H := HC68.out; clear HC68; by_cases c69 : x7_30 = true
                              ·subst c69; have H1 : (if 0 ≤ (ji45) then (if (ji45) < (x9_3.length : Int) then (if (t486 == ((rd_T25 x9_3 (ji45)).f0) && ((t487 == ((rd_T25 x9_3 (ji45)).f1.f0) && (t488 == ((rd_T25 x9_3 (ji45)).f1.f1) && (t489 == ((rd_T25 x9_3 (ji45)).f1.f2)))) && (t490 == ((rd_T25 x9_3 (ji45)).f2) && (t491 == ((rd_T25 x9_3 (ji45)).f3) && (t492 == ((rd_T25 x9_3 (ji45)).f4)))))) = true then (slotmeshtop_TopChain.j6 kj52 l1 true y457 x9_3 (wrap64 (x12_3 + (wrap64 (1 + (Int.tmod (wrap64 ((rd_T42 l1 x13_3).f2)) 2000))))) x13_3 (ji45) t482 t486 t487 t488 t489 t490 t491 t492) else (if t486 = true then ((R8_True.f t487 t488 t489 (wrap64 ((wrap64 ((wrap64 (x12_3 + (wrap64 (1 + (Int.tmod (wrap64 ((rd_T42 l1 x13_3).f2)) 2000))))) * 10000)) + t478)) t482).bind fun t496 => (if t496 = true then (if 0 ≤ (ji35) then (if (ji35) < (x9_3.length : Int) then (slotmeshtop_TopChain.j6 kj52 l1 (t490 == (wrap64 (((rd_T25 x9_3 (ji35)).f2) + 1))) y457 x9_3 (wrap64 (x12_3 + (wrap64 (1 + (Int.tmod (wrap64 ((rd_T42 l1 x13_3).f2)) 2000))))) x13_3 (ji45) t482 t486 t487 t488 t489 t490 t491 t492) else (none)) else (none)) else (slotmeshtop_TopChain.j6 kj52 l1 false y457 x9_3 (wrap64 (x12_3 + (wrap64 (1 + (Int.tmod (wrap64 ((rd_T42 l1 x13_3).f2)) 2000))))) x13_3 (ji45) t482 t486 t487 t488 t489 t490 t491 t492))) else (slotmeshtop_TopChain.j6 kj52 l1 false y457 x9_3 (wrap64 (x12_3 + (wrap64 (1 + (Int.tmod (wrap64 ((rd_T42 l1 x13_3).f2)) 2000))))) x13_3 (ji45) t482 t486 t487 t488 t489 t490 t491 t492))) else (none)) else (none)) = some r := by rw [if_pos rfl] at H; exact H
                               clear H; have H := H1; clear H1; by_cases c70 : 0 ≤ (ji45)
                               ·rw [if_pos c70] at H; have c70b0 : decide (0 ≤ (ji45)) = true := decide_eq_true c70; clear c70; (first | rw [c70b0] | (simp only [zr, zs]; rw [c70b0]) | skip)
                                by_cases c71 : (ji45) < (x9_3.length : Int)
                                ·rw [if_pos c71] at H; have c71b0 : decide ((ji45) < (x9_3.length : Int)) = true := decide_eq_true c71; clear c71; by_cases c72 : (t486 == ((rd_T25 x9_3 (ji45)).f0) && ((t487 == ((rd_T25 x9_3 (ji45)).f1.f0) && (t488 == ((rd_T25 x9_3 (ji45)).f1.f1) && (t489 == ((rd_T25 x9_3 (ji45)).f1.f2)))) && (t490 == ((rd_T25 x9_3 (ji45)).f2) && (t491 == ((rd_T25 x9_3 (ji45)).f3) && (t492 == ((rd_T25 x9_3 (ji45)).f4)))))) = true
                                 ·rw [if_pos c72] at H; have c72b0 : (t486 == ((rd_T25 x9_3 (ji45)).f0) && ((t487 == ((rd_T25 x9_3 (ji45)).f1.f0) && (t488 == ((rd_T25 x9_3 (ji45)).f1.f1) && (t489 == ((rd_T25 x9_3 (ji45)).f1.f2)))) && (t490 == ((rd_T25 x9_3 (ji45)).f2) && (t491 == ((rd_T25 x9_3 (ji45)).f3) && (t492 == ((rd_T25 x9_3 (ji45)).f4)))))) = true := c72; (try (have c72b1 : decide (t486 = ((rd_T25 x9_3 (ji45)).f0) && ((t487 == ((rd_T25 x9_3 (ji45)).f1.f0) && (t488 == ((rd_T25 x9_3 (ji45)).f1.f1) && (t489 == ((rd_T25 x9_3 (ji45)).f1.f2)))) && (t490 == ((rd_T25 x9_3 (ji45)).f2) && (t491 == ((rd_T25 x9_3 (ji45)).f3) && (t492 == ((rd_T25 x9_3 (ji45)).f4)))))) = true := by simpa using c72))
                                  (try (have c72b2 : (t486 == ((rd_T25 x9_3 (ji45)).f0) && ((t487 == ((rd_T25 x9_3 (ji45)).f1.f0) && (t488 == ((rd_T25 x9_3 (ji45)).f1.f1) && (t489 == ((rd_T25 x9_3 (ji45)).f1.f2)))) && (t490 == ((rd_T25 x9_3 (ji45)).f2) && (t491 == ((rd_T25 x9_3 (ji45)).f3) && (t492 == ((rd_T25 x9_3 (ji45)).f4)))))) = true := by simpa using c72))
                                  clear c72; have H' := Aside0.mk H; clear H; try go_wp2
                                  have n0_ := Aside0.mk (Kd.R_drew HO_8.out); have n1_ := Aside0.mk (Kd.R_drew HO_9.out); have n2_ := Aside0.mk (zk BK494.out); have n3_ := Aside0.mk (zf HB.out); clear HO_8; clear HO_9; clear BK494; clear HB; have HO_8 := n0_; have HO_9 := n1_; have BK494 := n2_; have HB := n3_; clear n0_ n1_ n2_ n3_; have p495 : 0 ≤ ((ji45) : Int) := of_decide_eq_true (by first | (with_reducible assumption) | assumption); have q495 : (ji45) < (x9_3.length : Int) := of_decide_eq_true (by first | (with_reducible assumption) | assumption); obtain ⟨ad495, e495, hx495_0, hx495_1, hx495_2, hx495_3, hx495_4, hx495_5, hx495_6⟩ := at_T25 (Kd.R_reads' HO_9.out).2.2 (ji45) p495 q495; obtain rfl : ad476 = ad495 := (by injection e495); replace p495 := eq_true p495; replace q495 := eq_true q495; refine start_ (n := 32) (S := fun w' => w'.cell? ⟨gb494, 0, none⟩ = some (.bool t486) ∧ w'.cell? ⟨gb494, 1, none⟩ = some (.int .i64 t487) ∧ w'.cell? ⟨gb494, 2, none⟩ = some (.int .i64 t488) ∧ w'.cell? ⟨gb494, 3, none⟩ = some (.int .i64 t489) ∧ w'.cell? ⟨gb494, 4, none⟩ = some (.int .i64 t490) ∧ w'.cell? ⟨gb494, 5, none⟩ = some (.int .i64 t491) ∧ w'.cell? ⟨gb494, 6, none⟩ = some (.int .i64 t492) ∧ w'.cell? (ad476.add (((ji45)).toNat * 7)) = some (.bool ((rd_T25 x9_3 (ji45)).f0)) ∧ w'.cell? ⟨(ad476.add (((ji45)).toNat * 7)).block, (ad476.add (((ji45)).toNat * 7)).off + 1, none⟩ = some (.int .i64 ((rd_T25 x9_3 (ji45)).f1.f0)) ∧ w'.cell? ⟨(ad476.add (((ji45)).toNat * 7)).block, (ad476.add (((ji45)).toNat * 7)).off + 2, none⟩ = some (.int .i64 ((rd_T25 x9_3 (ji45)).f1.f1)) ∧ w'.cell? ⟨(ad476.add (((ji45)).toNat * 7)).block, (ad476.add (((ji45)).toNat * 7)).off + 3, none⟩ = some (.int .i64 ((rd_T25 x9_3 (ji45)).f1.f2)) ∧ w'.cell? ⟨(ad476.add (((ji45)).toNat * 7)).block, (ad476.add (((ji45)).toNat * 7)).off + 4, none⟩ = some (.int .i64 ((rd_T25 x9_3 (ji45)).f2)) ∧ w'.cell? ⟨(ad476.add (((ji45)).toNat * 7)).block, (ad476.add (((ji45)).toNat * 7)).off + 5, none⟩ = some (.int .i64 ((rd_T25 x9_3 (ji45)).f3)) ∧ w'.cell? ⟨(ad476.add (((ji45)).toNat * 7)).block, (ad476.add (((ji45)).toNat * 7)).off + 6, none⟩ = some (.int .i64 ((rd_T25 x9_3 (ji45)).f4))) (ds := []) #[false, false, false, false, false, false, false, false, false, false, false, false, false, false, false, false, false, false, false, false, false, false, false, false, false, false, false, false, false, false, false, false] (by kernel_rfl) rfl rfl ⟨(zd BK494.out 0).trans rfl, (zd BK494.out 1).trans rfl, (zd BK494.out 2).trans rfl, (zd BK494.out 3).trans rfl, (zd BK494.out 4).trans rfl, (zd BK494.out 5).trans rfl, (zd BK494.out 6).trans rfl, hx495_0, hx495_1, hx495_2, hx495_3, hx495_4, hx495_5, hx495_6⟩ (fun hHeld => ?_); refine with_tabW slotmeshtop_TopChain.tab29 slotmeshtop_TopChain.bits29 (fun HT_ HW_ => ?_)
                                  generalize wc.drew = w73 at HO_8 HO_9 BK494 HB hx495_0 hx495_1 hx495_2 hx495_3 hx495_4 hx495_5 hx495_6 hHeld ⊢
                                  refine zv (i := 0) (N := some 169) (v := ?_) (a' := ?_) #[true, false, false, false, false, false, false, false, false, false, false, false, false, false, false, false, false, false, false, false, false, false, false, false, false, false, false, false, false, false, false, false] rfl rfl (zq HT_.out (by kernel_rfl)) (fun _ _ _ h => h) (Or.inl ⟨by rfl, ?_⟩) ?_ ?_; rotate_left
                                  ·intro w'; go_simp
                                   with_reducible rfl
                                  rotate_left
                                  ·simp only [Act.put, List.setIfInBounds_toArray, List.set_cons_zero, List.set_cons_succ, zr, zs]; rfl
                                  refine zv (i := 1) (N := some 170) (v := ?_) (a' := ?_) #[true, true, false, false, false, false, false, false, false, false, false, false, false, false, false, false, false, false, false, false, false, false, false, false, false, false, false, false, false, false, false, false] rfl rfl (zq HT_.out (by kernel_rfl)) (fun _ _ _ h => h) (Or.inl ⟨by rfl, ?_⟩) ?_ ?_; rotate_left
                                  ·intro w'; go_simp
                                   with_reducible rfl
                                  rotate_left
                                  ·simp only [Act.put, List.setIfInBounds_toArray, List.set_cons_zero, List.set_cons_succ, zr, zs]; rfl
                                  refine zv (i := 3) (N := some 172) (v := ?_) (a' := ?_) #[true, true, false, true, false, false, false, false, false, false, false, false, false, false, false, false, false, false, false, false, false, false, false, false, false, false, false, false, false, false, false, false] rfl rfl (zq HT_.out (by kernel_rfl)) (fun _ _ _ h => h) (Or.inl ⟨by rfl, ?_⟩) ?_ ?_; rotate_left
                                  ·intro w'; go_simp
                                   with_reducible rfl
                                  rotate_left
                                  ·simp only [Act.put, List.setIfInBounds_toArray, List.set_cons_zero, List.set_cons_succ, zr, zs]; rfl
                                  refine zv (i := 4) (N := some 173) (v := ?_) (a' := ?_) #[true, true, false, true, true, false, false, false, false, false, false, false, false, false, false, false, false, false, false, false, false, false, false, false, false, false, false, false, false, false, false, false] rfl rfl (zq HT_.out (by kernel_rfl)) (fun _ _ _ h => h) (Or.inl ⟨by rfl, ?_⟩) ?_ ?_; rotate_left
                                  ·intro w'; go_simp
                                   with_reducible rfl
                                  rotate_left
                                  ·simp only [Act.put, List.setIfInBounds_toArray, List.set_cons_zero, List.set_cons_succ, zr, zs]; rfl
                                  refine zv (i := 5) (N := some 174) (v := ?_) (a' := ?_) #[true, true, false, true, true, true, false, false, false, false, false, false, false, false, false, false, false, false, false, false, false, false, false, false, false, false, false, false, false, false, false, false] rfl rfl (zq HT_.out (by kernel_rfl)) (fun _ _ _ h => h) (Or.inl ⟨by rfl, ?_⟩) ?_ ?_; rotate_left
                                  ·intro w'; go_simp
                                   with_reducible rfl
                                  rotate_left
                                  ·simp only [Act.put, List.setIfInBounds_toArray, List.set_cons_zero, List.set_cons_succ, zr, zs]; rfl
                                  refine take_ (i := 2) (N := some 171) (v := ?_) (a' := ?_) #[true, true, true, true, true, true, false, false, false, false, false, false, false, false, false, false, false, false, false, false, false, false, false, false, false, false, false, false, false, false, false, false] rfl rfl (take_ofW HT_.out HW_.out (by kernel_rfl)) (fun _ _ _ h => h) (Or.inl ⟨by rfl, ?_⟩) hHeld ?_ ?_; rotate_left
                                  ·rintro w' ⟨s0, s1, s2, s3, s4, s5, s6, s7, s8, s9, s10, s11, s12, s13⟩; go_simp
                                   with_reducible rfl
                                  rotate_left
                                  ·simp only [Act.put, List.setIfInBounds_toArray, List.set_cons_zero, List.set_cons_succ, zr, zs]; rfl
                                  refine take_ (i := 6) (N := some 175) (v := ?_) (a' := ?_) #[true, true, true, true, true, true, true, false, false, false, false, false, false, false, false, false, false, false, false, false, false, false, false, false, false, false, false, false, false, false, false, false] rfl rfl (take_ofW HT_.out HW_.out (by kernel_rfl)) (fun _ _ _ h => h) (Or.inl ⟨by rfl, ?_⟩) hHeld ?_ ?_; rotate_left
                                  ·rintro w' ⟨s0, s1, s2, s3, s4, s5, s6, s7, s8, s9, s10, s11, s12, s13⟩; go_simp
                                   with_reducible rfl
                                  rotate_left
                                  ·simp only [Act.put, List.setIfInBounds_toArray, List.set_cons_zero, List.set_cons_succ, zr, zs]; rfl
                                  refine zv (i := 7) (N := some 176) (v := ?_) (a' := ?_) #[true, true, true, true, true, true, true, true, false, false, false, false, false, false, false, false, false, false, false, false, false, false, false, false, false, false, false, false, false, false, false, false] rfl rfl (zq HT_.out (by kernel_rfl)) (fun _ _ _ h => h) (Or.inl ⟨by rfl, ?_⟩) ?_ ?_; rotate_left
                                  ·intro w'; go_simp
                                   with_reducible rfl
                                  rotate_left
                                  ·simp only [Act.put, List.setIfInBounds_toArray, List.set_cons_zero, List.set_cons_succ, zr, zs]; rfl
                                  refine zv (i := 8) (N := some 177) (v := ?_) (a' := ?_) #[true, true, true, true, true, true, true, true, true, false, false, false, false, false, false, false, false, false, false, false, false, false, false, false, false, false, false, false, false, false, false, false] rfl rfl (zq HT_.out (by kernel_rfl)) (fun _ _ _ h => h) (Or.inl ⟨by rfl, ?_⟩) ?_ ?_; rotate_left
                                  ·intro w'; go_simp
                                   with_reducible rfl
                                  rotate_left
                                  ·simp only [Act.put, List.setIfInBounds_toArray, List.set_cons_zero, List.set_cons_succ, zr, zs]; rfl
                                  refine zv (i := 9) (N := some 178) (v := undef) (a' := ?_) #[true, true, true, true, true, true, true, true, true, true, false, false, false, false, false, false, false, false, false, false, false, false, false, false, false, false, false, false, false, false, false, false] rfl rfl (zq HT_.out (by kernel_rfl)) (fun _ _ _ h => h) (Or.inr ⟨by rfl, rfl⟩) ?_ ?_; rotate_left
                                  ·simp only [Act.put, List.setIfInBounds_toArray, List.set_cons_zero, List.set_cons_succ, zr, zs]; rfl
                                  refine zv (i := 10) (N := some 179) (v := undef) (a' := ?_) #[true, true, true, true, true, true, true, true, true, true, true, false, false, false, false, false, false, false, false, false, false, false, false, false, false, false, false, false, false, false, false, false] rfl rfl (zq HT_.out (by kernel_rfl)) (fun _ _ _ h => h) (Or.inr ⟨by rfl, rfl⟩) ?_ ?_; rotate_left
                                  ·simp only [Act.put, List.setIfInBounds_toArray, List.set_cons_zero, List.set_cons_succ, zr, zs]; rfl
                                  refine zv (i := 11) (N := some 180) (v := undef) (a' := ?_) #[true, true, true, true, true, true, true, true, true, true, true, true, false, false, false, false, false, false, false, false, false, false, false, false, false, false, false, false, false, false, false, false] rfl rfl (zq HT_.out (by kernel_rfl)) (fun _ _ _ h => h) (Or.inr ⟨by rfl, rfl⟩) ?_ ?_; rotate_left
                                  ·simp only [Act.put, List.setIfInBounds_toArray, List.set_cons_zero, List.set_cons_succ, zr, zs]; rfl
                                  refine zv (i := 12) (N := some 181) (v := undef) (a' := ?_) #[true, true, true, true, true, true, true, true, true, true, true, true, true, false, false, false, false, false, false, false, false, false, false, false, false, false, false, false, false, false, false, false] rfl rfl (zq HT_.out (by kernel_rfl)) (fun _ _ _ h => h) (Or.inr ⟨by rfl, rfl⟩) ?_ ?_; rotate_left
                                  ·simp only [Act.put, List.setIfInBounds_toArray, List.set_cons_zero, List.set_cons_succ, zr, zs]; rfl
                                  refine zv (i := 13) (N := some 182) (v := undef) (a' := ?_) #[true, true, true, true, true, true, true, true, true, true, true, true, true, true, false, false, false, false, false, false, false, false, false, false, false, false, false, false, false, false, false, false] rfl rfl (zq HT_.out (by kernel_rfl)) (fun _ _ _ h => h) (Or.inr ⟨by rfl, rfl⟩) ?_ ?_; rotate_left
                                  ·simp only [Act.put, List.setIfInBounds_toArray, List.set_cons_zero, List.set_cons_succ, zr, zs]; rfl
                                  refine zv (i := 14) (N := some 183) (v := undef) (a' := ?_) #[true, true, true, true, true, true, true, true, true, true, true, true, true, true, true, false, false, false, false, false, false, false, false, false, false, false, false, false, false, false, false, false] rfl rfl (zq HT_.out (by kernel_rfl)) (fun _ _ _ h => h) (Or.inr ⟨by rfl, rfl⟩) ?_ ?_; rotate_left
                                  ·simp only [Act.put, List.setIfInBounds_toArray, List.set_cons_zero, List.set_cons_succ, zr, zs]; rfl
                                  refine zv (i := 15) (N := some 184) (v := undef) (a' := ?_) #[true, true, true, true, true, true, true, true, true, true, true, true, true, true, true, true, false, false, false, false, false, false, false, false, false, false, false, false, false, false, false, false] rfl rfl (zq HT_.out (by kernel_rfl)) (fun _ _ _ h => h) (Or.inr ⟨by rfl, rfl⟩) ?_ ?_; rotate_left
                                  ·simp only [Act.put, List.setIfInBounds_toArray, List.set_cons_zero, List.set_cons_succ, zr, zs]; rfl
                                  refine zv (i := 16) (N := some 185) (v := undef) (a' := ?_) #[true, true, true, true, true, true, true, true, true, true, true, true, true, true, true, true, true, false, false, false, false, false, false, false, false, false, false, false, false, false, false, false] rfl rfl (zq HT_.out (by kernel_rfl)) (fun _ _ _ h => h) (Or.inr ⟨by rfl, rfl⟩) ?_ ?_; rotate_left
                                  ·simp only [Act.put, List.setIfInBounds_toArray, List.set_cons_zero, List.set_cons_succ, zr, zs]; rfl
                                  refine zv (i := 17) (N := some 186) (v := undef) (a' := ?_) #[true, true, true, true, true, true, true, true, true, true, true, true, true, true, true, true, true, true, false, false, false, false, false, false, false, false, false, false, false, false, false, false] rfl rfl (zq HT_.out (by kernel_rfl)) (fun _ _ _ h => h) (Or.inr ⟨by rfl, rfl⟩) ?_ ?_; rotate_left
                                  ·simp only [Act.put, List.setIfInBounds_toArray, List.set_cons_zero, List.set_cons_succ, zr, zs]; rfl
                                  refine zv (i := 18) (N := some 187) (v := undef) (a' := ?_) #[true, true, true, true, true, true, true, true, true, true, true, true, true, true, true, true, true, true, true, false, false, false, false, false, false, false, false, false, false, false, false, false] rfl rfl (zq HT_.out (by kernel_rfl)) (fun _ _ _ h => h) (Or.inr ⟨by rfl, rfl⟩) ?_ ?_; rotate_left
                                  ·simp only [Act.put, List.setIfInBounds_toArray, List.set_cons_zero, List.set_cons_succ, zr, zs]; rfl
                                  refine zv (i := 19) (N := some 188) (v := undef) (a' := ?_) #[true, true, true, true, true, true, true, true, true, true, true, true, true, true, true, true, true, true, true, true, false, false, false, false, false, false, false, false, false, false, false, false] rfl rfl (zq HT_.out (by kernel_rfl)) (fun _ _ _ h => h) (Or.inr ⟨by rfl, rfl⟩) ?_ ?_; rotate_left
                                  ·simp only [Act.put, List.setIfInBounds_toArray, List.set_cons_zero, List.set_cons_succ, zr, zs]; rfl
                                  refine zv (i := 20) (N := some 189) (v := undef) (a' := ?_) #[true, true, true, true, true, true, true, true, true, true, true, true, true, true, true, true, true, true, true, true, true, false, false, false, false, false, false, false, false, false, false, false] rfl rfl (zq HT_.out (by kernel_rfl)) (fun _ _ _ h => h) (Or.inr ⟨by rfl, rfl⟩) ?_ ?_; rotate_left
                                  ·simp only [Act.put, List.setIfInBounds_toArray, List.set_cons_zero, List.set_cons_succ, zr, zs]; rfl
                                  refine zv (i := 21) (N := some 190) (v := undef) (a' := ?_) #[true, true, true, true, true, true, true, true, true, true, true, true, true, true, true, true, true, true, true, true, true, true, false, false, false, false, false, false, false, false, false, false] rfl rfl (zq HT_.out (by kernel_rfl)) (fun _ _ _ h => h) (Or.inr ⟨by rfl, rfl⟩) ?_ ?_; rotate_left
                                  ·simp only [Act.put, List.setIfInBounds_toArray, List.set_cons_zero, List.set_cons_succ, zr, zs]; rfl
                                  refine zv (i := 22) (N := some 191) (v := undef) (a' := ?_) #[true, true, true, true, true, true, true, true, true, true, true, true, true, true, true, true, true, true, true, true, true, true, true, false, false, false, false, false, false, false, false, false] rfl rfl (zq HT_.out (by kernel_rfl)) (fun _ _ _ h => h) (Or.inr ⟨by rfl, rfl⟩) ?_ ?_; rotate_left
                                  ·simp only [Act.put, List.setIfInBounds_toArray, List.set_cons_zero, List.set_cons_succ, zr, zs]; rfl
                                  refine zv (i := 23) (N := some 192) (v := undef) (a' := ?_) #[true, true, true, true, true, true, true, true, true, true, true, true, true, true, true, true, true, true, true, true, true, true, true, true, false, false, false, false, false, false, false, false] rfl rfl (zq HT_.out (by kernel_rfl)) (fun _ _ _ h => h) (Or.inr ⟨by rfl, rfl⟩) ?_ ?_; rotate_left
                                  ·simp only [Act.put, List.setIfInBounds_toArray, List.set_cons_zero, List.set_cons_succ, zr, zs]; rfl
                                  refine zv (i := 24) (N := some 193) (v := undef) (a' := ?_) #[true, true, true, true, true, true, true, true, true, true, true, true, true, true, true, true, true, true, true, true, true, true, true, true, true, false, false, false, false, false, false, false] rfl rfl (zq HT_.out (by kernel_rfl)) (fun _ _ _ h => h) (Or.inr ⟨by rfl, rfl⟩) ?_ ?_; rotate_left
                                  ·simp only [Act.put, List.setIfInBounds_toArray, List.set_cons_zero, List.set_cons_succ, zr, zs]; rfl
                                  refine zv (i := 25) (N := some 194) (v := undef) (a' := ?_) #[true, true, true, true, true, true, true, true, true, true, true, true, true, true, true, true, true, true, true, true, true, true, true, true, true, true, false, false, false, false, false, false] rfl rfl (zq HT_.out (by kernel_rfl)) (fun _ _ _ h => h) (Or.inr ⟨by rfl, rfl⟩) ?_ ?_; rotate_left
                                  ·simp only [Act.put, List.setIfInBounds_toArray, List.set_cons_zero, List.set_cons_succ, zr, zs]; rfl
                                  refine zv (i := 26) (N := some 195) (v := undef) (a' := ?_) #[true, true, true, true, true, true, true, true, true, true, true, true, true, true, true, true, true, true, true, true, true, true, true, true, true, true, true, false, false, false, false, false] rfl rfl (zq HT_.out (by kernel_rfl)) (fun _ _ _ h => h) (Or.inr ⟨by rfl, rfl⟩) ?_ ?_; rotate_left
                                  ·simp only [Act.put, List.setIfInBounds_toArray, List.set_cons_zero, List.set_cons_succ, zr, zs]; rfl
                                  refine zv (i := 27) (N := some 196) (v := undef) (a' := ?_) #[true, true, true, true, true, true, true, true, true, true, true, true, true, true, true, true, true, true, true, true, true, true, true, true, true, true, true, true, false, false, false, false] rfl rfl (zq HT_.out (by kernel_rfl)) (fun _ _ _ h => h) (Or.inr ⟨by rfl, rfl⟩) ?_ ?_; rotate_left
                                  ·simp only [Act.put, List.setIfInBounds_toArray, List.set_cons_zero, List.set_cons_succ, zr, zs]; rfl
                                  refine zv (i := 28) (N := some 197) (v := undef) (a' := ?_) #[true, true, true, true, true, true, true, true, true, true, true, true, true, true, true, true, true, true, true, true, true, true, true, true, true, true, true, true, true, false, false, false] rfl rfl (zq HT_.out (by kernel_rfl)) (fun _ _ _ h => h) (Or.inr ⟨by rfl, rfl⟩) ?_ ?_; rotate_left
                                  ·simp only [Act.put, List.setIfInBounds_toArray, List.set_cons_zero, List.set_cons_succ, zr, zs]; rfl
                                  refine zv (i := 29) (N := some 198) (v := ?_) (a' := ?_) #[true, true, true, true, true, true, true, true, true, true, true, true, true, true, true, true, true, true, true, true, true, true, true, true, true, true, true, true, true, true, false, false] rfl rfl (zq HT_.out (by kernel_rfl)) (fun _ _ _ h => h) (Or.inl ⟨by rfl, ?_⟩) ?_ ?_; rotate_left
                                  ·intro w'; go_simp
                                   with_reducible rfl
                                  rotate_left
                                  ·simp only [Act.put, List.setIfInBounds_toArray, List.set_cons_zero, List.set_cons_succ, zr, zs]; rfl
                                  refine zv (i := 30) (N := some 199) (v := ?_) (a' := ?_) #[true, true, true, true, true, true, true, true, true, true, true, true, true, true, true, true, true, true, true, true, true, true, true, true, true, true, true, true, true, true, true, false] rfl rfl (zq HT_.out (by kernel_rfl)) (fun _ _ _ h => h) (Or.inl ⟨by rfl, ?_⟩) ?_ ?_; rotate_left
                                  ·intro w'; go_simp
                                   with_reducible rfl
                                  rotate_left
                                  ·simp only [Act.put, List.setIfInBounds_toArray, List.set_cons_zero, List.set_cons_succ, zr, zs]; rfl
                                  refine zv (i := 31) (N := some 7) (v := ?_) (a' := ?_) #[true, true, true, true, true, true, true, true, true, true, true, true, true, true, true, true, true, true, true, true, true, true, true, true, true, true, true, true, true, true, true, true] rfl rfl (zq HT_.out (by kernel_rfl)) (fun _ _ _ h => h) (Or.inl ⟨by rfl, ?_⟩) ?_ ?_; rotate_left
                                  ·intro w'; go_simp
                                   with_reducible rfl
                                  rotate_left
                                  ·simp only [Act.put, List.setIfInBounds_toArray, List.set_cons_zero, List.set_cons_succ, zr, zs]; rfl
                                  refine done_ (done_of HT_.out (by kernel_rfl)) ?_; try go_wp2
                                  go_meet
                                  case rel => exact ⟨_, (true), (by first | rfl | (simp; done) | (simp [*]; done)), H', ⟨by have := HJ4.out; have := HK2.out; have := HK3.out; have := HJ30.out; have := HJ39.out; have := HJ52.out; first | omega | exact Nat.le_refl _⟩, ⟨by (with_reducible repeat (first | apply Kd.R_alloc | apply Kd.R_drewN | apply Kd.R_drew)); exact HO_8.out⟩, ⟨by (with_reducible repeat (first | apply Kd.R_alloc | apply Kd.R_drewN | apply Kd.R_drew)); exact HO_9.out⟩, ⟨by (with_reducible repeat (first | refine zi ?_ _ | refine zk ?_ | refine zg ?_ _)); exact BK494.out⟩, ⟨by repeat (first | (with_reducible first | exact HB.out | apply zc | apply zb | apply zf | refine zh ?_ GE494.out) | exact HB.out)⟩⟩
                                 ·rw [if_neg c72] at H; have c72b0 : (t486 == ((rd_T25 x9_3 (ji45)).f0) && ((t487 == ((rd_T25 x9_3 (ji45)).f1.f0) && (t488 == ((rd_T25 x9_3 (ji45)).f1.f1) && (t489 == ((rd_T25 x9_3 (ji45)).f1.f2)))) && (t490 == ((rd_T25 x9_3 (ji45)).f2) && (t491 == ((rd_T25 x9_3 (ji45)).f3) && (t492 == ((rd_T25 x9_3 (ji45)).f4)))))) = false := by simpa using c72
                                  (try (have c72b1 : decide (t486 = ((rd_T25 x9_3 (ji45)).f0) && ((t487 == ((rd_T25 x9_3 (ji45)).f1.f0) && (t488 == ((rd_T25 x9_3 (ji45)).f1.f1) && (t489 == ((rd_T25 x9_3 (ji45)).f1.f2)))) && (t490 == ((rd_T25 x9_3 (ji45)).f2) && (t491 == ((rd_T25 x9_3 (ji45)).f3) && (t492 == ((rd_T25 x9_3 (ji45)).f4)))))) = false := by simpa using c72))
                                  (try (have c72b2 : (t486 == ((rd_T25 x9_3 (ji45)).f0) && ((t487 == ((rd_T25 x9_3 (ji45)).f1.f0) && (t488 == ((rd_T25 x9_3 (ji45)).f1.f1) && (t489 == ((rd_T25 x9_3 (ji45)).f1.f2)))) && (t490 == ((rd_T25 x9_3 (ji45)).f2) && (t491 == ((rd_T25 x9_3 (ji45)).f3) && (t492 == ((rd_T25 x9_3 (ji45)).f4)))))) = false := by simpa using c72))
                                  (try (have c72b3 : ¬ (t486 = ((rd_T25 x9_3 (ji45)).f0) && ((t487 == ((rd_T25 x9_3 (ji45)).f1.f0) && (t488 == ((rd_T25 x9_3 (ji45)).f1.f1) && (t489 == ((rd_T25 x9_3 (ji45)).f1.f2)))) && (t490 == ((rd_T25 x9_3 (ji45)).f2) && (t491 == ((rd_T25 x9_3 (ji45)).f3) && (t492 == ((rd_T25 x9_3 (ji45)).f4)))))) := by simpa using c72))
                                  clear c72; by_cases c74 : t486 = true
                                  ·subst c74; have c72b9 := c72b0; rw [tb_] at c72b9; have H1 : ((R8_True.f t487 t488 t489 (wrap64 ((wrap64 ((wrap64 (x12_3 + (wrap64 (1 + (Int.tmod (wrap64 ((rd_T42 l1 x13_3).f2)) 2000))))) * 10000)) + t478)) t482).bind fun t496 => (if t496 = true then (if 0 ≤ (ji35) then (if (ji35) < (x9_3.length : Int) then (slotmeshtop_TopChain.j6 kj52 l1 (t490 == (wrap64 (((rd_T25 x9_3 (ji35)).f2) + 1))) y457 x9_3 (wrap64 (x12_3 + (wrap64 (1 + (Int.tmod (wrap64 ((rd_T42 l1 x13_3).f2)) 2000))))) x13_3 (ji45) t482 true t487 t488 t489 t490 t491 t492) else (none)) else (none)) else (slotmeshtop_TopChain.j6 kj52 l1 false y457 x9_3 (wrap64 (x12_3 + (wrap64 (1 + (Int.tmod (wrap64 ((rd_T42 l1 x13_3).f2)) 2000))))) x13_3 (ji45) t482 true t487 t488 t489 t490 t491 t492))) = some r := by rw [if_pos rfl] at H; exact H
                                   clear H; have H := H1; clear H1; replace H := Option.bind_eq_some_iff.mp H; obtain ⟨t496, A750, H⟩ := H; replace H : (if t496 = true then (if 0 ≤ (ji35) then (if (ji35) < (x9_3.length : Int) then (slotmeshtop_TopChain.j6 kj52 l1 (t490 == (wrap64 (((rd_T25 x9_3 (ji35)).f2) + 1))) y457 x9_3 (wrap64 (x12_3 + (wrap64 (1 + (Int.tmod (wrap64 ((rd_T42 l1 x13_3).f2)) 2000))))) x13_3 (ji45) t482 true t487 t488 t489 t490 t491 t492) else (none)) else (none)) else (slotmeshtop_TopChain.j6 kj52 l1 false y457 x9_3 (wrap64 (x12_3 + (wrap64 (1 + (Int.tmod (wrap64 ((rd_T42 l1 x13_3).f2)) 2000))))) x13_3 (ji45) t482 true t487 t488 t489 t490 t491 t492)) = some r := H; have A75 := Aside0.mk A750; clear A750; by_cases c76 : t496 = true
                                   ·subst c76; have H1 : (if 0 ≤ (ji35) then (if (ji35) < (x9_3.length : Int) then (slotmeshtop_TopChain.j6 kj52 l1 (t490 == (wrap64 (((rd_T25 x9_3 (ji35)).f2) + 1))) y457 x9_3 (wrap64 (x12_3 + (wrap64 (1 + (Int.tmod (wrap64 ((rd_T42 l1 x13_3).f2)) 2000))))) x13_3 (ji45) t482 true t487 t488 t489 t490 t491 t492) else (none)) else (none)) = some r := by rw [if_pos rfl] at H; exact H
                                    clear H; have H := H1; clear H1; by_cases c77 : 0 ≤ (ji35)
                                    ·rw [if_pos c77] at H; have c77b0 : decide (0 ≤ (ji35)) = true := decide_eq_true c77; clear c77; by_cases c78 : (ji35) < (x9_3.length : Int)
                                     ·rw [if_pos c78] at H; have c78b0 : decide ((ji35) < (x9_3.length : Int)) = true := decide_eq_true c78; clear c78; have H' := Aside0.mk H; clear H; try go_wp2
                                      have n0_ := Aside0.mk (Kd.R_drew HO_8.out); have n1_ := Aside0.mk (Kd.R_drew HO_9.out); have n2_ := Aside0.mk (zk BK494.out); have n3_ := Aside0.mk (zf HB.out); clear HO_8; clear HO_9; clear BK494; clear HB; have HO_8 := n0_; have HO_9 := n1_; have BK494 := n2_; have HB := n3_; clear n0_ n1_ n2_ n3_; have p495 : 0 ≤ ((ji45) : Int) := of_decide_eq_true (by first | (with_reducible assumption) | assumption); have q495 : (ji45) < (x9_3.length : Int) := of_decide_eq_true (by first | (with_reducible assumption) | assumption); obtain ⟨ad495, e495, hx495_0, hx495_1, hx495_2, hx495_3, hx495_4, hx495_5, hx495_6⟩ := at_T25 (Kd.R_reads' HO_9.out).2.2 (ji45) p495 q495; obtain rfl : ad476 = ad495 := (by injection e495); replace p495 := eq_true p495; replace q495 := eq_true q495; have p497 : 0 ≤ ((ji35) : Int) := of_decide_eq_true (by first | (with_reducible assumption) | assumption); have q497 : (ji35) < (x9_3.length : Int) := of_decide_eq_true (by first | (with_reducible assumption) | assumption); obtain ⟨ad497, e497, hx497_0, hx497_1, hx497_2, hx497_3, hx497_4, hx497_5, hx497_6⟩ := at_T25 (Kd.R_reads' HO_9.out).2.2 (ji35) p497 q497; obtain rfl : ad476 = ad497 := (by injection e497); replace p497 := eq_true p497; replace q497 := eq_true q497; refine start_ (n := 32) (S := fun w' => w'.cell? ⟨gb494, 0, none⟩ = some (.bool true) ∧ w'.cell? ⟨gb494, 1, none⟩ = some (.int .i64 t487) ∧ w'.cell? ⟨gb494, 2, none⟩ = some (.int .i64 t488) ∧ w'.cell? ⟨gb494, 3, none⟩ = some (.int .i64 t489) ∧ w'.cell? ⟨gb494, 4, none⟩ = some (.int .i64 t490) ∧ w'.cell? ⟨gb494, 5, none⟩ = some (.int .i64 t491) ∧ w'.cell? ⟨gb494, 6, none⟩ = some (.int .i64 t492) ∧ w'.cell? (ad476.add (((ji45)).toNat * 7)) = some (.bool ((rd_T25 x9_3 (ji45)).f0)) ∧ w'.cell? ⟨(ad476.add (((ji45)).toNat * 7)).block, (ad476.add (((ji45)).toNat * 7)).off + 1, none⟩ = some (.int .i64 ((rd_T25 x9_3 (ji45)).f1.f0)) ∧ w'.cell? ⟨(ad476.add (((ji45)).toNat * 7)).block, (ad476.add (((ji45)).toNat * 7)).off + 2, none⟩ = some (.int .i64 ((rd_T25 x9_3 (ji45)).f1.f1)) ∧ w'.cell? ⟨(ad476.add (((ji45)).toNat * 7)).block, (ad476.add (((ji45)).toNat * 7)).off + 3, none⟩ = some (.int .i64 ((rd_T25 x9_3 (ji45)).f1.f2)) ∧ w'.cell? ⟨(ad476.add (((ji45)).toNat * 7)).block, (ad476.add (((ji45)).toNat * 7)).off + 4, none⟩ = some (.int .i64 ((rd_T25 x9_3 (ji45)).f2)) ∧ w'.cell? ⟨(ad476.add (((ji45)).toNat * 7)).block, (ad476.add (((ji45)).toNat * 7)).off + 5, none⟩ = some (.int .i64 ((rd_T25 x9_3 (ji45)).f3)) ∧ w'.cell? ⟨(ad476.add (((ji45)).toNat * 7)).block, (ad476.add (((ji45)).toNat * 7)).off + 6, none⟩ = some (.int .i64 ((rd_T25 x9_3 (ji45)).f4)) ∧ w'.cell? (ad476.add (((ji35)).toNat * 7)) = some (.bool ((rd_T25 x9_3 (ji35)).f0)) ∧ w'.cell? ⟨(ad476.add (((ji35)).toNat * 7)).block, (ad476.add (((ji35)).toNat * 7)).off + 1, none⟩ = some (.int .i64 ((rd_T25 x9_3 (ji35)).f1.f0)) ∧ w'.cell? ⟨(ad476.add (((ji35)).toNat * 7)).block, (ad476.add (((ji35)).toNat * 7)).off + 2, none⟩ = some (.int .i64 ((rd_T25 x9_3 (ji35)).f1.f1)) ∧ w'.cell? ⟨(ad476.add (((ji35)).toNat * 7)).block, (ad476.add (((ji35)).toNat * 7)).off + 3, none⟩ = some (.int .i64 ((rd_T25 x9_3 (ji35)).f1.f2)) ∧ w'.cell? ⟨(ad476.add (((ji35)).toNat * 7)).block, (ad476.add (((ji35)).toNat * 7)).off + 4, none⟩ = some (.int .i64 ((rd_T25 x9_3 (ji35)).f2)) ∧ w'.cell? ⟨(ad476.add (((ji35)).toNat * 7)).block, (ad476.add (((ji35)).toNat * 7)).off + 5, none⟩ = some (.int .i64 ((rd_T25 x9_3 (ji35)).f3)) ∧ w'.cell? ⟨(ad476.add (((ji35)).toNat * 7)).block, (ad476.add (((ji35)).toNat * 7)).off + 6, none⟩ = some (.int .i64 ((rd_T25 x9_3 (ji35)).f4))) (ds := []) #[false, false, false, false, false, false, false, false, false, false, false, false, false, false, false, false, false, false, false, false, false, false, false, false, false, false, false, false, false, false, false, false] (by kernel_rfl) rfl rfl ⟨(zd BK494.out 0).trans rfl, (zd BK494.out 1).trans rfl, (zd BK494.out 2).trans rfl, (zd BK494.out 3).trans rfl, (zd BK494.out 4).trans rfl, (zd BK494.out 5).trans rfl, (zd BK494.out 6).trans rfl, hx495_0, hx495_1, hx495_2, hx495_3, hx495_4, hx495_5, hx495_6, hx497_0, hx497_1, hx497_2, hx497_3, hx497_4, hx497_5, hx497_6⟩ (fun hHeld => ?_); refine with_tabW slotmeshtop_TopChain.tab29 slotmeshtop_TopChain.bits29 (fun HT_ HW_ => ?_)
                                      generalize wc.drew = w79 at HO_8 HO_9 BK494 HB hx495_0 hx495_1 hx495_2 hx495_3 hx495_4 hx495_5 hx495_6 hx497_0 hx497_1 hx497_2 hx497_3 hx497_4 hx497_5 hx497_6 hHeld ⊢
                                      refine zv (i := 0) (N := some 169) (v := ?_) (a' := ?_) #[true, false, false, false, false, false, false, false, false, false, false, false, false, false, false, false, false, false, false, false, false, false, false, false, false, false, false, false, false, false, false, false] rfl rfl (zq HT_.out (by kernel_rfl)) (fun _ _ _ h => h) (Or.inl ⟨by rfl, ?_⟩) ?_ ?_; rotate_left
                                      ·intro w'; go_simp
                                       with_reducible rfl
                                      rotate_left
                                      ·simp only [Act.put, List.setIfInBounds_toArray, List.set_cons_zero, List.set_cons_succ, zr, zs]; rfl
                                      refine zv (i := 1) (N := some 170) (v := ?_) (a' := ?_) #[true, true, false, false, false, false, false, false, false, false, false, false, false, false, false, false, false, false, false, false, false, false, false, false, false, false, false, false, false, false, false, false] rfl rfl (zq HT_.out (by kernel_rfl)) (fun _ _ _ h => h) (Or.inl ⟨by rfl, ?_⟩) ?_ ?_; rotate_left
                                      ·intro w'; go_simp
                                       with_reducible rfl
                                      rotate_left
                                      ·simp only [Act.put, List.setIfInBounds_toArray, List.set_cons_zero, List.set_cons_succ, zr, zs]; rfl
                                      refine zv (i := 3) (N := some 172) (v := ?_) (a' := ?_) #[true, true, false, true, false, false, false, false, false, false, false, false, false, false, false, false, false, false, false, false, false, false, false, false, false, false, false, false, false, false, false, false] rfl rfl (zq HT_.out (by kernel_rfl)) (fun _ _ _ h => h) (Or.inl ⟨by rfl, ?_⟩) ?_ ?_; rotate_left
                                      ·intro w'; go_simp
                                       with_reducible rfl
                                      rotate_left
                                      ·simp only [Act.put, List.setIfInBounds_toArray, List.set_cons_zero, List.set_cons_succ, zr, zs]; rfl
                                      refine zv (i := 4) (N := some 173) (v := ?_) (a' := ?_) #[true, true, false, true, true, false, false, false, false, false, false, false, false, false, false, false, false, false, false, false, false, false, false, false, false, false, false, false, false, false, false, false] rfl rfl (zq HT_.out (by kernel_rfl)) (fun _ _ _ h => h) (Or.inl ⟨by rfl, ?_⟩) ?_ ?_; rotate_left
                                      ·intro w'; go_simp
                                       with_reducible rfl
                                      rotate_left
                                      ·simp only [Act.put, List.setIfInBounds_toArray, List.set_cons_zero, List.set_cons_succ, zr, zs]; rfl
                                      refine zv (i := 5) (N := some 174) (v := ?_) (a' := ?_) #[true, true, false, true, true, true, false, false, false, false, false, false, false, false, false, false, false, false, false, false, false, false, false, false, false, false, false, false, false, false, false, false] rfl rfl (zq HT_.out (by kernel_rfl)) (fun _ _ _ h => h) (Or.inl ⟨by rfl, ?_⟩) ?_ ?_; rotate_left
                                      ·intro w'; go_simp
                                       with_reducible rfl
                                      rotate_left
                                      ·simp only [Act.put, List.setIfInBounds_toArray, List.set_cons_zero, List.set_cons_succ, zr, zs]; rfl
                                      refine take_ (i := 2) (N := some 171) (v := ?_) (a' := ?_) #[true, true, true, true, true, true, false, false, false, false, false, false, false, false, false, false, false, false, false, false, false, false, false, false, false, false, false, false, false, false, false, false] rfl rfl (take_ofW HT_.out HW_.out (by kernel_rfl)) (fun _ _ _ h => h) (Or.inl ⟨by rfl, ?_⟩) hHeld ?_ ?_; rotate_left
                                      ·rintro w' ⟨s0, s1, s2, s3, s4, s5, s6, s7, s8, s9, s10, s11, s12, s13, s14, s15, s16, s17, s18, s19, s20⟩; go_simp
                                       with_reducible rfl
                                      rotate_left
                                      ·simp only [Act.put, List.setIfInBounds_toArray, List.set_cons_zero, List.set_cons_succ, zr, zs]; rfl
                                      refine take_ (i := 6) (N := some 175) (v := ?_) (a' := ?_) #[true, true, true, true, true, true, true, false, false, false, false, false, false, false, false, false, false, false, false, false, false, false, false, false, false, false, false, false, false, false, false, false] rfl rfl (take_ofW HT_.out HW_.out (by kernel_rfl)) (fun _ _ _ h => h) (Or.inl ⟨by rfl, ?_⟩) hHeld ?_ ?_; rotate_left
                                      ·rintro w' ⟨s0, s1, s2, s3, s4, s5, s6, s7, s8, s9, s10, s11, s12, s13, s14, s15, s16, s17, s18, s19, s20⟩; go_simp
                                       with_reducible rfl
                                      rotate_left
                                      ·simp only [Act.put, List.setIfInBounds_toArray, List.set_cons_zero, List.set_cons_succ, zr, zs]; rfl
                                      refine zv (i := 7) (N := some 176) (v := ?_) (a' := ?_) #[true, true, true, true, true, true, true, true, false, false, false, false, false, false, false, false, false, false, false, false, false, false, false, false, false, false, false, false, false, false, false, false] rfl rfl (zq HT_.out (by kernel_rfl)) (fun _ _ _ h => h) (Or.inl ⟨by rfl, ?_⟩) ?_ ?_; rotate_left
                                      ·intro w'; go_simp
                                       with_reducible rfl
                                      rotate_left
                                      ·simp only [Act.put, List.setIfInBounds_toArray, List.set_cons_zero, List.set_cons_succ, zr, zs]; rfl
                                      refine zv (i := 8) (N := some 177) (v := ?_) (a' := ?_) #[true, true, true, true, true, true, true, true, true, false, false, false, false, false, false, false, false, false, false, false, false, false, false, false, false, false, false, false, false, false, false, false] rfl rfl (zq HT_.out (by kernel_rfl)) (fun _ _ _ h => h) (Or.inl ⟨by rfl, ?_⟩) ?_ ?_; rotate_left
                                      ·intro w'; go_simp
                                       with_reducible rfl
                                      rotate_left
                                      ·simp only [Act.put, List.setIfInBounds_toArray, List.set_cons_zero, List.set_cons_succ, zr, zs]; rfl
                                      refine zv (i := 9) (N := some 178) (v := ?_) (a' := ?_) #[true, true, true, true, true, true, true, true, true, true, false, false, false, false, false, false, false, false, false, false, false, false, false, false, false, false, false, false, false, false, false, false] rfl rfl (zq HT_.out (by kernel_rfl)) (fun _ _ _ h => h) (Or.inl ⟨by rfl, ?_⟩) ?_ ?_; rotate_left
                                      ·intro w'; go_simp
                                       with_reducible rfl
                                      rotate_left
                                      ·simp only [Act.put, List.setIfInBounds_toArray, List.set_cons_zero, List.set_cons_succ, zr, zs]; rfl
                                      refine take_ (i := 10) (N := some 179) (v := ?_) (a' := ?_) #[true, true, true, true, true, true, true, true, true, true, true, false, false, false, false, false, false, false, false, false, false, false, false, false, false, false, false, false, false, false, false, false] rfl rfl (take_ofW HT_.out HW_.out (by kernel_rfl)) (fun _ _ _ h => h) (Or.inl ⟨by rfl, ?_⟩) hHeld ?_ ?_; rotate_left
                                      ·rintro w' ⟨s0, s1, s2, s3, s4, s5, s6, s7, s8, s9, s10, s11, s12, s13, s14, s15, s16, s17, s18, s19, s20⟩; go_simp
                                       with_reducible rfl
                                      rotate_left
                                      ·simp only [Act.put, List.setIfInBounds_toArray, List.set_cons_zero, List.set_cons_succ, zr, zs]; rfl
                                      refine zv (i := 11) (N := some 180) (v := ?_) (a' := ?_) #[true, true, true, true, true, true, true, true, true, true, true, true, false, false, false, false, false, false, false, false, false, false, false, false, false, false, false, false, false, false, false, false] rfl rfl (zq HT_.out (by kernel_rfl)) (fun _ _ _ h => h) (Or.inl ⟨by rfl, ?_⟩) ?_ ?_; rotate_left
                                      ·intro w'; go_simp
                                       with_reducible rfl
                                      rotate_left
                                      ·simp only [Act.put, List.setIfInBounds_toArray, List.set_cons_zero, List.set_cons_succ, zr, zs]; rfl
                                      refine zv (i := 12) (N := some 181) (v := ?_) (a' := ?_) #[true, true, true, true, true, true, true, true, true, true, true, true, true, false, false, false, false, false, false, false, false, false, false, false, false, false, false, false, false, false, false, false] rfl rfl (zq HT_.out (by kernel_rfl)) (fun _ _ _ h => h) (Or.inl ⟨by rfl, ?_⟩) ?_ ?_; rotate_left
                                      ·intro w'; go_simp
                                       with_reducible rfl
                                      rotate_left
                                      ·simp only [Act.put, List.setIfInBounds_toArray, List.set_cons_zero, List.set_cons_succ, zr, zs]; rfl
                                      refine zv (i := 14) (N := some 183) (v := ?_) (a' := ?_) #[true, true, true, true, true, true, true, true, true, true, true, true, true, false, true, false, false, false, false, false, false, false, false, false, false, false, false, false, false, false, false, false] rfl rfl (zq HT_.out (by kernel_rfl)) (fun _ _ _ h => h) (Or.inl ⟨by rfl, ?_⟩) ?_ ?_; rotate_left
                                      ·intro w'; go_simp
                                       with_reducible rfl
                                      rotate_left
                                      ·simp only [Act.put, List.setIfInBounds_toArray, List.set_cons_zero, List.set_cons_succ, zr, zs]; rfl
                                      refine zv (i := 15) (N := some 184) (v := ?_) (a' := ?_) #[true, true, true, true, true, true, true, true, true, true, true, true, true, false, true, true, false, false, false, false, false, false, false, false, false, false, false, false, false, false, false, false] rfl rfl (zq HT_.out (by kernel_rfl)) (fun _ _ _ h => h) (Or.inl ⟨by rfl, ?_⟩) ?_ ?_; rotate_left
                                      ·intro w'; go_simp
                                       with_reducible rfl
                                      rotate_left
                                      ·simp only [Act.put, List.setIfInBounds_toArray, List.set_cons_zero, List.set_cons_succ, zr, zs]; rfl
                                      refine take_ (i := 13) (N := some 182) (v := ?_) (a' := ?_) #[true, true, true, true, true, true, true, true, true, true, true, true, true, true, true, true, false, false, false, false, false, false, false, false, false, false, false, false, false, false, false, false] rfl rfl (take_ofW HT_.out HW_.out (by kernel_rfl)) (fun _ _ _ h => h) (Or.inl ⟨by rfl, ?_⟩) hHeld ?_ ?_; rotate_left
                                      ·rintro w' ⟨s0, s1, s2, s3, s4, s5, s6, s7, s8, s9, s10, s11, s12, s13, s14, s15, s16, s17, s18, s19, s20⟩; go_simp
                                       with_reducible rfl
                                      rotate_left
                                      ·simp only [Act.put, List.setIfInBounds_toArray, List.set_cons_zero, List.set_cons_succ, zr, zs]; rfl
                                      refine one_ (i := 16) (N := some 185) #[true, true, true, true, true, true, true, true, true, true, true, true, true, true, true, true, true, false, false, false, false, false, false, false, false, false, false, false, false, false, false, false] rfl rfl (one_of HT_.out (by kernel_rfl)) (by decide) (fun K hK => ?_); refine goes_ Try.func21 (by kernel_rfl) rfl #[.agg #[.int .i64 t487, .int .i64 t488, .int .i64 t489], .int .i64 (wrap64 ((wrap64 ((wrap64 (x12_3 + (wrap64 (1 + (Int.tmod (wrap64 ((rd_T42 l1 x13_3).f2)) 2000))))) * 10000)) + t478)), .int .i64 t482] (by rfl) rfl rfl (by (try simp only [List.map_toArray, List.map_cons, List.map_nil]); first | done | rfl | (simp only [List.length_drop, List.length_take]; rfl)) ?_; with_reducible refine (R8_True.calls t487 t488 t489 (wrap64 ((wrap64 ((wrap64 (x12_3 + (wrap64 (1 + (Int.tmod (wrap64 ((rd_T42 l1 x13_3).f2)) 2000))))) * 10000)) + t478)) t482 true _ A75.out).mono ?_
                                      rintro e w80 ⟨rfl, hb⟩; have HS7_ := (hb.cell (World.block_lt_of_cell? _ _ (hHeld.2.2.2.2.2.2.2.1))).trans (hHeld.2.2.2.2.2.2.2.1); have HS8_ := (hb.cell (World.block_lt_of_cell? _ _ (hHeld.2.2.2.2.2.2.2.2.1))).trans (hHeld.2.2.2.2.2.2.2.2.1); have HS9_ := (hb.cell (World.block_lt_of_cell? _ _ (hHeld.2.2.2.2.2.2.2.2.2.1))).trans (hHeld.2.2.2.2.2.2.2.2.2.1); have HS10_ := (hb.cell (World.block_lt_of_cell? _ _ (hHeld.2.2.2.2.2.2.2.2.2.2.1))).trans (hHeld.2.2.2.2.2.2.2.2.2.2.1); have HS11_ := (hb.cell (World.block_lt_of_cell? _ _ (hHeld.2.2.2.2.2.2.2.2.2.2.2.1))).trans (hHeld.2.2.2.2.2.2.2.2.2.2.2.1); have HS12_ := (hb.cell (World.block_lt_of_cell? _ _ (hHeld.2.2.2.2.2.2.2.2.2.2.2.2.1))).trans (hHeld.2.2.2.2.2.2.2.2.2.2.2.2.1); have HS13_ := (hb.cell (World.block_lt_of_cell? _ _ (hHeld.2.2.2.2.2.2.2.2.2.2.2.2.2.1))).trans (hHeld.2.2.2.2.2.2.2.2.2.2.2.2.2.1); have HS14_ := (hb.cell (World.block_lt_of_cell? _ _ (hHeld.2.2.2.2.2.2.2.2.2.2.2.2.2.2.1))).trans (hHeld.2.2.2.2.2.2.2.2.2.2.2.2.2.2.1); have HS15_ := (hb.cell (World.block_lt_of_cell? _ _ (hHeld.2.2.2.2.2.2.2.2.2.2.2.2.2.2.2.1))).trans (hHeld.2.2.2.2.2.2.2.2.2.2.2.2.2.2.2.1); have HS16_ := (hb.cell (World.block_lt_of_cell? _ _ (hHeld.2.2.2.2.2.2.2.2.2.2.2.2.2.2.2.2.1))).trans (hHeld.2.2.2.2.2.2.2.2.2.2.2.2.2.2.2.2.1); have HS17_ := (hb.cell (World.block_lt_of_cell? _ _ (hHeld.2.2.2.2.2.2.2.2.2.2.2.2.2.2.2.2.2.1))).trans (hHeld.2.2.2.2.2.2.2.2.2.2.2.2.2.2.2.2.2.1); have HS18_ := (hb.cell (World.block_lt_of_cell? _ _ (hHeld.2.2.2.2.2.2.2.2.2.2.2.2.2.2.2.2.2.2.1))).trans (hHeld.2.2.2.2.2.2.2.2.2.2.2.2.2.2.2.2.2.2.1); have HS19_ := (hb.cell (World.block_lt_of_cell? _ _ (hHeld.2.2.2.2.2.2.2.2.2.2.2.2.2.2.2.2.2.2.2.1))).trans (hHeld.2.2.2.2.2.2.2.2.2.2.2.2.2.2.2.2.2.2.2.1); have HS20_ := (hb.cell (World.block_lt_of_cell? _ _ (hHeld.2.2.2.2.2.2.2.2.2.2.2.2.2.2.2.2.2.2.2.2))).trans (hHeld.2.2.2.2.2.2.2.2.2.2.2.2.2.2.2.2.2.2.2.2); refine ⟨_, rfl, ?_⟩; have n0_ := Aside0.mk (Kd.R_below (by (with_reducible repeat (first | apply Kd.R_alloc | apply Kd.R_drewN | apply Kd.R_drew)); exact HO_8.out) hb); have n1_ := Aside0.mk (Kd.R_below (by (with_reducible repeat (first | apply Kd.R_alloc | apply Kd.R_drewN | apply Kd.R_drew)); exact HO_9.out) hb); have n2_ := Aside0.mk (zj (g := gb494) (o := .cells #[.bool true, .int .i64 t487, .int .i64 t488, .int .i64 t489, .int .i64 t490, .int .i64 t491, .int .i64 t492] 25 (0, 0)) (by (with_reducible repeat (first | refine zi ?_ _ | refine zk ?_ | refine zg ?_ _)); exact BK494.out) hb); have n3_ := Aside0.mk (zl (by repeat (first | (with_reducible first | exact HB.out | apply zc | apply zb | apply zf | refine zh ?_ GE494.out) | exact HB.out)) hb); clear HO_8; clear HO_9; clear BK494; clear HB; have HO_8 := n0_; have HO_9 := n1_; have BK494 := n2_; have HB := n3_; clear n0_ n1_ n2_ n3_; (try clear hb)
                                      (try clear hb2)
                                      (try clear hk)
                                      (try clear hi)
                                      refine hK.out _ _ ⟨(zd BK494.out 0).trans rfl, (zd BK494.out 1).trans rfl, (zd BK494.out 2).trans rfl, (zd BK494.out 3).trans rfl, (zd BK494.out 4).trans rfl, (zd BK494.out 5).trans rfl, (zd BK494.out 6).trans rfl, HS7_, HS8_, HS9_, HS10_, HS11_, HS12_, HS13_, HS14_, HS15_, HS16_, HS17_, HS18_, HS19_, HS20_⟩ (fun hHeld => ?_); clear hK K; refine norm_ (a' := ?_) ?_ ?_; rotate_left
                                      ·show Act.put _ (some 185) _ = _
                                       simp only [Act.put, List.setIfInBounds_toArray, List.set_cons_zero, List.set_cons_succ, zr, zs]; rfl
                                      refine zv (i := 17) (N := some 186) (v := ?_) (a' := ?_) #[true, true, true, true, true, true, true, true, true, true, true, true, true, true, true, true, true, true, false, false, false, false, false, false, false, false, false, false, false, false, false, false] rfl rfl (zq HT_.out (by kernel_rfl)) (fun _ _ _ h => h) (Or.inl ⟨by rfl, ?_⟩) ?_ ?_; rotate_left
                                      ·intro w'; go_simp
                                       with_reducible rfl
                                      rotate_left
                                      ·simp only [Act.put, List.setIfInBounds_toArray, List.set_cons_zero, List.set_cons_succ, zr, zs]; rfl
                                      refine zv (i := 18) (N := some 187) (v := ?_) (a' := ?_) #[true, true, true, true, true, true, true, true, true, true, true, true, true, true, true, true, true, true, true, false, false, false, false, false, false, false, false, false, false, false, false, false] rfl rfl (zq HT_.out (by kernel_rfl)) (fun _ _ _ h => h) (Or.inl ⟨by rfl, ?_⟩) ?_ ?_; rotate_left
                                      ·intro w'; go_simp
                                       with_reducible rfl
                                      rotate_left
                                      ·simp only [Act.put, List.setIfInBounds_toArray, List.set_cons_zero, List.set_cons_succ, zr, zs]; rfl
                                      refine zv (i := 19) (N := some 188) (v := ?_) (a' := ?_) #[true, true, true, true, true, true, true, true, true, true, true, true, true, true, true, true, true, true, true, true, false, false, false, false, false, false, false, false, false, false, false, false] rfl rfl (zq HT_.out (by kernel_rfl)) (fun _ _ _ h => h) (Or.inl ⟨by rfl, ?_⟩) ?_ ?_; rotate_left
                                      ·intro w'; go_simp
                                       with_reducible rfl
                                      rotate_left
                                      ·simp only [Act.put, List.setIfInBounds_toArray, List.set_cons_zero, List.set_cons_succ, zr, zs]; rfl
                                      refine zv (i := 21) (N := some 190) (v := ?_) (a' := ?_) #[true, true, true, true, true, true, true, true, true, true, true, true, true, true, true, true, true, true, true, true, false, true, false, false, false, false, false, false, false, false, false, false] rfl rfl (zq HT_.out (by kernel_rfl)) (fun _ _ _ h => h) (Or.inl ⟨by rfl, ?_⟩) ?_ ?_; rotate_left
                                      ·intro w'; go_simp
                                       with_reducible rfl
                                      rotate_left
                                      ·simp only [Act.put, List.setIfInBounds_toArray, List.set_cons_zero, List.set_cons_succ, zr, zs]; rfl
                                      refine zv (i := 22) (N := some 191) (v := ?_) (a' := ?_) #[true, true, true, true, true, true, true, true, true, true, true, true, true, true, true, true, true, true, true, true, false, true, true, false, false, false, false, false, false, false, false, false] rfl rfl (zq HT_.out (by kernel_rfl)) (fun _ _ _ h => h) (Or.inl ⟨by rfl, ?_⟩) ?_ ?_; rotate_left
                                      ·intro w'; go_simp
                                       with_reducible rfl
                                      rotate_left
                                      ·simp only [Act.put, List.setIfInBounds_toArray, List.set_cons_zero, List.set_cons_succ, zr, zs]; rfl
                                      refine zv (i := 23) (N := some 192) (v := ?_) (a' := ?_) #[true, true, true, true, true, true, true, true, true, true, true, true, true, true, true, true, true, true, true, true, false, true, true, true, false, false, false, false, false, false, false, false] rfl rfl (zq HT_.out (by kernel_rfl)) (fun _ _ _ h => h) (Or.inl ⟨by rfl, ?_⟩) ?_ ?_; rotate_left
                                      ·intro w'; go_simp
                                       with_reducible rfl
                                      rotate_left
                                      ·simp only [Act.put, List.setIfInBounds_toArray, List.set_cons_zero, List.set_cons_succ, zr, zs]; rfl
                                      refine zv (i := 24) (N := some 193) (v := ?_) (a' := ?_) #[true, true, true, true, true, true, true, true, true, true, true, true, true, true, true, true, true, true, true, true, false, true, true, true, true, false, false, false, false, false, false, false] rfl rfl (zq HT_.out (by kernel_rfl)) (fun _ _ _ h => h) (Or.inl ⟨by rfl, ?_⟩) ?_ ?_; rotate_left
                                      ·intro w'; go_simp
                                       with_reducible rfl
                                      rotate_left
                                      ·simp only [Act.put, List.setIfInBounds_toArray, List.set_cons_zero, List.set_cons_succ, zr, zs]; rfl
                                      refine take_ (i := 20) (N := some 189) (v := ?_) (a' := ?_) #[true, true, true, true, true, true, true, true, true, true, true, true, true, true, true, true, true, true, true, true, true, true, true, true, true, false, false, false, false, false, false, false] rfl rfl (take_ofW HT_.out HW_.out (by kernel_rfl)) (fun _ _ _ h => h) (Or.inl ⟨by rfl, ?_⟩) hHeld ?_ ?_; rotate_left
                                      ·rintro w' ⟨s0, s1, s2, s3, s4, s5, s6, s7, s8, s9, s10, s11, s12, s13, s14, s15, s16, s17, s18, s19, s20⟩; go_simp
                                       with_reducible rfl
                                      rotate_left
                                      ·simp only [Act.put, List.setIfInBounds_toArray, List.set_cons_zero, List.set_cons_succ, zr, zs]; rfl
                                      refine take_ (i := 25) (N := some 194) (v := ?_) (a' := ?_) #[true, true, true, true, true, true, true, true, true, true, true, true, true, true, true, true, true, true, true, true, true, true, true, true, true, true, false, false, false, false, false, false] rfl rfl (take_ofW HT_.out HW_.out (by kernel_rfl)) (fun _ _ _ h => h) (Or.inl ⟨by rfl, ?_⟩) hHeld ?_ ?_; rotate_left
                                      ·rintro w' ⟨s0, s1, s2, s3, s4, s5, s6, s7, s8, s9, s10, s11, s12, s13, s14, s15, s16, s17, s18, s19, s20⟩; go_simp
                                       with_reducible rfl
                                      rotate_left
                                      ·simp only [Act.put, List.setIfInBounds_toArray, List.set_cons_zero, List.set_cons_succ, zr, zs]; rfl
                                      refine zv (i := 26) (N := some 195) (v := ?_) (a' := ?_) #[true, true, true, true, true, true, true, true, true, true, true, true, true, true, true, true, true, true, true, true, true, true, true, true, true, true, true, false, false, false, false, false] rfl rfl (zq HT_.out (by kernel_rfl)) (fun _ _ _ h => h) (Or.inl ⟨by rfl, ?_⟩) ?_ ?_; rotate_left
                                      ·intro w'; go_simp
                                       with_reducible rfl
                                      rotate_left
                                      ·simp only [Act.put, List.setIfInBounds_toArray, List.set_cons_zero, List.set_cons_succ, zr, zs]; rfl
                                      refine zv (i := 27) (N := some 196) (v := ?_) (a' := ?_) #[true, true, true, true, true, true, true, true, true, true, true, true, true, true, true, true, true, true, true, true, true, true, true, true, true, true, true, true, false, false, false, false] rfl rfl (zq HT_.out (by kernel_rfl)) (fun _ _ _ h => h) (Or.inl ⟨by rfl, ?_⟩) ?_ ?_; rotate_left
                                      ·intro w'; go_simp
                                       with_reducible rfl
                                      rotate_left
                                      ·simp only [Act.put, List.setIfInBounds_toArray, List.set_cons_zero, List.set_cons_succ, zr, zs]; rfl
                                      refine zv (i := 28) (N := some 197) (v := ?_) (a' := ?_) #[true, true, true, true, true, true, true, true, true, true, true, true, true, true, true, true, true, true, true, true, true, true, true, true, true, true, true, true, true, false, false, false] rfl rfl (zq HT_.out (by kernel_rfl)) (fun _ _ _ h => h) (Or.inl ⟨by rfl, ?_⟩) ?_ ?_; rotate_left
                                      ·intro w'; go_simp
                                       with_reducible rfl
                                      rotate_left
                                      ·simp only [Act.put, List.setIfInBounds_toArray, List.set_cons_zero, List.set_cons_succ, zr, zs]; rfl
                                      refine zv (i := 29) (N := some 198) (v := ?_) (a' := ?_) #[true, true, true, true, true, true, true, true, true, true, true, true, true, true, true, true, true, true, true, true, true, true, true, true, true, true, true, true, true, true, false, false] rfl rfl (zq HT_.out (by kernel_rfl)) (fun _ _ _ h => h) (Or.inl ⟨by rfl, ?_⟩) ?_ ?_; rotate_left
                                      ·intro w'; go_simp
                                       with_reducible rfl
                                      rotate_left
                                      ·simp only [Act.put, List.setIfInBounds_toArray, List.set_cons_zero, List.set_cons_succ, zr, zs]; rfl
                                      refine zv (i := 30) (N := some 199) (v := ?_) (a' := ?_) #[true, true, true, true, true, true, true, true, true, true, true, true, true, true, true, true, true, true, true, true, true, true, true, true, true, true, true, true, true, true, true, false] rfl rfl (zq HT_.out (by kernel_rfl)) (fun _ _ _ h => h) (Or.inl ⟨by rfl, ?_⟩) ?_ ?_; rotate_left
                                      ·intro w'; go_simp
                                       with_reducible rfl
                                      rotate_left
                                      ·simp only [Act.put, List.setIfInBounds_toArray, List.set_cons_zero, List.set_cons_succ, zr, zs]; rfl
                                      refine zv (i := 31) (N := some 7) (v := ?_) (a' := ?_) #[true, true, true, true, true, true, true, true, true, true, true, true, true, true, true, true, true, true, true, true, true, true, true, true, true, true, true, true, true, true, true, true] rfl rfl (zq HT_.out (by kernel_rfl)) (fun _ _ _ h => h) (Or.inl ⟨by rfl, ?_⟩) ?_ ?_; rotate_left
                                      ·intro w'; go_simp
                                       with_reducible rfl
                                      rotate_left
                                      ·simp only [Act.put, List.setIfInBounds_toArray, List.set_cons_zero, List.set_cons_succ, zr, zs]; rfl
                                      refine done_ (done_of HT_.out (by kernel_rfl)) ?_; try go_wp2
                                      go_meet
                                      case rel => exact ⟨_, ((t490 == (wrap64 (((rd_T25 x9_3 (ji35)).f2) + 1)))), (by first | rfl | (simp; done) | (simp only [← hji35] <;> (first | rfl | simp)) | (simp [*]; done)), H', ⟨by have := HJ4.out; have := HK2.out; have := HK3.out; have := HJ30.out; have := HJ39.out; have := HJ52.out; first | omega | exact Nat.le_refl _⟩, ⟨by (with_reducible repeat (first | apply Kd.R_alloc | apply Kd.R_drewN | apply Kd.R_drew)); exact HO_8.out⟩, ⟨by (with_reducible repeat (first | apply Kd.R_alloc | apply Kd.R_drewN | apply Kd.R_drew)); exact HO_9.out⟩, ⟨by (with_reducible repeat (first | refine zi ?_ _ | refine zk ?_ | refine zg ?_ _)); exact BK494.out⟩, ⟨by repeat (first | (with_reducible first | exact HB.out | apply zc | apply zb | apply zf | refine zh ?_ GE494.out) | exact HB.out)⟩⟩
                                     ·rw [if_neg c78] at H; exact absurd H (by simp)
                                    ·rw [if_neg c77] at H; exact absurd H (by simp)
                                   ·replace c76 := Bool.eq_false_iff.mpr c76; subst c76; have H1 : (slotmeshtop_TopChain.j6 kj52 l1 false y457 x9_3 (wrap64 (x12_3 + (wrap64 (1 + (Int.tmod (wrap64 ((rd_T42 l1 x13_3).f2)) 2000))))) x13_3 (ji45) t482 true t487 t488 t489 t490 t491 t492) = some r := by rw [if_neg (show ¬ (false = true) by decide)] at H; exact H
                                    clear H; have H := H1; clear H1; have H' := Aside0.mk H; clear H; try go_wp2
                                    have n0_ := Aside0.mk (Kd.R_drew HO_8.out); have n1_ := Aside0.mk (Kd.R_drew HO_9.out); have n2_ := Aside0.mk (zk BK494.out); have n3_ := Aside0.mk (zf HB.out); clear HO_8; clear HO_9; clear BK494; clear HB; have HO_8 := n0_; have HO_9 := n1_; have BK494 := n2_; have HB := n3_; clear n0_ n1_ n2_ n3_; have p495 : 0 ≤ ((ji45) : Int) := of_decide_eq_true (by first | (with_reducible assumption) | assumption); have q495 : (ji45) < (x9_3.length : Int) := of_decide_eq_true (by first | (with_reducible assumption) | assumption); obtain ⟨ad495, e495, hx495_0, hx495_1, hx495_2, hx495_3, hx495_4, hx495_5, hx495_6⟩ := at_T25 (Kd.R_reads' HO_9.out).2.2 (ji45) p495 q495; obtain rfl : ad476 = ad495 := (by injection e495); replace p495 := eq_true p495; replace q495 := eq_true q495; refine start_ (n := 32) (S := fun w' => w'.cell? ⟨gb494, 0, none⟩ = some (.bool true) ∧ w'.cell? ⟨gb494, 1, none⟩ = some (.int .i64 t487) ∧ w'.cell? ⟨gb494, 2, none⟩ = some (.int .i64 t488) ∧ w'.cell? ⟨gb494, 3, none⟩ = some (.int .i64 t489) ∧ w'.cell? ⟨gb494, 4, none⟩ = some (.int .i64 t490) ∧ w'.cell? ⟨gb494, 5, none⟩ = some (.int .i64 t491) ∧ w'.cell? ⟨gb494, 6, none⟩ = some (.int .i64 t492) ∧ w'.cell? (ad476.add (((ji45)).toNat * 7)) = some (.bool ((rd_T25 x9_3 (ji45)).f0)) ∧ w'.cell? ⟨(ad476.add (((ji45)).toNat * 7)).block, (ad476.add (((ji45)).toNat * 7)).off + 1, none⟩ = some (.int .i64 ((rd_T25 x9_3 (ji45)).f1.f0)) ∧ w'.cell? ⟨(ad476.add (((ji45)).toNat * 7)).block, (ad476.add (((ji45)).toNat * 7)).off + 2, none⟩ = some (.int .i64 ((rd_T25 x9_3 (ji45)).f1.f1)) ∧ w'.cell? ⟨(ad476.add (((ji45)).toNat * 7)).block, (ad476.add (((ji45)).toNat * 7)).off + 3, none⟩ = some (.int .i64 ((rd_T25 x9_3 (ji45)).f1.f2)) ∧ w'.cell? ⟨(ad476.add (((ji45)).toNat * 7)).block, (ad476.add (((ji45)).toNat * 7)).off + 4, none⟩ = some (.int .i64 ((rd_T25 x9_3 (ji45)).f2)) ∧ w'.cell? ⟨(ad476.add (((ji45)).toNat * 7)).block, (ad476.add (((ji45)).toNat * 7)).off + 5, none⟩ = some (.int .i64 ((rd_T25 x9_3 (ji45)).f3)) ∧ w'.cell? ⟨(ad476.add (((ji45)).toNat * 7)).block, (ad476.add (((ji45)).toNat * 7)).off + 6, none⟩ = some (.int .i64 ((rd_T25 x9_3 (ji45)).f4))) (ds := []) #[false, false, false, false, false, false, false, false, false, false, false, false, false, false, false, false, false, false, false, false, false, false, false, false, false, false, false, false, false, false, false, false] (by kernel_rfl) rfl rfl ⟨(zd BK494.out 0).trans rfl, (zd BK494.out 1).trans rfl, (zd BK494.out 2).trans rfl, (zd BK494.out 3).trans rfl, (zd BK494.out 4).trans rfl, (zd BK494.out 5).trans rfl, (zd BK494.out 6).trans rfl, hx495_0, hx495_1, hx495_2, hx495_3, hx495_4, hx495_5, hx495_6⟩ (fun hHeld => ?_); refine with_tabW slotmeshtop_TopChain.tab29 slotmeshtop_TopChain.bits29 (fun HT_ HW_ => ?_)
                                    generalize wc.drew = w81 at HO_8 HO_9 BK494 HB hx495_0 hx495_1 hx495_2 hx495_3 hx495_4 hx495_5 hx495_6 hHeld ⊢
                                    refine zv (i := 0) (N := some 169) (v := ?_) (a' := ?_) #[true, false, false, false, false, false, false, false, false, false, false, false, false, false, false, false, false, false, false, false, false, false, false, false, false, false, false, false, false, false, false, false] rfl rfl (zq HT_.out (by kernel_rfl)) (fun _ _ _ h => h) (Or.inl ⟨by rfl, ?_⟩) ?_ ?_; rotate_left
                                    ·intro w'; go_simp
                                     with_reducible rfl
                                    rotate_left
                                    ·simp only [Act.put, List.setIfInBounds_toArray, List.set_cons_zero, List.set_cons_succ, zr, zs]; rfl
                                    refine zv (i := 1) (N := some 170) (v := ?_) (a' := ?_) #[true, true, false, false, false, false, false, false, false, false, false, false, false, false, false, false, false, false, false, false, false, false, false, false, false, false, false, false, false, false, false, false] rfl rfl (zq HT_.out (by kernel_rfl)) (fun _ _ _ h => h) (Or.inl ⟨by rfl, ?_⟩) ?_ ?_; rotate_left
                                    ·intro w'; go_simp
                                     with_reducible rfl
                                    rotate_left
                                    ·simp only [Act.put, List.setIfInBounds_toArray, List.set_cons_zero, List.set_cons_succ, zr, zs]; rfl
                                    refine zv (i := 3) (N := some 172) (v := ?_) (a' := ?_) #[true, true, false, true, false, false, false, false, false, false, false, false, false, false, false, false, false, false, false, false, false, false, false, false, false, false, false, false, false, false, false, false] rfl rfl (zq HT_.out (by kernel_rfl)) (fun _ _ _ h => h) (Or.inl ⟨by rfl, ?_⟩) ?_ ?_; rotate_left
                                    ·intro w'; go_simp
                                     with_reducible rfl
                                    rotate_left
                                    ·simp only [Act.put, List.setIfInBounds_toArray, List.set_cons_zero, List.set_cons_succ, zr, zs]; rfl
                                    refine zv (i := 4) (N := some 173) (v := ?_) (a' := ?_) #[true, true, false, true, true, false, false, false, false, false, false, false, false, false, false, false, false, false, false, false, false, false, false, false, false, false, false, false, false, false, false, false] rfl rfl (zq HT_.out (by kernel_rfl)) (fun _ _ _ h => h) (Or.inl ⟨by rfl, ?_⟩) ?_ ?_; rotate_left
                                    ·intro w'; go_simp
                                     with_reducible rfl
                                    rotate_left
                                    ·simp only [Act.put, List.setIfInBounds_toArray, List.set_cons_zero, List.set_cons_succ, zr, zs]; rfl
                                    refine zv (i := 5) (N := some 174) (v := ?_) (a' := ?_) #[true, true, false, true, true, true, false, false, false, false, false, false, false, false, false, false, false, false, false, false, false, false, false, false, false, false, false, false, false, false, false, false] rfl rfl (zq HT_.out (by kernel_rfl)) (fun _ _ _ h => h) (Or.inl ⟨by rfl, ?_⟩) ?_ ?_; rotate_left
                                    ·intro w'; go_simp
                                     with_reducible rfl
                                    rotate_left
                                    ·simp only [Act.put, List.setIfInBounds_toArray, List.set_cons_zero, List.set_cons_succ, zr, zs]; rfl
                                    refine take_ (i := 2) (N := some 171) (v := ?_) (a' := ?_) #[true, true, true, true, true, true, false, false, false, false, false, false, false, false, false, false, false, false, false, false, false, false, false, false, false, false, false, false, false, false, false, false] rfl rfl (take_ofW HT_.out HW_.out (by kernel_rfl)) (fun _ _ _ h => h) (Or.inl ⟨by rfl, ?_⟩) hHeld ?_ ?_; rotate_left
                                    ·rintro w' ⟨s0, s1, s2, s3, s4, s5, s6, s7, s8, s9, s10, s11, s12, s13⟩; go_simp
                                     with_reducible rfl
                                    rotate_left
                                    ·simp only [Act.put, List.setIfInBounds_toArray, List.set_cons_zero, List.set_cons_succ, zr, zs]; rfl
                                    refine take_ (i := 6) (N := some 175) (v := ?_) (a' := ?_) #[true, true, true, true, true, true, true, false, false, false, false, false, false, false, false, false, false, false, false, false, false, false, false, false, false, false, false, false, false, false, false, false] rfl rfl (take_ofW HT_.out HW_.out (by kernel_rfl)) (fun _ _ _ h => h) (Or.inl ⟨by rfl, ?_⟩) hHeld ?_ ?_; rotate_left
                                    ·rintro w' ⟨s0, s1, s2, s3, s4, s5, s6, s7, s8, s9, s10, s11, s12, s13⟩; go_simp
                                     with_reducible rfl
                                    rotate_left
                                    ·simp only [Act.put, List.setIfInBounds_toArray, List.set_cons_zero, List.set_cons_succ, zr, zs]; rfl
                                    refine zv (i := 7) (N := some 176) (v := ?_) (a' := ?_) #[true, true, true, true, true, true, true, true, false, false, false, false, false, false, false, false, false, false, false, false, false, false, false, false, false, false, false, false, false, false, false, false] rfl rfl (zq HT_.out (by kernel_rfl)) (fun _ _ _ h => h) (Or.inl ⟨by rfl, ?_⟩) ?_ ?_; rotate_left
                                    ·intro w'; go_simp
                                     with_reducible rfl
                                    rotate_left
                                    ·simp only [Act.put, List.setIfInBounds_toArray, List.set_cons_zero, List.set_cons_succ, zr, zs]; rfl
                                    refine zv (i := 8) (N := some 177) (v := ?_) (a' := ?_) #[true, true, true, true, true, true, true, true, true, false, false, false, false, false, false, false, false, false, false, false, false, false, false, false, false, false, false, false, false, false, false, false] rfl rfl (zq HT_.out (by kernel_rfl)) (fun _ _ _ h => h) (Or.inl ⟨by rfl, ?_⟩) ?_ ?_; rotate_left
                                    ·intro w'; go_simp
                                     with_reducible rfl
                                    rotate_left
                                    ·simp only [Act.put, List.setIfInBounds_toArray, List.set_cons_zero, List.set_cons_succ, zr, zs]; rfl
                                    refine zv (i := 9) (N := some 178) (v := ?_) (a' := ?_) #[true, true, true, true, true, true, true, true, true, true, false, false, false, false, false, false, false, false, false, false, false, false, false, false, false, false, false, false, false, false, false, false] rfl rfl (zq HT_.out (by kernel_rfl)) (fun _ _ _ h => h) (Or.inl ⟨by rfl, ?_⟩) ?_ ?_; rotate_left
                                    ·intro w'; go_simp
                                     with_reducible rfl
                                    rotate_left
                                    ·simp only [Act.put, List.setIfInBounds_toArray, List.set_cons_zero, List.set_cons_succ, zr, zs]; rfl
                                    refine take_ (i := 10) (N := some 179) (v := ?_) (a' := ?_) #[true, true, true, true, true, true, true, true, true, true, true, false, false, false, false, false, false, false, false, false, false, false, false, false, false, false, false, false, false, false, false, false] rfl rfl (take_ofW HT_.out HW_.out (by kernel_rfl)) (fun _ _ _ h => h) (Or.inl ⟨by rfl, ?_⟩) hHeld ?_ ?_; rotate_left
                                    ·rintro w' ⟨s0, s1, s2, s3, s4, s5, s6, s7, s8, s9, s10, s11, s12, s13⟩; go_simp
                                     with_reducible rfl
                                    rotate_left
                                    ·simp only [Act.put, List.setIfInBounds_toArray, List.set_cons_zero, List.set_cons_succ, zr, zs]; rfl
                                    refine zv (i := 11) (N := some 180) (v := ?_) (a' := ?_) #[true, true, true, true, true, true, true, true, true, true, true, true, false, false, false, false, false, false, false, false, false, false, false, false, false, false, false, false, false, false, false, false] rfl rfl (zq HT_.out (by kernel_rfl)) (fun _ _ _ h => h) (Or.inl ⟨by rfl, ?_⟩) ?_ ?_; rotate_left
                                    ·intro w'; go_simp
                                     with_reducible rfl
                                    rotate_left
                                    ·simp only [Act.put, List.setIfInBounds_toArray, List.set_cons_zero, List.set_cons_succ, zr, zs]; rfl
                                    refine zv (i := 12) (N := some 181) (v := ?_) (a' := ?_) #[true, true, true, true, true, true, true, true, true, true, true, true, true, false, false, false, false, false, false, false, false, false, false, false, false, false, false, false, false, false, false, false] rfl rfl (zq HT_.out (by kernel_rfl)) (fun _ _ _ h => h) (Or.inl ⟨by rfl, ?_⟩) ?_ ?_; rotate_left
                                    ·intro w'; go_simp
                                     with_reducible rfl
                                    rotate_left
                                    ·simp only [Act.put, List.setIfInBounds_toArray, List.set_cons_zero, List.set_cons_succ, zr, zs]; rfl
                                    refine zv (i := 14) (N := some 183) (v := ?_) (a' := ?_) #[true, true, true, true, true, true, true, true, true, true, true, true, true, false, true, false, false, false, false, false, false, false, false, false, false, false, false, false, false, false, false, false] rfl rfl (zq HT_.out (by kernel_rfl)) (fun _ _ _ h => h) (Or.inl ⟨by rfl, ?_⟩) ?_ ?_; rotate_left
                                    ·intro w'; go_simp
                                     with_reducible rfl
                                    rotate_left
                                    ·simp only [Act.put, List.setIfInBounds_toArray, List.set_cons_zero, List.set_cons_succ, zr, zs]; rfl
                                    refine zv (i := 15) (N := some 184) (v := ?_) (a' := ?_) #[true, true, true, true, true, true, true, true, true, true, true, true, true, false, true, true, false, false, false, false, false, false, false, false, false, false, false, false, false, false, false, false] rfl rfl (zq HT_.out (by kernel_rfl)) (fun _ _ _ h => h) (Or.inl ⟨by rfl, ?_⟩) ?_ ?_; rotate_left
                                    ·intro w'; go_simp
                                     with_reducible rfl
                                    rotate_left
                                    ·simp only [Act.put, List.setIfInBounds_toArray, List.set_cons_zero, List.set_cons_succ, zr, zs]; rfl
                                    refine take_ (i := 13) (N := some 182) (v := ?_) (a' := ?_) #[true, true, true, true, true, true, true, true, true, true, true, true, true, true, true, true, false, false, false, false, false, false, false, false, false, false, false, false, false, false, false, false] rfl rfl (take_ofW HT_.out HW_.out (by kernel_rfl)) (fun _ _ _ h => h) (Or.inl ⟨by rfl, ?_⟩) hHeld ?_ ?_; rotate_left
                                    ·rintro w' ⟨s0, s1, s2, s3, s4, s5, s6, s7, s8, s9, s10, s11, s12, s13⟩; go_simp
                                     with_reducible rfl
                                    rotate_left
                                    ·simp only [Act.put, List.setIfInBounds_toArray, List.set_cons_zero, List.set_cons_succ, zr, zs]; rfl
                                    refine one_ (i := 16) (N := some 185) #[true, true, true, true, true, true, true, true, true, true, true, true, true, true, true, true, true, false, false, false, false, false, false, false, false, false, false, false, false, false, false, false] rfl rfl (one_of HT_.out (by kernel_rfl)) (by decide) (fun K hK => ?_); refine goes_ Try.func21 (by kernel_rfl) rfl #[.agg #[.int .i64 t487, .int .i64 t488, .int .i64 t489], .int .i64 (wrap64 ((wrap64 ((wrap64 (x12_3 + (wrap64 (1 + (Int.tmod (wrap64 ((rd_T42 l1 x13_3).f2)) 2000))))) * 10000)) + t478)), .int .i64 t482] (by rfl) rfl rfl (by (try simp only [List.map_toArray, List.map_cons, List.map_nil]); first | done | rfl | (simp only [List.length_drop, List.length_take]; rfl)) ?_; with_reducible refine (R8_True.calls t487 t488 t489 (wrap64 ((wrap64 ((wrap64 (x12_3 + (wrap64 (1 + (Int.tmod (wrap64 ((rd_T42 l1 x13_3).f2)) 2000))))) * 10000)) + t478)) t482 false _ A75.out).mono ?_
                                    rintro e w82 ⟨rfl, hb⟩; have HS7_ := (hb.cell (World.block_lt_of_cell? _ _ (hHeld.2.2.2.2.2.2.2.1))).trans (hHeld.2.2.2.2.2.2.2.1); have HS8_ := (hb.cell (World.block_lt_of_cell? _ _ (hHeld.2.2.2.2.2.2.2.2.1))).trans (hHeld.2.2.2.2.2.2.2.2.1); have HS9_ := (hb.cell (World.block_lt_of_cell? _ _ (hHeld.2.2.2.2.2.2.2.2.2.1))).trans (hHeld.2.2.2.2.2.2.2.2.2.1); have HS10_ := (hb.cell (World.block_lt_of_cell? _ _ (hHeld.2.2.2.2.2.2.2.2.2.2.1))).trans (hHeld.2.2.2.2.2.2.2.2.2.2.1); have HS11_ := (hb.cell (World.block_lt_of_cell? _ _ (hHeld.2.2.2.2.2.2.2.2.2.2.2.1))).trans (hHeld.2.2.2.2.2.2.2.2.2.2.2.1); have HS12_ := (hb.cell (World.block_lt_of_cell? _ _ (hHeld.2.2.2.2.2.2.2.2.2.2.2.2.1))).trans (hHeld.2.2.2.2.2.2.2.2.2.2.2.2.1); have HS13_ := (hb.cell (World.block_lt_of_cell? _ _ (hHeld.2.2.2.2.2.2.2.2.2.2.2.2.2))).trans (hHeld.2.2.2.2.2.2.2.2.2.2.2.2.2); refine ⟨_, rfl, ?_⟩; have n0_ := Aside0.mk (Kd.R_below (by (with_reducible repeat (first | apply Kd.R_alloc | apply Kd.R_drewN | apply Kd.R_drew)); exact HO_8.out) hb); have n1_ := Aside0.mk (Kd.R_below (by (with_reducible repeat (first | apply Kd.R_alloc | apply Kd.R_drewN | apply Kd.R_drew)); exact HO_9.out) hb); have n2_ := Aside0.mk (zj (g := gb494) (o := .cells #[.bool true, .int .i64 t487, .int .i64 t488, .int .i64 t489, .int .i64 t490, .int .i64 t491, .int .i64 t492] 25 (0, 0)) (by (with_reducible repeat (first | refine zi ?_ _ | refine zk ?_ | refine zg ?_ _)); exact BK494.out) hb); have n3_ := Aside0.mk (zl (by repeat (first | (with_reducible first | exact HB.out | apply zc | apply zb | apply zf | refine zh ?_ GE494.out) | exact HB.out)) hb); clear HO_8; clear HO_9; clear BK494; clear HB; have HO_8 := n0_; have HO_9 := n1_; have BK494 := n2_; have HB := n3_; clear n0_ n1_ n2_ n3_; (try clear hb)
                                    (try clear hb2)
                                    (try clear hk)
                                    (try clear hi)
                                    refine hK.out _ _ ⟨(zd BK494.out 0).trans rfl, (zd BK494.out 1).trans rfl, (zd BK494.out 2).trans rfl, (zd BK494.out 3).trans rfl, (zd BK494.out 4).trans rfl, (zd BK494.out 5).trans rfl, (zd BK494.out 6).trans rfl, HS7_, HS8_, HS9_, HS10_, HS11_, HS12_, HS13_⟩ (fun hHeld => ?_); clear hK K; refine norm_ (a' := ?_) ?_ ?_; rotate_left
                                    ·show Act.put _ (some 185) _ = _
                                     simp only [Act.put, List.setIfInBounds_toArray, List.set_cons_zero, List.set_cons_succ, zr, zs]; rfl
                                    refine zv (i := 17) (N := some 186) (v := ?_) (a' := ?_) #[true, true, true, true, true, true, true, true, true, true, true, true, true, true, true, true, true, true, false, false, false, false, false, false, false, false, false, false, false, false, false, false] rfl rfl (zq HT_.out (by kernel_rfl)) (fun _ _ _ h => h) (Or.inl ⟨by rfl, ?_⟩) ?_ ?_; rotate_left
                                    ·intro w'; go_simp
                                     with_reducible rfl
                                    rotate_left
                                    ·simp only [Act.put, List.setIfInBounds_toArray, List.set_cons_zero, List.set_cons_succ, zr, zs]; rfl
                                    refine zv (i := 18) (N := some 187) (v := ?_) (a' := ?_) #[true, true, true, true, true, true, true, true, true, true, true, true, true, true, true, true, true, true, true, false, false, false, false, false, false, false, false, false, false, false, false, false] rfl rfl (zq HT_.out (by kernel_rfl)) (fun _ _ _ h => h) (Or.inl ⟨by rfl, ?_⟩) ?_ ?_; rotate_left
                                    ·intro w'; go_simp
                                     with_reducible rfl
                                    rotate_left
                                    ·simp only [Act.put, List.setIfInBounds_toArray, List.set_cons_zero, List.set_cons_succ, zr, zs]; rfl
                                    refine zv (i := 19) (N := some 188) (v := undef) (a' := ?_) #[true, true, true, true, true, true, true, true, true, true, true, true, true, true, true, true, true, true, true, true, false, false, false, false, false, false, false, false, false, false, false, false] rfl rfl (zq HT_.out (by kernel_rfl)) (fun _ _ _ h => h) (Or.inr ⟨by rfl, rfl⟩) ?_ ?_; rotate_left
                                    ·simp only [Act.put, List.setIfInBounds_toArray, List.set_cons_zero, List.set_cons_succ, zr, zs]; rfl
                                    refine zv (i := 20) (N := some 189) (v := undef) (a' := ?_) #[true, true, true, true, true, true, true, true, true, true, true, true, true, true, true, true, true, true, true, true, true, false, false, false, false, false, false, false, false, false, false, false] rfl rfl (zq HT_.out (by kernel_rfl)) (fun _ _ _ h => h) (Or.inr ⟨by rfl, rfl⟩) ?_ ?_; rotate_left
                                    ·simp only [Act.put, List.setIfInBounds_toArray, List.set_cons_zero, List.set_cons_succ, zr, zs]; rfl
                                    refine zv (i := 21) (N := some 190) (v := undef) (a' := ?_) #[true, true, true, true, true, true, true, true, true, true, true, true, true, true, true, true, true, true, true, true, true, true, false, false, false, false, false, false, false, false, false, false] rfl rfl (zq HT_.out (by kernel_rfl)) (fun _ _ _ h => h) (Or.inr ⟨by rfl, rfl⟩) ?_ ?_; rotate_left
                                    ·simp only [Act.put, List.setIfInBounds_toArray, List.set_cons_zero, List.set_cons_succ, zr, zs]; rfl
                                    refine zv (i := 22) (N := some 191) (v := undef) (a' := ?_) #[true, true, true, true, true, true, true, true, true, true, true, true, true, true, true, true, true, true, true, true, true, true, true, false, false, false, false, false, false, false, false, false] rfl rfl (zq HT_.out (by kernel_rfl)) (fun _ _ _ h => h) (Or.inr ⟨by rfl, rfl⟩) ?_ ?_; rotate_left
                                    ·simp only [Act.put, List.setIfInBounds_toArray, List.set_cons_zero, List.set_cons_succ, zr, zs]; rfl
                                    refine zv (i := 23) (N := some 192) (v := undef) (a' := ?_) #[true, true, true, true, true, true, true, true, true, true, true, true, true, true, true, true, true, true, true, true, true, true, true, true, false, false, false, false, false, false, false, false] rfl rfl (zq HT_.out (by kernel_rfl)) (fun _ _ _ h => h) (Or.inr ⟨by rfl, rfl⟩) ?_ ?_; rotate_left
                                    ·simp only [Act.put, List.setIfInBounds_toArray, List.set_cons_zero, List.set_cons_succ, zr, zs]; rfl
                                    refine zv (i := 24) (N := some 193) (v := undef) (a' := ?_) #[true, true, true, true, true, true, true, true, true, true, true, true, true, true, true, true, true, true, true, true, true, true, true, true, true, false, false, false, false, false, false, false] rfl rfl (zq HT_.out (by kernel_rfl)) (fun _ _ _ h => h) (Or.inr ⟨by rfl, rfl⟩) ?_ ?_; rotate_left
                                    ·simp only [Act.put, List.setIfInBounds_toArray, List.set_cons_zero, List.set_cons_succ, zr, zs]; rfl
                                    refine zv (i := 25) (N := some 194) (v := undef) (a' := ?_) #[true, true, true, true, true, true, true, true, true, true, true, true, true, true, true, true, true, true, true, true, true, true, true, true, true, true, false, false, false, false, false, false] rfl rfl (zq HT_.out (by kernel_rfl)) (fun _ _ _ h => h) (Or.inr ⟨by rfl, rfl⟩) ?_ ?_; rotate_left
                                    ·simp only [Act.put, List.setIfInBounds_toArray, List.set_cons_zero, List.set_cons_succ, zr, zs]; rfl
                                    refine zv (i := 26) (N := some 195) (v := undef) (a' := ?_) #[true, true, true, true, true, true, true, true, true, true, true, true, true, true, true, true, true, true, true, true, true, true, true, true, true, true, true, false, false, false, false, false] rfl rfl (zq HT_.out (by kernel_rfl)) (fun _ _ _ h => h) (Or.inr ⟨by rfl, rfl⟩) ?_ ?_; rotate_left
                                    ·simp only [Act.put, List.setIfInBounds_toArray, List.set_cons_zero, List.set_cons_succ, zr, zs]; rfl
                                    refine zv (i := 27) (N := some 196) (v := undef) (a' := ?_) #[true, true, true, true, true, true, true, true, true, true, true, true, true, true, true, true, true, true, true, true, true, true, true, true, true, true, true, true, false, false, false, false] rfl rfl (zq HT_.out (by kernel_rfl)) (fun _ _ _ h => h) (Or.inr ⟨by rfl, rfl⟩) ?_ ?_; rotate_left
                                    ·simp only [Act.put, List.setIfInBounds_toArray, List.set_cons_zero, List.set_cons_succ, zr, zs]; rfl
                                    refine zv (i := 28) (N := some 197) (v := ?_) (a' := ?_) #[true, true, true, true, true, true, true, true, true, true, true, true, true, true, true, true, true, true, true, true, true, true, true, true, true, true, true, true, true, false, false, false] rfl rfl (zq HT_.out (by kernel_rfl)) (fun _ _ _ h => h) (Or.inl ⟨by rfl, ?_⟩) ?_ ?_; rotate_left
                                    ·intro w'; go_simp
                                     with_reducible rfl
                                    rotate_left
                                    ·simp only [Act.put, List.setIfInBounds_toArray, List.set_cons_zero, List.set_cons_succ, zr, zs]; rfl
                                    refine zv (i := 29) (N := some 198) (v := ?_) (a' := ?_) #[true, true, true, true, true, true, true, true, true, true, true, true, true, true, true, true, true, true, true, true, true, true, true, true, true, true, true, true, true, true, false, false] rfl rfl (zq HT_.out (by kernel_rfl)) (fun _ _ _ h => h) (Or.inl ⟨by rfl, ?_⟩) ?_ ?_; rotate_left
                                    ·intro w'; go_simp
                                     with_reducible rfl
                                    rotate_left
                                    ·simp only [Act.put, List.setIfInBounds_toArray, List.set_cons_zero, List.set_cons_succ, zr, zs]; rfl
                                    refine zv (i := 30) (N := some 199) (v := ?_) (a' := ?_) #[true, true, true, true, true, true, true, true, true, true, true, true, true, true, true, true, true, true, true, true, true, true, true, true, true, true, true, true, true, true, true, false] rfl rfl (zq HT_.out (by kernel_rfl)) (fun _ _ _ h => h) (Or.inl ⟨by rfl, ?_⟩) ?_ ?_; rotate_left
                                    ·intro w'; go_simp
                                     with_reducible rfl
                                    rotate_left
                                    ·simp only [Act.put, List.setIfInBounds_toArray, List.set_cons_zero, List.set_cons_succ, zr, zs]; rfl
                                    refine zv (i := 31) (N := some 7) (v := ?_) (a' := ?_) #[true, true, true, true, true, true, true, true, true, true, true, true, true, true, true, true, true, true, true, true, true, true, true, true, true, true, true, true, true, true, true, true] rfl rfl (zq HT_.out (by kernel_rfl)) (fun _ _ _ h => h) (Or.inl ⟨by rfl, ?_⟩) ?_ ?_; rotate_left
                                    ·intro w'; go_simp
                                     with_reducible rfl
                                    rotate_left
                                    ·simp only [Act.put, List.setIfInBounds_toArray, List.set_cons_zero, List.set_cons_succ, zr, zs]; rfl
                                    refine done_ (done_of HT_.out (by kernel_rfl)) ?_; try go_wp2
                                    go_meet
                                    case rel => exact ⟨_, (false), (by first | rfl | (simp; done) | (simp [*]; done)), H', ⟨by have := HJ4.out; have := HK2.out; have := HK3.out; have := HJ30.out; have := HJ39.out; have := HJ52.out; first | omega | exact Nat.le_refl _⟩, ⟨by (with_reducible repeat (first | apply Kd.R_alloc | apply Kd.R_drewN | apply Kd.R_drew)); exact HO_8.out⟩, ⟨by (with_reducible repeat (first | apply Kd.R_alloc | apply Kd.R_drewN | apply Kd.R_drew)); exact HO_9.out⟩, ⟨by (with_reducible repeat (first | refine zi ?_ _ | refine zk ?_ | refine zg ?_ _)); exact BK494.out⟩, ⟨by repeat (first | (with_reducible first | exact HB.out | apply zc | apply zb | apply zf | refine zh ?_ GE494.out) | exact HB.out)⟩⟩
                                  ·replace c74 := Bool.eq_false_iff.mpr c74; subst c74; have c72b9 := c72b0; rw [fb_] at c72b9; have H1 : (slotmeshtop_TopChain.j6 kj52 l1 false y457 x9_3 (wrap64 (x12_3 + (wrap64 (1 + (Int.tmod (wrap64 ((rd_T42 l1 x13_3).f2)) 2000))))) x13_3 (ji45) t482 false t487 t488 t489 t490 t491 t492) = some r := by rw [if_neg (show ¬ (false = true) by decide)] at H; exact H
                                   clear H; have H := H1; clear H1; have H' := Aside0.mk H; clear H; try go_wp2
                                   have n0_ := Aside0.mk (Kd.R_drew HO_8.out); have n1_ := Aside0.mk (Kd.R_drew HO_9.out); have n2_ := Aside0.mk (zk BK494.out); have n3_ := Aside0.mk (zf HB.out); clear HO_8; clear HO_9; clear BK494; clear HB; have HO_8 := n0_; have HO_9 := n1_; have BK494 := n2_; have HB := n3_; clear n0_ n1_ n2_ n3_; have p495 : 0 ≤ ((ji45) : Int) := of_decide_eq_true (by first | (with_reducible assumption) | assumption); have q495 : (ji45) < (x9_3.length : Int) := of_decide_eq_true (by first | (with_reducible assumption) | assumption); obtain ⟨ad495, e495, hx495_0, hx495_1, hx495_2, hx495_3, hx495_4, hx495_5, hx495_6⟩ := at_T25 (Kd.R_reads' HO_9.out).2.2 (ji45) p495 q495; obtain rfl : ad476 = ad495 := (by injection e495); replace p495 := eq_true p495; replace q495 := eq_true q495; refine start_ (n := 32) (S := fun w' => w'.cell? ⟨gb494, 0, none⟩ = some (.bool false) ∧ w'.cell? ⟨gb494, 1, none⟩ = some (.int .i64 t487) ∧ w'.cell? ⟨gb494, 2, none⟩ = some (.int .i64 t488) ∧ w'.cell? ⟨gb494, 3, none⟩ = some (.int .i64 t489) ∧ w'.cell? ⟨gb494, 4, none⟩ = some (.int .i64 t490) ∧ w'.cell? ⟨gb494, 5, none⟩ = some (.int .i64 t491) ∧ w'.cell? ⟨gb494, 6, none⟩ = some (.int .i64 t492) ∧ w'.cell? (ad476.add (((ji45)).toNat * 7)) = some (.bool ((rd_T25 x9_3 (ji45)).f0)) ∧ w'.cell? ⟨(ad476.add (((ji45)).toNat * 7)).block, (ad476.add (((ji45)).toNat * 7)).off + 1, none⟩ = some (.int .i64 ((rd_T25 x9_3 (ji45)).f1.f0)) ∧ w'.cell? ⟨(ad476.add (((ji45)).toNat * 7)).block, (ad476.add (((ji45)).toNat * 7)).off + 2, none⟩ = some (.int .i64 ((rd_T25 x9_3 (ji45)).f1.f1)) ∧ w'.cell? ⟨(ad476.add (((ji45)).toNat * 7)).block, (ad476.add (((ji45)).toNat * 7)).off + 3, none⟩ = some (.int .i64 ((rd_T25 x9_3 (ji45)).f1.f2)) ∧ w'.cell? ⟨(ad476.add (((ji45)).toNat * 7)).block, (ad476.add (((ji45)).toNat * 7)).off + 4, none⟩ = some (.int .i64 ((rd_T25 x9_3 (ji45)).f2)) ∧ w'.cell? ⟨(ad476.add (((ji45)).toNat * 7)).block, (ad476.add (((ji45)).toNat * 7)).off + 5, none⟩ = some (.int .i64 ((rd_T25 x9_3 (ji45)).f3)) ∧ w'.cell? ⟨(ad476.add (((ji45)).toNat * 7)).block, (ad476.add (((ji45)).toNat * 7)).off + 6, none⟩ = some (.int .i64 ((rd_T25 x9_3 (ji45)).f4))) (ds := []) #[false, false, false, false, false, false, false, false, false, false, false, false, false, false, false, false, false, false, false, false, false, false, false, false, false, false, false, false, false, false, false, false] (by kernel_rfl) rfl rfl ⟨(zd BK494.out 0).trans rfl, (zd BK494.out 1).trans rfl, (zd BK494.out 2).trans rfl, (zd BK494.out 3).trans rfl, (zd BK494.out 4).trans rfl, (zd BK494.out 5).trans rfl, (zd BK494.out 6).trans rfl, hx495_0, hx495_1, hx495_2, hx495_3, hx495_4, hx495_5, hx495_6⟩ (fun hHeld => ?_); refine with_tabW slotmeshtop_TopChain.tab29 slotmeshtop_TopChain.bits29 (fun HT_ HW_ => ?_)
                                   generalize wc.drew = w83 at HO_8 HO_9 BK494 HB hx495_0 hx495_1 hx495_2 hx495_3 hx495_4 hx495_5 hx495_6 hHeld ⊢
                                   refine zv (i := 0) (N := some 169) (v := ?_) (a' := ?_) #[true, false, false, false, false, false, false, false, false, false, false, false, false, false, false, false, false, false, false, false, false, false, false, false, false, false, false, false, false, false, false, false] rfl rfl (zq HT_.out (by kernel_rfl)) (fun _ _ _ h => h) (Or.inl ⟨by rfl, ?_⟩) ?_ ?_; rotate_left
                                   ·intro w'; go_simp
                                    with_reducible rfl
                                   rotate_left
                                   ·simp only [Act.put, List.setIfInBounds_toArray, List.set_cons_zero, List.set_cons_succ, zr, zs]; rfl
                                   refine zv (i := 1) (N := some 170) (v := ?_) (a' := ?_) #[true, true, false, false, false, false, false, false, false, false, false, false, false, false, false, false, false, false, false, false, false, false, false, false, false, false, false, false, false, false, false, false] rfl rfl (zq HT_.out (by kernel_rfl)) (fun _ _ _ h => h) (Or.inl ⟨by rfl, ?_⟩) ?_ ?_; rotate_left
                                   ·intro w'; go_simp
                                    with_reducible rfl
                                   rotate_left
                                   ·simp only [Act.put, List.setIfInBounds_toArray, List.set_cons_zero, List.set_cons_succ, zr, zs]; rfl
                                   refine zv (i := 3) (N := some 172) (v := ?_) (a' := ?_) #[true, true, false, true, false, false, false, false, false, false, false, false, false, false, false, false, false, false, false, false, false, false, false, false, false, false, false, false, false, false, false, false] rfl rfl (zq HT_.out (by kernel_rfl)) (fun _ _ _ h => h) (Or.inl ⟨by rfl, ?_⟩) ?_ ?_; rotate_left
                                   ·intro w'; go_simp
                                    with_reducible rfl
                                   rotate_left
                                   ·simp only [Act.put, List.setIfInBounds_toArray, List.set_cons_zero, List.set_cons_succ, zr, zs]; rfl
                                   refine zv (i := 4) (N := some 173) (v := ?_) (a' := ?_) #[true, true, false, true, true, false, false, false, false, false, false, false, false, false, false, false, false, false, false, false, false, false, false, false, false, false, false, false, false, false, false, false] rfl rfl (zq HT_.out (by kernel_rfl)) (fun _ _ _ h => h) (Or.inl ⟨by rfl, ?_⟩) ?_ ?_; rotate_left
                                   ·intro w'; go_simp
                                    with_reducible rfl
                                   rotate_left
                                   ·simp only [Act.put, List.setIfInBounds_toArray, List.set_cons_zero, List.set_cons_succ, zr, zs]; rfl
                                   refine zv (i := 5) (N := some 174) (v := ?_) (a' := ?_) #[true, true, false, true, true, true, false, false, false, false, false, false, false, false, false, false, false, false, false, false, false, false, false, false, false, false, false, false, false, false, false, false] rfl rfl (zq HT_.out (by kernel_rfl)) (fun _ _ _ h => h) (Or.inl ⟨by rfl, ?_⟩) ?_ ?_; rotate_left
                                   ·intro w'; go_simp
                                    with_reducible rfl
                                   rotate_left
                                   ·simp only [Act.put, List.setIfInBounds_toArray, List.set_cons_zero, List.set_cons_succ, zr, zs]; rfl
                                   refine take_ (i := 2) (N := some 171) (v := ?_) (a' := ?_) #[true, true, true, true, true, true, false, false, false, false, false, false, false, false, false, false, false, false, false, false, false, false, false, false, false, false, false, false, false, false, false, false] rfl rfl (take_ofW HT_.out HW_.out (by kernel_rfl)) (fun _ _ _ h => h) (Or.inl ⟨by rfl, ?_⟩) hHeld ?_ ?_; rotate_left
                                   ·rintro w' ⟨s0, s1, s2, s3, s4, s5, s6, s7, s8, s9, s10, s11, s12, s13⟩; go_simp
                                    with_reducible rfl
                                   rotate_left
                                   ·simp only [Act.put, List.setIfInBounds_toArray, List.set_cons_zero, List.set_cons_succ, zr, zs]; rfl
                                   refine take_ (i := 6) (N := some 175) (v := ?_) (a' := ?_) #[true, true, true, true, true, true, true, false, false, false, false, false, false, false, false, false, false, false, false, false, false, false, false, false, false, false, false, false, false, false, false, false] rfl rfl (take_ofW HT_.out HW_.out (by kernel_rfl)) (fun _ _ _ h => h) (Or.inl ⟨by rfl, ?_⟩) hHeld ?_ ?_; rotate_left
                                   ·rintro w' ⟨s0, s1, s2, s3, s4, s5, s6, s7, s8, s9, s10, s11, s12, s13⟩; go_simp
                                    with_reducible rfl
                                   rotate_left
                                   ·simp only [Act.put, List.setIfInBounds_toArray, List.set_cons_zero, List.set_cons_succ, zr, zs]; rfl
                                   refine zv (i := 7) (N := some 176) (v := ?_) (a' := ?_) #[true, true, true, true, true, true, true, true, false, false, false, false, false, false, false, false, false, false, false, false, false, false, false, false, false, false, false, false, false, false, false, false] rfl rfl (zq HT_.out (by kernel_rfl)) (fun _ _ _ h => h) (Or.inl ⟨by rfl, ?_⟩) ?_ ?_; rotate_left
                                   ·intro w'; go_simp
                                    with_reducible rfl
                                   rotate_left
                                   ·simp only [Act.put, List.setIfInBounds_toArray, List.set_cons_zero, List.set_cons_succ, zr, zs]; rfl
                                   refine zv (i := 8) (N := some 177) (v := ?_) (a' := ?_) #[true, true, true, true, true, true, true, true, true, false, false, false, false, false, false, false, false, false, false, false, false, false, false, false, false, false, false, false, false, false, false, false] rfl rfl (zq HT_.out (by kernel_rfl)) (fun _ _ _ h => h) (Or.inl ⟨by rfl, ?_⟩) ?_ ?_; rotate_left
                                   ·intro w'; go_simp
                                    with_reducible rfl
                                   rotate_left
                                   ·simp only [Act.put, List.setIfInBounds_toArray, List.set_cons_zero, List.set_cons_succ, zr, zs]; rfl
                                   refine zv (i := 9) (N := some 178) (v := ?_) (a' := ?_) #[true, true, true, true, true, true, true, true, true, true, false, false, false, false, false, false, false, false, false, false, false, false, false, false, false, false, false, false, false, false, false, false] rfl rfl (zq HT_.out (by kernel_rfl)) (fun _ _ _ h => h) (Or.inl ⟨by rfl, ?_⟩) ?_ ?_; rotate_left
                                   ·intro w'; go_simp
                                    with_reducible rfl
                                   rotate_left
                                   ·simp only [Act.put, List.setIfInBounds_toArray, List.set_cons_zero, List.set_cons_succ, zr, zs]; rfl
                                   refine take_ (i := 10) (N := some 179) (v := ?_) (a' := ?_) #[true, true, true, true, true, true, true, true, true, true, true, false, false, false, false, false, false, false, false, false, false, false, false, false, false, false, false, false, false, false, false, false] rfl rfl (take_ofW HT_.out HW_.out (by kernel_rfl)) (fun _ _ _ h => h) (Or.inl ⟨by rfl, ?_⟩) hHeld ?_ ?_; rotate_left
                                   ·rintro w' ⟨s0, s1, s2, s3, s4, s5, s6, s7, s8, s9, s10, s11, s12, s13⟩; go_simp
                                    with_reducible rfl
                                   rotate_left
                                   ·simp only [Act.put, List.setIfInBounds_toArray, List.set_cons_zero, List.set_cons_succ, zr, zs]; rfl
                                   refine zv (i := 11) (N := some 180) (v := ?_) (a' := ?_) #[true, true, true, true, true, true, true, true, true, true, true, true, false, false, false, false, false, false, false, false, false, false, false, false, false, false, false, false, false, false, false, false] rfl rfl (zq HT_.out (by kernel_rfl)) (fun _ _ _ h => h) (Or.inl ⟨by rfl, ?_⟩) ?_ ?_; rotate_left
                                   ·intro w'; go_simp
                                    with_reducible rfl
                                   rotate_left
                                   ·simp only [Act.put, List.setIfInBounds_toArray, List.set_cons_zero, List.set_cons_succ, zr, zs]; rfl
                                   refine zv (i := 12) (N := some 181) (v := undef) (a' := ?_) #[true, true, true, true, true, true, true, true, true, true, true, true, true, false, false, false, false, false, false, false, false, false, false, false, false, false, false, false, false, false, false, false] rfl rfl (zq HT_.out (by kernel_rfl)) (fun _ _ _ h => h) (Or.inr ⟨by rfl, rfl⟩) ?_ ?_; rotate_left
                                   ·simp only [Act.put, List.setIfInBounds_toArray, List.set_cons_zero, List.set_cons_succ, zr, zs]; rfl
                                   refine zv (i := 13) (N := some 182) (v := undef) (a' := ?_) #[true, true, true, true, true, true, true, true, true, true, true, true, true, true, false, false, false, false, false, false, false, false, false, false, false, false, false, false, false, false, false, false] rfl rfl (zq HT_.out (by kernel_rfl)) (fun _ _ _ h => h) (Or.inr ⟨by rfl, rfl⟩) ?_ ?_; rotate_left
                                   ·simp only [Act.put, List.setIfInBounds_toArray, List.set_cons_zero, List.set_cons_succ, zr, zs]; rfl
                                   refine zv (i := 14) (N := some 183) (v := undef) (a' := ?_) #[true, true, true, true, true, true, true, true, true, true, true, true, true, true, true, false, false, false, false, false, false, false, false, false, false, false, false, false, false, false, false, false] rfl rfl (zq HT_.out (by kernel_rfl)) (fun _ _ _ h => h) (Or.inr ⟨by rfl, rfl⟩) ?_ ?_; rotate_left
                                   ·simp only [Act.put, List.setIfInBounds_toArray, List.set_cons_zero, List.set_cons_succ, zr, zs]; rfl
                                   refine zv (i := 15) (N := some 184) (v := undef) (a' := ?_) #[true, true, true, true, true, true, true, true, true, true, true, true, true, true, true, true, false, false, false, false, false, false, false, false, false, false, false, false, false, false, false, false] rfl rfl (zq HT_.out (by kernel_rfl)) (fun _ _ _ h => h) (Or.inr ⟨by rfl, rfl⟩) ?_ ?_; rotate_left
                                   ·simp only [Act.put, List.setIfInBounds_toArray, List.set_cons_zero, List.set_cons_succ, zr, zs]; rfl
                                   refine zv (i := 16) (N := some 185) (v := undef) (a' := ?_) #[true, true, true, true, true, true, true, true, true, true, true, true, true, true, true, true, true, false, false, false, false, false, false, false, false, false, false, false, false, false, false, false] rfl rfl (zq HT_.out (by kernel_rfl)) (fun _ _ _ h => h) (Or.inr ⟨by rfl, rfl⟩) ?_ ?_; rotate_left
                                   ·simp only [Act.put, List.setIfInBounds_toArray, List.set_cons_zero, List.set_cons_succ, zr, zs]; rfl
                                   refine zv (i := 17) (N := some 186) (v := ?_) (a' := ?_) #[true, true, true, true, true, true, true, true, true, true, true, true, true, true, true, true, true, true, false, false, false, false, false, false, false, false, false, false, false, false, false, false] rfl rfl (zq HT_.out (by kernel_rfl)) (fun _ _ _ h => h) (Or.inl ⟨by rfl, ?_⟩) ?_ ?_; rotate_left
                                   ·intro w'; go_simp
                                    with_reducible rfl
                                   rotate_left
                                   ·simp only [Act.put, List.setIfInBounds_toArray, List.set_cons_zero, List.set_cons_succ, zr, zs]; rfl
                                   refine zv (i := 18) (N := some 187) (v := ?_) (a' := ?_) #[true, true, true, true, true, true, true, true, true, true, true, true, true, true, true, true, true, true, true, false, false, false, false, false, false, false, false, false, false, false, false, false] rfl rfl (zq HT_.out (by kernel_rfl)) (fun _ _ _ h => h) (Or.inl ⟨by rfl, ?_⟩) ?_ ?_; rotate_left
                                   ·intro w'; go_simp
                                    with_reducible rfl
                                   rotate_left
                                   ·simp only [Act.put, List.setIfInBounds_toArray, List.set_cons_zero, List.set_cons_succ, zr, zs]; rfl
                                   refine zv (i := 19) (N := some 188) (v := undef) (a' := ?_) #[true, true, true, true, true, true, true, true, true, true, true, true, true, true, true, true, true, true, true, true, false, false, false, false, false, false, false, false, false, false, false, false] rfl rfl (zq HT_.out (by kernel_rfl)) (fun _ _ _ h => h) (Or.inr ⟨by rfl, rfl⟩) ?_ ?_; rotate_left
                                   ·simp only [Act.put, List.setIfInBounds_toArray, List.set_cons_zero, List.set_cons_succ, zr, zs]; rfl
                                   refine zv (i := 20) (N := some 189) (v := undef) (a' := ?_) #[true, true, true, true, true, true, true, true, true, true, true, true, true, true, true, true, true, true, true, true, true, false, false, false, false, false, false, false, false, false, false, false] rfl rfl (zq HT_.out (by kernel_rfl)) (fun _ _ _ h => h) (Or.inr ⟨by rfl, rfl⟩) ?_ ?_; rotate_left
                                   ·simp only [Act.put, List.setIfInBounds_toArray, List.set_cons_zero, List.set_cons_succ, zr, zs]; rfl
                                   refine zv (i := 21) (N := some 190) (v := undef) (a' := ?_) #[true, true, true, true, true, true, true, true, true, true, true, true, true, true, true, true, true, true, true, true, true, true, false, false, false, false, false, false, false, false, false, false] rfl rfl (zq HT_.out (by kernel_rfl)) (fun _ _ _ h => h) (Or.inr ⟨by rfl, rfl⟩) ?_ ?_; rotate_left
                                   ·simp only [Act.put, List.setIfInBounds_toArray, List.set_cons_zero, List.set_cons_succ, zr, zs]; rfl
                                   refine zv (i := 22) (N := some 191) (v := undef) (a' := ?_) #[true, true, true, true, true, true, true, true, true, true, true, true, true, true, true, true, true, true, true, true, true, true, true, false, false, false, false, false, false, false, false, false] rfl rfl (zq HT_.out (by kernel_rfl)) (fun _ _ _ h => h) (Or.inr ⟨by rfl, rfl⟩) ?_ ?_; rotate_left
                                   ·simp only [Act.put, List.setIfInBounds_toArray, List.set_cons_zero, List.set_cons_succ, zr, zs]; rfl
                                   refine zv (i := 23) (N := some 192) (v := undef) (a' := ?_) #[true, true, true, true, true, true, true, true, true, true, true, true, true, true, true, true, true, true, true, true, true, true, true, true, false, false, false, false, false, false, false, false] rfl rfl (zq HT_.out (by kernel_rfl)) (fun _ _ _ h => h) (Or.inr ⟨by rfl, rfl⟩) ?_ ?_; rotate_left
                                   ·simp only [Act.put, List.setIfInBounds_toArray, List.set_cons_zero, List.set_cons_succ, zr, zs]; rfl
                                   refine zv (i := 24) (N := some 193) (v := undef) (a' := ?_) #[true, true, true, true, true, true, true, true, true, true, true, true, true, true, true, true, true, true, true, true, true, true, true, true, true, false, false, false, false, false, false, false] rfl rfl (zq HT_.out (by kernel_rfl)) (fun _ _ _ h => h) (Or.inr ⟨by rfl, rfl⟩) ?_ ?_; rotate_left
                                   ·simp only [Act.put, List.setIfInBounds_toArray, List.set_cons_zero, List.set_cons_succ, zr, zs]; rfl
                                   refine zv (i := 25) (N := some 194) (v := undef) (a' := ?_) #[true, true, true, true, true, true, true, true, true, true, true, true, true, true, true, true, true, true, true, true, true, true, true, true, true, true, false, false, false, false, false, false] rfl rfl (zq HT_.out (by kernel_rfl)) (fun _ _ _ h => h) (Or.inr ⟨by rfl, rfl⟩) ?_ ?_; rotate_left
                                   ·simp only [Act.put, List.setIfInBounds_toArray, List.set_cons_zero, List.set_cons_succ, zr, zs]; rfl
                                   refine zv (i := 26) (N := some 195) (v := undef) (a' := ?_) #[true, true, true, true, true, true, true, true, true, true, true, true, true, true, true, true, true, true, true, true, true, true, true, true, true, true, true, false, false, false, false, false] rfl rfl (zq HT_.out (by kernel_rfl)) (fun _ _ _ h => h) (Or.inr ⟨by rfl, rfl⟩) ?_ ?_; rotate_left
                                   ·simp only [Act.put, List.setIfInBounds_toArray, List.set_cons_zero, List.set_cons_succ, zr, zs]; rfl
                                   refine zv (i := 27) (N := some 196) (v := undef) (a' := ?_) #[true, true, true, true, true, true, true, true, true, true, true, true, true, true, true, true, true, true, true, true, true, true, true, true, true, true, true, true, false, false, false, false] rfl rfl (zq HT_.out (by kernel_rfl)) (fun _ _ _ h => h) (Or.inr ⟨by rfl, rfl⟩) ?_ ?_; rotate_left
                                   ·simp only [Act.put, List.setIfInBounds_toArray, List.set_cons_zero, List.set_cons_succ, zr, zs]; rfl
                                   refine zv (i := 28) (N := some 197) (v := ?_) (a' := ?_) #[true, true, true, true, true, true, true, true, true, true, true, true, true, true, true, true, true, true, true, true, true, true, true, true, true, true, true, true, true, false, false, false] rfl rfl (zq HT_.out (by kernel_rfl)) (fun _ _ _ h => h) (Or.inl ⟨by rfl, ?_⟩) ?_ ?_; rotate_left
                                   ·intro w'; go_simp
                                    with_reducible rfl
                                   rotate_left
                                   ·simp only [Act.put, List.setIfInBounds_toArray, List.set_cons_zero, List.set_cons_succ, zr, zs]; rfl
                                   refine zv (i := 29) (N := some 198) (v := ?_) (a' := ?_) #[true, true, true, true, true, true, true, true, true, true, true, true, true, true, true, true, true, true, true, true, true, true, true, true, true, true, true, true, true, true, false, false] rfl rfl (zq HT_.out (by kernel_rfl)) (fun _ _ _ h => h) (Or.inl ⟨by rfl, ?_⟩) ?_ ?_; rotate_left
                                   ·intro w'; go_simp
                                    with_reducible rfl
                                   rotate_left
                                   ·simp only [Act.put, List.setIfInBounds_toArray, List.set_cons_zero, List.set_cons_succ, zr, zs]; rfl
                                   refine zv (i := 30) (N := some 199) (v := ?_) (a' := ?_) #[true, true, true, true, true, true, true, true, true, true, true, true, true, true, true, true, true, true, true, true, true, true, true, true, true, true, true, true, true, true, true, false] rfl rfl (zq HT_.out (by kernel_rfl)) (fun _ _ _ h => h) (Or.inl ⟨by rfl, ?_⟩) ?_ ?_; rotate_left
                                   ·intro w'; go_simp
                                    with_reducible rfl
                                   rotate_left
                                   ·simp only [Act.put, List.setIfInBounds_toArray, List.set_cons_zero, List.set_cons_succ, zr, zs]; rfl
                                   refine zv (i := 31) (N := some 7) (v := ?_) (a' := ?_) #[true, true, true, true, true, true, true, true, true, true, true, true, true, true, true, true, true, true, true, true, true, true, true, true, true, true, true, true, true, true, true, true] rfl rfl (zq HT_.out (by kernel_rfl)) (fun _ _ _ h => h) (Or.inl ⟨by rfl, ?_⟩) ?_ ?_; rotate_left
                                   ·intro w'; go_simp
                                    with_reducible rfl
                                   rotate_left
                                   ·simp only [Act.put, List.setIfInBounds_toArray, List.set_cons_zero, List.set_cons_succ, zr, zs]; rfl
                                   refine done_ (done_of HT_.out (by kernel_rfl)) ?_; try go_wp2
                                   go_meet
                                   case rel => exact ⟨_, (false), (by first | rfl | (simp; done) | (simp [*]; done)), H', ⟨by have := HJ4.out; have := HK2.out; have := HK3.out; have := HJ30.out; have := HJ39.out; have := HJ52.out; first | omega | exact Nat.le_refl _⟩, ⟨by (with_reducible repeat (first | apply Kd.R_alloc | apply Kd.R_drewN | apply Kd.R_drew)); exact HO_8.out⟩, ⟨by (with_reducible repeat (first | apply Kd.R_alloc | apply Kd.R_drewN | apply Kd.R_drew)); exact HO_9.out⟩, ⟨by (with_reducible repeat (first | refine zi ?_ _ | refine zk ?_ | refine zg ?_ _)); exact BK494.out⟩, ⟨by repeat (first | (with_reducible first | exact HB.out | apply zc | apply zb | apply zf | refine zh ?_ GE494.out) | exact HB.out)⟩⟩
                                ·rw [if_neg c71] at H; exact absurd H (by simp)
                               ·rw [if_neg c70] at H; exact absurd H (by simp)
                              ·replace c69 := Bool.eq_false_iff.mpr c69; subst c69; have H1 : (slotmeshtop_TopChain.j6 kj52 l1 false y457 x9_3 (wrap64 (x12_3 + (wrap64 (1 + (Int.tmod (wrap64 ((rd_T42 l1 x13_3).f2)) 2000))))) x13_3 (ji45) t482 t486 t487 t488 t489 t490 t491 t492) = some r := by rw [if_neg (show ¬ (false = true) by decide)] at H; exact H
                               clear H; have H := H1; clear H1; have H' := Aside0.mk H; clear H; try go_wp2
                               have n0_ := Aside0.mk (Kd.R_drew HO_8.out); have n1_ := Aside0.mk (Kd.R_drew HO_9.out); have n2_ := Aside0.mk (zk BK494.out); have n3_ := Aside0.mk (zf HB.out); clear HO_8; clear HO_9; clear BK494; clear HB; have HO_8 := n0_; have HO_9 := n1_; have BK494 := n2_; have HB := n3_; clear n0_ n1_ n2_ n3_; refine start_ (n := 32) (S := fun w' => True) (ds := []) #[false, false, false, false, false, false, false, false, false, false, false, false, false, false, false, false, false, false, false, false, false, false, false, false, false, false, false, false, false, false, false, false] (by kernel_rfl) rfl rfl trivial (fun hHeld => ?_); refine with_tabW slotmeshtop_TopChain.tab29 slotmeshtop_TopChain.bits29 (fun HT_ HW_ => ?_)
                               generalize wc.drew = w84 at HO_8 HO_9 BK494 HB hHeld ⊢
                               refine zv (i := 0) (N := some 169) (v := ?_) (a' := ?_) #[true, false, false, false, false, false, false, false, false, false, false, false, false, false, false, false, false, false, false, false, false, false, false, false, false, false, false, false, false, false, false, false] rfl rfl (zq HT_.out (by kernel_rfl)) (fun _ _ _ h => h) (Or.inl ⟨by rfl, ?_⟩) ?_ ?_; rotate_left
                               ·intro w'; go_simp
                                with_reducible rfl
                               rotate_left
                               ·simp only [Act.put, List.setIfInBounds_toArray, List.set_cons_zero, List.set_cons_succ, zr, zs]; rfl
                               refine zv (i := 1) (N := some 170) (v := ?_) (a' := ?_) #[true, true, false, false, false, false, false, false, false, false, false, false, false, false, false, false, false, false, false, false, false, false, false, false, false, false, false, false, false, false, false, false] rfl rfl (zq HT_.out (by kernel_rfl)) (fun _ _ _ h => h) (Or.inl ⟨by rfl, ?_⟩) ?_ ?_; rotate_left
                               ·intro w'; go_simp
                                with_reducible rfl
                               rotate_left
                               ·simp only [Act.put, List.setIfInBounds_toArray, List.set_cons_zero, List.set_cons_succ, zr, zs]; rfl
                               refine zv (i := 2) (N := some 171) (v := undef) (a' := ?_) #[true, true, true, false, false, false, false, false, false, false, false, false, false, false, false, false, false, false, false, false, false, false, false, false, false, false, false, false, false, false, false, false] rfl rfl (zq HT_.out (by kernel_rfl)) (fun _ _ _ h => h) (Or.inr ⟨by rfl, rfl⟩) ?_ ?_; rotate_left
                               ·simp only [Act.put, List.setIfInBounds_toArray, List.set_cons_zero, List.set_cons_succ, zr, zs]; rfl
                               refine zv (i := 3) (N := some 172) (v := undef) (a' := ?_) #[true, true, true, true, false, false, false, false, false, false, false, false, false, false, false, false, false, false, false, false, false, false, false, false, false, false, false, false, false, false, false, false] rfl rfl (zq HT_.out (by kernel_rfl)) (fun _ _ _ h => h) (Or.inr ⟨by rfl, rfl⟩) ?_ ?_; rotate_left
                               ·simp only [Act.put, List.setIfInBounds_toArray, List.set_cons_zero, List.set_cons_succ, zr, zs]; rfl
                               refine zv (i := 4) (N := some 173) (v := undef) (a' := ?_) #[true, true, true, true, true, false, false, false, false, false, false, false, false, false, false, false, false, false, false, false, false, false, false, false, false, false, false, false, false, false, false, false] rfl rfl (zq HT_.out (by kernel_rfl)) (fun _ _ _ h => h) (Or.inr ⟨by rfl, rfl⟩) ?_ ?_; rotate_left
                               ·simp only [Act.put, List.setIfInBounds_toArray, List.set_cons_zero, List.set_cons_succ, zr, zs]; rfl
                               refine zv (i := 5) (N := some 174) (v := undef) (a' := ?_) #[true, true, true, true, true, true, false, false, false, false, false, false, false, false, false, false, false, false, false, false, false, false, false, false, false, false, false, false, false, false, false, false] rfl rfl (zq HT_.out (by kernel_rfl)) (fun _ _ _ h => h) (Or.inr ⟨by rfl, rfl⟩) ?_ ?_; rotate_left
                               ·simp only [Act.put, List.setIfInBounds_toArray, List.set_cons_zero, List.set_cons_succ, zr, zs]; rfl
                               refine zv (i := 6) (N := some 175) (v := undef) (a' := ?_) #[true, true, true, true, true, true, true, false, false, false, false, false, false, false, false, false, false, false, false, false, false, false, false, false, false, false, false, false, false, false, false, false] rfl rfl (zq HT_.out (by kernel_rfl)) (fun _ _ _ h => h) (Or.inr ⟨by rfl, rfl⟩) ?_ ?_; rotate_left
                               ·simp only [Act.put, List.setIfInBounds_toArray, List.set_cons_zero, List.set_cons_succ, zr, zs]; rfl
                               refine zv (i := 7) (N := some 176) (v := undef) (a' := ?_) #[true, true, true, true, true, true, true, true, false, false, false, false, false, false, false, false, false, false, false, false, false, false, false, false, false, false, false, false, false, false, false, false] rfl rfl (zq HT_.out (by kernel_rfl)) (fun _ _ _ h => h) (Or.inr ⟨by rfl, rfl⟩) ?_ ?_; rotate_left
                               ·simp only [Act.put, List.setIfInBounds_toArray, List.set_cons_zero, List.set_cons_succ, zr, zs]; rfl
                               refine zv (i := 8) (N := some 177) (v := undef) (a' := ?_) #[true, true, true, true, true, true, true, true, true, false, false, false, false, false, false, false, false, false, false, false, false, false, false, false, false, false, false, false, false, false, false, false] rfl rfl (zq HT_.out (by kernel_rfl)) (fun _ _ _ h => h) (Or.inr ⟨by rfl, rfl⟩) ?_ ?_; rotate_left
                               ·simp only [Act.put, List.setIfInBounds_toArray, List.set_cons_zero, List.set_cons_succ, zr, zs]; rfl
                               refine zv (i := 9) (N := some 178) (v := undef) (a' := ?_) #[true, true, true, true, true, true, true, true, true, true, false, false, false, false, false, false, false, false, false, false, false, false, false, false, false, false, false, false, false, false, false, false] rfl rfl (zq HT_.out (by kernel_rfl)) (fun _ _ _ h => h) (Or.inr ⟨by rfl, rfl⟩) ?_ ?_; rotate_left
                               ·simp only [Act.put, List.setIfInBounds_toArray, List.set_cons_zero, List.set_cons_succ, zr, zs]; rfl
                               refine zv (i := 10) (N := some 179) (v := undef) (a' := ?_) #[true, true, true, true, true, true, true, true, true, true, true, false, false, false, false, false, false, false, false, false, false, false, false, false, false, false, false, false, false, false, false, false] rfl rfl (zq HT_.out (by kernel_rfl)) (fun _ _ _ h => h) (Or.inr ⟨by rfl, rfl⟩) ?_ ?_; rotate_left
                               ·simp only [Act.put, List.setIfInBounds_toArray, List.set_cons_zero, List.set_cons_succ, zr, zs]; rfl
                               refine zv (i := 11) (N := some 180) (v := undef) (a' := ?_) #[true, true, true, true, true, true, true, true, true, true, true, true, false, false, false, false, false, false, false, false, false, false, false, false, false, false, false, false, false, false, false, false] rfl rfl (zq HT_.out (by kernel_rfl)) (fun _ _ _ h => h) (Or.inr ⟨by rfl, rfl⟩) ?_ ?_; rotate_left
                               ·simp only [Act.put, List.setIfInBounds_toArray, List.set_cons_zero, List.set_cons_succ, zr, zs]; rfl
                               refine zv (i := 12) (N := some 181) (v := undef) (a' := ?_) #[true, true, true, true, true, true, true, true, true, true, true, true, true, false, false, false, false, false, false, false, false, false, false, false, false, false, false, false, false, false, false, false] rfl rfl (zq HT_.out (by kernel_rfl)) (fun _ _ _ h => h) (Or.inr ⟨by rfl, rfl⟩) ?_ ?_; rotate_left
                               ·simp only [Act.put, List.setIfInBounds_toArray, List.set_cons_zero, List.set_cons_succ, zr, zs]; rfl
                               refine zv (i := 13) (N := some 182) (v := undef) (a' := ?_) #[true, true, true, true, true, true, true, true, true, true, true, true, true, true, false, false, false, false, false, false, false, false, false, false, false, false, false, false, false, false, false, false] rfl rfl (zq HT_.out (by kernel_rfl)) (fun _ _ _ h => h) (Or.inr ⟨by rfl, rfl⟩) ?_ ?_; rotate_left
                               ·simp only [Act.put, List.setIfInBounds_toArray, List.set_cons_zero, List.set_cons_succ, zr, zs]; rfl
                               refine zv (i := 14) (N := some 183) (v := undef) (a' := ?_) #[true, true, true, true, true, true, true, true, true, true, true, true, true, true, true, false, false, false, false, false, false, false, false, false, false, false, false, false, false, false, false, false] rfl rfl (zq HT_.out (by kernel_rfl)) (fun _ _ _ h => h) (Or.inr ⟨by rfl, rfl⟩) ?_ ?_; rotate_left
                               ·simp only [Act.put, List.setIfInBounds_toArray, List.set_cons_zero, List.set_cons_succ, zr, zs]; rfl
                               refine zv (i := 15) (N := some 184) (v := undef) (a' := ?_) #[true, true, true, true, true, true, true, true, true, true, true, true, true, true, true, true, false, false, false, false, false, false, false, false, false, false, false, false, false, false, false, false] rfl rfl (zq HT_.out (by kernel_rfl)) (fun _ _ _ h => h) (Or.inr ⟨by rfl, rfl⟩) ?_ ?_; rotate_left
                               ·simp only [Act.put, List.setIfInBounds_toArray, List.set_cons_zero, List.set_cons_succ, zr, zs]; rfl
                               refine zv (i := 16) (N := some 185) (v := undef) (a' := ?_) #[true, true, true, true, true, true, true, true, true, true, true, true, true, true, true, true, true, false, false, false, false, false, false, false, false, false, false, false, false, false, false, false] rfl rfl (zq HT_.out (by kernel_rfl)) (fun _ _ _ h => h) (Or.inr ⟨by rfl, rfl⟩) ?_ ?_; rotate_left
                               ·simp only [Act.put, List.setIfInBounds_toArray, List.set_cons_zero, List.set_cons_succ, zr, zs]; rfl
                               refine zv (i := 17) (N := some 186) (v := undef) (a' := ?_) #[true, true, true, true, true, true, true, true, true, true, true, true, true, true, true, true, true, true, false, false, false, false, false, false, false, false, false, false, false, false, false, false] rfl rfl (zq HT_.out (by kernel_rfl)) (fun _ _ _ h => h) (Or.inr ⟨by rfl, rfl⟩) ?_ ?_; rotate_left
                               ·simp only [Act.put, List.setIfInBounds_toArray, List.set_cons_zero, List.set_cons_succ, zr, zs]; rfl
                               refine zv (i := 18) (N := some 187) (v := undef) (a' := ?_) #[true, true, true, true, true, true, true, true, true, true, true, true, true, true, true, true, true, true, true, false, false, false, false, false, false, false, false, false, false, false, false, false] rfl rfl (zq HT_.out (by kernel_rfl)) (fun _ _ _ h => h) (Or.inr ⟨by rfl, rfl⟩) ?_ ?_; rotate_left
                               ·simp only [Act.put, List.setIfInBounds_toArray, List.set_cons_zero, List.set_cons_succ, zr, zs]; rfl
                               refine zv (i := 19) (N := some 188) (v := undef) (a' := ?_) #[true, true, true, true, true, true, true, true, true, true, true, true, true, true, true, true, true, true, true, true, false, false, false, false, false, false, false, false, false, false, false, false] rfl rfl (zq HT_.out (by kernel_rfl)) (fun _ _ _ h => h) (Or.inr ⟨by rfl, rfl⟩) ?_ ?_; rotate_left
                               ·simp only [Act.put, List.setIfInBounds_toArray, List.set_cons_zero, List.set_cons_succ, zr, zs]; rfl
                               refine zv (i := 20) (N := some 189) (v := undef) (a' := ?_) #[true, true, true, true, true, true, true, true, true, true, true, true, true, true, true, true, true, true, true, true, true, false, false, false, false, false, false, false, false, false, false, false] rfl rfl (zq HT_.out (by kernel_rfl)) (fun _ _ _ h => h) (Or.inr ⟨by rfl, rfl⟩) ?_ ?_; rotate_left
                               ·simp only [Act.put, List.setIfInBounds_toArray, List.set_cons_zero, List.set_cons_succ, zr, zs]; rfl
                               refine zv (i := 21) (N := some 190) (v := undef) (a' := ?_) #[true, true, true, true, true, true, true, true, true, true, true, true, true, true, true, true, true, true, true, true, true, true, false, false, false, false, false, false, false, false, false, false] rfl rfl (zq HT_.out (by kernel_rfl)) (fun _ _ _ h => h) (Or.inr ⟨by rfl, rfl⟩) ?_ ?_; rotate_left
                               ·simp only [Act.put, List.setIfInBounds_toArray, List.set_cons_zero, List.set_cons_succ, zr, zs]; rfl
                               refine zv (i := 22) (N := some 191) (v := undef) (a' := ?_) #[true, true, true, true, true, true, true, true, true, true, true, true, true, true, true, true, true, true, true, true, true, true, true, false, false, false, false, false, false, false, false, false] rfl rfl (zq HT_.out (by kernel_rfl)) (fun _ _ _ h => h) (Or.inr ⟨by rfl, rfl⟩) ?_ ?_; rotate_left
                               ·simp only [Act.put, List.setIfInBounds_toArray, List.set_cons_zero, List.set_cons_succ, zr, zs]; rfl
                               refine zv (i := 23) (N := some 192) (v := undef) (a' := ?_) #[true, true, true, true, true, true, true, true, true, true, true, true, true, true, true, true, true, true, true, true, true, true, true, true, false, false, false, false, false, false, false, false] rfl rfl (zq HT_.out (by kernel_rfl)) (fun _ _ _ h => h) (Or.inr ⟨by rfl, rfl⟩) ?_ ?_; rotate_left
                               ·simp only [Act.put, List.setIfInBounds_toArray, List.set_cons_zero, List.set_cons_succ, zr, zs]; rfl
                               refine zv (i := 24) (N := some 193) (v := undef) (a' := ?_) #[true, true, true, true, true, true, true, true, true, true, true, true, true, true, true, true, true, true, true, true, true, true, true, true, true, false, false, false, false, false, false, false] rfl rfl (zq HT_.out (by kernel_rfl)) (fun _ _ _ h => h) (Or.inr ⟨by rfl, rfl⟩) ?_ ?_; rotate_left
                               ·simp only [Act.put, List.setIfInBounds_toArray, List.set_cons_zero, List.set_cons_succ, zr, zs]; rfl
                               refine zv (i := 25) (N := some 194) (v := undef) (a' := ?_) #[true, true, true, true, true, true, true, true, true, true, true, true, true, true, true, true, true, true, true, true, true, true, true, true, true, true, false, false, false, false, false, false] rfl rfl (zq HT_.out (by kernel_rfl)) (fun _ _ _ h => h) (Or.inr ⟨by rfl, rfl⟩) ?_ ?_; rotate_left
                               ·simp only [Act.put, List.setIfInBounds_toArray, List.set_cons_zero, List.set_cons_succ, zr, zs]; rfl
                               refine zv (i := 26) (N := some 195) (v := undef) (a' := ?_) #[true, true, true, true, true, true, true, true, true, true, true, true, true, true, true, true, true, true, true, true, true, true, true, true, true, true, true, false, false, false, false, false] rfl rfl (zq HT_.out (by kernel_rfl)) (fun _ _ _ h => h) (Or.inr ⟨by rfl, rfl⟩) ?_ ?_; rotate_left
                               ·simp only [Act.put, List.setIfInBounds_toArray, List.set_cons_zero, List.set_cons_succ, zr, zs]; rfl
                               refine zv (i := 27) (N := some 196) (v := undef) (a' := ?_) #[true, true, true, true, true, true, true, true, true, true, true, true, true, true, true, true, true, true, true, true, true, true, true, true, true, true, true, true, false, false, false, false] rfl rfl (zq HT_.out (by kernel_rfl)) (fun _ _ _ h => h) (Or.inr ⟨by rfl, rfl⟩) ?_ ?_; rotate_left
                               ·simp only [Act.put, List.setIfInBounds_toArray, List.set_cons_zero, List.set_cons_succ, zr, zs]; rfl
                               refine zv (i := 28) (N := some 197) (v := undef) (a' := ?_) #[true, true, true, true, true, true, true, true, true, true, true, true, true, true, true, true, true, true, true, true, true, true, true, true, true, true, true, true, true, false, false, false] rfl rfl (zq HT_.out (by kernel_rfl)) (fun _ _ _ h => h) (Or.inr ⟨by rfl, rfl⟩) ?_ ?_; rotate_left
                               ·simp only [Act.put, List.setIfInBounds_toArray, List.set_cons_zero, List.set_cons_succ, zr, zs]; rfl
                               refine zv (i := 29) (N := some 198) (v := undef) (a' := ?_) #[true, true, true, true, true, true, true, true, true, true, true, true, true, true, true, true, true, true, true, true, true, true, true, true, true, true, true, true, true, true, false, false] rfl rfl (zq HT_.out (by kernel_rfl)) (fun _ _ _ h => h) (Or.inr ⟨by rfl, rfl⟩) ?_ ?_; rotate_left
                               ·simp only [Act.put, List.setIfInBounds_toArray, List.set_cons_zero, List.set_cons_succ, zr, zs]; rfl
                               refine zv (i := 30) (N := some 199) (v := ?_) (a' := ?_) #[true, true, true, true, true, true, true, true, true, true, true, true, true, true, true, true, true, true, true, true, true, true, true, true, true, true, true, true, true, true, true, false] rfl rfl (zq HT_.out (by kernel_rfl)) (fun _ _ _ h => h) (Or.inl ⟨by rfl, ?_⟩) ?_ ?_; rotate_left
                               ·intro w'; go_simp
                                with_reducible rfl
                               rotate_left
                               ·simp only [Act.put, List.setIfInBounds_toArray, List.set_cons_zero, List.set_cons_succ, zr, zs]; rfl
                               refine zv (i := 31) (N := some 7) (v := ?_) (a' := ?_) #[true, true, true, true, true, true, true, true, true, true, true, true, true, true, true, true, true, true, true, true, true, true, true, true, true, true, true, true, true, true, true, true] rfl rfl (zq HT_.out (by kernel_rfl)) (fun _ _ _ h => h) (Or.inl ⟨by rfl, ?_⟩) ?_ ?_; rotate_left
                               ·intro w'; go_simp
                                with_reducible rfl
                               rotate_left
                               ·simp only [Act.put, List.setIfInBounds_toArray, List.set_cons_zero, List.set_cons_succ, zr, zs]; rfl
                               refine done_ (done_of HT_.out (by kernel_rfl)) ?_; try go_wp2
                               go_meet
                               case rel => exact ⟨_, (false), (by first | rfl | (simp; done) | (simp [*]; done)), H', ⟨by have := HJ4.out; have := HK2.out; have := HK3.out; have := HJ30.out; have := HJ39.out; have := HJ52.out; first | omega | exact Nat.le_refl _⟩, ⟨by (with_reducible repeat (first | apply Kd.R_alloc | apply Kd.R_drewN | apply Kd.R_drew)); exact HO_8.out⟩, ⟨by (with_reducible repeat (first | apply Kd.R_alloc | apply Kd.R_drewN | apply Kd.R_drew)); exact HO_9.out⟩, ⟨by (with_reducible repeat (first | refine zi ?_ _ | refine zk ?_ | refine zg ?_ _)); exact BK494.out⟩, ⟨by repeat (first | (with_reducible first | exact HB.out | apply zc | apply zb | apply zf | refine zh ?_ GE494.out) | exact HB.out)⟩⟩
                             case rest => as_aux_lemma =>
                              clear HC68; try clear c2
                              try clear p2
                              try clear p4
                              try clear q4
                              try clear hx4
                              try clear c6
                              try clear p6
                              try clear c7
                              try clear c21
                              try clear p49
                              try clear q49
                              try clear hx49
                              try clear p64
                              try clear c69
                              try clear c70
                              try clear c71
                              try clear c74
                              try clear hx495_0
                              try clear hx495_1
                              try clear hx495_2
                              try clear hx495_3
                              try clear hx495_4
                              try clear hx495_5
                              try clear hx495_6
                              try clear p495
                              try clear q495
                              obtain ⟨kq, x7_67, rfl, HA, HJ67, HO_8, HO_9, BK494, HB⟩ := hcut; cases kq with
                              | zero => exact absurd HA.out (by simp [slotmeshtop_TopChain.j6])
                              | succ kj67 =>
                               have H := HA.out; clear HA; simp only [slotmeshtop_TopChain.j6] at H; replace H := Option.bind_eq_some_iff.mp H; obtain ⟨⟨t498, t499, t500, t501, t502, t503, t504⟩, A850, H⟩ := H; replace H : (if 0 ≤ (ji45) then (if (ji45) < (x9_3.length : Int) then (slotmeshtop_TopChain.l1 kj67 l1 x7_67 y457 (x9_3.set ((ji45) : Int).toNat (⟨t498, (⟨t499, t500, t501⟩ : S23), t502, t503, t504⟩ : S25)) (wrap64 (x12_3 + (wrap64 (1 + (Int.tmod (wrap64 ((rd_T42 l1 x13_3).f2)) 2000))))) (wrap64 (x13_3 + 1))) else (none)) else (none)) = some r := H; have A85 := Aside0.mk A850; clear A850; by_cases c86 : 0 ≤ (ji45)
                               ·rw [if_pos c86] at H; have c86b0 : decide (0 ≤ (ji45)) = true := decide_eq_true c86; clear c86; by_cases c87 : (ji45) < (x9_3.length : Int)
                                ·rw [if_pos c87] at H; have c87b0 : decide ((ji45) < (x9_3.length : Int)) = true := decide_eq_true c87; clear c87; obtain ⟨y505, hy505⟩ : ∃ y_ : List (S25), y_ = (x9_3.set ((ji45) : Int).toNat (⟨t498, (⟨t499, t500, t501⟩ : S23), t502, t503, t504⟩ : S25)) := ⟨_, rfl⟩; replace H : (slotmeshtop_TopChain.l1 kj67 l1 x7_67 y457 y505 (wrap64 (x12_3 + (wrap64 (1 + (Int.tmod (wrap64 ((rd_T42 l1 x13_3).f2)) 2000))))) (wrap64 (x13_3 + 1))) = some r := by first | (rw [hy505]; with_reducible exact H) | (have H2_ := (Option.bind_some _ _).symm.trans H; rw [hy505]; with_reducible exact H2_) | (have H2_ := (Option.bind_some _ _).symm.trans H; with_reducible exact H2_) | with_reducible exact H | (rw [hy505]; exact H) | exact H
                                 have Ny505 := Aside0.mk hy505; clear hy505; have H' := Aside0.mk H; clear H; have hcz89_0 : wc.cell? ⟨gb494, 0, none⟩ = some (.bool t486) := (zd BK494.out 0).trans rfl; have hcz89_1 : wc.cell? ⟨gb494, 1, none⟩ = some (.int .i64 t487) := (zd BK494.out 1).trans rfl; have hcz89_2 : wc.cell? ⟨gb494, 2, none⟩ = some (.int .i64 t488) := (zd BK494.out 2).trans rfl; have hcz89_3 : wc.cell? ⟨gb494, 3, none⟩ = some (.int .i64 t489) := (zd BK494.out 3).trans rfl; have hcz89_4 : wc.cell? ⟨gb494, 4, none⟩ = some (.int .i64 t490) := (zd BK494.out 4).trans rfl; have hcz89_5 : wc.cell? ⟨gb494, 5, none⟩ = some (.int .i64 t491) := (zd BK494.out 5).trans rfl; have hcz89_6 : wc.cell? ⟨gb494, 6, none⟩ = some (.int .i64 t492) := (zd BK494.out 6).trans rfl; have hfz89_0 := za BK494.out 0; have hfz89_1 := za BK494.out 1; have hfz89_2 := za BK494.out 2; have hfz89_3 := za BK494.out 3; have hfz89_4 := za BK494.out 4; have hfz89_5 := za BK494.out 5; have hfz89_6 := za BK494.out 6; go_wp2_with (first | ((with_reducible refine zt (f := 22) rfl ?_); refine goesL_ (some 204) rfl rfl Try.func22 (by kernel_rfl) rfl #[.agg #[.bool t486, .int .i64 t487, .int .i64 t488, .int .i64 t489, .int .i64 t490, .int .i64 t491, .int .i64 t492], .int .i64 t482] rfl (by (try simp only [List.map_toArray, List.map_cons, List.map_nil]); first | done | rfl | (simp only [List.length_drop, List.length_take]; rfl)) ?_; (with_reducible refine (timesync_Tick.calls kj67 t486 t487 t488 t489 t490 t491 t492 t482 t498 t499 t500 t501 t502 t503 t504 _ A85.out).mono ?_); rintro e w90 ⟨rfl, hb⟩; refine ⟨_, rfl, ?_⟩; have n0_ := Aside0.mk (Kd.R_below (by (with_reducible repeat (first | apply Kd.R_alloc | apply Kd.R_drewN | apply Kd.R_drew)); exact HO_8.out) hb); have n1_ := Aside0.mk (Kd.R_below (by (with_reducible repeat (first | apply Kd.R_alloc | apply Kd.R_drewN | apply Kd.R_drew)); exact HO_9.out) hb); have n2_ := Aside0.mk (zj (g := gb494) (o := .cells #[.bool t486, .int .i64 t487, .int .i64 t488, .int .i64 t489, .int .i64 t490, .int .i64 t491, .int .i64 t492] 25 (0, 0)) (by (with_reducible repeat (first | refine zi ?_ _ | refine zk ?_ | refine zg ?_ _)); exact BK494.out) hb); have n3_ := Aside0.mk (zl (by repeat (first | (with_reducible first | exact HB.out | apply zc | apply zb | apply zf | refine zh ?_ GE494.out) | exact HB.out)) hb); clear HO_8; clear HO_9; clear BK494; clear HB; have HO_8 := n0_; have HO_9 := n1_; have BK494 := n2_; have HB := n3_; clear n0_ n1_ n2_ n3_; (try clear hb); (try clear hb2); (try clear hk); (try clear hi); have p88 : 0 ≤ ((ji45) : Int) := of_decide_eq_true (by first | (with_reducible assumption) | assumption); have q88 : ((ji45) : Int) < ((x9_3.length : Int) : Int) := of_decide_eq_true (by first | (with_reducible assumption) | assumption); obtain ⟨go88, co88, eo88, gb88, gl88, cl88, HG88⟩ := Kd.R_form HO_9.out (by omega); (first | cases eo88 | (injection eo88 with ea_ en_ ec_; (first | subst ea_ | (injection ea_ with ea_; subst ea_)); subst ec_; clear en_)); have GB88 := Aside0.mk gb88; have GG88 := Aside0.mk HG88; clear gb88 gl88 HG88; (first | simp only [add_plain] at hx476_0 | skip); (first | simp only [add_plain] at hx476_1 | skip); (first | simp only [add_plain] at hx476_2 | skip); (first | simp only [add_plain] at hx476_3 | skip); (first | simp only [add_plain] at hx476_4 | skip); (first | simp only [add_plain] at hx476_5 | skip); (first | simp only [add_plain] at hx476_6 | skip); (first | simp only [add_plain] at hx484_0 | skip); (first | simp only [add_plain] at hx484_1 | skip); (first | simp only [add_plain] at hx484_2 | skip); (first | simp only [add_plain] at hx484_3 | skip); (first | simp only [add_plain] at hx484_4 | skip); (first | simp only [add_plain] at hx484_5 | skip); (first | simp only [add_plain] at hx484_6 | skip); (first | simp only [add_plain] at hx485_0 | skip); (first | simp only [add_plain] at hx485_1 | skip); (first | simp only [add_plain] at hx485_2 | skip); (first | simp only [add_plain] at hx485_3 | skip); (first | simp only [add_plain] at hx485_4 | skip); (first | simp only [add_plain] at hx485_5 | skip); (first | simp only [add_plain] at hx485_6 | skip); (first | simp only [add_plain] at hx495_0 | skip); (first | simp only [add_plain] at hx495_1 | skip); (first | simp only [add_plain] at hx495_2 | skip); (first | simp only [add_plain] at hx495_3 | skip); (first | simp only [add_plain] at hx495_4 | skip); (first | simp only [add_plain] at hx495_5 | skip); (first | simp only [add_plain] at hx495_6 | skip); (first | simp only [add_plain] at hx497_0 | skip); (first | simp only [add_plain] at hx497_1 | skip); (first | simp only [add_plain] at hx497_2 | skip); (first | simp only [add_plain] at hx497_3 | skip); (first | simp only [add_plain] at hx497_4 | skip); (first | simp only [add_plain] at hx497_5 | skip); (first | simp only [add_plain] at hx497_6 | skip); obtain ⟨ce88, hcl88, hM88, hcc88, hfr88⟩ := Kd.R_elem HO_9.out z25 ((ji45) : Int) p88 q88; obtain rfl := k25_openM hM88; have hx88_0 : w90.cell? ⟨go88, ((ji45) : Int).toNat * 7, none⟩ = some (.bool ((rd_T25 x9_3 (ji45)).f0)) := hcc88 0 _ rfl; have hx88_1 : w90.cell? ⟨go88, ((ji45) : Int).toNat * 7 + 1, none⟩ = some (.int .i64 ((rd_T25 x9_3 (ji45)).f1.f0)) := hcc88 1 _ rfl; have hx88_2 : w90.cell? ⟨go88, ((ji45) : Int).toNat * 7 + 2, none⟩ = some (.int .i64 ((rd_T25 x9_3 (ji45)).f1.f1)) := hcc88 2 _ rfl; have hx88_3 : w90.cell? ⟨go88, ((ji45) : Int).toNat * 7 + 3, none⟩ = some (.int .i64 ((rd_T25 x9_3 (ji45)).f1.f2)) := hcc88 3 _ rfl; have hx88_4 : w90.cell? ⟨go88, ((ji45) : Int).toNat * 7 + 4, none⟩ = some (.int .i64 ((rd_T25 x9_3 (ji45)).f2)) := hcc88 4 _ rfl; have hx88_5 : w90.cell? ⟨go88, ((ji45) : Int).toNat * 7 + 5, none⟩ = some (.int .i64 ((rd_T25 x9_3 (ji45)).f3)) := hcc88 5 _ rfl; have hx88_6 : w90.cell? ⟨go88, ((ji45) : Int).toNat * 7 + 6, none⟩ = some (.int .i64 ((rd_T25 x9_3 (ji45)).f4)) := hcc88 6 _ rfl; have hf88_0 : w90.frozen? ⟨go88, ((ji45) : Int).toNat * 7, none⟩ = false := hfr88 0; have hf88_1 : w90.frozen? ⟨go88, ((ji45) : Int).toNat * 7 + 1, none⟩ = false := hfr88 1; have hf88_2 : w90.frozen? ⟨go88, ((ji45) : Int).toNat * 7 + 2, none⟩ = false := hfr88 2; have hf88_3 : w90.frozen? ⟨go88, ((ji45) : Int).toNat * 7 + 3, none⟩ = false := hfr88 3; have hf88_4 : w90.frozen? ⟨go88, ((ji45) : Int).toNat * 7 + 4, none⟩ = false := hfr88 4; have hf88_5 : w90.frozen? ⟨go88, ((ji45) : Int).toNat * 7 + 5, none⟩ = false := hfr88 5; have hf88_6 : w90.frozen? ⟨go88, ((ji45) : Int).toNat * 7 + 6, none⟩ = false := hfr88 6; clear hcl88 hcc88 hfr88 hM88; replace p88 := eq_true p88; replace q88 := eq_true q88; have HX91 := Aside0.mk (show Kd.R k25 25 w90 w.heap.size (fun k_ => k_ ≠ gb494) (.slice (some ⟨go88, 0, none⟩) x9_3.length co32) x9_3 from (by (with_reducible repeat (first | apply Kd.R_alloc | apply Kd.R_drewN | apply Kd.R_drew)); exact HO_9.out)); obtain ⟨ce91, hcl91, hM91, hcc91, hfr91⟩ := Kd.R_elem HX91.out z25 ((ji45) : Int) (of_decide_eq_true (by first | (with_reducible assumption) | assumption)) (by have h_ : ((ji45) : Int) < ((x9_3.length : Int) : Int) := of_decide_eq_true (by first | (with_reducible assumption) | assumption); first | exact h_ | (have e_ := (Kd.R_reads' HO_9.out).1; omega) | simpa using h_); obtain rfl := k25_openM hM91; have HP91 := Kd.R_seg HX91.out ((ji45) : Int) (of_decide_eq_true (by first | (with_reducible assumption) | assumption)) (by have h_ : ((ji45) : Int) < ((x9_3.length : Int) : Int) := of_decide_eq_true (by first | (with_reducible assumption) | assumption); first | exact h_ | (have e_ := (Kd.R_reads' HO_9.out).1; omega) | simpa using h_) (seg := [.bool t498, .int .i64 t499, .int .i64 t500, .int .i64 t501, .int .i64 t502, .int .i64 t503, .int .i64 t504]) (j := 0) hcl91 hcc91 (show 7 ≤ 7 from by decide) (x' := (⟨t498, (⟨t499, t500, t501⟩ : S23), t502, t503, t504⟩ : S25)) (k25_mkM _ _ _ (⟨t498, (⟨t499, t500, t501⟩ : S23), t502, t503, t504⟩ : S25) ) (fun _ hk => hk); have hx91_0 := hcc91 0 _ rfl; (try simp only [show (k25).sz = 7 from rfl, Nat.mul_one, Nat.add_zero] at hx91_0); have hf91_0 := hfr91 0; (try simp only [show (k25).sz = 7 from rfl, Nat.mul_one, Nat.add_zero] at hf91_0); have hx91_1 := hcc91 1 _ rfl; (try simp only [show (k25).sz = 7 from rfl, Nat.mul_one, Nat.add_zero] at hx91_1); have hf91_1 := hfr91 1; (try simp only [show (k25).sz = 7 from rfl, Nat.mul_one, Nat.add_zero] at hf91_1); have hx91_2 := hcc91 2 _ rfl; (try simp only [show (k25).sz = 7 from rfl, Nat.mul_one, Nat.add_zero] at hx91_2); have hf91_2 := hfr91 2; (try simp only [show (k25).sz = 7 from rfl, Nat.mul_one, Nat.add_zero] at hf91_2); have hx91_3 := hcc91 3 _ rfl; (try simp only [show (k25).sz = 7 from rfl, Nat.mul_one, Nat.add_zero] at hx91_3); have hf91_3 := hfr91 3; (try simp only [show (k25).sz = 7 from rfl, Nat.mul_one, Nat.add_zero] at hf91_3); have hx91_4 := hcc91 4 _ rfl; (try simp only [show (k25).sz = 7 from rfl, Nat.mul_one, Nat.add_zero] at hx91_4); have hf91_4 := hfr91 4; (try simp only [show (k25).sz = 7 from rfl, Nat.mul_one, Nat.add_zero] at hf91_4); have hx91_5 := hcc91 5 _ rfl; (try simp only [show (k25).sz = 7 from rfl, Nat.mul_one, Nat.add_zero] at hx91_5); have hf91_5 := hfr91 5; (try simp only [show (k25).sz = 7 from rfl, Nat.mul_one, Nat.add_zero] at hf91_5); have hx91_6 := hcc91 6 _ rfl; (try simp only [show (k25).sz = 7 from rfl, Nat.mul_one, Nat.add_zero] at hx91_6); have hf91_6 := hfr91 6; (try simp only [show (k25).sz = 7 from rfl, Nat.mul_one, Nat.add_zero] at hf91_6); clear hcl91 hcc91 hfr91 hM91) | ((with_reducible refine gate_store (t := 25) (p := 205) rfl ?_); refine store_event (t := 25) (p := 205) (v := ?vo_w92) (w1 := (((((((w90.setCell ⟨go88, ((ji45) : Int).toNat * 7, none⟩ (.bool t498)).setCell ⟨go88, ((ji45) : Int).toNat * 7 + 1, none⟩ (.int .i64 t499)).setCell ⟨go88, ((ji45) : Int).toNat * 7 + 2, none⟩ (.int .i64 t500)).setCell ⟨go88, ((ji45) : Int).toNat * 7 + 3, none⟩ (.int .i64 t501)).setCell ⟨go88, ((ji45) : Int).toNat * 7 + 4, none⟩ (.int .i64 t502)).setCell ⟨go88, ((ji45) : Int).toNat * 7 + 5, none⟩ (.int .i64 t503)).setCell ⟨go88, ((ji45) : Int).toNat * 7 + 6, none⟩ (.int .i64 t504))) ?hg ?ho ?hn ?hr ?_; (case ho => rfl); (case hg => rfl); (case hn => rfl); (case hr => first | (go_simp; done) | (go_simp; rfl)); intro w92 hw; have hg : w90.grownBy w92 (some go88) := (by rw [hw]; exact HP91.2); have hp_ : Kd.R k25 25 w92 w.heap.size (fun k_ => k_ ≠ gb494) (.slice (some ⟨go88, 0, none⟩) x9_3.length co32) y505 := (by rw [hw, Ny505.out]; exact HP91.1); clear HP91; have n0_ := Aside0.mk (Kd.R_over' (v := (.slice (some ⟨go88, 0, none⟩) x9_3.length co32)) (by (with_reducible repeat (first | apply Kd.R_alloc | apply Kd.R_drewN | apply Kd.R_drew)); exact HO_8.out) (Kd.R_typed HO_9.out) (by decide) hg); have n1_ := Aside0.mk (hp_); have n2_ := Aside0.mk (blk_grown (g := gb494) (o := .cells #[.bool t486, .int .i64 t487, .int .i64 t488, .int .i64 t489, .int .i64 t490, .int .i64 t491, .int .i64 t492] 25 (0, 0)) (by (with_reducible repeat (first | refine zi ?_ _ | refine zk ?_ | refine zg ?_ _)); exact BK494.out) hg (Kd.R_away HO_9.out (fun _ hk => hk))); have n3_ := Aside0.mk ((by rw [hw]; exact zh (zh (zh (zh (zh (zh (zh (HB.out) GB88.out) GB88.out) GB88.out) GB88.out) GB88.out) GB88.out) GB88.out : Below w.heap.size w w92)); clear HO_8; clear HO_9; clear BK494; clear HB; have HO_8 := n0_; have HO_9 := n1_; have BK494 := n2_; have HB := n3_; clear n0_ n1_ n2_ n3_; clear hg hw hp_))
                                 go_roundg kj67
                                 case measure => have := HJ4.out; have := HK2.out; have := HK3.out; have := HJ30.out; have := HJ39.out; have := HJ52.out; have := HJ67.out; omega
                                 case rel => exact ⟨(x7_67), (y505), ((wrap64 (x12_3 + (wrap64 (1 + (Int.tmod (wrap64 ((rd_T42 l1 x13_3).f2)) 2000)))))), (wrap64 (x13_3 + 1)), (by first | rfl | (simp; done) | (simp [*]; done)), (by first | rfl | (simp; done) | (simp [*]; done)), (by first | rfl | (simp; done) | (simp [*]; done)), H', ⟨by have := HJ4.out; have := HK2.out; have := HK3.out; have := HJ30.out; have := HJ39.out; have := HJ52.out; have := HJ67.out; omega⟩, ⟨by (with_reducible repeat (first | apply Kd.R_alloc | apply Kd.R_drewN | apply Kd.R_drew)); exact HO_8.out⟩, ⟨by (with_reducible repeat (first | apply Kd.R_alloc | apply Kd.R_drewN | apply Kd.R_drew)); exact Kd.R_mono HO_9.out (fun _ hk => trivial)⟩, ⟨by repeat (first | (with_reducible first | exact HB.out | apply zc | apply zb | apply zf | refine zh ?_ GE494.out) | exact HB.out)⟩⟩
                                ·rw [if_neg c87] at H; exact absurd H (by simp)
                               ·rw [if_neg c86] at H; exact absurd H (by simp)
                         ·rw [if_neg c51] at H; exact absurd H (by simp)
                        ·rw [if_neg c50] at H; exact absurd H (by simp)
                       ·rw [if_neg c49] at H; exact absurd H (by simp)
                      ·rw [if_neg c47] at H; exact absurd H (by simp)
                     ·rw [if_neg c46] at H; exact absurd H (by simp)
                 ·rw [if_neg c38] at H; exact absurd H (by simp)
                ·rw [if_neg c37] at H; exact absurd H (by simp)
               ·rw [if_neg c36] at H; exact absurd H (by simp)
           ·rw [if_neg c28] at H; exact absurd H (by simp)
          ·rw [if_neg c27] at H; have c27b0 : decide (x13_3 < (l1.length : Int)) = false := decide_eq_false c27; clear c27; obtain rfl := Option.some.inj H; go_wp2
           go_ret; exact ⟨by first | rfl | (simp [errW_none, errW_some] <;> rfl) | (simp [*, errW_none, errW_some] <;> rfl), by repeat (first | (with_reducible first | exact HB.out | apply zc | apply zb | apply zf) | exact HB.out)⟩
    ·rw [if_neg c10] at H; exact absurd H (by simp)
end Go.Proofs.Ytdpihbhkghjclaa.P
end
