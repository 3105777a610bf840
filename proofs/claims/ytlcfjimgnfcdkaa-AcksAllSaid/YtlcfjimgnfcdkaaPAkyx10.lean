-- printed for this claim by a program of the claim (wip/tools/pp.py over the kit's print)
import Derived.Test.YtlcfjimgnfcdkaaPAkyx0
import Derived.Test.YtlcfjimgnfcdkaaPAkyx1
import Derived.Test.YtlcfjimgnfcdkaaPAkyx4
import Derived.Test.YtlcfjimgnfcdkaaPAkyx9
namespace Go.Proofs.Ytlcfjimgnfcdkaa.PAky
open Go.RowKit Go.Proofs.YtlcfjimgnfcdkaaW.PrintWords Go.Proofs.YtlcfjimgnfcdkaaW.PrintLast Go.Proofs.YtlcfjimgnfcdkaaW.PrintMore
attribute [local go_sem] max2_int min2_int max_two min_two max_three min_three max_four min_four   -- for this text's walks alone
set_option linter.unusedVariables false
set_option linter.unusedSimpArgs false

attribute [local go_sem] isSome_setCell_
attribute [local go_sem high] eqA44
/-! ### dominolaw13_AcksAll: function 3 -/
mutual
def dominolaw13_AcksAll.l0 : Nat → List Int → Int → List Int → Int → Option (Bool)
 | 0, _, _, _, _ => none
 | k + 1, x1, x5, x6, x7 => if x7 < x5 then (if x6.length < 17592186044416 then (dominolaw13_AcksAll.l0 k x1 x5 (x6 ++ [IntKind.u64.wrap (x7)]) (wrap64 (x7 + 1))) else (none)) else (dominolaw13_AcksAll.l1 k x1 x5 x6 0)
def dominolaw13_AcksAll.l1 : Nat → List Int → Int → List Int → Int → Option (Bool)
 | 0, _, _, _, _ => none
 | k + 1, x1, x5, x6, x8 => if (wrap64 (x8 + 1)) < x5 then (dominolaw13_AcksAll.j2 k x1 x5 x6 x8 (decide (x8 < (x1.length : Int)))) else (dominolaw13_AcksAll.j2 k x1 x5 x6 x8 false)
def dominolaw13_AcksAll.j2 : Nat → List Int → Int → List Int → Int → Bool → Option (Bool)
 | 0, _, _, _, _, _ => none
 | k + 1, x1, x5, x6, x8, x41 => if x41 = true then (if 0 ≤ x8 then (if x8 < (x1.length : Int) then (if (Int.tmod (rd x1 x8) 2) = 1 then (if 0 ≤ (wrap64 (x8 + 1)) then (if (wrap64 (x8 + 1)) < (x6.length : Int) then (if x8 < (x6.length : Int) then (dominolaw13_AcksAll.l1 k x1 x5 ((x6.set (x8 : Int).toNat (rd x6 (wrap64 (x8 + 1)))).set ((wrap64 (x8 + 1)) : Int).toNat (rd x6 x8)) (wrap64 (x8 + 1))) else (none)) else (none)) else (none)) else (dominolaw13_AcksAll.l1 k x1 x5 x6 (wrap64 (x8 + 1)))) else (none)) else (none)) else (dominolaw13_AcksAll.l2 k x5 x6 0 ([] : List (S44)) 0 0 0 0)
def dominolaw13_AcksAll.l2 : Nat → Int → List Int → Int → List (S44) → Int → Int → Int → Int → Option (Bool)
 | 0, _, _, _, _, _, _, _, _ => none
 | k + 1, x5, x6, x10, x255000, x255001, x255002, x255003, x255004 => if x10 < x5 then (if 0 ≤ x10 then (if x10 < (x6.length : Int) then ((acks_Got.f k x255000 x255001 x255002 x255003 x255004 (rd x6 x10) true x10).bind fun bt256 => (if bt256.2.2.2.2.2 = true then (dominolaw13_AcksAll.l2 k x5 x6 (wrap64 (x10 + 1)) bt256.1 bt256.2.1 bt256.2.2.1 bt256.2.2.2.1 bt256.2.2.2.2.1) else (none))) else (none)) else (none)) else ((acks_Frame.f x255000 x255001 x255002 x255003 x255004 x5).bind fun bt265 => ((dominolaw13_set.f k bt265.2.2.2.2.2.2.2.2.2.2.2.2.1).bind fun t282 => ((dominoref06_Put.f k 2 0 0 0 0 0 0 bt265.2.2.2.2.2.2.2.1 false (⟨#[]⟩ : ByteArray) (⟨#[]⟩ : ByteArray) (⟨#[]⟩ : ByteArray) t282).bind fun bt285 => (if bt265.2.2.2.2.2.2.2.2.2.2.2.2.2 = true then (if bt285.2 = 0 then (if (bt265.2.2.2.2.2.2.2.2.2.2.2.2.1.length : Int) = 1 then (if 0 < (bt265.2.2.2.2.2.2.2.2.2.2.2.2.1.length : Int) then (if (((rd_T44 bt265.2.2.2.2.2.2.2.2.2.2.2.2.1 0).f0) == 0 && (((rd_T44 bt265.2.2.2.2.2.2.2.2.2.2.2.2.1 0).f1) == (IntKind.u64.wrap (wrap64 (x5 - 1))))) = true then (if x255003 = x5 then ((dominolaw13_shown.f k).bind fun t288 => (some t288)) else (none)) else (none)) else (none)) else (none)) else (none)) else (none)))))
end
def dominolaw13_AcksAll.f (k : Nat) (a0 : Int) (l1 : List Int) : Option (Bool) := if 0 ≤ 35184372088832 then (dominolaw13_AcksAll.l0 k l1 (wrap64 (1 + (Int.tmod (wrap64 (a0)) 100))) (List.replicate 0 0) 0) else (none)
theorem dominolaw13_AcksAll.mono_l : ∀ k, (∀ y0 y1 y2 y3, LeO (dominolaw13_AcksAll.l0 k y0 y1 y2 y3) (dominolaw13_AcksAll.l0 (k + 1) y0 y1 y2 y3)) ∧ (∀ y0 y1 y2 y3, LeO (dominolaw13_AcksAll.l1 k y0 y1 y2 y3) (dominolaw13_AcksAll.l1 (k + 1) y0 y1 y2 y3)) ∧ (∀ y0 y1 y2 y3 y4, LeO (dominolaw13_AcksAll.j2 k y0 y1 y2 y3 y4) (dominolaw13_AcksAll.j2 (k + 1) y0 y1 y2 y3 y4)) ∧ (∀ y0 y1 y2 y3 y4 y5 y6 y7, LeO (dominolaw13_AcksAll.l2 k y0 y1 y2 y3 y4 y5 y6 y7) (dominolaw13_AcksAll.l2 (k + 1) y0 y1 y2 y3 y4 y5 y6 y7))
 | 0 => ⟨fun _ _ _ _ r h => by simp [dominolaw13_AcksAll.l0] at h, fun _ _ _ _ r h => by simp [dominolaw13_AcksAll.l1] at h, fun _ _ _ _ _ r h => by simp [dominolaw13_AcksAll.j2] at h, fun _ _ _ _ _ _ _ _ r h => by simp [dominolaw13_AcksAll.l2] at h⟩
 | k + 1 => by
  obtain ⟨ih0, ih1, ih2, ih3⟩ := dominolaw13_AcksAll.mono_l k
  refine ⟨?_, ?_, ?_, ?_⟩
  ·intro y0 y1 y2 y3
   unfold dominolaw13_AcksAll.l0
   repeat' first
   | (with_reducible exact ih0 _ _ _ _)
   | (with_reducible exact ih1 _ _ _ _)
   | (with_reducible exact ih2 _ _ _ _ _)
   | (with_reducible exact ih3 _ _ _ _ _ _ _ _)
   | (with_reducible exact acks_Got.mono _ _ _ _ _ _ _ _ _)
   | (with_reducible exact dominolaw13_set.mono _ _)
   | (with_reducible exact dominolaw13_shown.mono _)
   | (with_reducible exact dominoref06_Put.mono _ _ _ _ _ _ _ _ _ _ _ _ _ _)
   | (with_reducible exact LeO.refl _)
   | (with_reducible exact LeO.none _)
   | (with_reducible refine LeO.ite ?_ ?_)
   | (with_reducible refine LeO.bind ?_ (fun _ => ?_))
   | exact ih0 _ _ _ _
   | exact ih1 _ _ _ _
   | exact ih2 _ _ _ _ _
   | exact ih3 _ _ _ _ _ _ _ _
   | exact acks_Got.mono _ _ _ _ _ _ _ _ _
   | exact dominolaw13_set.mono _ _
   | exact dominolaw13_shown.mono _
   | exact dominoref06_Put.mono _ _ _ _ _ _ _ _ _ _ _ _ _ _
   | exact LeO.none _
   | refine LeO.ite ?_ ?_
   | refine LeO.bind ?_ (fun _ => ?_)
  ·intro y0 y1 y2 y3
   unfold dominolaw13_AcksAll.l1
   repeat' first
   | (with_reducible exact ih0 _ _ _ _)
   | (with_reducible exact ih1 _ _ _ _)
   | (with_reducible exact ih2 _ _ _ _ _)
   | (with_reducible exact ih3 _ _ _ _ _ _ _ _)
   | (with_reducible exact acks_Got.mono _ _ _ _ _ _ _ _ _)
   | (with_reducible exact dominolaw13_set.mono _ _)
   | (with_reducible exact dominolaw13_shown.mono _)
   | (with_reducible exact dominoref06_Put.mono _ _ _ _ _ _ _ _ _ _ _ _ _ _)
   | (with_reducible exact LeO.refl _)
   | (with_reducible exact LeO.none _)
   | (with_reducible refine LeO.ite ?_ ?_)
   | (with_reducible refine LeO.bind ?_ (fun _ => ?_))
   | exact ih0 _ _ _ _
   | exact ih1 _ _ _ _
   | exact ih2 _ _ _ _ _
   | exact ih3 _ _ _ _ _ _ _ _
   | exact acks_Got.mono _ _ _ _ _ _ _ _ _
   | exact dominolaw13_set.mono _ _
   | exact dominolaw13_shown.mono _
   | exact dominoref06_Put.mono _ _ _ _ _ _ _ _ _ _ _ _ _ _
   | exact LeO.none _
   | refine LeO.ite ?_ ?_
   | refine LeO.bind ?_ (fun _ => ?_)
  ·intro y0 y1 y2 y3 y4
   unfold dominolaw13_AcksAll.j2
   repeat' first
   | (with_reducible exact ih0 _ _ _ _)
   | (with_reducible exact ih1 _ _ _ _)
   | (with_reducible exact ih2 _ _ _ _ _)
   | (with_reducible exact ih3 _ _ _ _ _ _ _ _)
   | (with_reducible exact acks_Got.mono _ _ _ _ _ _ _ _ _)
   | (with_reducible exact dominolaw13_set.mono _ _)
   | (with_reducible exact dominolaw13_shown.mono _)
   | (with_reducible exact dominoref06_Put.mono _ _ _ _ _ _ _ _ _ _ _ _ _ _)
   | (with_reducible exact LeO.refl _)
   | (with_reducible exact LeO.none _)
   | (with_reducible refine LeO.ite ?_ ?_)
   | (with_reducible refine LeO.bind ?_ (fun _ => ?_))
   | exact ih0 _ _ _ _
   | exact ih1 _ _ _ _
   | exact ih2 _ _ _ _ _
   | exact ih3 _ _ _ _ _ _ _ _
   | exact acks_Got.mono _ _ _ _ _ _ _ _ _
   | exact dominolaw13_set.mono _ _
   | exact dominolaw13_shown.mono _
   | exact dominoref06_Put.mono _ _ _ _ _ _ _ _ _ _ _ _ _ _
   | exact LeO.none _
   | refine LeO.ite ?_ ?_
   | refine LeO.bind ?_ (fun _ => ?_)
  ·intro y0 y1 y2 y3 y4 y5 y6 y7
   unfold dominolaw13_AcksAll.l2
   repeat' first
   | (with_reducible exact ih0 _ _ _ _)
   | (with_reducible exact ih1 _ _ _ _)
   | (with_reducible exact ih2 _ _ _ _ _)
   | (with_reducible exact ih3 _ _ _ _ _ _ _ _)
   | (with_reducible exact acks_Got.mono _ _ _ _ _ _ _ _ _)
   | (with_reducible exact dominolaw13_set.mono _ _)
   | (with_reducible exact dominolaw13_shown.mono _)
   | (with_reducible exact dominoref06_Put.mono _ _ _ _ _ _ _ _ _ _ _ _ _ _)
   | (with_reducible exact LeO.refl _)
   | (with_reducible exact LeO.none _)
   | (with_reducible refine LeO.ite ?_ ?_)
   | (with_reducible refine LeO.bind ?_ (fun _ => ?_))
   | exact ih0 _ _ _ _
   | exact ih1 _ _ _ _
   | exact ih2 _ _ _ _ _
   | exact ih3 _ _ _ _ _ _ _ _
   | exact acks_Got.mono _ _ _ _ _ _ _ _ _
   | exact dominolaw13_set.mono _ _
   | exact dominolaw13_shown.mono _
   | exact dominoref06_Put.mono _ _ _ _ _ _ _ _ _ _ _ _ _ _
   | exact LeO.none _
   | refine LeO.ite ?_ ?_
   | refine LeO.bind ?_ (fun _ => ?_)
theorem dominolaw13_AcksAll.mono : ∀ a0 a1 k, LeO (dominolaw13_AcksAll.f k a0 a1) (dominolaw13_AcksAll.f (k + 1) a0 a1) := by
 intro a0 a1 k
 obtain ⟨ih0, ih1, ih2, ih3⟩ := dominolaw13_AcksAll.mono_l k
 unfold dominolaw13_AcksAll.f
 repeat' first
   | (with_reducible exact ih0 _ _ _ _)
   | (with_reducible exact ih1 _ _ _ _)
   | (with_reducible exact ih2 _ _ _ _ _)
   | (with_reducible exact ih3 _ _ _ _ _ _ _ _)
   | (with_reducible exact acks_Got.mono _ _ _ _ _ _ _ _ _)
   | (with_reducible exact dominolaw13_set.mono _ _)
   | (with_reducible exact dominolaw13_shown.mono _)
   | (with_reducible exact dominoref06_Put.mono _ _ _ _ _ _ _ _ _ _ _ _ _ _)
   | (with_reducible exact LeO.refl _)
   | (with_reducible exact LeO.none _)
   | (with_reducible refine LeO.ite ?_ ?_)
   | (with_reducible refine LeO.bind ?_ (fun _ => ?_))
   | exact ih0 _ _ _ _
   | exact ih1 _ _ _ _
   | exact ih2 _ _ _ _ _
   | exact ih3 _ _ _ _ _ _ _ _
   | exact acks_Got.mono _ _ _ _ _ _ _ _ _
   | exact dominolaw13_set.mono _ _
   | exact dominolaw13_shown.mono _
   | exact dominoref06_Put.mono _ _ _ _ _ _ _ _ _ _ _ _ _ _
   | exact LeO.none _
   | refine LeO.ite ?_ ?_
   | refine LeO.bind ?_ (fun _ => ?_)
def dominolaw13_AcksAll.T11 : Bool × List (List Nat × List Nat) := (true, [([], []), ([], []), ([], []), ([], []), ([3], [3]), ([], []), ([], []), ([6], [6]), ([5, 7], [5, 7]), ([8], [8]), ([], []), ([], []), ([10, 11], [10, 11]), ([12], [12]), ([0, 1, 0, 1, 5, 6, 7, 8, 9, 13], [0, 1]), ([14, 9, 0, 1, 5, 6, 7, 8, 9, 13], [9, 14]), ([2, 4, 0, 1, 2, 3, 4, 5, 6, 7, 8, 9, 10, 11, 12, 13, 14, 15], [2, 4]), ([16, 13, 15, 0, 1, 2, 3, 4, 5, 6, 7, 8, 9, 10, 11, 12, 13, 14, 15], [13, 16])])
def dominolaw13_AcksAll.B11 : List Nat := [0, 0, 0, 0, 8, 0, 0, 64, 224, 480, 0, 0, 3072, 7168, 16355, 32739, 65535, 131071]
theorem dominolaw13_AcksAll.tab11 : rtab .any (opsOf Try.f3 11) = dominolaw13_AcksAll.T11 := by kernel_rfl
theorem dominolaw13_AcksAll.bits11 : waitsOk dominolaw13_AcksAll.T11.2 dominolaw13_AcksAll.B11 = true := by kernel_rfl
def dominolaw13_AcksAll.T16 : Bool × List (List Nat × List Nat) := (true, [([], []), ([], []), ([], []), ([1, 2], [1, 2]), ([3], [3]), ([], []), ([0, 4, 5], [0, 4, 5]), ([6], [6]), ([7], [7]), ([7], [7]), ([], []), ([10, 8, 6, 0, 1, 2, 3, 4, 5, 6, 7, 8, 10], [8, 10]), ([9, 11, 0, 1, 2, 3, 4, 5, 6, 7, 8, 9, 10, 11], [9])])
def dominolaw13_AcksAll.B16 : List Nat := [0, 0, 0, 6, 14, 0, 63, 127, 255, 255, 0, 1535, 4095]
theorem dominolaw13_AcksAll.tab16 : rtab .any (opsOf Try.f3 16) = dominolaw13_AcksAll.T16 := by kernel_rfl
theorem dominolaw13_AcksAll.bits16 : waitsOk dominolaw13_AcksAll.T16.2 dominolaw13_AcksAll.B16 = true := by kernel_rfl
def dominolaw13_AcksAll.T21 : Bool × List (List Nat × List Nat) := (true, [([], []), ([0], [0]), ([1], [1]), ([], []), ([3], [3]), ([2, 4], [2, 4]), ([5, 2], [5]), ([6], [6]), ([7], [7]), ([7], [7]), ([8, 6, 0, 1, 2, 3, 4, 5, 6, 7, 8], [8]), ([9, 10, 0, 1, 2, 3, 4, 5, 6, 7, 8, 9, 10], [9])])
def dominolaw13_AcksAll.B21 : List Nat := [0, 1, 3, 0, 8, 31, 63, 127, 255, 255, 511, 2047]
theorem dominolaw13_AcksAll.tab21 : rtab .any (opsOf Try.f3 21) = dominolaw13_AcksAll.T21 := by kernel_rfl
theorem dominolaw13_AcksAll.bits21 : waitsOk dominolaw13_AcksAll.T21.2 dominolaw13_AcksAll.B21 = true := by kernel_rfl
set_option maxHeartbeats 8000000 in
set_option maxRecDepth 100000 in
theorem dominolaw13_AcksAll.calls (k : Nat) (a0 : Int) (A1 : Option Addr) (c1 : Nat) (l1 : List Int) (r : Bool) (w : World) (hr1 : Kd.C (Kd.int .u8) w A1 l1.length l1) (hc1 : l1.length ≤ c1) (h : dominolaw13_AcksAll.f k a0 l1 = some r) :
  Calls Try.prog 3 #[.int .u8 a0, .slice A1 l1.length c1] w fun e w' => e = .returned (.bool r) ∧ Below w.heap.size w w' := by
 have hu28 := Try.underlying28
 have hu32 := Try.underlying32
 have hu42 := Try.underlying42
 have hu44 := Try.underlying44
 have HR1 := Aside0.mk hr1
 have HC1 := Aside0.mk hc1
 clear hr1 hc1
 have HB := Aside0.mk (Below.refl w.heap.size w)
 have H : (if 0 ≤ 35184372088832 then (dominolaw13_AcksAll.l0 k l1 (wrap64 (1 + (Int.tmod (wrap64 (a0)) 100))) (List.replicate 0 0) 0) else (none)) = some r := h
 clear h
 by_cases c3 : 0 ≤ 35184372088832
 ·rw [if_pos c3] at H
  have c3b0 := eq_true c3
  have c3b1 : decide (0 ≤ 35184372088832) = true := decide_eq_true c3
  clear c3
  obtain ⟨y243, hy243⟩ : ∃ y_ : List Int, y_ = (List.replicate 0 0) := ⟨_, rfl⟩
  replace H : (dominolaw13_AcksAll.l0 k l1 (wrap64 (1 + (Int.tmod (wrap64 (a0)) 100))) y243 0) = some r := by first | (rw [hy243]; with_reducible exact H) | (have H2_ := (Option.bind_some _ _).symm.trans H; rw [hy243]; with_reducible exact H2_) | (have H2_ := (Option.bind_some _ _).symm.trans H; with_reducible exact H2_) | with_reducible exact H | (rw [hy243]; exact H) | exact H
  have Ny243 := Aside0.mk hy243
  clear hy243
  have H' := Aside0.mk H
  clear H
  go_enter Try.func3, Try.ntmps3
  go_wp2_with (first | ((with_reducible refine gate_dst (N := 21) rfl ?_); (try (refine gate_guard (by rfl) ?_; dsimp only)); refine Kd.R_make (Kd.int .u64) _ 24 rfl (N := 21) rfl 23 _ _ rfl 0 rfl rfl Try.underlying23 (.int .u64 0) 8 info24 rfl (by decide) (by omega) 0 (ok := fun _ => True) (okp := fun _ => True) rfl (fun _ hk => hk) trivial (by omega) (by omega) (Below.refl _ _) (Nat.le_refl _) ?_; intro v244 w4 ho5 hb hg_ hnew_; clear hg_ hnew_; (first | rw [← Ny243.out] at ho5 | (simp only [Int.reduceToNat] at ho5; rw [← Ny243.out] at ho5)); have n0_ := Aside0.mk (Kd.R_lower ho5 (below_size (by repeat (first | (with_reducible first | exact HB.out | apply below_alloc | apply pw_below_drewN | apply below_drew1) | exact HB.out)))); have n1_ := Aside0.mk (below_step (by repeat (first | (with_reducible first | exact HB.out | apply below_alloc | apply pw_below_drewN | apply below_drew1) | exact HB.out)) hb); clear HB; have HO245 := n0_; have HB := n1_; clear n0_ n1_; clear hb ho5))
  go_loopg [6, 7] k (fun kq v6 v7 w' => ∃ (x6_1 : List Int) (x7_1 : Int), v7 = .int .i64 x7_1 ∧ Aside0 (dominolaw13_AcksAll.l0 kq l1 (wrap64 (1 + (Int.tmod (wrap64 (a0)) 100))) x6_1 x7_1 = some r) ∧ Aside0 (kq ≤ k) ∧ Aside0 (Kd.R (Kd.int .u64) 24 w' w.heap.size (fun _ => True) v6 x6_1) ∧ Aside0 (Below w.heap.size w w'))
  case atStart => exact ⟨(y243), (0), (by first | rfl | (simp; done) | (simp [*]; done)), H', ⟨Nat.le_refl _⟩, ⟨by (with_reducible repeat (first | apply Kd.R_alloc | apply Kd.R_drewN | apply Kd.R_drew)); exact HO245.out⟩, ⟨by repeat (first | (with_reducible first | exact HB.out | apply below_alloc | apply pw_below_drewN | apply below_drew1) | exact HB.out)⟩⟩
  case round =>
   clear H'
   try clear c1
   try clear p2
   try clear c3
   try clear c3b0
   try clear c3b1
   obtain ⟨x6_1, x7_1, rfl, HA, HK1, HO_6, HB⟩ := hrel
   cases gk with
   | zero => exact absurd HA.out (by simp [dominolaw13_AcksAll.l0])
   | succ k1 =>
    have H := HA.out
    clear HA
    simp only [dominolaw13_AcksAll.l0] at H
    by_cases c6 : x7_1 < (wrap64 (1 + (Int.tmod (wrap64 (a0)) 100)))
    ·rw [if_pos c6] at H
     have c6b0 : decide (x7_1 < (wrap64 (1 + (Int.tmod (wrap64 (a0)) 100)))) = true := decide_eq_true c6
     clear c6
     by_cases c7 : x6_1.length < 17592186044416
     ·rw [if_pos c7] at H
      have LMc7 := Aside0.mk c7
      clear c7
      obtain ⟨y246, hy246⟩ : ∃ y_ : List Int, y_ = (x6_1 ++ [IntKind.u64.wrap (x7_1)]) := ⟨_, rfl⟩
      replace H : (dominolaw13_AcksAll.l0 k1 l1 (wrap64 (1 + (Int.tmod (wrap64 (a0)) 100))) y246 (wrap64 (x7_1 + 1))) = some r := by first | (rw [hy246]; with_reducible exact H) | (have H2_ := (Option.bind_some _ _).symm.trans H; rw [hy246]; with_reducible exact H2_) | (have H2_ := (Option.bind_some _ _).symm.trans H; with_reducible exact H2_) | with_reducible exact H | (rw [hy246]; exact H) | exact H
      have Ny246 := Aside0.mk hy246
      clear hy246
      have H' := Aside0.mk H
      clear H
      go_wp2_with (first | ((with_reducible refine gate_builtin (b := .append) (xs := #[.tmp 27, .tmp 30]) rfl ?_); (try (refine gate_guard (by rfl) ?_; dsimp only)); at_builtin; refine Kd.R_append (Kd.int .u64) (w0 := w) w.heap.size rfl (.tmp 27) (.tmp 30) 23 24 (.int .u64 0) 8 rfl Try.underlying23 info24 rfl (by decide) (by omega) u6 x6_1 (IntKind.u64.wrap (x7_1)) [.int .u64 (IntKind.u64.wrap (x7_1))] (fun _ => True) (fun _ => False) rfl rfl ?aP (fun _ hk => hk.elim) ?aF ?aO ?aB ?aS ?aL ?_; (case aP => exact rfl); (case aB => exact (by repeat (first | (with_reducible first | exact HB.out | apply below_alloc | apply pw_below_drewN | apply below_drew1) | exact HB.out))); (case aF => exact (fun _ _ => trivial)); (case aO => exact (by (with_reducible repeat (first | apply Kd.R_alloc | apply Kd.R_drewN | apply Kd.R_drew)); exact HO_6.out)); (case aS => exact (below_size (by repeat (first | (with_reducible first | exact HB.out | apply below_alloc | apply pw_below_drewN | apply below_drew1) | exact HB.out)))); (case aL => have := LMc7.out; omega); intro v247 w8 ho hb hg hat; rw [← Ny246.out] at ho; have n0_ := Aside0.mk (hb); have n1_ := Aside0.mk (ho); clear HB; clear HO_6; have HB := n0_; have HO248 := n1_; clear n0_ n1_; clear ho hb hg hat))
      go_roundg k1
      case measure => have := HK1.out; omega
      case rel => exact ⟨(y246), (wrap64 (x7_1 + 1)), (by first | rfl | (simp; done) | (simp [*]; done)), H', ⟨by have := HK1.out; omega⟩, ⟨by (with_reducible repeat (first | apply Kd.R_alloc | apply Kd.R_drewN | apply Kd.R_drew)); exact HO248.out⟩, ⟨by repeat (first | (with_reducible first | exact HB.out | apply below_alloc | apply pw_below_drewN | apply below_drew1) | exact HB.out)⟩⟩
     ·rw [if_neg c7] at H
      exact absurd H (by simp)
    ·rw [if_neg c6] at H
     have c6b0 : decide (x7_1 < (wrap64 (1 + (Int.tmod (wrap64 (a0)) 100)))) = false := decide_eq_false c6
     clear c6
     have H' := Aside0.mk H
     clear H
     go_wp2
     go_loopg [8] k1 (fun kq v8 w' => ∃ (x6_2 : List Int) (x8_2 : Int), v8 = .int .i64 x8_2 ∧ Aside0 (dominolaw13_AcksAll.l1 kq l1 (wrap64 (1 + (Int.tmod (wrap64 (a0)) 100))) x6_2 x8_2 = some r) ∧ Aside0 (kq ≤ k1) ∧ Aside0 (Kd.R (Kd.int .u64) 24 w' w.heap.size (fun _ => True) u6 x6_2) ∧ Aside0 (Below w.heap.size w w'))
     case atStart => exact ⟨(x6_1), (0), (by first | rfl | (simp; done) | (simp [*]; done)), H', ⟨Nat.le_refl _⟩, ⟨by (with_reducible repeat (first | apply Kd.R_alloc | apply Kd.R_drewN | apply Kd.R_drew)); exact HO_6.out⟩, ⟨by repeat (first | (with_reducible first | exact HB.out | apply below_alloc | apply pw_below_drewN | apply below_drew1) | exact HB.out)⟩⟩
     case round =>
      clear H'
      try clear c1
      try clear p2
      try clear c3
      try clear c3b0
      try clear c3b1
      try clear c6
      try clear c6b0
      try clear p6
      try clear c7
      try clear p2
      obtain ⟨x6_2, x8_2, rfl, HA, HK2, HO_6, HB⟩ := hrel
      cases gk with
      | zero => exact absurd HA.out (by simp [dominolaw13_AcksAll.l1])
      | succ k2 =>
       have H := HA.out
       clear HA
       simp only [dominolaw13_AcksAll.l1] at H
       have HC9 := Aside0.mk H
       clear H
       go_upto_region 8 with (fail)
       go_cut [41] (fun v41 wc => ∃ (kq : Nat) (x41_8 : Bool), v41 = .bool x41_8 ∧ Aside0 (dominolaw13_AcksAll.j2 kq l1 (wrap64 (1 + (Int.tmod (wrap64 (a0)) 100))) x6_2 x8_2 x41_8 = some r) ∧ Aside0 (kq ≤ k2) ∧ Aside0 (Kd.R (Kd.int .u64) 24 wc w.heap.size (fun _ => True) u6 x6_2) ∧ Aside0 (Below w.heap.size w wc))
       case first =>
        have H := HC9.out
        clear HC9
        by_cases c10 : (wrap64 (x8_2 + 1)) < (wrap64 (1 + (Int.tmod (wrap64 (a0)) 100)))
        ·rw [if_pos c10] at H
         have c10b0 : decide ((wrap64 (x8_2 + 1)) < (wrap64 (1 + (Int.tmod (wrap64 (a0)) 100)))) = true := decide_eq_true c10
         clear c10
         (first | rw [c10b0] | (simp only [i64_w, i32_w]; rw [c10b0]) | skip)
         have H' := Aside0.mk H
         clear H
         go_wp2
         go_meet
         case rel => exact ⟨_, (decide (x8_2 < (l1.length : Int))), (by first | rfl | (simp; done) | (simp [*]; done)), H', ⟨by have := HK1.out; have := HK2.out; first | omega | exact Nat.le_refl _⟩, ⟨by (with_reducible repeat (first | apply Kd.R_alloc | apply Kd.R_drewN | apply Kd.R_drew)); exact HO_6.out⟩, ⟨by repeat (first | (with_reducible first | exact HB.out | apply below_alloc | apply pw_below_drewN | apply below_drew1) | exact HB.out)⟩⟩
        ·rw [if_neg c10] at H
         have c10b0 : decide ((wrap64 (x8_2 + 1)) < (wrap64 (1 + (Int.tmod (wrap64 (a0)) 100)))) = false := decide_eq_false c10
         clear c10
         (first | rw [c10b0] | (simp only [i64_w, i32_w]; rw [c10b0]) | skip)
         have H' := Aside0.mk H
         clear H
         go_wp2
         go_meet
         case rel => exact ⟨_, (false), (by first | rfl | (simp; done) | (simp [*]; done)), H', ⟨by have := HK1.out; have := HK2.out; first | omega | exact Nat.le_refl _⟩, ⟨by (with_reducible repeat (first | apply Kd.R_alloc | apply Kd.R_drewN | apply Kd.R_drew)); exact HO_6.out⟩, ⟨by repeat (first | (with_reducible first | exact HB.out | apply below_alloc | apply pw_below_drewN | apply below_drew1) | exact HB.out)⟩⟩
       case rest =>
        clear HC9
        try clear c1
        try clear p2
        try clear c3
        try clear c3b0
        try clear c3b1
        try clear c6
        try clear c6b0
        try clear p6
        try clear c7
        try clear c10
        try clear c10b0
        try clear p2
        try clear p6
        obtain ⟨kq, x41_8, rfl, HA, HJ8, HO_6, HB⟩ := hcut
        cases kq with
        | zero => exact absurd HA.out (by simp [dominolaw13_AcksAll.j2])
        | succ kj8 =>
         have H := HA.out
         clear HA
         simp only [dominolaw13_AcksAll.j2] at H
         by_cases c11 : x41_8 = true
         ·subst c11
          have H1 : (if 0 ≤ x8_2 then (if x8_2 < (l1.length : Int) then (if (Int.tmod (rd l1 x8_2) 2) = 1 then (if 0 ≤ (wrap64 (x8_2 + 1)) then (if (wrap64 (x8_2 + 1)) < (x6_2.length : Int) then (if x8_2 < (x6_2.length : Int) then (dominolaw13_AcksAll.l1 kj8 l1 (wrap64 (1 + (Int.tmod (wrap64 (a0)) 100))) ((x6_2.set (x8_2 : Int).toNat (rd x6_2 (wrap64 (x8_2 + 1)))).set ((wrap64 (x8_2 + 1)) : Int).toNat (rd x6_2 x8_2)) (wrap64 (x8_2 + 1))) else (none)) else (none)) else (none)) else (dominolaw13_AcksAll.l1 kj8 l1 (wrap64 (1 + (Int.tmod (wrap64 (a0)) 100))) x6_2 (wrap64 (x8_2 + 1)))) else (none)) else (none)) = some r := by rw [if_pos rfl] at H; exact H
          clear H
          have H := H1
          clear H1
          by_cases c12 : 0 ≤ x8_2
          ·rw [if_pos c12] at H
           have c12b0 : decide (0 ≤ x8_2) = true := decide_eq_true c12
           clear c12
           by_cases c13 : x8_2 < (l1.length : Int)
           ·rw [if_pos c13] at H
            have c13b0 : decide (x8_2 < (l1.length : Int)) = true := decide_eq_true c13
            clear c13
            by_cases c14 : (Int.tmod (rd l1 x8_2) 2) = 1
            ·rw [if_pos c14] at H
             have c14b0 : ((Int.tmod (rd l1 x8_2) 2) == 1) = true := beq_iff_eq.mpr c14
             have c14b1 : ((Int.tmod (rd l1 x8_2) 2) != 1) = false := bne_eq_false_iff_eq.mpr c14
             clear c14
             obtain ⟨ji15, hji15⟩ : ∃ j_ : Int, (wrap64 (x8_2 + 1)) = j_ := ⟨_, rfl⟩
             replace H : (if 0 ≤ (ji15) then (if (ji15) < (x6_2.length : Int) then (if x8_2 < (x6_2.length : Int) then (dominolaw13_AcksAll.l1 kj8 l1 (wrap64 (1 + (Int.tmod (wrap64 (a0)) 100))) ((x6_2.set (x8_2 : Int).toNat (rd x6_2 (ji15))).set ((ji15) : Int).toNat (rd x6_2 x8_2)) ji15) else (none)) else (none)) else (none)) = some r := by first | (rw [hji15] at H; exact H) | (simp only [hji15] at H ⊢; exact H)
             have hji15w : (IntKind.i64.wrap (x8_2 + 1)) = ji15 := (i64_w _).trans hji15
             by_cases c16 : 0 ≤ (ji15)
             ·rw [if_pos c16] at H
              have c16b0 : decide (0 ≤ (ji15)) = true := decide_eq_true c16
              clear c16
              by_cases c17 : (ji15) < (x6_2.length : Int)
              ·rw [if_pos c17] at H
               have c17b0 : decide ((ji15) < (x6_2.length : Int)) = true := decide_eq_true c17
               clear c17
               by_cases c18 : x8_2 < (x6_2.length : Int)
               ·rw [if_pos c18] at H
                have c18b0 : decide (x8_2 < (x6_2.length : Int)) = true := decide_eq_true c18
                clear c18
                obtain ⟨y252, hy252⟩ : ∃ y_ : List Int, y_ = (x6_2.set (x8_2 : Int).toNat (rd x6_2 (ji15))) := ⟨_, rfl⟩
                replace H : (dominolaw13_AcksAll.l1 kj8 l1 (wrap64 (1 + (Int.tmod (wrap64 (a0)) 100))) (y252.set ((ji15) : Int).toNat (rd x6_2 x8_2)) ji15) = some r := by first | (rw [hy252]; with_reducible exact H) | (have H2_ := (Option.bind_some _ _).symm.trans H; rw [hy252]; with_reducible exact H2_) | (have H2_ := (Option.bind_some _ _).symm.trans H; with_reducible exact H2_) | with_reducible exact H | (rw [hy252]; exact H) | exact H
                have Ny252 := Aside0.mk hy252
                clear hy252
                obtain ⟨y253, hy253⟩ : ∃ y_ : List Int, y_ = (y252.set ((ji15) : Int).toNat (rd x6_2 x8_2)) := ⟨_, rfl⟩
                replace H : (dominolaw13_AcksAll.l1 kj8 l1 (wrap64 (1 + (Int.tmod (wrap64 (a0)) 100))) y253 ji15) = some r := by first | (rw [hy253]; with_reducible exact H) | (have H2_ := (Option.bind_some _ _).symm.trans H; rw [hy253]; with_reducible exact H2_) | (have H2_ := (Option.bind_some _ _).symm.trans H; with_reducible exact H2_) | with_reducible exact H | (rw [hy253]; exact H) | exact H
                have Ny253 := Aside0.mk hy253
                clear hy253
                have H' := Aside0.mk H
                clear H
                have p249 : 0 ≤ (x8_2 : Int) := of_decide_eq_true (by first | (with_reducible assumption) | assumption)
                have q249 : x8_2 < (l1.length : Int) := of_decide_eq_true (by first | (with_reducible assumption) | assumption)
                obtain ⟨ad249, e249, hx249_0⟩ := Kd.at_int HR1.out x8_2 p249 q249
                cases e249
                replace hx249_0 := (HB.out.cell (World.block_lt_of_cell? w _ hx249_0)).trans hx249_0
                replace p249 := eq_true p249
                replace q249 := eq_true q249
                try go_wp2
                have n0_ := Aside0.mk (Kd.R_drew HO_6.out)
                have n1_ := Aside0.mk (below_drew1 HB.out)
                clear HO_6
                clear HB
                have HO_6 := n0_
                have HB := n1_
                clear n0_ n1_
                obtain ⟨Ao22, co22, eo22⟩ := Kd.R_slice HO_6.out
                (first | subst eo22 | (injection eo22 with f1_ f2_ f3_; have f4_ := f1_.symm; have f5_ := f3_.symm; clear f1_ f2_ f3_; subst f4_; subst f5_))
                have p250 : 0 ≤ ((ji15) : Int) := of_decide_eq_true (by first | (with_reducible assumption) | assumption)
                have q250 : (ji15) < (x6_2.length : Int) := of_decide_eq_true (by first | (with_reducible assumption) | assumption)
                obtain ⟨ad250, e250, hx250_0⟩ := Kd.at_int (Kd.R_reads' HO_6.out).2.2 (ji15) p250 q250
                cases e250
                replace p250 := eq_true p250
                replace q250 := eq_true q250
                have p251 : 0 ≤ (x8_2 : Int) := of_decide_eq_true (by first | (with_reducible assumption) | assumption)
                have q251 : x8_2 < (x6_2.length : Int) := of_decide_eq_true (by first | (with_reducible assumption) | assumption)
                obtain ⟨ad251, e251, hx251_0⟩ := Kd.at_int (Kd.R_reads' HO_6.out).2.2 x8_2 p251 q251
                obtain rfl : ad250 = ad251 := (by injection e251)
                replace p251 := eq_true p251
                replace q251 := eq_true q251
                have p19 : 0 ≤ (x8_2 : Int) := of_decide_eq_true (by first | (with_reducible assumption) | assumption)
                have q19 : (x8_2 : Int) < ((x6_2.length : Int) : Int) := of_decide_eq_true (by first | (with_reducible assumption) | assumption)
                obtain ⟨go19, co19, eo19, gb19, gl19, cl19, HG19⟩ := Kd.R_form HO_6.out (by omega)
                (first | cases eo19 | (injection eo19 with ea_ en_ ec_; (first | subst ea_ | (injection ea_ with ea_; subst ea_)); subst ec_; clear en_))
                have GB19 := Aside0.mk gb19
                have GG19 := Aside0.mk HG19
                clear gb19 gl19 HG19
                (first | simp only [add_plain] at hx250_0 | skip)
                (first | simp only [add_plain] at hx251_0 | skip)
                obtain ⟨hx19_0, hf19_0⟩ := Kd.R_celln 0 HO_6.out (x8_2 : Int) p19 q19
                replace p19 := eq_true p19
                replace q19 := eq_true q19
                have HP23 := Kd.R_putn HO_6.out (x8_2 : Int) (rd x6_2 (ji15))
                rw [← Ny252.out] at HP23
                have HQ23 := Aside0.mk HP23
                clear HP23
                have p20 : 0 ≤ ((ji15) : Int) := of_decide_eq_true (by first | (with_reducible assumption) | assumption)
                have q20 : ((ji15) : Int) < ((x6_2.length : Int) : Int) := of_decide_eq_true (by first | (with_reducible assumption) | assumption)
                obtain ⟨hx20_0, hf20_0⟩ := Kd.R_celln 0 HQ23.out ((ji15) : Int) p20 q20
                replace p20 := eq_true p20
                replace q20 := eq_true q20
                have HP24 := Kd.R_putn HQ23.out ((ji15) : Int) (rd x6_2 x8_2)
                rw [← Ny253.out] at HP24
                have HQ24 := Aside0.mk HP24
                clear HP24
                refine start_ (n := 18) (S := fun w' => w'.cell? ⟨go19, ((ji15)).toNat, none⟩ = some (.int .u64 (rd x6_2 (ji15))) ∧ w'.cell? ⟨go19, (x8_2).toNat, none⟩ = some (.int .u64 (rd x6_2 x8_2))) (ds := [15, 17]) #[false,false,false,false,false,false,false,false,false,false,false,false,false,false,false,false,false,false] (by kernel_rfl) rfl rfl ⟨hx250_0, hx251_0⟩ (fun hHeld => ?_); refine with_tabW dominolaw13_AcksAll.tab11 dominolaw13_AcksAll.bits11 (fun HT_ HW_ => ?_)
                generalize wc.drew = w21 at HO_6 HB GG19 HQ23 HQ24 hf19_0 hf20_0 hx19_0 hx20_0 hx250_0 hx251_0 hHeld ⊢
                refine pure_ (i := 0) (N := some 50) (v := ?_) (a' := ?_) #[true,false,false,false,false,false,false,false,false,false,false,false,false,false,false,false,false,false] rfl rfl (any_of HT_.out (by kernel_rfl)) (fun _ _ _ h => h) (Or.inl ⟨by rfl, ?_⟩) ?_ ?_
                rotate_left;(intro w';go_simp;with_reducible rfl);rotate_left;(simp only [Act.put, List.setIfInBounds_toArray, List.set_cons_zero, List.set_cons_succ, i64_w, i32_w];rfl)
                refine pure_ (i := 1) (N := some 51) (v := ?_) (a' := ?_) #[true,true,false,false,false,false,false,false,false,false,false,false,false,false,false,false,false,false] rfl rfl (any_of HT_.out (by kernel_rfl)) (fun _ _ _ h => h) (Or.inl ⟨by rfl, ?_⟩) ?_ ?_
                rotate_left;(intro w';go_simp;with_reducible rfl);rotate_left;(simp only [Act.put, List.setIfInBounds_toArray, List.set_cons_zero, List.set_cons_succ, i64_w, i32_w];rfl)
                refine pure_ (i := 2) (N := some 52) (v := ?_) (a' := ?_) #[true,true,true,false,false,false,false,false,false,false,false,false,false,false,false,false,false,false] rfl rfl (any_of HT_.out (by kernel_rfl)) (fun _ _ _ h => h) (Or.inl ⟨by rfl, ?_⟩) ?_ ?_
                rotate_left;(intro w';go_simp;with_reducible rfl);rotate_left;(simp only [Act.put, List.setIfInBounds_toArray, List.set_cons_zero, List.set_cons_succ, i64_w, i32_w];rfl)
                refine pure_ (i := 3) (N := some 53) (v := ?_) (a' := ?_) #[true,true,true,true,false,false,false,false,false,false,false,false,false,false,false,false,false,false] rfl rfl (any_of HT_.out (by kernel_rfl)) (fun _ _ _ h => h) (Or.inl ⟨by rfl, ?_⟩) ?_ ?_
                rotate_left;(intro w';go_simp;with_reducible rfl);rotate_left;(simp only [Act.put, List.setIfInBounds_toArray, List.set_cons_zero, List.set_cons_succ, i64_w, i32_w];rfl)
                refine pure_ (i := 4) (N := some 54) (v := ?_) (a' := ?_) #[true,true,true,true,true,false,false,false,false,false,false,false,false,false,false,false,false,false] rfl rfl (any_of HT_.out (by kernel_rfl)) (fun _ _ _ h => h) (Or.inl ⟨by rfl, ?_⟩) ?_ ?_
                rotate_left;(intro w';go_simp;with_reducible rfl);rotate_left;(simp only [Act.put, List.setIfInBounds_toArray, List.set_cons_zero, List.set_cons_succ, i64_w, i32_w];rfl)
                refine pure_ (i := 5) (N := some 55) (v := ?_) (a' := ?_) #[true,true,true,true,true,true,false,false,false,false,false,false,false,false,false,false,false,false] rfl rfl (any_of HT_.out (by kernel_rfl)) (fun _ _ _ h => h) (Or.inl ⟨by rfl, ?_⟩) ?_ ?_
                rotate_left;(intro w';go_simp;with_reducible rfl);rotate_left;(simp only [Act.put, List.setIfInBounds_toArray, List.set_cons_zero, List.set_cons_succ, i64_w, i32_w];rfl)
                refine pure_ (i := 6) (N := some 56) (v := ?_) (a' := ?_) #[true,true,true,true,true,true,true,false,false,false,false,false,false,false,false,false,false,false] rfl rfl (any_of HT_.out (by kernel_rfl)) (fun _ _ _ h => h) (Or.inl ⟨by rfl, ?_⟩) ?_ ?_
                rotate_left;(intro w';go_simp;with_reducible rfl);rotate_left;(simp only [Act.put, List.setIfInBounds_toArray, List.set_cons_zero, List.set_cons_succ, i64_w, i32_w];rfl)
                refine pure_ (i := 7) (N := some 57) (v := ?_) (a' := ?_) #[true,true,true,true,true,true,true,true,false,false,false,false,false,false,false,false,false,false] rfl rfl (any_of HT_.out (by kernel_rfl)) (fun _ _ _ h => h) (Or.inl ⟨by rfl, ?_⟩) ?_ ?_
                rotate_left;(intro w';go_simp;with_reducible rfl);rotate_left;(simp only [Act.put, List.setIfInBounds_toArray, List.set_cons_zero, List.set_cons_succ, i64_w, i32_w];rfl)
                refine pure_ (i := 8) (N := some 58) (v := ?_) (a' := ?_) #[true,true,true,true,true,true,true,true,true,false,false,false,false,false,false,false,false,false] rfl rfl (any_of HT_.out (by kernel_rfl)) (fun _ _ _ h => h) (Or.inl ⟨by rfl, ?_⟩) ?_ ?_
                rotate_left;(intro w';go_simp;with_reducible rfl);rotate_left;(simp only [Act.put, List.setIfInBounds_toArray, List.set_cons_zero, List.set_cons_succ, i64_w, i32_w];rfl)
                refine pure_ (i := 10) (N := some 60) (v := ?_) (a' := ?_) #[true,true,true,true,true,true,true,true,true,false,true,false,false,false,false,false,false,false] rfl rfl (any_of HT_.out (by kernel_rfl)) (fun _ _ _ h => h) (Or.inl ⟨by rfl, ?_⟩) ?_ ?_
                rotate_left;(intro w';go_simp;with_reducible rfl);rotate_left;(simp only [Act.put, List.setIfInBounds_toArray, List.set_cons_zero, List.set_cons_succ, i64_w, i32_w];rfl)
                refine pure_ (i := 11) (N := some 61) (v := ?_) (a' := ?_) #[true,true,true,true,true,true,true,true,true,false,true,true,false,false,false,false,false,false] rfl rfl (any_of HT_.out (by kernel_rfl)) (fun _ _ _ h => h) (Or.inl ⟨by rfl, ?_⟩) ?_ ?_
                rotate_left;(intro w';go_simp;with_reducible rfl);rotate_left;(simp only [Act.put, List.setIfInBounds_toArray, List.set_cons_zero, List.set_cons_succ, i64_w, i32_w];rfl)
                refine pure_ (i := 12) (N := some 62) (v := ?_) (a' := ?_) #[true,true,true,true,true,true,true,true,true,false,true,true,true,false,false,false,false,false] rfl rfl (any_of HT_.out (by kernel_rfl)) (fun _ _ _ h => h) (Or.inl ⟨by rfl, ?_⟩) ?_ ?_
                rotate_left;(intro w';go_simp;with_reducible rfl);rotate_left;(simp only [Act.put, List.setIfInBounds_toArray, List.set_cons_zero, List.set_cons_succ, i64_w, i32_w];rfl)
                refine take_ (i := 9) (N := some 59) (v := ?_) (a' := ?_) #[true,true,true,true,true,true,true,true,true,true,true,true,true,false,false,false,false,false] rfl rfl (take_ofW HT_.out HW_.out (by kernel_rfl)) (fun _ _ _ h => h) (Or.inl ⟨by rfl, ?_⟩) hHeld ?_ ?_
                rotate_left
                ·rintro w' ⟨s0, s1⟩
                 go_simp
                 with_reducible rfl
                rotate_left
                ·simp only [Act.put, List.setIfInBounds_toArray, List.set_cons_zero, List.set_cons_succ, i64_w, i32_w]
                 rfl
                refine take_ (i := 13) (N := some 63) (v := ?_) (a' := ?_) #[true,true,true,true,true,true,true,true,true,true,true,true,true,true,false,false,false,false] rfl rfl (take_ofW HT_.out HW_.out (by kernel_rfl)) (fun _ _ _ h => h) (Or.inl ⟨by rfl, ?_⟩) hHeld ?_ ?_
                rotate_left
                ·rintro w' ⟨s0, s1⟩
                 go_simp
                 with_reducible rfl
                rotate_left
                ·simp only [Act.put, List.setIfInBounds_toArray, List.set_cons_zero, List.set_cons_succ, i64_w, i32_w]
                 rfl
                refine pure_ (i := 14) (N := some 64) (v := ?_) (a' := ?_) #[true,true,true,true,true,true,true,true,true,true,true,true,true,true,true,false,false,false] rfl rfl (any_of HT_.out (by kernel_rfl)) (fun _ _ _ h => h) (Or.inl ⟨by rfl, ?_⟩) ?_ ?_
                rotate_left;(intro w';go_simp;with_reducible rfl);rotate_left;(simp only [Act.put, List.setIfInBounds_toArray, List.set_cons_zero, List.set_cons_succ, i64_w, i32_w];rfl)
                refine last_ (i := 15) (N := none) #[true,true,true,true,true,true,true,true,true,true,true,true,true,true,true,true,false,false] rfl rfl (one_of HT_.out (by kernel_rfl)) (by decide) (fun K hK => ?_)
                refine skip_ (w1 := ?_) (by rfl) rfl ?_ ?_
                rotate_left
                ·go_simp
                 rfl
                refine hK.out _ _ ?_
                clear hK K
                refine pure_ (i := 16) (N := some 65) (v := ?_) (a' := ?_) #[true,true,true,true,true,true,true,true,true,true,true,true,true,true,true,true,true,false] rfl rfl (any_of HT_.out (by kernel_rfl)) (fun _ _ _ h => h) (Or.inl ⟨by rfl, ?_⟩) ?_ ?_
                rotate_left;(intro w';go_simp;with_reducible rfl);rotate_left;(simp only [Act.put, List.setIfInBounds_toArray, List.set_cons_zero, List.set_cons_succ, i64_w, i32_w];rfl)
                refine last_ (i := 17) (N := none) #[true,true,true,true,true,true,true,true,true,true,true,true,true,true,true,true,true,true] rfl rfl (one_of HT_.out (by kernel_rfl)) (by decide) (fun K hK => ?_)
                refine skip_ (w1 := ?_) (by rfl) rfl ?_ ?_
                rotate_left
                ·go_simp
                 rfl
                refine hK.out _ _ ?_
                clear hK K
                refine done_ (done_of HT_.out (by kernel_rfl)) ?_
                try go_wp2
                go_roundg kj8
                case measure => have := HK1.out; have := HK2.out; have := HJ8.out; omega
                case rel => exact ⟨(y253), (ji15), (by first | rfl | (simp; done) | (simp only [← hji15] <;> (first | rfl | simp)) | (simp [*]; done)), H', ⟨by have := HK1.out; have := HK2.out; have := HJ8.out; omega⟩, ⟨by (with_reducible repeat (first | apply Kd.R_alloc | apply Kd.R_drewN | apply Kd.R_drew)); exact HQ24.out⟩, ⟨by repeat (first | (with_reducible first | exact HB.out | apply below_alloc | apply pw_below_drewN | apply below_drew1 | refine below_set ?_ GB19.out | refine below_set ?_ GB19.out) | exact HB.out)⟩⟩
               ·rw [if_neg c18] at H
                exact absurd H (by simp)
              ·rw [if_neg c17] at H
               exact absurd H (by simp)
             ·rw [if_neg c16] at H
              exact absurd H (by simp)
            ·rw [if_neg c14] at H
             have c14b0 : ((Int.tmod (rd l1 x8_2) 2) == 1) = false := beq_eq_false_iff_ne.mpr c14
             have c14b1 : ((Int.tmod (rd l1 x8_2) 2) != 1) = true := bne_iff_ne.mpr c14
             have H' := Aside0.mk H
             clear H
             have p249 : 0 ≤ (x8_2 : Int) := of_decide_eq_true (by first | (with_reducible assumption) | assumption)
             have q249 : x8_2 < (l1.length : Int) := of_decide_eq_true (by first | (with_reducible assumption) | assumption)
             obtain ⟨ad249, e249, hx249_0⟩ := Kd.at_int HR1.out x8_2 p249 q249
             cases e249
             replace hx249_0 := (HB.out.cell (World.block_lt_of_cell? w _ hx249_0)).trans hx249_0
             replace p249 := eq_true p249
             replace q249 := eq_true q249
             go_wp2
             go_roundg kj8
             case measure => have := HK1.out; have := HK2.out; have := HJ8.out; omega
             case rel => exact ⟨(x6_2), (wrap64 (x8_2 + 1)), (by first | rfl | (simp; done) | (simp [*]; done)), H', ⟨by have := HK1.out; have := HK2.out; have := HJ8.out; omega⟩, ⟨by (with_reducible repeat (first | apply Kd.R_alloc | apply Kd.R_drewN | apply Kd.R_drew)); exact HO_6.out⟩, ⟨by repeat (first | (with_reducible first | exact HB.out | apply below_alloc | apply pw_below_drewN | apply below_drew1) | exact HB.out)⟩⟩
           ·rw [if_neg c13] at H
            exact absurd H (by simp)
          ·rw [if_neg c12] at H
           exact absurd H (by simp)
         ·replace c11 := Bool.eq_false_iff.mpr c11
          subst c11
          have H1 : (dominolaw13_AcksAll.l2 kj8 (wrap64 (1 + (Int.tmod (wrap64 (a0)) 100))) x6_2 0 ([] : List (S44)) 0 0 0 0) = some r := by rw [if_neg (show ¬ (false = true) by decide)] at H; exact H
          clear H
          have H := H1
          clear H1
          have H' := Aside0.mk H
          clear H
          go_wp2_with (first | ((with_reducible refine gate_dst (N := 9) rfl ?_); (try (refine gate_guard (by rfl) ?_; dsimp only)); refine box_event ?hg (N := 9) ?hd (cs := #[.slice none 0 0, .int .u64 0, .int .i64 0, .int .i64 0, .int .i64 0]) (t := 28) ?hr ?_; (case hd => rfl); (case hg => rfl); (case hr => first | (go_simp; done) | (go_simp; rfl)); intro gb254 hg w25 hbox hb; have n0_ := Aside0.mk (Kd.R_below (by (with_reducible repeat (first | apply Kd.R_alloc | apply Kd.R_drewN | apply Kd.R_drew)); exact HO_6.out) hb); have n1_ := Aside0.mk (below_step (by repeat (first | (with_reducible first | exact HB.out | apply below_alloc | apply pw_below_drewN | apply below_drew1) | exact HB.out)) hb); have n2_ := Aside0.mk (hbox); have n3_ := Aside0.mk ((by rw [hg]; exact (below_size (by repeat (first | (with_reducible first | exact HB.out | apply below_alloc | apply pw_below_drewN | apply below_drew1) | exact HB.out))) : w.heap.size ≤ gb254)); have n4_ := Aside0.mk ((by rw [hg]; exact (below_size (by repeat (first | (with_reducible first | exact HB.out | apply below_alloc | apply pw_below_drewN | apply below_drew1) | exact HB.out))) : w.heap.size ≤ gb254)); clear HO_6; clear HB; have HO_6 := n0_; have HB := n1_; have BK254 := n2_; have GW254 := n3_; have GE254 := n4_; clear n0_ n1_ n2_ n3_ n4_; clear hb hbox hg; have hcz26_0 : w25.cell? ⟨gb254, 0, none⟩ = some (.slice none 0 0) := (blk_cell BK254.out 0).trans rfl; have hcz26_1 : w25.cell? ⟨gb254, 1, none⟩ = some (.int .u64 0) := (blk_cell BK254.out 1).trans rfl; have hcz26_2 : w25.cell? ⟨gb254, 2, none⟩ = some (.int .i64 0) := (blk_cell BK254.out 2).trans rfl; have hcz26_3 : w25.cell? ⟨gb254, 3, none⟩ = some (.int .i64 0) := (blk_cell BK254.out 3).trans rfl; have hcz26_4 : w25.cell? ⟨gb254, 4, none⟩ = some (.int .i64 0) := (blk_cell BK254.out 4).trans rfl; have hfz26_0 := blk_frozen BK254.out 0; have hfz26_1 := blk_frozen BK254.out 1; have hfz26_2 := blk_frozen BK254.out 2; have hfz26_3 := blk_frozen BK254.out 3; have hfz26_4 := blk_frozen BK254.out 4))
          go_loopg [10] kj8 (fun kq v10 w' => ∃ (x10_4 : Int) (x255000_4 : List (S44)) (x255001_4 : Int) (x255002_4 : Int) (x255003_4 : Int) (x255004_4 : Int) (u255000 : Value), v10 = .int .i64 x10_4 ∧ Aside0 (dominolaw13_AcksAll.l2 kq (wrap64 (1 + (Int.tmod (wrap64 (a0)) 100))) x6_2 x10_4 x255000_4 x255001_4 x255002_4 x255003_4 x255004_4 = some r) ∧ Aside0 (kq ≤ kj8) ∧ Aside0 (Kd.R (Kd.int .u64) 24 w' w.heap.size (fun _ => True) u6 x6_2) ∧ Aside0 (Kd.V k44 44 w' w.heap.size (fun k_ => some k_ ≠ (u6 : Value).ownBlock ∧ k_ ≠ gb254) u255000 x255000_4) ∧ Aside0 (w'.heap[gb254]? = some (.cells #[u255000, .int .u64 x255001_4, .int .i64 x255002_4, .int .i64 x255003_4, .int .i64 x255004_4] 28 (0, 0))) ∧ Aside0 (Below w.heap.size w w'))
          case atStart => exact ⟨(0), (([] : List (S44))), (0), (0), (0), (0), (.slice none 0 0), (by first | rfl | (simp; done) | (simp [*]; done)), H', ⟨Nat.le_refl _⟩, ⟨by (with_reducible repeat (first | apply Kd.R_alloc | apply Kd.R_drewN | apply Kd.R_drew)); exact Kd.R_mono (Kd.R_far (p := ⟨gb254, 4, none⟩) (Kd.R_far (p := ⟨gb254, 3, none⟩) (Kd.R_far (p := ⟨gb254, 2, none⟩) (Kd.R_far (p := ⟨gb254, 1, none⟩) (Kd.R_far (p := ⟨gb254, 0, none⟩) (Kd.R_types HO_6.out BK254.out (by decide)) (fun _ hk => hk.2) (.slice none 0 0)) (fun _ hk => hk.2) (.int .u64 0)) (fun _ hk => hk.2) (.int .i64 0)) (fun _ hk => hk.2) (.int .i64 0)) (fun _ hk => hk.2) (.int .i64 0)) (fun _ hk => trivial)⟩, ⟨Kd.V_nil _ _ _ _ _⟩, ⟨by (with_reducible repeat (first | refine blk_drewN ?_ _ | refine blk_drew ?_ | refine blk_alloc ?_ _)); refine blk_put (cs := #[.slice none 0 0, .int .u64 0, .int .i64 0, .int .i64 0, .int .i64 0]) ?_ 4 _ rfl; (with_reducible repeat (first | refine blk_drewN ?_ _ | refine blk_drew ?_ | refine blk_alloc ?_ _)); refine blk_put (cs := #[.slice none 0 0, .int .u64 0, .int .i64 0, .int .i64 0, .int .i64 0]) ?_ 3 _ rfl; (with_reducible repeat (first | refine blk_drewN ?_ _ | refine blk_drew ?_ | refine blk_alloc ?_ _)); refine blk_put (cs := #[.slice none 0 0, .int .u64 0, .int .i64 0, .int .i64 0, .int .i64 0]) ?_ 2 _ rfl; (with_reducible repeat (first | refine blk_drewN ?_ _ | refine blk_drew ?_ | refine blk_alloc ?_ _)); refine blk_put (cs := #[.slice none 0 0, .int .u64 0, .int .i64 0, .int .i64 0, .int .i64 0]) ?_ 1 _ rfl; (with_reducible repeat (first | refine blk_drewN ?_ _ | refine blk_drew ?_ | refine blk_alloc ?_ _)); refine blk_put (cs := #[.slice none 0 0, .int .u64 0, .int .i64 0, .int .i64 0, .int .i64 0]) ?_ 0 _ rfl; (with_reducible repeat (first | refine blk_drewN ?_ _ | refine blk_drew ?_ | refine blk_alloc ?_ _)); exact BK254.out⟩, ⟨by repeat (first | (with_reducible first | exact HB.out | apply below_alloc | apply pw_below_drewN | apply below_drew1 | refine below_set ?_ GE254.out) | exact HB.out)⟩⟩
          case round =>
           clear H'
           try clear c1
           try clear p1
           try clear q1
           try clear hx1
           try clear p2
           try clear q2
           try clear hx2
           try clear hf2
           try clear c3
           try clear c3b0
           try clear c3b1
           try clear c6
           try clear c6b0
           try clear p6
           try clear c7
           try clear c10
           try clear c10b0
           try clear c11
           try clear c12
           try clear c12b0
           try clear c13
           try clear c13b0
           try clear c14
           try clear c14b0
           try clear c14b1
           try clear c16
           try clear c16b0
           try clear c17
           try clear c17b0
           try clear c18
           try clear c18b0
           try clear p19
           try clear q19
           try clear hx19
           try clear hf19
           try clear p20
           try clear q20
           try clear hx20
           try clear hf20
           try clear p24
           try clear q24
           try clear hx24
           try clear p25
           try clear q25
           try clear hx25
           try clear hcz26_0
           try clear hcz26_1
           try clear hcz26_2
           try clear hcz26_3
           try clear hcz26_4
           try clear hfz26_0
           try clear hfz26_1
           try clear hfz26_2
           try clear hfz26_3
           try clear hfz26_4
           try clear hx19_0
           try clear hx20_0
           try clear hx249_0
           try clear hx250_0
           try clear hx251_0
           try clear p19
           try clear p2
           try clear p20
           try clear p249
           try clear p250
           try clear p251
           try clear p6
           try clear q19
           try clear q20
           try clear q249
           try clear q250
           try clear q251
           obtain ⟨x10_4, x255000_4, x255001_4, x255002_4, x255003_4, x255004_4, u255000, rfl, HA, HK4, HO_6, HO_255000, BK254, HB⟩ := hrel
           cases gk with
           | zero => exact absurd HA.out (by simp [dominolaw13_AcksAll.l2])
           | succ k4 =>
            have H := HA.out
            clear HA
            simp only [dominolaw13_AcksAll.l2] at H
            by_cases c27 : x10_4 < (wrap64 (1 + (Int.tmod (wrap64 (a0)) 100)))
            ·rw [if_pos c27] at H
             have c27b0 : decide (x10_4 < (wrap64 (1 + (Int.tmod (wrap64 (a0)) 100)))) = true := decide_eq_true c27
             clear c27
             by_cases c28 : 0 ≤ x10_4
             ·rw [if_pos c28] at H
              have c28b0 : decide (0 ≤ x10_4) = true := decide_eq_true c28
              clear c28
              by_cases c29 : x10_4 < (x6_2.length : Int)
              ·rw [if_pos c29] at H
               have c29b0 : decide (x10_4 < (x6_2.length : Int)) = true := decide_eq_true c29
               clear c29
               replace H := Option.bind_eq_some_iff.mp H
               obtain ⟨⟨t256, t259, t260, t261, t262, t263⟩, A300, H⟩ := H
               replace H : (if t263 = true then (dominolaw13_AcksAll.l2 k4 (wrap64 (1 + (Int.tmod (wrap64 (a0)) 100))) x6_2 (wrap64 (x10_4 + 1)) t256 t259 t260 t261 t262) else (none)) = some r := H
               have A30 := Aside0.mk A300
               clear A300
               by_cases c31 : t263 = true
               ·subst c31
                have H1 : (dominolaw13_AcksAll.l2 k4 (wrap64 (1 + (Int.tmod (wrap64 (a0)) 100))) x6_2 (wrap64 (x10_4 + 1)) t256 t259 t260 t261 t262) = some r := by rw [if_pos rfl] at H; exact H
                clear H
                have H := H1
                clear H1
                have H' := Aside0.mk H
                clear H
                obtain ⟨Ao32, co32, eo32⟩ := Kd.V_slice HO_255000.out
                subst eo32
                try go_wp2
                have n0_ := Aside0.mk (Kd.R_drew HO_6.out)
                have n1_ := Aside0.mk (Kd.V_drew HO_255000.out)
                have n2_ := Aside0.mk (blk_drew BK254.out)
                have n3_ := Aside0.mk (below_drew1 HB.out)
                clear HO_6
                clear HO_255000
                clear BK254
                clear HB
                have HO_6 := n0_
                have HO_255000 := n1_
                have BK254 := n2_
                have HB := n3_
                clear n0_ n1_ n2_ n3_
                obtain ⟨Ao34, co34, eo34⟩ := Kd.R_slice HO_6.out
                (first | subst eo34 | (injection eo34 with f1_ f2_ f3_; have f4_ := f1_.symm; have f5_ := f3_.symm; clear f1_ f2_ f3_; subst f4_; subst f5_))
                have p255 : 0 ≤ (x10_4 : Int) := of_decide_eq_true (by first | (with_reducible assumption) | assumption)
                have q255 : x10_4 < (x6_2.length : Int) := of_decide_eq_true (by first | (with_reducible assumption) | assumption)
                obtain ⟨ad255, e255, hx255_0⟩ := Kd.at_int (Kd.R_reads' HO_6.out).2.2 x10_4 p255 q255
                cases e255
                replace p255 := eq_true p255
                replace q255 := eq_true q255
                refine start_ (n := 13) (S := fun w' => w'.cell? ⟨gb254, 0, none⟩ = some (.slice Ao32 x255000_4.length co32) ∧ w'.cell? ⟨gb254, 1, none⟩ = some (.int .u64 x255001_4) ∧ w'.cell? ⟨gb254, 2, none⟩ = some (.int .i64 x255002_4) ∧ w'.cell? ⟨gb254, 3, none⟩ = some (.int .i64 x255003_4) ∧ w'.cell? ⟨gb254, 4, none⟩ = some (.int .i64 x255004_4) ∧ w'.cell? (ad255.add (x10_4).toNat) = some (.int .u64 (rd x6_2 x10_4))) (ds := []) #[false,false,false,false,false,false,false,false,false,false,false,false,false] (by kernel_rfl) rfl rfl ⟨(blk_cell BK254.out 0).trans rfl, (blk_cell BK254.out 1).trans rfl, (blk_cell BK254.out 2).trans rfl, (blk_cell BK254.out 3).trans rfl, (blk_cell BK254.out 4).trans rfl, hx255_0⟩ (fun hHeld => ?_); refine with_tabW dominolaw13_AcksAll.tab16 dominolaw13_AcksAll.bits16 (fun HT_ HW_ => ?_)
                generalize wr.drew = w33 at HO_6 HO_255000 BK254 HB hx255_0 hHeld ⊢
                refine pure_ (i := 1) (N := some 74) (v := ?_) (a' := ?_) #[false,true,false,false,false,false,false,false,false,false,false,false,false] rfl rfl (any_of HT_.out (by kernel_rfl)) (fun _ _ _ h => h) (Or.inl ⟨by rfl, ?_⟩) ?_ ?_
                rotate_left;(intro w';go_simp;with_reducible rfl);rotate_left;(simp only [Act.put, List.setIfInBounds_toArray, List.set_cons_zero, List.set_cons_succ, i64_w, i32_w];rfl)
                refine pure_ (i := 2) (N := some 75) (v := ?_) (a' := ?_) #[false,true,true,false,false,false,false,false,false,false,false,false,false] rfl rfl (any_of HT_.out (by kernel_rfl)) (fun _ _ _ h => h) (Or.inl ⟨by rfl, ?_⟩) ?_ ?_
                rotate_left;(intro w';go_simp;with_reducible rfl);rotate_left;(simp only [Act.put, List.setIfInBounds_toArray, List.set_cons_zero, List.set_cons_succ, i64_w, i32_w];rfl)
                refine pure_ (i := 3) (N := some 76) (v := ?_) (a' := ?_) #[false,true,true,true,false,false,false,false,false,false,false,false,false] rfl rfl (any_of HT_.out (by kernel_rfl)) (fun _ _ _ h => h) (Or.inl ⟨by rfl, ?_⟩) ?_ ?_
                rotate_left;(intro w';go_simp;with_reducible rfl);rotate_left;(simp only [Act.put, List.setIfInBounds_toArray, List.set_cons_zero, List.set_cons_succ, i64_w, i32_w];rfl)
                refine pure_ (i := 5) (N := some 78) (v := ?_) (a' := ?_) #[false,true,true,true,false,true,false,false,false,false,false,false,false] rfl rfl (any_of HT_.out (by kernel_rfl)) (fun _ _ _ h => h) (Or.inl ⟨by rfl, ?_⟩) ?_ ?_
                rotate_left;(intro w';go_simp;with_reducible rfl);rotate_left;(simp only [Act.put, List.setIfInBounds_toArray, List.set_cons_zero, List.set_cons_succ, i64_w, i32_w];rfl)
                refine take_ (i := 0) (N := some 73) (v := ?_) (a' := ?_) #[true,true,true,true,false,true,false,false,false,false,false,false,false] rfl rfl (take_ofW HT_.out HW_.out (by kernel_rfl)) (fun _ _ _ h => h) (Or.inl ⟨by rfl, ?_⟩) hHeld ?_ ?_
                rotate_left
                ·rintro w' ⟨s0, s1, s2, s3, s4, s5⟩
                 go_simp
                 with_reducible rfl
                rotate_left
                ·simp only [Act.put, List.setIfInBounds_toArray, List.set_cons_zero, List.set_cons_succ, i64_w, i32_w]
                 rfl
                refine take_ (i := 4) (N := some 77) (v := ?_) (a' := ?_) #[true,true,true,true,true,true,false,false,false,false,false,false,false] rfl rfl (take_ofW HT_.out HW_.out (by kernel_rfl)) (fun _ _ _ h => h) (Or.inl ⟨by rfl, ?_⟩) hHeld ?_ ?_
                rotate_left
                ·rintro w' ⟨s0, s1, s2, s3, s4, s5⟩
                 go_simp
                 with_reducible rfl
                rotate_left
                ·simp only [Act.put, List.setIfInBounds_toArray, List.set_cons_zero, List.set_cons_succ, i64_w, i32_w]
                 rfl
                refine join_ (σ := Value × Nat) 2 #[true,true,true,true,true,true,true,true,true,true,true,false,false] (fun s_ => [(79, .tuple #[.agg #[s_.1, .int .u64 t259, .int .i64 t260, .int .i64 t261, .int .i64 t262], .bool true]), (11, .pointer (some ⟨s_.2, 0, none⟩)), (72, .tuple #[.agg #[s_.1, .int .u64 t259, .int .i64 t260, .int .i64 t261, .int .i64 t262], .bool true]), (80, .agg #[s_.1, .int .u64 t259, .int .i64 t260, .int .i64 t261, .int .i64 t262]), (81, .bool true)]) (fun s_ w' => (w'.cell? ⟨gb254, 0, none⟩ = some (.slice Ao32 x255000_4.length co32) ∧ w'.cell? ⟨gb254, 1, none⟩ = some (.int .u64 x255001_4) ∧ w'.cell? ⟨gb254, 2, none⟩ = some (.int .i64 x255002_4) ∧ w'.cell? ⟨gb254, 3, none⟩ = some (.int .i64 x255003_4) ∧ w'.cell? ⟨gb254, 4, none⟩ = some (.int .i64 x255004_4) ∧ w'.cell? (ad255.add (x10_4).toNat) = some (.int .u64 (rd x6_2 x10_4))) ∧ (Kd.V k44 44 w' w.heap.size (fun k_ => some k_ ≠ (.slice (some ad255) x6_2.length co34 : Value).ownBlock ∧ k_ ≠ gb254 ∧ k_ ≠ s_.2) s_.1 t256) ∧ (Kd.V k44 44 w' w.heap.size (fun k_ => some k_ ≠ (.slice (some ad255) x6_2.length co34 : Value).ownBlock ∧ k_ ≠ gb254 ∧ k_ ≠ s_.2) (.slice Ao32 x255000_4.length co32) x255000_4) ∧ (Kd.R (Kd.int .u64) 24 w' w.heap.size (fun _ => True) (.slice (some ad255) x6_2.length co34) x6_2) ∧ (w'.heap[gb254]? = some (.cells #[.slice Ao32 x255000_4.length co32, .int .u64 x255001_4, .int .i64 x255002_4, .int .i64 x255003_4, .int .i64 x255004_4] 28 (0, 0))) ∧ (w'.heap[s_.2]? = some (.cells #[.slice none 0 0, .int .u64 0, .int .i64 0, .int .i64 0, .int .i64 0] 28 (0, 0))) ∧ (w.heap.size ≤ s_.2) ∧ (w.heap.size ≤ s_.2) ∧ (gb254 ≠ s_.2) ∧ (s_.2 ≠ gb254) ∧ (Below w.heap.size w w')) ?_ ?_
                rotate_left
                ·intro hCont
                 refine two_ (i := 6) (j := 10) (Ni := some 79) (Nj := some 11) #[true,true,true,true,true,true,true,false,false,false,false,false,false] #[true,true,true,true,true,true,false,false,false,false,true,false,false] rfl rfl rfl rfl (two_of HT_.out (by kernel_rfl)) (by decide) (by decide) (fun K hK => ?_) (fun K hK => ?_)
                 ·skip
                  refine goes_ Try.func7 (by kernel_rfl) rfl #[.agg #[.slice Ao32 x255000_4.length co32, .int .u64 x255001_4, .int .i64 x255002_4, .int .i64 x255003_4, .int .i64 x255004_4], .int .u64 (rd x6_2 x10_4), .bool true, .int .i64 x10_4] (by rfl) rfl rfl (by (try simp only [List.map_toArray, List.map_cons, List.map_nil]); first | done | rfl | (simp only [List.length_drop, List.length_take]; rfl)) ?_
                  with_reducible refine (acks_Got.calls k4 (fun k_ => (some k_ ≠ (.slice (some ad255) x6_2.length co34 : Value).ownBlock ∧ k_ ≠ gb254)) _ _ x255000_4 x255001_4 x255002_4 x255003_4 x255004_4 (rd x6_2 x10_4) true x10_4 t256 t259 t260 t261 t262 true _ ?side1 A30.out).mono ?_
                  (case side1 => exact HO_255000.out)
                  rintro e w35 ⟨v257, rfl, ho0, hb⟩
                  have HS5_ := (hb.cell (World.block_lt_of_cell? _ _ (hHeld.2.2.2.2.2))).trans (hHeld.2.2.2.2.2)
                  refine ⟨_, rfl, ?_⟩
                  have n0_ := Aside0.mk (Kd.R_below (by (with_reducible repeat (first | apply Kd.R_alloc | apply Kd.R_drewN | apply Kd.R_drew)); exact HO_6.out) hb)
                  have n1_ := Aside0.mk (Kd.V_below (by (with_reducible repeat (first | apply Kd.V_alloc | apply Kd.V_drewN | apply Kd.V_drew)); exact HO_255000.out) hb)
                  have n2_ := Aside0.mk (Kd.V_lower (Kd.V_mono (ok' := fun k_ => some k_ ≠ (.slice (some ad255) x6_2.length co34 : Value).ownBlock ∧ k_ ≠ gb254) ho0 (fun k_ hk_ => ⟨Or.elim hk_ (fun hs_ => hs_.1) (fun hn_ => (Kd.fresh' (Kd.R_lt (by (with_reducible repeat (first | apply Kd.R_alloc | apply Kd.R_drewN | apply Kd.R_drew)); exact HO_6.out)) k_ hn_)), Or.elim hk_ (fun hs_ => hs_.2) (fun hn_ => (Kd.freshB (g := gb254) (o := .cells #[.slice Ao32 x255000_4.length co32, .int .u64 x255001_4, .int .i64 x255002_4, .int .i64 x255003_4, .int .i64 x255004_4] 28 (0, 0)) (by (with_reducible repeat (first | refine blk_drewN ?_ _ | refine blk_drew ?_ | refine blk_alloc ?_ _)); exact BK254.out) k_ hn_))⟩)) (below_size (by repeat (first | (with_reducible first | exact HB.out | apply below_alloc | apply pw_below_drewN | apply below_drew1 | refine below_set ?_ GE254.out) | exact HB.out))))
                  have n3_ := Aside0.mk (blk_below (g := gb254) (o := .cells #[.slice Ao32 x255000_4.length co32, .int .u64 x255001_4, .int .i64 x255002_4, .int .i64 x255003_4, .int .i64 x255004_4] 28 (0, 0)) (by (with_reducible repeat (first | refine blk_drewN ?_ _ | refine blk_drew ?_ | refine blk_alloc ?_ _)); exact BK254.out) hb)
                  have n4_ := Aside0.mk (below_step (by repeat (first | (with_reducible first | exact HB.out | apply below_alloc | apply pw_below_drewN | apply below_drew1 | refine below_set ?_ GE254.out) | exact HB.out)) hb)
                  clear HO_6
                  clear HO_255000
                  clear BK254
                  clear HB
                  have HO_6 := n0_
                  have HO_255000 := n1_
                  have HO258 := n2_
                  have BK254 := n3_
                  have HB := n4_
                  clear n0_ n1_ n2_ n3_ n4_
                  (try clear hb)
                  (try clear hb2)
                  (try clear hk)
                  (try clear hi)
                  (try clear ho0)
                  refine hK.out _ _ ⟨(blk_cell BK254.out 0).trans rfl, (blk_cell BK254.out 1).trans rfl, (blk_cell BK254.out 2).trans rfl, (blk_cell BK254.out 3).trans rfl, (blk_cell BK254.out 4).trans rfl, HS5_⟩ (fun hHeld => ?_)
                  clear hK K
                  refine norm_ (a' := ?_) ?_ ?_
                  rotate_left
                  ·show Act.put _ (some 79) _ = _
                   simp only [Act.put, List.setIfInBounds_toArray, List.set_cons_zero, List.set_cons_succ, i64_w, i32_w]
                   rfl
                  refine pure_ (i := 7) (N := some 72) (v := ?_) (a' := ?_) #[true,true,true,true,true,true,true,true,false,false,false,false,false] rfl rfl (any_of HT_.out (by kernel_rfl)) (fun _ _ _ h => h) (Or.inl ⟨by rfl, ?_⟩) ?_ ?_
                  rotate_left;(intro w';go_simp;with_reducible rfl);rotate_left;(simp only [Act.put, List.setIfInBounds_toArray, List.set_cons_zero, List.set_cons_succ, i64_w, i32_w];rfl)
                  refine pure_ (i := 8) (N := some 80) (v := ?_) (a' := ?_) #[true,true,true,true,true,true,true,true,true,false,false,false,false] rfl rfl (any_of HT_.out (by kernel_rfl)) (fun _ _ _ h => h) (Or.inl ⟨by rfl, ?_⟩) ?_ ?_
                  rotate_left;(intro w';go_simp;with_reducible rfl);rotate_left;(simp only [Act.put, List.setIfInBounds_toArray, List.set_cons_zero, List.set_cons_succ, i64_w, i32_w];rfl)
                  refine pure_ (i := 9) (N := some 81) (v := ?_) (a' := ?_) #[true,true,true,true,true,true,true,true,true,true,false,false,false] rfl rfl (any_of HT_.out (by kernel_rfl)) (fun _ _ _ h => h) (Or.inl ⟨by rfl, ?_⟩) ?_ ?_
                  rotate_left;(intro w';go_simp;with_reducible rfl);rotate_left;(simp only [Act.put, List.setIfInBounds_toArray, List.set_cons_zero, List.set_cons_succ, i64_w, i32_w];rfl)
                  refine one_ (i := 10) (N := some 11) #[true,true,true,true,true,true,true,true,true,true,true,false,false] rfl rfl (one_of HT_.out (by kernel_rfl)) (by decide) (fun K hK => ?_)
                  refine box_step ?hg (N := 11) ?hd (cs := #[.slice none 0 0, .int .u64 0, .int .i64 0, .int .i64 0, .int .i64 0]) (t := 28) ?hr ?_; (case hd => rfl); (case hg => rfl); (case hr => first | (go_simp; done) | (go_simp; rfl))
                  intro gb264 hg w36 hbox hb
                  have HS5_ := (hb.cell (World.block_lt_of_cell? _ _ (hHeld.2.2.2.2.2))).trans (hHeld.2.2.2.2.2)
                  have n0_ := Aside0.mk (Kd.R_below (by (with_reducible repeat (first | apply Kd.R_alloc | apply Kd.R_drewN | apply Kd.R_drew)); exact HO_6.out) hb)
                  have n1_ := Aside0.mk (Kd.V_below (Kd.V_elderB (by (with_reducible repeat (first | apply Kd.V_alloc | apply Kd.V_drewN | apply Kd.V_drew)); exact HO_255000.out) gb264 (Nat.le_of_eq hg.symm)) hb)
                  have n2_ := Aside0.mk (Kd.V_below (Kd.V_elderB (by (with_reducible repeat (first | apply Kd.V_alloc | apply Kd.V_drewN | apply Kd.V_drew)); exact HO258.out) gb264 (Nat.le_of_eq hg.symm)) hb)
                  have n3_ := Aside0.mk (blk_below (g := gb254) (o := .cells #[.slice Ao32 x255000_4.length co32, .int .u64 x255001_4, .int .i64 x255002_4, .int .i64 x255003_4, .int .i64 x255004_4] 28 (0, 0)) (by (with_reducible repeat (first | refine blk_drewN ?_ _ | refine blk_drew ?_ | refine blk_alloc ?_ _)); exact BK254.out) hb)
                  have n4_ := Aside0.mk (below_step (by repeat (first | (with_reducible first | exact HB.out | apply below_alloc | apply pw_below_drewN | apply below_drew1 | refine below_set ?_ GE254.out) | exact HB.out)) hb)
                  have n5_ := Aside0.mk (hbox)
                  have n6_ := Aside0.mk ((by rw [hg]; exact (below_size (by repeat (first | (with_reducible first | exact HB.out | apply below_alloc | apply pw_below_drewN | apply below_drew1 | refine below_set ?_ GE254.out) | exact HB.out))) : w.heap.size ≤ gb264))
                  have n7_ := Aside0.mk ((by rw [hg]; exact (below_size (by repeat (first | (with_reducible first | exact HB.out | apply below_alloc | apply pw_below_drewN | apply below_drew1 | refine below_set ?_ GE254.out) | exact HB.out))) : w.heap.size ≤ gb264))
                  have n8_ := Aside0.mk ((by rw [hg]; exact Nat.ne_of_lt (blk_lt (g := gb254) (o := .cells #[.slice Ao32 x255000_4.length co32, .int .u64 x255001_4, .int .i64 x255002_4, .int .i64 x255003_4, .int .i64 x255004_4] 28 (0, 0)) (by (with_reducible repeat (first | refine blk_drewN ?_ _ | refine blk_drew ?_ | refine blk_alloc ?_ _)); exact BK254.out)) : gb254 ≠ gb264))
                  have n9_ := Aside0.mk ((by rw [hg]; exact Nat.ne_of_gt (blk_lt (g := gb254) (o := .cells #[.slice Ao32 x255000_4.length co32, .int .u64 x255001_4, .int .i64 x255002_4, .int .i64 x255003_4, .int .i64 x255004_4] 28 (0, 0)) (by (with_reducible repeat (first | refine blk_drewN ?_ _ | refine blk_drew ?_ | refine blk_alloc ?_ _)); exact BK254.out)) : gb264 ≠ gb254))
                  clear HO_6
                  clear HO_255000
                  clear HO258
                  clear BK254
                  clear HB
                  have HO_6 := n0_
                  have HO_255000 := n1_
                  have HO258 := n2_
                  have BK254 := n3_
                  have HB := n4_
                  have BK264 := n5_
                  have GW264 := n6_
                  have GE264 := n7_
                  have NB254_264 := n8_
                  have NB264_254 := n9_
                  clear n0_ n1_ n2_ n3_ n4_ n5_ n6_ n7_ n8_ n9_
                  clear hb hbox hg
                  refine hK.out _ _ ⟨(blk_cell BK254.out 0).trans rfl, (blk_cell BK254.out 1).trans rfl, (blk_cell BK254.out 2).trans rfl, (blk_cell BK254.out 3).trans rfl, (blk_cell BK254.out 4).trans rfl, HS5_⟩ (fun hHeld => ?_)
                  clear hK K
                  refine norm_ (a' := ?_) ?_ ?_
                  rotate_left
                  ·show Act.put _ (some 11) _ = _
                   simp only [Act.put, List.setIfInBounds_toArray, List.set_cons_zero, List.set_cons_succ, i64_w, i32_w]
                   rfl
                  exact norm_ (by simp only [putAll, Act.put, List.setIfInBounds_toArray, List.set_cons_zero, List.set_cons_succ]) (hCont (v257, gb264) _ ⟨hHeld, (by (with_reducible repeat (first | apply Kd.V_alloc | apply Kd.V_drewN | apply Kd.V_drew)); exact Kd.V_mono HO258.out (fun _ hk => ⟨hk.1.1, ⟨hk.1.2, hk.2⟩⟩)), (by (with_reducible repeat (first | apply Kd.V_alloc | apply Kd.V_drewN | apply Kd.V_drew)); exact Kd.V_mono HO_255000.out (fun _ hk => ⟨hk.1.1, ⟨hk.1.2, hk.2⟩⟩)), (by (with_reducible repeat (first | apply Kd.R_alloc | apply Kd.R_drewN | apply Kd.R_drew)); exact HO_6.out), (by (with_reducible repeat (first | refine blk_drewN ?_ _ | refine blk_drew ?_ | refine blk_alloc ?_ _)); exact BK254.out), (by (with_reducible repeat (first | refine blk_drewN ?_ _ | refine blk_drew ?_ | refine blk_alloc ?_ _)); exact BK264.out), GW264.out, GE264.out, NB254_264.out, NB264_254.out, (by repeat (first | (with_reducible first | exact HB.out | apply below_alloc | apply pw_below_drewN | apply below_drew1 | refine below_set ?_ GE254.out | refine below_set ?_ GE264.out) | exact HB.out))⟩)
                 ·skip
                  refine box_step ?hg (N := 11) ?hd (cs := #[.slice none 0 0, .int .u64 0, .int .i64 0, .int .i64 0, .int .i64 0]) (t := 28) ?hr ?_; (case hd => rfl); (case hg => rfl); (case hr => first | (go_simp; done) | (go_simp; rfl))
                  intro gb264 hg w35 hbox hb
                  have HS5_ := (hb.cell (World.block_lt_of_cell? _ _ (hHeld.2.2.2.2.2))).trans (hHeld.2.2.2.2.2)
                  have n0_ := Aside0.mk (Kd.R_below (by (with_reducible repeat (first | apply Kd.R_alloc | apply Kd.R_drewN | apply Kd.R_drew)); exact HO_6.out) hb)
                  have n1_ := Aside0.mk (Kd.V_below (Kd.V_elderB (by (with_reducible repeat (first | apply Kd.V_alloc | apply Kd.V_drewN | apply Kd.V_drew)); exact HO_255000.out) gb264 (Nat.le_of_eq hg.symm)) hb)
                  have n2_ := Aside0.mk (blk_below (g := gb254) (o := .cells #[.slice Ao32 x255000_4.length co32, .int .u64 x255001_4, .int .i64 x255002_4, .int .i64 x255003_4, .int .i64 x255004_4] 28 (0, 0)) (by (with_reducible repeat (first | refine blk_drewN ?_ _ | refine blk_drew ?_ | refine blk_alloc ?_ _)); exact BK254.out) hb)
                  have n3_ := Aside0.mk (below_step (by repeat (first | (with_reducible first | exact HB.out | apply below_alloc | apply pw_below_drewN | apply below_drew1 | refine below_set ?_ GE254.out) | exact HB.out)) hb)
                  have n4_ := Aside0.mk (hbox)
                  have n5_ := Aside0.mk ((by rw [hg]; exact (below_size (by repeat (first | (with_reducible first | exact HB.out | apply below_alloc | apply pw_below_drewN | apply below_drew1 | refine below_set ?_ GE254.out) | exact HB.out))) : w.heap.size ≤ gb264))
                  have n6_ := Aside0.mk ((by rw [hg]; exact (below_size (by repeat (first | (with_reducible first | exact HB.out | apply below_alloc | apply pw_below_drewN | apply below_drew1 | refine below_set ?_ GE254.out) | exact HB.out))) : w.heap.size ≤ gb264))
                  have n7_ := Aside0.mk ((by rw [hg]; exact Nat.ne_of_lt (blk_lt (g := gb254) (o := .cells #[.slice Ao32 x255000_4.length co32, .int .u64 x255001_4, .int .i64 x255002_4, .int .i64 x255003_4, .int .i64 x255004_4] 28 (0, 0)) (by (with_reducible repeat (first | refine blk_drewN ?_ _ | refine blk_drew ?_ | refine blk_alloc ?_ _)); exact BK254.out)) : gb254 ≠ gb264))
                  have n8_ := Aside0.mk ((by rw [hg]; exact Nat.ne_of_gt (blk_lt (g := gb254) (o := .cells #[.slice Ao32 x255000_4.length co32, .int .u64 x255001_4, .int .i64 x255002_4, .int .i64 x255003_4, .int .i64 x255004_4] 28 (0, 0)) (by (with_reducible repeat (first | refine blk_drewN ?_ _ | refine blk_drew ?_ | refine blk_alloc ?_ _)); exact BK254.out)) : gb264 ≠ gb254))
                  clear HO_6
                  clear HO_255000
                  clear BK254
                  clear HB
                  have HO_6 := n0_
                  have HO_255000 := n1_
                  have BK254 := n2_
                  have HB := n3_
                  have BK264 := n4_
                  have GW264 := n5_
                  have GE264 := n6_
                  have NB254_264 := n7_
                  have NB264_254 := n8_
                  clear n0_ n1_ n2_ n3_ n4_ n5_ n6_ n7_ n8_
                  clear hb hbox hg
                  refine hK.out _ _ ⟨(blk_cell BK254.out 0).trans rfl, (blk_cell BK254.out 1).trans rfl, (blk_cell BK254.out 2).trans rfl, (blk_cell BK254.out 3).trans rfl, (blk_cell BK254.out 4).trans rfl, HS5_⟩ (fun hHeld => ?_)
                  clear hK K
                  refine norm_ (a' := ?_) ?_ ?_
                  rotate_left
                  ·show Act.put _ (some 11) _ = _
                   simp only [Act.put, List.setIfInBounds_toArray, List.set_cons_zero, List.set_cons_succ, i64_w, i32_w]
                   rfl
                  refine one_ (i := 6) (N := some 79) #[true,true,true,true,true,true,true,false,false,false,true,false,false] rfl rfl (one_of HT_.out (by kernel_rfl)) (by decide) (fun K hK => ?_)
                  refine goes_ Try.func7 (by kernel_rfl) rfl #[.agg #[.slice Ao32 x255000_4.length co32, .int .u64 x255001_4, .int .i64 x255002_4, .int .i64 x255003_4, .int .i64 x255004_4], .int .u64 (rd x6_2 x10_4), .bool true, .int .i64 x10_4] (by rfl) rfl rfl (by (try simp only [List.map_toArray, List.map_cons, List.map_nil]); first | done | rfl | (simp only [List.length_drop, List.length_take]; rfl)) ?_
                  with_reducible refine (acks_Got.calls k4 (fun k_ => ((some k_ ≠ (.slice (some ad255) x6_2.length co34 : Value).ownBlock ∧ k_ ≠ gb254) ∧ k_ ≠ gb264)) _ _ x255000_4 x255001_4 x255002_4 x255003_4 x255004_4 (rd x6_2 x10_4) true x10_4 t256 t259 t260 t261 t262 true _ ?side1 A30.out).mono ?_
                  (case side1 => exact HO_255000.out)
                  rintro e w36 ⟨v257, rfl, ho0, hb⟩
                  have HS5_ := (hb.cell (World.block_lt_of_cell? _ _ (hHeld.2.2.2.2.2))).trans (hHeld.2.2.2.2.2)
                  refine ⟨_, rfl, ?_⟩
                  have n0_ := Aside0.mk (Kd.R_below (by (with_reducible repeat (first | apply Kd.R_alloc | apply Kd.R_drewN | apply Kd.R_drew)); exact HO_6.out) hb)
                  have n1_ := Aside0.mk (Kd.V_below (by (with_reducible repeat (first | apply Kd.V_alloc | apply Kd.V_drewN | apply Kd.V_drew)); exact HO_255000.out) hb)
                  have n2_ := Aside0.mk (Kd.V_lower (Kd.V_mono (ok' := fun k_ => some k_ ≠ (.slice (some ad255) x6_2.length co34 : Value).ownBlock ∧ k_ ≠ gb254 ∧ k_ ≠ gb264) ho0 (fun k_ hk_ => ⟨Or.elim hk_ (fun hs_ => hs_.1.1) (fun hn_ => (Kd.fresh' (Kd.R_lt (by (with_reducible repeat (first | apply Kd.R_alloc | apply Kd.R_drewN | apply Kd.R_drew)); exact HO_6.out)) k_ hn_)), Or.elim hk_ (fun hs_ => hs_.1.2) (fun hn_ => (Kd.freshB (g := gb254) (o := .cells #[.slice Ao32 x255000_4.length co32, .int .u64 x255001_4, .int .i64 x255002_4, .int .i64 x255003_4, .int .i64 x255004_4] 28 (0, 0)) (by (with_reducible repeat (first | refine blk_drewN ?_ _ | refine blk_drew ?_ | refine blk_alloc ?_ _)); exact BK254.out) k_ hn_)), Or.elim hk_ (fun hs_ => hs_.2) (fun hn_ => (Kd.freshB (g := gb264) (o := .cells #[.slice none 0 0, .int .u64 0, .int .i64 0, .int .i64 0, .int .i64 0] 28 (0, 0)) (by (with_reducible repeat (first | refine blk_drewN ?_ _ | refine blk_drew ?_ | refine blk_alloc ?_ _)); exact BK264.out) k_ hn_))⟩)) (below_size (by repeat (first | (with_reducible first | exact HB.out | apply below_alloc | apply pw_below_drewN | apply below_drew1 | refine below_set ?_ GE254.out | refine below_set ?_ GE264.out) | exact HB.out))))
                  have n3_ := Aside0.mk (blk_below (g := gb254) (o := .cells #[.slice Ao32 x255000_4.length co32, .int .u64 x255001_4, .int .i64 x255002_4, .int .i64 x255003_4, .int .i64 x255004_4] 28 (0, 0)) (by (with_reducible repeat (first | refine blk_drewN ?_ _ | refine blk_drew ?_ | refine blk_alloc ?_ _)); exact BK254.out) hb)
                  have n4_ := Aside0.mk (blk_below (g := gb264) (o := .cells #[.slice none 0 0, .int .u64 0, .int .i64 0, .int .i64 0, .int .i64 0] 28 (0, 0)) (by (with_reducible repeat (first | refine blk_drewN ?_ _ | refine blk_drew ?_ | refine blk_alloc ?_ _)); exact BK264.out) hb)
                  have n5_ := Aside0.mk (below_step (by repeat (first | (with_reducible first | exact HB.out | apply below_alloc | apply pw_below_drewN | apply below_drew1 | refine below_set ?_ GE254.out | refine below_set ?_ GE264.out) | exact HB.out)) hb)
                  clear HO_6
                  clear HO_255000
                  clear BK254
                  clear BK264
                  clear HB
                  have HO_6 := n0_
                  have HO_255000 := n1_
                  have HO258 := n2_
                  have BK254 := n3_
                  have BK264 := n4_
                  have HB := n5_
                  clear n0_ n1_ n2_ n3_ n4_ n5_
                  (try clear hb)
                  (try clear hb2)
                  (try clear hk)
                  (try clear hi)
                  (try clear ho0)
                  refine hK.out _ _ ⟨(blk_cell BK254.out 0).trans rfl, (blk_cell BK254.out 1).trans rfl, (blk_cell BK254.out 2).trans rfl, (blk_cell BK254.out 3).trans rfl, (blk_cell BK254.out 4).trans rfl, HS5_⟩ (fun hHeld => ?_)
                  clear hK K
                  refine norm_ (a' := ?_) ?_ ?_
                  rotate_left
                  ·show Act.put _ (some 79) _ = _
                   simp only [Act.put, List.setIfInBounds_toArray, List.set_cons_zero, List.set_cons_succ, i64_w, i32_w]
                   rfl
                  refine pure_ (i := 7) (N := some 72) (v := ?_) (a' := ?_) #[true,true,true,true,true,true,true,true,false,false,true,false,false] rfl rfl (any_of HT_.out (by kernel_rfl)) (fun _ _ _ h => h) (Or.inl ⟨by rfl, ?_⟩) ?_ ?_
                  rotate_left;(intro w';go_simp;with_reducible rfl);rotate_left;(simp only [Act.put, List.setIfInBounds_toArray, List.set_cons_zero, List.set_cons_succ, i64_w, i32_w];rfl)
                  refine pure_ (i := 8) (N := some 80) (v := ?_) (a' := ?_) #[true,true,true,true,true,true,true,true,true,false,true,false,false] rfl rfl (any_of HT_.out (by kernel_rfl)) (fun _ _ _ h => h) (Or.inl ⟨by rfl, ?_⟩) ?_ ?_
                  rotate_left;(intro w';go_simp;with_reducible rfl);rotate_left;(simp only [Act.put, List.setIfInBounds_toArray, List.set_cons_zero, List.set_cons_succ, i64_w, i32_w];rfl)
                  refine pure_ (i := 9) (N := some 81) (v := ?_) (a' := ?_) #[true,true,true,true,true,true,true,true,true,true,true,false,false] rfl rfl (any_of HT_.out (by kernel_rfl)) (fun _ _ _ h => h) (Or.inl ⟨by rfl, ?_⟩) ?_ ?_
                  rotate_left;(intro w';go_simp;with_reducible rfl);rotate_left;(simp only [Act.put, List.setIfInBounds_toArray, List.set_cons_zero, List.set_cons_succ, i64_w, i32_w];rfl)
                  exact norm_ (by simp only [putAll, Act.put, List.setIfInBounds_toArray, List.set_cons_zero, List.set_cons_succ]) (hCont (v257, gb264) _ ⟨hHeld, (by (with_reducible repeat (first | apply Kd.V_alloc | apply Kd.V_drewN | apply Kd.V_drew)); exact HO258.out), (by (with_reducible repeat (first | apply Kd.V_alloc | apply Kd.V_drewN | apply Kd.V_drew)); exact Kd.V_mono HO_255000.out (fun _ hk => ⟨hk.1.1, ⟨hk.1.2, hk.2⟩⟩)), (by (with_reducible repeat (first | apply Kd.R_alloc | apply Kd.R_drewN | apply Kd.R_drew)); exact HO_6.out), (by (with_reducible repeat (first | refine blk_drewN ?_ _ | refine blk_drew ?_ | refine blk_alloc ?_ _)); exact BK254.out), (by (with_reducible repeat (first | refine blk_drewN ?_ _ | refine blk_drew ?_ | refine blk_alloc ?_ _)); exact BK264.out), GW264.out, GE264.out, NB254_264.out, NB264_254.out, (by repeat (first | (with_reducible first | exact HB.out | apply below_alloc | apply pw_below_drewN | apply below_drew1 | refine below_set ?_ GE254.out | refine below_set ?_ GE264.out) | exact HB.out))⟩)
                rintro ⟨v257, gb264⟩ w37 ⟨hS_, h0_, h1_, h2_, h3_, h4_, h5_, h6_, h7_, h8_, h9_⟩
                have n0_ : Aside0 (Kd.V k44 44 w37 w.heap.size (fun k_ => some k_ ≠ (.slice (some ad255) x6_2.length co34 : Value).ownBlock ∧ k_ ≠ gb254 ∧ k_ ≠ gb264) v257 t256) := ⟨h0_⟩
                have n1_ : Aside0 (Kd.V k44 44 w37 w.heap.size (fun k_ => some k_ ≠ (.slice (some ad255) x6_2.length co34 : Value).ownBlock ∧ k_ ≠ gb254 ∧ k_ ≠ gb264) (.slice Ao32 x255000_4.length co32) x255000_4) := ⟨h1_⟩
                have n2_ : Aside0 (Kd.R (Kd.int .u64) 24 w37 w.heap.size (fun _ => True) (.slice (some ad255) x6_2.length co34) x6_2) := ⟨h2_⟩
                have n3_ : Aside0 (w37.heap[gb254]? = some (.cells #[.slice Ao32 x255000_4.length co32, .int .u64 x255001_4, .int .i64 x255002_4, .int .i64 x255003_4, .int .i64 x255004_4] 28 (0, 0))) := ⟨h3_⟩
                have n4_ : Aside0 (w37.heap[gb264]? = some (.cells #[.slice none 0 0, .int .u64 0, .int .i64 0, .int .i64 0, .int .i64 0] 28 (0, 0))) := ⟨h4_⟩
                have n5_ : Aside0 (w.heap.size ≤ gb264) := ⟨h5_⟩
                have n6_ : Aside0 (w.heap.size ≤ gb264) := ⟨h6_⟩
                have n7_ : Aside0 (gb254 ≠ gb264) := ⟨h7_⟩
                have n8_ : Aside0 (gb264 ≠ gb254) := ⟨h8_⟩
                have n9_ : Aside0 (Below w.heap.size w w37) := ⟨h9_⟩
                clear HO_6
                clear HO_255000
                clear BK254
                clear HB
                clear h0_ h1_ h2_ h3_ h4_ h5_ h6_ h7_ h8_ h9_
                have HO258 := n0_
                have HO_255000 := n1_
                have HO_6 := n2_
                have BK254 := n3_
                have BK264 := n4_
                have GW264 := n5_
                have GE264 := n6_
                have NB254_264 := n7_
                have NB264_254 := n8_
                have HB := n9_
                clear n0_ n1_ n2_ n3_ n4_ n5_ n6_ n7_ n8_ n9_
                have hHeld : w37.cell? ⟨gb254, 0, none⟩ = some (.slice Ao32 x255000_4.length co32) ∧ w37.cell? ⟨gb254, 1, none⟩ = some (.int .u64 x255001_4) ∧ w37.cell? ⟨gb254, 2, none⟩ = some (.int .i64 x255002_4) ∧ w37.cell? ⟨gb254, 3, none⟩ = some (.int .i64 x255003_4) ∧ w37.cell? ⟨gb254, 4, none⟩ = some (.int .i64 x255004_4) ∧ w37.cell? (ad255.add (x10_4).toNat) = some (.int .u64 (rd x6_2 x10_4)) := hS_
                obtain ⟨Ao38, co38, eo38⟩ := Kd.V_slice HO258.out
                (first | subst eo38 | (injection eo38 with f1_ f2_ f3_; have f4_ := f1_.symm; have f5_ := f3_.symm; clear f1_ f2_ f3_; subst f4_; subst f5_))
                refine norm_ (a' := ?_) ?_ ?_
                rotate_left
                ·simp only [putAll, Act.put, List.setIfInBounds_toArray, List.set_cons_zero, List.set_cons_succ]
                 rfl
                refine one_ (i := 11) (N := none) #[true,true,true,true,true,true,true,true,true,true,true,true,false] rfl rfl (one_of HT_.out (by kernel_rfl)) (by decide) (fun K hK => ?_)
                have hs39 : w37.cell? ⟨gb264, 0, none⟩ = some (.slice none 0 0) := (blk_cell BK264.out 0).trans rfl
                have hfs39 := blk_frozen BK264.out 0
                have hns39_0 := NB254_264.out
                have hms39_0 := NB264_254.out
                have hs40 : w37.cell? ⟨gb264, 1, none⟩ = some (.int .u64 0) := (blk_cell BK264.out 1).trans rfl
                have hfs40 := blk_frozen BK264.out 1
                have hns40_0 := NB254_264.out
                have hms40_0 := NB264_254.out
                have hs41 : w37.cell? ⟨gb264, 2, none⟩ = some (.int .i64 0) := (blk_cell BK264.out 2).trans rfl
                have hfs41 := blk_frozen BK264.out 2
                have hns41_0 := NB254_264.out
                have hms41_0 := NB264_254.out
                have hs42 : w37.cell? ⟨gb264, 3, none⟩ = some (.int .i64 0) := (blk_cell BK264.out 3).trans rfl
                have hfs42 := blk_frozen BK264.out 3
                have hns42_0 := NB254_264.out
                have hms42_0 := NB264_254.out
                have hs43 : w37.cell? ⟨gb264, 4, none⟩ = some (.int .i64 0) := (blk_cell BK264.out 4).trans rfl
                have hfs43 := blk_frozen BK264.out 4
                have hns43_0 := NB254_264.out
                have hms43_0 := NB264_254.out
                refine skip_ (w1 := ?_) (by rfl) rfl ?_ ?_
                rotate_left
                ·go_simp
                 rfl
                refine hK.out _ _ ⟨((cell_far (p := ⟨gb264, _, none⟩) NB254_264.out _).trans (((cell_far (p := ⟨gb264, _, none⟩) NB254_264.out _).trans (((cell_far (p := ⟨gb264, _, none⟩) NB254_264.out _).trans (((cell_far (p := ⟨gb264, _, none⟩) NB254_264.out _).trans (((cell_far (p := ⟨gb264, _, none⟩) NB254_264.out _).trans (hHeld.1)))))))))), ((cell_far (p := ⟨gb264, _, none⟩) NB254_264.out _).trans (((cell_far (p := ⟨gb264, _, none⟩) NB254_264.out _).trans (((cell_far (p := ⟨gb264, _, none⟩) NB254_264.out _).trans (((cell_far (p := ⟨gb264, _, none⟩) NB254_264.out _).trans (((cell_far (p := ⟨gb264, _, none⟩) NB254_264.out _).trans (hHeld.2.1)))))))))), ((cell_far (p := ⟨gb264, _, none⟩) NB254_264.out _).trans (((cell_far (p := ⟨gb264, _, none⟩) NB254_264.out _).trans (((cell_far (p := ⟨gb264, _, none⟩) NB254_264.out _).trans (((cell_far (p := ⟨gb264, _, none⟩) NB254_264.out _).trans (((cell_far (p := ⟨gb264, _, none⟩) NB254_264.out _).trans (hHeld.2.2.1)))))))))), ((cell_far (p := ⟨gb264, _, none⟩) NB254_264.out _).trans (((cell_far (p := ⟨gb264, _, none⟩) NB254_264.out _).trans (((cell_far (p := ⟨gb264, _, none⟩) NB254_264.out _).trans (((cell_far (p := ⟨gb264, _, none⟩) NB254_264.out _).trans (((cell_far (p := ⟨gb264, _, none⟩) NB254_264.out _).trans (hHeld.2.2.2.1)))))))))), ((cell_far (p := ⟨gb264, _, none⟩) NB254_264.out _).trans (((cell_far (p := ⟨gb264, _, none⟩) NB254_264.out _).trans (((cell_far (p := ⟨gb264, _, none⟩) NB254_264.out _).trans (((cell_far (p := ⟨gb264, _, none⟩) NB254_264.out _).trans (((cell_far (p := ⟨gb264, _, none⟩) NB254_264.out _).trans (hHeld.2.2.2.2.1)))))))))), ((cell_far (p := ⟨gb264, _, none⟩) (by first | exact Kd.own_blk (Kd.R_ne HO_6.out BK264.out (by decide)) | (rw [add_block]; exact Kd.own_blk (Kd.R_ne HO_6.out BK264.out (by decide))) | (show (Addr.add _ _).block ≠ _; rw [add_block]; exact Kd.own_blk (Kd.R_ne HO_6.out BK264.out (by decide))) | (dsimp only; exact Kd.own_blk (Kd.R_ne HO_6.out BK264.out (by decide)))) _).trans (((cell_far (p := ⟨gb264, _, none⟩) (by first | exact Kd.own_blk (Kd.R_ne HO_6.out BK264.out (by decide)) | (rw [add_block]; exact Kd.own_blk (Kd.R_ne HO_6.out BK264.out (by decide))) | (show (Addr.add _ _).block ≠ _; rw [add_block]; exact Kd.own_blk (Kd.R_ne HO_6.out BK264.out (by decide))) | (dsimp only; exact Kd.own_blk (Kd.R_ne HO_6.out BK264.out (by decide)))) _).trans (((cell_far (p := ⟨gb264, _, none⟩) (by first | exact Kd.own_blk (Kd.R_ne HO_6.out BK264.out (by decide)) | (rw [add_block]; exact Kd.own_blk (Kd.R_ne HO_6.out BK264.out (by decide))) | (show (Addr.add _ _).block ≠ _; rw [add_block]; exact Kd.own_blk (Kd.R_ne HO_6.out BK264.out (by decide))) | (dsimp only; exact Kd.own_blk (Kd.R_ne HO_6.out BK264.out (by decide)))) _).trans (((cell_far (p := ⟨gb264, _, none⟩) (by first | exact Kd.own_blk (Kd.R_ne HO_6.out BK264.out (by decide)) | (rw [add_block]; exact Kd.own_blk (Kd.R_ne HO_6.out BK264.out (by decide))) | (show (Addr.add _ _).block ≠ _; rw [add_block]; exact Kd.own_blk (Kd.R_ne HO_6.out BK264.out (by decide))) | (dsimp only; exact Kd.own_blk (Kd.R_ne HO_6.out BK264.out (by decide)))) _).trans (((cell_far (p := ⟨gb264, _, none⟩) (by first | exact Kd.own_blk (Kd.R_ne HO_6.out BK264.out (by decide)) | (rw [add_block]; exact Kd.own_blk (Kd.R_ne HO_6.out BK264.out (by decide))) | (show (Addr.add _ _).block ≠ _; rw [add_block]; exact Kd.own_blk (Kd.R_ne HO_6.out BK264.out (by decide))) | (dsimp only; exact Kd.own_blk (Kd.R_ne HO_6.out BK264.out (by decide)))) _).trans (hHeld.2.2.2.2.2))))))))))⟩ (fun hHeld => ?_)
                clear hK K
                refine pure_ (i := 12) (N := some 12) (v := ?_) (a' := ?_) #[true,true,true,true,true,true,true,true,true,true,true,true,true] rfl rfl (any_of HT_.out (by kernel_rfl)) (fun _ _ _ h => h) (Or.inl ⟨by rfl, ?_⟩) ?_ ?_
                rotate_left;(intro w';go_simp;with_reducible rfl);rotate_left;(simp only [Act.put, List.setIfInBounds_toArray, List.set_cons_zero, List.set_cons_succ, i64_w, i32_w];rfl)
                refine done_ (done_of HT_.out (by kernel_rfl)) ?_
                have hnb44 := NB264_254.out
                have hnc44 := NB254_264.out
                have hcz45_0 : w37.cell? ⟨gb264, 0, none⟩ = some (.slice none 0 0) := (blk_cell BK264.out 0).trans rfl
                have hcz45_1 : w37.cell? ⟨gb264, 1, none⟩ = some (.int .u64 0) := (blk_cell BK264.out 1).trans rfl
                have hcz45_2 : w37.cell? ⟨gb264, 2, none⟩ = some (.int .i64 0) := (blk_cell BK264.out 2).trans rfl
                have hcz45_3 : w37.cell? ⟨gb264, 3, none⟩ = some (.int .i64 0) := (blk_cell BK264.out 3).trans rfl
                have hcz45_4 : w37.cell? ⟨gb264, 4, none⟩ = some (.int .i64 0) := (blk_cell BK264.out 4).trans rfl
                have hfz45_0 := blk_frozen BK264.out 0
                have hfz45_1 := blk_frozen BK264.out 1
                have hfz45_2 := blk_frozen BK264.out 2
                have hfz45_3 := blk_frozen BK264.out 3
                have hfz45_4 := blk_frozen BK264.out 4
                have hcz46_0 : w37.cell? ⟨gb254, 0, none⟩ = some (.slice Ao32 x255000_4.length co32) := (blk_cell BK254.out 0).trans rfl
                have hcz46_1 : w37.cell? ⟨gb254, 1, none⟩ = some (.int .u64 x255001_4) := (blk_cell BK254.out 1).trans rfl
                have hcz46_2 : w37.cell? ⟨gb254, 2, none⟩ = some (.int .i64 x255002_4) := (blk_cell BK254.out 2).trans rfl
                have hcz46_3 : w37.cell? ⟨gb254, 3, none⟩ = some (.int .i64 x255003_4) := (blk_cell BK254.out 3).trans rfl
                have hcz46_4 : w37.cell? ⟨gb254, 4, none⟩ = some (.int .i64 x255004_4) := (blk_cell BK254.out 4).trans rfl
                have hfz46_0 := blk_frozen BK254.out 0
                have hfz46_1 := blk_frozen BK254.out 1
                have hfz46_2 := blk_frozen BK254.out 2
                have hfz46_3 := blk_frozen BK254.out 3
                have hfz46_4 := blk_frozen BK254.out 4
                try go_wp2
                go_roundg k4
                case measure => have := HK1.out; have := HK2.out; have := HJ8.out; have := HK4.out; omega
                case rel => exact ⟨(wrap64 (x10_4 + 1)), (t256), (t259), (t260), (t261), (t262), (.slice Ao38 t256.length co38), (by first | rfl | (simp; done) | (simp [*]; done)), H', ⟨by have := HK1.out; have := HK2.out; have := HJ8.out; have := HK4.out; omega⟩, ⟨by (with_reducible repeat (first | apply Kd.R_alloc | apply Kd.R_drewN | apply Kd.R_drew)); exact Kd.R_mono (Kd.R_far (p := ⟨gb254, 4, none⟩) (Kd.R_far (p := ⟨gb254, 3, none⟩) (Kd.R_far (p := ⟨gb254, 2, none⟩) (Kd.R_far (p := ⟨gb254, 1, none⟩) (Kd.R_far (p := ⟨gb254, 0, none⟩) (Kd.R_far (p := ⟨gb264, 4, none⟩) (Kd.R_far (p := ⟨gb264, 3, none⟩) (Kd.R_far (p := ⟨gb264, 2, none⟩) (Kd.R_far (p := ⟨gb264, 1, none⟩) (Kd.R_far (p := ⟨gb264, 0, none⟩) (Kd.R_types (Kd.R_types HO_6.out BK264.out (by decide)) BK254.out (by decide)) (fun _ hk => hk.1.2) (.slice Ao38 t256.length co38)) (fun _ hk => hk.1.2) (.int .u64 t259)) (fun _ hk => hk.1.2) (.int .i64 t260)) (fun _ hk => hk.1.2) (.int .i64 t261)) (fun _ hk => hk.1.2) (.int .i64 t262)) (fun _ hk => hk.2) (.slice Ao38 t256.length co38)) (fun _ hk => hk.2) (.int .u64 t259)) (fun _ hk => hk.2) (.int .i64 t260)) (fun _ hk => hk.2) (.int .i64 t261)) (fun _ hk => hk.2) (.int .i64 t262)) (fun _ hk => trivial)⟩, ⟨by (with_reducible repeat (first | apply Kd.V_alloc | apply Kd.V_drewN | apply Kd.V_drew)); exact Kd.V_mono (Kd.V_far (p := ⟨gb254, 4, none⟩) (Kd.V_far (p := ⟨gb254, 3, none⟩) (Kd.V_far (p := ⟨gb254, 2, none⟩) (Kd.V_far (p := ⟨gb254, 1, none⟩) (Kd.V_far (p := ⟨gb254, 0, none⟩) (Kd.V_far (p := ⟨gb264, 4, none⟩) (Kd.V_far (p := ⟨gb264, 3, none⟩) (Kd.V_far (p := ⟨gb264, 2, none⟩) (Kd.V_far (p := ⟨gb264, 1, none⟩) (Kd.V_far (p := ⟨gb264, 0, none⟩) (Kd.V_mono (Kd.V_mono HO258.out (fun k_ hk => (⟨hk, hk.2.2⟩ : _ ∧ k_ ≠ gb264))) (fun k_ hk => (⟨hk, hk.1.2.1⟩ : _ ∧ k_ ≠ gb254))) (fun _ hk => hk.1.2) (.slice Ao38 t256.length co38)) (fun _ hk => hk.1.2) (.int .u64 t259)) (fun _ hk => hk.1.2) (.int .i64 t260)) (fun _ hk => hk.1.2) (.int .i64 t261)) (fun _ hk => hk.1.2) (.int .i64 t262)) (fun _ hk => hk.2) (.slice Ao38 t256.length co38)) (fun _ hk => hk.2) (.int .u64 t259)) (fun _ hk => hk.2) (.int .i64 t260)) (fun _ hk => hk.2) (.int .i64 t261)) (fun _ hk => hk.2) (.int .i64 t262)) (fun _ hk => ⟨hk.1.1.1, hk.1.1.2.1⟩)⟩, ⟨by (with_reducible repeat (first | refine blk_drewN ?_ _ | refine blk_drew ?_ | refine blk_alloc ?_ _)); refine blk_put (cs := #[.slice Ao38 t256.length co38, .int .u64 t259, .int .i64 t260, .int .i64 t261, .int .i64 x255004_4]) ?_ 4 _ rfl; (with_reducible repeat (first | refine blk_drewN ?_ _ | refine blk_drew ?_ | refine blk_alloc ?_ _)); refine blk_put (cs := #[.slice Ao38 t256.length co38, .int .u64 t259, .int .i64 t260, .int .i64 x255003_4, .int .i64 x255004_4]) ?_ 3 _ rfl; (with_reducible repeat (first | refine blk_drewN ?_ _ | refine blk_drew ?_ | refine blk_alloc ?_ _)); refine blk_put (cs := #[.slice Ao38 t256.length co38, .int .u64 t259, .int .i64 x255002_4, .int .i64 x255003_4, .int .i64 x255004_4]) ?_ 2 _ rfl; (with_reducible repeat (first | refine blk_drewN ?_ _ | refine blk_drew ?_ | refine blk_alloc ?_ _)); refine blk_put (cs := #[.slice Ao38 t256.length co38, .int .u64 x255001_4, .int .i64 x255002_4, .int .i64 x255003_4, .int .i64 x255004_4]) ?_ 1 _ rfl; (with_reducible repeat (first | refine blk_drewN ?_ _ | refine blk_drew ?_ | refine blk_alloc ?_ _)); refine blk_put (cs := #[.slice Ao32 x255000_4.length co32, .int .u64 x255001_4, .int .i64 x255002_4, .int .i64 x255003_4, .int .i64 x255004_4]) ?_ 0 _ rfl; (with_reducible repeat (first | refine blk_drewN ?_ _ | refine blk_drew ?_ | refine blk_alloc ?_ _)); refine blk_far ?_ NB254_264.out _; (with_reducible repeat (first | refine blk_drewN ?_ _ | refine blk_drew ?_ | refine blk_alloc ?_ _)); refine blk_far ?_ NB254_264.out _; (with_reducible repeat (first | refine blk_drewN ?_ _ | refine blk_drew ?_ | refine blk_alloc ?_ _)); refine blk_far ?_ NB254_264.out _; (with_reducible repeat (first | refine blk_drewN ?_ _ | refine blk_drew ?_ | refine blk_alloc ?_ _)); refine blk_far ?_ NB254_264.out _; (with_reducible repeat (first | refine blk_drewN ?_ _ | refine blk_drew ?_ | refine blk_alloc ?_ _)); refine blk_far ?_ NB254_264.out _; (with_reducible repeat (first | refine blk_drewN ?_ _ | refine blk_drew ?_ | refine blk_alloc ?_ _)); exact BK254.out⟩, ⟨by repeat (first | (with_reducible first | exact HB.out | apply below_alloc | apply pw_below_drewN | apply below_drew1 | refine below_set ?_ GE254.out | refine below_set ?_ GE264.out) | exact HB.out)⟩⟩
               ·replace c31 := Bool.eq_false_iff.mpr c31
                subst c31
                have H1 : (none) = some r := by rw [if_neg (show ¬ (false = true) by decide)] at H; exact H
                clear H
                have H := H1
                clear H1
                exact absurd H (by simp)
              ·rw [if_neg c29] at H
               exact absurd H (by simp)
             ·rw [if_neg c28] at H
              exact absurd H (by simp)
            ·rw [if_neg c27] at H
             have c27b0 : decide (x10_4 < (wrap64 (1 + (Int.tmod (wrap64 (a0)) 100)))) = false := decide_eq_false c27
             clear c27
             replace H := Option.bind_eq_some_iff.mp H
             obtain ⟨⟨t265, t266, t267, t268, t269, t270, t271, t272, t273, t274, t275, t276, t277, t280⟩, A470, H⟩ := H
             replace H : ((dominolaw13_set.f k4 t277).bind fun t282 => ((dominoref06_Put.f k4 2 0 0 0 0 0 0 t272 false (⟨#[]⟩ : ByteArray) (⟨#[]⟩ : ByteArray) (⟨#[]⟩ : ByteArray) t282).bind fun bt285 => (if t280 = true then (if bt285.2 = 0 then (if (t277.length : Int) = 1 then (if 0 < (t277.length : Int) then (if (((rd_T44 t277 0).f0) == 0 && (((rd_T44 t277 0).f1) == (IntKind.u64.wrap (wrap64 ((wrap64 (1 + (Int.tmod (wrap64 (a0)) 100))) - 1))))) = true then (if x255003_4 = (wrap64 (1 + (Int.tmod (wrap64 (a0)) 100))) then ((dominolaw13_shown.f k4).bind fun t288 => (some t288)) else (none)) else (none)) else (none)) else (none)) else (none)) else (none)))) = some r := H
             have A47 := Aside0.mk A470
             clear A470
             replace H := Option.bind_eq_some_iff.mp H
             obtain ⟨t282, A480, H⟩ := H
             replace H : ((dominoref06_Put.f k4 2 0 0 0 0 0 0 t272 false (⟨#[]⟩ : ByteArray) (⟨#[]⟩ : ByteArray) (⟨#[]⟩ : ByteArray) t282).bind fun bt285 => (if t280 = true then (if bt285.2 = 0 then (if (t277.length : Int) = 1 then (if 0 < (t277.length : Int) then (if (((rd_T44 t277 0).f0) == 0 && (((rd_T44 t277 0).f1) == (IntKind.u64.wrap (wrap64 ((wrap64 (1 + (Int.tmod (wrap64 (a0)) 100))) - 1))))) = true then (if x255003_4 = (wrap64 (1 + (Int.tmod (wrap64 (a0)) 100))) then ((dominolaw13_shown.f k4).bind fun t288 => (some t288)) else (none)) else (none)) else (none)) else (none)) else (none)) else (none))) = some r := H
             have A48 := Aside0.mk A480
             clear A480
             replace H := Option.bind_eq_some_iff.mp H
             obtain ⟨⟨t285, t286⟩, A490, H⟩ := H
             replace H : (if t280 = true then (if t286 = 0 then (if (t277.length : Int) = 1 then (if 0 < (t277.length : Int) then (if (((rd_T44 t277 0).f0) == 0 && (((rd_T44 t277 0).f1) == (IntKind.u64.wrap (wrap64 ((wrap64 (1 + (Int.tmod (wrap64 (a0)) 100))) - 1))))) = true then (if x255003_4 = (wrap64 (1 + (Int.tmod (wrap64 (a0)) 100))) then ((dominolaw13_shown.f k4).bind fun t288 => (some t288)) else (none)) else (none)) else (none)) else (none)) else (none)) else (none)) = some r := H
             have A49 := Aside0.mk A490
             clear A490
             by_cases c50 : t280 = true
             ·subst c50
              have H1 : (if t286 = 0 then (if (t277.length : Int) = 1 then (if 0 < (t277.length : Int) then (if (((rd_T44 t277 0).f0) == 0 && (((rd_T44 t277 0).f1) == (IntKind.u64.wrap (wrap64 ((wrap64 (1 + (Int.tmod (wrap64 (a0)) 100))) - 1))))) = true then (if x255003_4 = (wrap64 (1 + (Int.tmod (wrap64 (a0)) 100))) then ((dominolaw13_shown.f k4).bind fun t288 => (some t288)) else (none)) else (none)) else (none)) else (none)) else (none)) = some r := by rw [if_pos rfl] at H; exact H
              clear H
              have H := H1
              clear H1
              by_cases c51 : t286 = 0
              ·rw [if_pos c51] at H
               have c51b0 : (t286 == 0) = true := beq_iff_eq.mpr c51
               have c51b1 : (t286 != 0) = false := bne_eq_false_iff_eq.mpr c51
               clear c51
               by_cases c52 : (t277.length : Int) = 1
               ·rw [if_pos c52] at H
                have c52b0 : ((t277.length : Int) == 1) = true := beq_iff_eq.mpr c52
                have c52b1 : ((t277.length : Int) != 1) = false := bne_eq_false_iff_eq.mpr c52
                clear c52
                by_cases c53 : 0 < (t277.length : Int)
                ·rw [if_pos c53] at H
                 have c53b0 : decide (0 < (t277.length : Int)) = true := decide_eq_true c53
                 have c53b1 : decide (0 < t277.length) = true := decide_eq_true (by omega)
                 clear c53
                 by_cases c54 : (((rd_T44 t277 0).f0) == 0 && (((rd_T44 t277 0).f1) == (IntKind.u64.wrap (wrap64 ((wrap64 (1 + (Int.tmod (wrap64 (a0)) 100))) - 1))))) = true
                 ·rw [if_pos c54] at H
                  have c54b0 : (((rd_T44 t277 0).f0) == 0 && (((rd_T44 t277 0).f1) == (IntKind.u64.wrap (wrap64 ((wrap64 (1 + (Int.tmod (wrap64 (a0)) 100))) - 1))))) = true := c54
                  have c54q := c54
                  simp only [Bool.not_false, Bool.not_true, Bool.true_and, Bool.and_eq_true, Bool.or_eq_false_iff, Bool.not_eq_eq_eq_not, beq_iff_eq] at c54q
                  replace c54q := eq_true c54q
                  (try (have c54b1 : decide (((rd_T44 t277 0).f0) = 0 && (((rd_T44 t277 0).f1) == (IntKind.u64.wrap (wrap64 ((wrap64 (1 + (Int.tmod (wrap64 (a0)) 100))) - 1))))) = true := by simpa using c54))
                  (try (have c54b2 : (((rd_T44 t277 0).f0) == 0 && (((rd_T44 t277 0).f1) == (IntKind.u64.wrap (wrap64 ((wrap64 (1 + (Int.tmod (wrap64 (a0)) 100))) - 1))))) = true := by simpa using c54))
                  clear c54
                  by_cases c55 : x255003_4 = (wrap64 (1 + (Int.tmod (wrap64 (a0)) 100)))
                  ·rw [if_pos c55] at H
                   have c55b0 : (x255003_4 == (wrap64 (1 + (Int.tmod (wrap64 (a0)) 100)))) = true := beq_iff_eq.mpr c55
                   have c55b1 : (x255003_4 != (wrap64 (1 + (Int.tmod (wrap64 (a0)) 100)))) = false := bne_eq_false_iff_eq.mpr c55
                   clear c55
                   replace H := Option.bind_eq_some_iff.mp H
                   obtain ⟨t288, A560, H⟩ := H
                   replace H : (some t288) = some r := H
                   have A56 := Aside0.mk A560
                   clear A560
                   obtain rfl := Option.some.inj H
                   have hcz57_0 : wr.cell? ⟨gb254, 0, none⟩ = some (u255000) := (blk_cell BK254.out 0).trans rfl
                   have hcz57_1 : wr.cell? ⟨gb254, 1, none⟩ = some (.int .u64 x255001_4) := (blk_cell BK254.out 1).trans rfl
                   have hcz57_2 : wr.cell? ⟨gb254, 2, none⟩ = some (.int .i64 x255002_4) := (blk_cell BK254.out 2).trans rfl
                   have hcz57_3 : wr.cell? ⟨gb254, 3, none⟩ = some (.int .i64 x255003_4) := (blk_cell BK254.out 3).trans rfl
                   have hcz57_4 : wr.cell? ⟨gb254, 4, none⟩ = some (.int .i64 x255004_4) := (blk_cell BK254.out 4).trans rfl
                   have hfz57_0 := blk_frozen BK254.out 0
                   have hfz57_1 := blk_frozen BK254.out 1
                   have hfz57_2 := blk_frozen BK254.out 2
                   have hfz57_3 := blk_frozen BK254.out 3
                   have hfz57_4 := blk_frozen BK254.out 4
                   obtain ⟨Ao58, co58, eo58⟩ := Kd.V_slice HO_255000.out
                   subst eo58
                   try go_wp2_with (first | ((with_reducible refine gate_callee (f := 8) rfl ?_); refine goesL_ (some 88) rfl rfl Try.func8 (by kernel_rfl) rfl #[.agg #[.slice Ao58 x255000_4.length co58, .int .u64 x255001_4, .int .i64 x255002_4, .int .i64 x255003_4, .int .i64 x255004_4], .int .i64 (wrap64 (1 + (Int.tmod (wrap64 (a0)) 100)))] rfl (by (try simp only [List.map_toArray, List.map_cons, List.map_nil]); first | done | rfl | (simp only [List.length_drop, List.length_take]; rfl)) ?_; (with_reducible refine (acks_Frame.calls _ _ x255000_4 x255001_4 x255002_4 x255003_4 x255004_4 (wrap64 (1 + (Int.tmod (wrap64 (a0)) 100))) t265 t266 t267 t268 t269 t270 t271 t272 t273 t274 t275 t276 t277 true _ ?side1 ?side2 A47.out).mono ?_); (case side1 => repeat (first | exact (Kd.V_reads' HO_255000.out).2.2 | (with_reducible refine Kd.C_alloc ?_ _) | (with_reducible refine Kd.C_drewN ?_ _) | (with_reducible refine Kd.C_drew ?_))); (case side2 => exact (Kd.V_reads' HO_255000.out).2.1); rintro e w59 ⟨v278, rfl, ho0, hb⟩; refine ⟨_, rfl, ?_⟩; have n0_ := Aside0.mk (Kd.R_below (by (with_reducible repeat (first | apply Kd.R_alloc | apply Kd.R_drewN | apply Kd.R_drew)); exact HO_6.out) hb); have n1_ := Aside0.mk (Kd.V_elder' (by (with_reducible repeat (first | apply Kd.V_alloc | apply Kd.V_drewN | apply Kd.V_drew)); exact HO_255000.out) (Kd.R_base ho0) hb); have n2_ := Aside0.mk (Kd.R_lower ho0 (below_size (by repeat (first | (with_reducible first | exact HB.out | apply below_alloc | apply pw_below_drewN | apply below_drew1 | refine below_set ?_ GE254.out) | exact HB.out)))); have n3_ := Aside0.mk (blk_below (g := gb254) (o := .cells #[.slice Ao58 x255000_4.length co58, .int .u64 x255001_4, .int .i64 x255002_4, .int .i64 x255003_4, .int .i64 x255004_4] 28 (0, 0)) (by (with_reducible repeat (first | refine blk_drewN ?_ _ | refine blk_drew ?_ | refine blk_alloc ?_ _)); exact BK254.out) hb); have n4_ := Aside0.mk (below_step (by repeat (first | (with_reducible first | exact HB.out | apply below_alloc | apply pw_below_drewN | apply below_drew1 | refine below_set ?_ GE254.out) | exact HB.out)) hb); clear HO_6; clear HO_255000; clear BK254; clear HB; have HO_6 := n0_; have HO_255000 := n1_; have HO279 := n2_; have BK254 := n3_; have HB := n4_; clear n0_ n1_ n2_ n3_ n4_; (try clear hb); (try clear hb2); (try clear hk); (try clear hi); (try clear ho0)) | ((with_reducible refine gate_dst (N := 13) rfl ?_); (try (refine gate_guard (by rfl) ?_; dsimp only)); refine box_event ?hg (N := 13) ?hd (cs := #[.int .u64 0, .int .u64 0, .int .u64 0, .int .u64 0, .int .u64 0, .int .u64 0, .int .u64 0, .int .u64 0, .bool false, .string (⟨#[]⟩ : ByteArray), .string (⟨#[]⟩ : ByteArray), .string (⟨#[]⟩ : ByteArray), .slice none 0 0]) (t := 32) ?hr ?_; (case hd => rfl); (case hg => rfl); (case hr => first | (go_simp; done) | (go_simp; rfl)); intro gb281 hg w60 hbox hb; have n0_ := Aside0.mk (Kd.R_below (by (with_reducible repeat (first | apply Kd.R_alloc | apply Kd.R_drewN | apply Kd.R_drew)); exact HO_6.out) hb); have n1_ := Aside0.mk (Kd.V_below (Kd.V_elderB (by (with_reducible repeat (first | apply Kd.V_alloc | apply Kd.V_drewN | apply Kd.V_drew)); exact HO_255000.out) gb281 (Nat.le_of_eq hg.symm)) hb); have n2_ := Aside0.mk (Kd.R_below (by (with_reducible repeat (first | apply Kd.R_alloc | apply Kd.R_drewN | apply Kd.R_drew)); exact HO279.out) hb); have n3_ := Aside0.mk (blk_below (g := gb254) (o := .cells #[.slice Ao58 x255000_4.length co58, .int .u64 x255001_4, .int .i64 x255002_4, .int .i64 x255003_4, .int .i64 x255004_4] 28 (0, 0)) (by (with_reducible repeat (first | refine blk_drewN ?_ _ | refine blk_drew ?_ | refine blk_alloc ?_ _)); exact BK254.out) hb); have n4_ := Aside0.mk (below_step (by repeat (first | (with_reducible first | exact HB.out | apply below_alloc | apply pw_below_drewN | apply below_drew1 | refine below_set ?_ GE254.out) | exact HB.out)) hb); have n5_ := Aside0.mk (hbox); have n6_ := Aside0.mk ((by rw [hg]; exact (below_size (by repeat (first | (with_reducible first | exact HB.out | apply below_alloc | apply pw_below_drewN | apply below_drew1 | refine below_set ?_ GE254.out) | exact HB.out))) : w.heap.size ≤ gb281)); have n7_ := Aside0.mk ((by rw [hg]; exact (below_size (by repeat (first | (with_reducible first | exact HB.out | apply below_alloc | apply pw_below_drewN | apply below_drew1 | refine below_set ?_ GE254.out) | exact HB.out))) : w.heap.size ≤ gb281)); have n8_ := Aside0.mk ((by rw [hg]; exact Nat.ne_of_lt (blk_lt (g := gb254) (o := .cells #[.slice Ao58 x255000_4.length co58, .int .u64 x255001_4, .int .i64 x255002_4, .int .i64 x255003_4, .int .i64 x255004_4] 28 (0, 0)) (by (with_reducible repeat (first | refine blk_drewN ?_ _ | refine blk_drew ?_ | refine blk_alloc ?_ _)); exact BK254.out)) : gb254 ≠ gb281)); have n9_ := Aside0.mk ((by rw [hg]; exact Nat.ne_of_gt (blk_lt (g := gb254) (o := .cells #[.slice Ao58 x255000_4.length co58, .int .u64 x255001_4, .int .i64 x255002_4, .int .i64 x255003_4, .int .i64 x255004_4] 28 (0, 0)) (by (with_reducible repeat (first | refine blk_drewN ?_ _ | refine blk_drew ?_ | refine blk_alloc ?_ _)); exact BK254.out)) : gb281 ≠ gb254)); clear HO_6; clear HO_255000; clear HO279; clear BK254; clear HB; have HO_6 := n0_; have HO_255000 := n1_; have HO279 := n2_; have BK254 := n3_; have HB := n4_; have BK281 := n5_; have GW281 := n6_; have GE281 := n7_; have NB254_281 := n8_; have NB281_254 := n9_; clear n0_ n1_ n2_ n3_ n4_ n5_ n6_ n7_ n8_ n9_; clear hb hbox hg; have hnb61 := NB281_254.out; have hnc61 := NB254_281.out; have hcz62_0 : w60.cell? ⟨gb281, 0, none⟩ = some (.int .u64 0) := (blk_cell BK281.out 0).trans rfl; have hcz62_1 : w60.cell? ⟨gb281, 1, none⟩ = some (.int .u64 0) := (blk_cell BK281.out 1).trans rfl; have hcz62_2 : w60.cell? ⟨gb281, 2, none⟩ = some (.int .u64 0) := (blk_cell BK281.out 2).trans rfl; have hcz62_3 : w60.cell? ⟨gb281, 3, none⟩ = some (.int .u64 0) := (blk_cell BK281.out 3).trans rfl; have hcz62_4 : w60.cell? ⟨gb281, 4, none⟩ = some (.int .u64 0) := (blk_cell BK281.out 4).trans rfl; have hcz62_5 : w60.cell? ⟨gb281, 5, none⟩ = some (.int .u64 0) := (blk_cell BK281.out 5).trans rfl; have hcz62_6 : w60.cell? ⟨gb281, 6, none⟩ = some (.int .u64 0) := (blk_cell BK281.out 6).trans rfl; have hcz62_7 : w60.cell? ⟨gb281, 7, none⟩ = some (.int .u64 0) := (blk_cell BK281.out 7).trans rfl; have hcz62_8 : w60.cell? ⟨gb281, 8, none⟩ = some (.bool false) := (blk_cell BK281.out 8).trans rfl; have hcz62_9 : w60.cell? ⟨gb281, 9, none⟩ = some (.string (⟨#[]⟩ : ByteArray)) := (blk_cell BK281.out 9).trans rfl; have hcz62_10 : w60.cell? ⟨gb281, 10, none⟩ = some (.string (⟨#[]⟩ : ByteArray)) := (blk_cell BK281.out 10).trans rfl; have hcz62_11 : w60.cell? ⟨gb281, 11, none⟩ = some (.string (⟨#[]⟩ : ByteArray)) := (blk_cell BK281.out 11).trans rfl; have hcz62_12 : w60.cell? ⟨gb281, 12, none⟩ = some (.slice none 0 0) := (blk_cell BK281.out 12).trans rfl; have hfz62_0 := blk_frozen BK281.out 0; have hfz62_1 := blk_frozen BK281.out 1; have hfz62_2 := blk_frozen BK281.out 2; have hfz62_3 := blk_frozen BK281.out 3; have hfz62_4 := blk_frozen BK281.out 4; have hfz62_5 := blk_frozen BK281.out 5; have hfz62_6 := blk_frozen BK281.out 6; have hfz62_7 := blk_frozen BK281.out 7; have hfz62_8 := blk_frozen BK281.out 8; have hfz62_9 := blk_frozen BK281.out 9; have hfz62_10 := blk_frozen BK281.out 10; have hfz62_11 := blk_frozen BK281.out 11; have hfz62_12 := blk_frozen BK281.out 12; obtain ⟨Ao63, co63, eo63⟩ := Kd.R_slice HO279.out; subst eo63))
                   have n0_ : Aside0 (Kd.R (Kd.int .u64) 24 (((((((((((((w60.setCell ⟨gb281, 0, none⟩ (.int .u64 t265)).setCell ⟨gb281, 1, none⟩ (.int .u64 t266)).setCell ⟨gb281, 2, none⟩ (.int .u64 t267)).setCell ⟨gb281, 3, none⟩ (.int .u64 t268)).setCell ⟨gb281, 4, none⟩ (.int .u64 t269)).setCell ⟨gb281, 5, none⟩ (.int .u64 t270)).setCell ⟨gb281, 6, none⟩ (.int .u64 t271)).setCell ⟨gb281, 7, none⟩ (.int .u64 t272)).setCell ⟨gb281, 8, none⟩ (.bool t273)).setCell ⟨gb281, 9, none⟩ (.string t274)).setCell ⟨gb281, 10, none⟩ (.string t275)).setCell ⟨gb281, 11, none⟩ (.string t276)).setCell ⟨gb281, 12, none⟩ (.slice Ao63 t277.length co63)) w.heap.size (fun _ => True) u6 x6_2) := ⟨by (with_reducible repeat (first | apply Kd.R_alloc | apply Kd.R_drewN | apply Kd.R_drew)); exact Kd.R_mono (Kd.R_far (p := ⟨gb281, 12, none⟩) (Kd.R_far (p := ⟨gb281, 11, none⟩) (Kd.R_far (p := ⟨gb281, 10, none⟩) (Kd.R_far (p := ⟨gb281, 9, none⟩) (Kd.R_far (p := ⟨gb281, 8, none⟩) (Kd.R_far (p := ⟨gb281, 7, none⟩) (Kd.R_far (p := ⟨gb281, 6, none⟩) (Kd.R_far (p := ⟨gb281, 5, none⟩) (Kd.R_far (p := ⟨gb281, 4, none⟩) (Kd.R_far (p := ⟨gb281, 3, none⟩) (Kd.R_far (p := ⟨gb281, 2, none⟩) (Kd.R_far (p := ⟨gb281, 1, none⟩) (Kd.R_far (p := ⟨gb281, 0, none⟩) (Kd.R_types HO_6.out BK281.out (by decide)) (fun _ hk => hk.2) (.int .u64 t265)) (fun _ hk => hk.2) (.int .u64 t266)) (fun _ hk => hk.2) (.int .u64 t267)) (fun _ hk => hk.2) (.int .u64 t268)) (fun _ hk => hk.2) (.int .u64 t269)) (fun _ hk => hk.2) (.int .u64 t270)) (fun _ hk => hk.2) (.int .u64 t271)) (fun _ hk => hk.2) (.int .u64 t272)) (fun _ hk => hk.2) (.bool t273)) (fun _ hk => hk.2) (.string t274)) (fun _ hk => hk.2) (.string t275)) (fun _ hk => hk.2) (.string t276)) (fun _ hk => hk.2) (.slice Ao63 t277.length co63)) (fun _ hk => trivial)⟩
                   have n1_ : Aside0 (Kd.V k44 44 (((((((((((((w60.setCell ⟨gb281, 0, none⟩ (.int .u64 t265)).setCell ⟨gb281, 1, none⟩ (.int .u64 t266)).setCell ⟨gb281, 2, none⟩ (.int .u64 t267)).setCell ⟨gb281, 3, none⟩ (.int .u64 t268)).setCell ⟨gb281, 4, none⟩ (.int .u64 t269)).setCell ⟨gb281, 5, none⟩ (.int .u64 t270)).setCell ⟨gb281, 6, none⟩ (.int .u64 t271)).setCell ⟨gb281, 7, none⟩ (.int .u64 t272)).setCell ⟨gb281, 8, none⟩ (.bool t273)).setCell ⟨gb281, 9, none⟩ (.string t274)).setCell ⟨gb281, 10, none⟩ (.string t275)).setCell ⟨gb281, 11, none⟩ (.string t276)).setCell ⟨gb281, 12, none⟩ (.slice Ao63 t277.length co63)) w.heap.size (fun k_ => some k_ ≠ (u6 : Value).ownBlock ∧ some k_ ≠ (.slice Ao63 t277.length co63 : Value).ownBlock ∧ k_ ≠ gb254 ∧ k_ ≠ gb281) (.slice Ao58 x255000_4.length co58) x255000_4) := ⟨by (with_reducible repeat (first | apply Kd.V_alloc | apply Kd.V_drewN | apply Kd.V_drew)); exact Kd.V_mono (Kd.V_far (p := ⟨gb281, 12, none⟩) (Kd.V_far (p := ⟨gb281, 11, none⟩) (Kd.V_far (p := ⟨gb281, 10, none⟩) (Kd.V_far (p := ⟨gb281, 9, none⟩) (Kd.V_far (p := ⟨gb281, 8, none⟩) (Kd.V_far (p := ⟨gb281, 7, none⟩) (Kd.V_far (p := ⟨gb281, 6, none⟩) (Kd.V_far (p := ⟨gb281, 5, none⟩) (Kd.V_far (p := ⟨gb281, 4, none⟩) (Kd.V_far (p := ⟨gb281, 3, none⟩) (Kd.V_far (p := ⟨gb281, 2, none⟩) (Kd.V_far (p := ⟨gb281, 1, none⟩) (Kd.V_far (p := ⟨gb281, 0, none⟩) (Kd.V_mono HO_255000.out (fun k_ hk => (⟨hk, hk.2⟩ : _ ∧ k_ ≠ gb281))) (fun _ hk => hk.2) (.int .u64 t265)) (fun _ hk => hk.2) (.int .u64 t266)) (fun _ hk => hk.2) (.int .u64 t267)) (fun _ hk => hk.2) (.int .u64 t268)) (fun _ hk => hk.2) (.int .u64 t269)) (fun _ hk => hk.2) (.int .u64 t270)) (fun _ hk => hk.2) (.int .u64 t271)) (fun _ hk => hk.2) (.int .u64 t272)) (fun _ hk => hk.2) (.bool t273)) (fun _ hk => hk.2) (.string t274)) (fun _ hk => hk.2) (.string t275)) (fun _ hk => hk.2) (.string t276)) (fun _ hk => hk.2) (.slice Ao63 t277.length co63)) (fun _ hk => ⟨hk.1.1.1.1, ⟨hk.1.1.2, ⟨hk.1.1.1.2, hk.1.2⟩⟩⟩)⟩
                   have n2_ : Aside0 (Kd.R k44 44 (((((((((((((w60.setCell ⟨gb281, 0, none⟩ (.int .u64 t265)).setCell ⟨gb281, 1, none⟩ (.int .u64 t266)).setCell ⟨gb281, 2, none⟩ (.int .u64 t267)).setCell ⟨gb281, 3, none⟩ (.int .u64 t268)).setCell ⟨gb281, 4, none⟩ (.int .u64 t269)).setCell ⟨gb281, 5, none⟩ (.int .u64 t270)).setCell ⟨gb281, 6, none⟩ (.int .u64 t271)).setCell ⟨gb281, 7, none⟩ (.int .u64 t272)).setCell ⟨gb281, 8, none⟩ (.bool t273)).setCell ⟨gb281, 9, none⟩ (.string t274)).setCell ⟨gb281, 10, none⟩ (.string t275)).setCell ⟨gb281, 11, none⟩ (.string t276)).setCell ⟨gb281, 12, none⟩ (.slice Ao63 t277.length co63)) w.heap.size (fun _ => True) (.slice Ao63 t277.length co63) t277) := ⟨by (with_reducible repeat (first | apply Kd.R_alloc | apply Kd.R_drewN | apply Kd.R_drew)); exact Kd.R_mono (Kd.R_far (p := ⟨gb281, 12, none⟩) (Kd.R_far (p := ⟨gb281, 11, none⟩) (Kd.R_far (p := ⟨gb281, 10, none⟩) (Kd.R_far (p := ⟨gb281, 9, none⟩) (Kd.R_far (p := ⟨gb281, 8, none⟩) (Kd.R_far (p := ⟨gb281, 7, none⟩) (Kd.R_far (p := ⟨gb281, 6, none⟩) (Kd.R_far (p := ⟨gb281, 5, none⟩) (Kd.R_far (p := ⟨gb281, 4, none⟩) (Kd.R_far (p := ⟨gb281, 3, none⟩) (Kd.R_far (p := ⟨gb281, 2, none⟩) (Kd.R_far (p := ⟨gb281, 1, none⟩) (Kd.R_far (p := ⟨gb281, 0, none⟩) (Kd.R_types HO279.out BK281.out (by decide)) (fun _ hk => hk.2) (.int .u64 t265)) (fun _ hk => hk.2) (.int .u64 t266)) (fun _ hk => hk.2) (.int .u64 t267)) (fun _ hk => hk.2) (.int .u64 t268)) (fun _ hk => hk.2) (.int .u64 t269)) (fun _ hk => hk.2) (.int .u64 t270)) (fun _ hk => hk.2) (.int .u64 t271)) (fun _ hk => hk.2) (.int .u64 t272)) (fun _ hk => hk.2) (.bool t273)) (fun _ hk => hk.2) (.string t274)) (fun _ hk => hk.2) (.string t275)) (fun _ hk => hk.2) (.string t276)) (fun _ hk => hk.2) (.slice Ao63 t277.length co63)) (fun _ hk => trivial)⟩
                   have n3_ : Aside0 ((((((((((((((w60.setCell ⟨gb281, 0, none⟩ (.int .u64 t265)).setCell ⟨gb281, 1, none⟩ (.int .u64 t266)).setCell ⟨gb281, 2, none⟩ (.int .u64 t267)).setCell ⟨gb281, 3, none⟩ (.int .u64 t268)).setCell ⟨gb281, 4, none⟩ (.int .u64 t269)).setCell ⟨gb281, 5, none⟩ (.int .u64 t270)).setCell ⟨gb281, 6, none⟩ (.int .u64 t271)).setCell ⟨gb281, 7, none⟩ (.int .u64 t272)).setCell ⟨gb281, 8, none⟩ (.bool t273)).setCell ⟨gb281, 9, none⟩ (.string t274)).setCell ⟨gb281, 10, none⟩ (.string t275)).setCell ⟨gb281, 11, none⟩ (.string t276)).setCell ⟨gb281, 12, none⟩ (.slice Ao63 t277.length co63)).heap[gb254]? = some (.cells #[.slice Ao58 x255000_4.length co58, .int .u64 x255001_4, .int .i64 x255002_4, .int .i64 x255003_4, .int .i64 x255004_4] 28 (0, 0))) := ⟨by (with_reducible repeat (first | refine blk_drewN ?_ _ | refine blk_drew ?_ | refine blk_alloc ?_ _)); refine blk_far ?_ NB254_281.out _; (with_reducible repeat (first | refine blk_drewN ?_ _ | refine blk_drew ?_ | refine blk_alloc ?_ _)); refine blk_far ?_ NB254_281.out _; (with_reducible repeat (first | refine blk_drewN ?_ _ | refine blk_drew ?_ | refine blk_alloc ?_ _)); refine blk_far ?_ NB254_281.out _; (with_reducible repeat (first | refine blk_drewN ?_ _ | refine blk_drew ?_ | refine blk_alloc ?_ _)); refine blk_far ?_ NB254_281.out _; (with_reducible repeat (first | refine blk_drewN ?_ _ | refine blk_drew ?_ | refine blk_alloc ?_ _)); refine blk_far ?_ NB254_281.out _; (with_reducible repeat (first | refine blk_drewN ?_ _ | refine blk_drew ?_ | refine blk_alloc ?_ _)); refine blk_far ?_ NB254_281.out _; (with_reducible repeat (first | refine blk_drewN ?_ _ | refine blk_drew ?_ | refine blk_alloc ?_ _)); refine blk_far ?_ NB254_281.out _; (with_reducible repeat (first | refine blk_drewN ?_ _ | refine blk_drew ?_ | refine blk_alloc ?_ _)); refine blk_far ?_ NB254_281.out _; (with_reducible repeat (first | refine blk_drewN ?_ _ | refine blk_drew ?_ | refine blk_alloc ?_ _)); refine blk_far ?_ NB254_281.out _; (with_reducible repeat (first | refine blk_drewN ?_ _ | refine blk_drew ?_ | refine blk_alloc ?_ _)); refine blk_far ?_ NB254_281.out _; (with_reducible repeat (first | refine blk_drewN ?_ _ | refine blk_drew ?_ | refine blk_alloc ?_ _)); refine blk_far ?_ NB254_281.out _; (with_reducible repeat (first | refine blk_drewN ?_ _ | refine blk_drew ?_ | refine blk_alloc ?_ _)); refine blk_far ?_ NB254_281.out _; (with_reducible repeat (first | refine blk_drewN ?_ _ | refine blk_drew ?_ | refine blk_alloc ?_ _)); refine blk_far ?_ NB254_281.out _; (with_reducible repeat (first | refine blk_drewN ?_ _ | refine blk_drew ?_ | refine blk_alloc ?_ _)); exact BK254.out⟩
                   have n4_ : Aside0 ((((((((((((((w60.setCell ⟨gb281, 0, none⟩ (.int .u64 t265)).setCell ⟨gb281, 1, none⟩ (.int .u64 t266)).setCell ⟨gb281, 2, none⟩ (.int .u64 t267)).setCell ⟨gb281, 3, none⟩ (.int .u64 t268)).setCell ⟨gb281, 4, none⟩ (.int .u64 t269)).setCell ⟨gb281, 5, none⟩ (.int .u64 t270)).setCell ⟨gb281, 6, none⟩ (.int .u64 t271)).setCell ⟨gb281, 7, none⟩ (.int .u64 t272)).setCell ⟨gb281, 8, none⟩ (.bool t273)).setCell ⟨gb281, 9, none⟩ (.string t274)).setCell ⟨gb281, 10, none⟩ (.string t275)).setCell ⟨gb281, 11, none⟩ (.string t276)).setCell ⟨gb281, 12, none⟩ (.slice Ao63 t277.length co63)).heap[gb281]? = some (.cells #[.int .u64 t265, .int .u64 t266, .int .u64 t267, .int .u64 t268, .int .u64 t269, .int .u64 t270, .int .u64 t271, .int .u64 t272, .bool t273, .string t274, .string t275, .string t276, .slice Ao63 t277.length co63] 32 (0, 0))) := ⟨by (with_reducible repeat (first | refine blk_drewN ?_ _ | refine blk_drew ?_ | refine blk_alloc ?_ _)); refine blk_put (cs := #[.int .u64 t265, .int .u64 t266, .int .u64 t267, .int .u64 t268, .int .u64 t269, .int .u64 t270, .int .u64 t271, .int .u64 t272, .bool t273, .string t274, .string t275, .string t276, .slice none 0 0]) ?_ 12 _ rfl; (with_reducible repeat (first | refine blk_drewN ?_ _ | refine blk_drew ?_ | refine blk_alloc ?_ _)); refine blk_put (cs := #[.int .u64 t265, .int .u64 t266, .int .u64 t267, .int .u64 t268, .int .u64 t269, .int .u64 t270, .int .u64 t271, .int .u64 t272, .bool t273, .string t274, .string t275, .string (⟨#[]⟩ : ByteArray), .slice none 0 0]) ?_ 11 _ rfl; (with_reducible repeat (first | refine blk_drewN ?_ _ | refine blk_drew ?_ | refine blk_alloc ?_ _)); refine blk_put (cs := #[.int .u64 t265, .int .u64 t266, .int .u64 t267, .int .u64 t268, .int .u64 t269, .int .u64 t270, .int .u64 t271, .int .u64 t272, .bool t273, .string t274, .string (⟨#[]⟩ : ByteArray), .string (⟨#[]⟩ : ByteArray), .slice none 0 0]) ?_ 10 _ rfl; (with_reducible repeat (first | refine blk_drewN ?_ _ | refine blk_drew ?_ | refine blk_alloc ?_ _)); refine blk_put (cs := #[.int .u64 t265, .int .u64 t266, .int .u64 t267, .int .u64 t268, .int .u64 t269, .int .u64 t270, .int .u64 t271, .int .u64 t272, .bool t273, .string (⟨#[]⟩ : ByteArray), .string (⟨#[]⟩ : ByteArray), .string (⟨#[]⟩ : ByteArray), .slice none 0 0]) ?_ 9 _ rfl; (with_reducible repeat (first | refine blk_drewN ?_ _ | refine blk_drew ?_ | refine blk_alloc ?_ _)); refine blk_put (cs := #[.int .u64 t265, .int .u64 t266, .int .u64 t267, .int .u64 t268, .int .u64 t269, .int .u64 t270, .int .u64 t271, .int .u64 t272, .bool false, .string (⟨#[]⟩ : ByteArray), .string (⟨#[]⟩ : ByteArray), .string (⟨#[]⟩ : ByteArray), .slice none 0 0]) ?_ 8 _ rfl; (with_reducible repeat (first | refine blk_drewN ?_ _ | refine blk_drew ?_ | refine blk_alloc ?_ _)); refine blk_put (cs := #[.int .u64 t265, .int .u64 t266, .int .u64 t267, .int .u64 t268, .int .u64 t269, .int .u64 t270, .int .u64 t271, .int .u64 0, .bool false, .string (⟨#[]⟩ : ByteArray), .string (⟨#[]⟩ : ByteArray), .string (⟨#[]⟩ : ByteArray), .slice none 0 0]) ?_ 7 _ rfl; (with_reducible repeat (first | refine blk_drewN ?_ _ | refine blk_drew ?_ | refine blk_alloc ?_ _)); refine blk_put (cs := #[.int .u64 t265, .int .u64 t266, .int .u64 t267, .int .u64 t268, .int .u64 t269, .int .u64 t270, .int .u64 0, .int .u64 0, .bool false, .string (⟨#[]⟩ : ByteArray), .string (⟨#[]⟩ : ByteArray), .string (⟨#[]⟩ : ByteArray), .slice none 0 0]) ?_ 6 _ rfl; (with_reducible repeat (first | refine blk_drewN ?_ _ | refine blk_drew ?_ | refine blk_alloc ?_ _)); refine blk_put (cs := #[.int .u64 t265, .int .u64 t266, .int .u64 t267, .int .u64 t268, .int .u64 t269, .int .u64 0, .int .u64 0, .int .u64 0, .bool false, .string (⟨#[]⟩ : ByteArray), .string (⟨#[]⟩ : ByteArray), .string (⟨#[]⟩ : ByteArray), .slice none 0 0]) ?_ 5 _ rfl; (with_reducible repeat (first | refine blk_drewN ?_ _ | refine blk_drew ?_ | refine blk_alloc ?_ _)); refine blk_put (cs := #[.int .u64 t265, .int .u64 t266, .int .u64 t267, .int .u64 t268, .int .u64 0, .int .u64 0, .int .u64 0, .int .u64 0, .bool false, .string (⟨#[]⟩ : ByteArray), .string (⟨#[]⟩ : ByteArray), .string (⟨#[]⟩ : ByteArray), .slice none 0 0]) ?_ 4 _ rfl; (with_reducible repeat (first | refine blk_drewN ?_ _ | refine blk_drew ?_ | refine blk_alloc ?_ _)); refine blk_put (cs := #[.int .u64 t265, .int .u64 t266, .int .u64 t267, .int .u64 0, .int .u64 0, .int .u64 0, .int .u64 0, .int .u64 0, .bool false, .string (⟨#[]⟩ : ByteArray), .string (⟨#[]⟩ : ByteArray), .string (⟨#[]⟩ : ByteArray), .slice none 0 0]) ?_ 3 _ rfl; (with_reducible repeat (first | refine blk_drewN ?_ _ | refine blk_drew ?_ | refine blk_alloc ?_ _)); refine blk_put (cs := #[.int .u64 t265, .int .u64 t266, .int .u64 0, .int .u64 0, .int .u64 0, .int .u64 0, .int .u64 0, .int .u64 0, .bool false, .string (⟨#[]⟩ : ByteArray), .string (⟨#[]⟩ : ByteArray), .string (⟨#[]⟩ : ByteArray), .slice none 0 0]) ?_ 2 _ rfl; (with_reducible repeat (first | refine blk_drewN ?_ _ | refine blk_drew ?_ | refine blk_alloc ?_ _)); refine blk_put (cs := #[.int .u64 t265, .int .u64 0, .int .u64 0, .int .u64 0, .int .u64 0, .int .u64 0, .int .u64 0, .int .u64 0, .bool false, .string (⟨#[]⟩ : ByteArray), .string (⟨#[]⟩ : ByteArray), .string (⟨#[]⟩ : ByteArray), .slice none 0 0]) ?_ 1 _ rfl; (with_reducible repeat (first | refine blk_drewN ?_ _ | refine blk_drew ?_ | refine blk_alloc ?_ _)); refine blk_put (cs := #[.int .u64 0, .int .u64 0, .int .u64 0, .int .u64 0, .int .u64 0, .int .u64 0, .int .u64 0, .int .u64 0, .bool false, .string (⟨#[]⟩ : ByteArray), .string (⟨#[]⟩ : ByteArray), .string (⟨#[]⟩ : ByteArray), .slice none 0 0]) ?_ 0 _ rfl; (with_reducible repeat (first | refine blk_drewN ?_ _ | refine blk_drew ?_ | refine blk_alloc ?_ _)); exact BK281.out⟩
                   have n5_ : Aside0 (Below w.heap.size w (((((((((((((w60.setCell ⟨gb281, 0, none⟩ (.int .u64 t265)).setCell ⟨gb281, 1, none⟩ (.int .u64 t266)).setCell ⟨gb281, 2, none⟩ (.int .u64 t267)).setCell ⟨gb281, 3, none⟩ (.int .u64 t268)).setCell ⟨gb281, 4, none⟩ (.int .u64 t269)).setCell ⟨gb281, 5, none⟩ (.int .u64 t270)).setCell ⟨gb281, 6, none⟩ (.int .u64 t271)).setCell ⟨gb281, 7, none⟩ (.int .u64 t272)).setCell ⟨gb281, 8, none⟩ (.bool t273)).setCell ⟨gb281, 9, none⟩ (.string t274)).setCell ⟨gb281, 10, none⟩ (.string t275)).setCell ⟨gb281, 11, none⟩ (.string t276)).setCell ⟨gb281, 12, none⟩ (.slice Ao63 t277.length co63))) := ⟨by repeat (first | (with_reducible first | exact HB.out | apply below_alloc | apply pw_below_drewN | apply below_drew1 | refine below_set ?_ GE254.out | refine below_set ?_ GE281.out) | exact HB.out)⟩
                   (try clear HO_6)
                   (try clear HO_255000)
                   (try clear HO279)
                   (try clear BK254)
                   (try clear BK281)
                   (try clear HB)
                   generalize (((((((((((((w60.setCell ⟨gb281, 0, none⟩ (.int .u64 t265)).setCell ⟨gb281, 1, none⟩ (.int .u64 t266)).setCell ⟨gb281, 2, none⟩ (.int .u64 t267)).setCell ⟨gb281, 3, none⟩ (.int .u64 t268)).setCell ⟨gb281, 4, none⟩ (.int .u64 t269)).setCell ⟨gb281, 5, none⟩ (.int .u64 t270)).setCell ⟨gb281, 6, none⟩ (.int .u64 t271)).setCell ⟨gb281, 7, none⟩ (.int .u64 t272)).setCell ⟨gb281, 8, none⟩ (.bool t273)).setCell ⟨gb281, 9, none⟩ (.string t274)).setCell ⟨gb281, 10, none⟩ (.string t275)).setCell ⟨gb281, 11, none⟩ (.string t276)).setCell ⟨gb281, 12, none⟩ (.slice Ao63 t277.length co63)) = w64 at n0_ n1_ n2_ n3_ n4_ n5_ ⊢
                   have HO_6 := n0_
                   have HO_255000 := n1_
                   have HO279 := n2_
                   have BK254 := n3_
                   have BK281 := n4_
                   have HB := n5_
                   clear n0_ n1_ n2_ n3_ n4_ n5_
                   have n0_ := Aside0.mk (Kd.R_drew HO_6.out)
                   have n1_ := Aside0.mk (Kd.V_drew HO_255000.out)
                   have n2_ := Aside0.mk (Kd.R_drew HO279.out)
                   have n3_ := Aside0.mk (blk_drew BK254.out)
                   have n4_ := Aside0.mk (blk_drew BK281.out)
                   have n5_ := Aside0.mk (below_drew1 HB.out)
                   clear HO_6
                   clear HO_255000
                   clear HO279
                   clear BK254
                   clear BK281
                   clear HB
                   have HO_6 := n0_
                   have HO_255000 := n1_
                   have HO279 := n2_
                   have BK254 := n3_
                   have BK281 := n4_
                   have HB := n5_
                   clear n0_ n1_ n2_ n3_ n4_ n5_
                   refine start_ (n := 12) (S := fun w' => w'.cell? ⟨gb281, 0, none⟩ = some (.int .u64 t265) ∧ w'.cell? ⟨gb281, 1, none⟩ = some (.int .u64 t266) ∧ w'.cell? ⟨gb281, 2, none⟩ = some (.int .u64 t267) ∧ w'.cell? ⟨gb281, 3, none⟩ = some (.int .u64 t268) ∧ w'.cell? ⟨gb281, 4, none⟩ = some (.int .u64 t269) ∧ w'.cell? ⟨gb281, 5, none⟩ = some (.int .u64 t270) ∧ w'.cell? ⟨gb281, 6, none⟩ = some (.int .u64 t271) ∧ w'.cell? ⟨gb281, 7, none⟩ = some (.int .u64 t272) ∧ w'.cell? ⟨gb281, 8, none⟩ = some (.bool t273) ∧ w'.cell? ⟨gb281, 9, none⟩ = some (.string t274) ∧ w'.cell? ⟨gb281, 10, none⟩ = some (.string t275) ∧ w'.cell? ⟨gb281, 11, none⟩ = some (.string t276) ∧ w'.cell? ⟨gb281, 12, none⟩ = some (.slice Ao63 t277.length co63)) (ds := []) #[false,false,false,false,false,false,false,false,false,false,false,false] (by kernel_rfl) rfl rfl ⟨(blk_cell BK281.out 0).trans rfl, (blk_cell BK281.out 1).trans rfl, (blk_cell BK281.out 2).trans rfl, (blk_cell BK281.out 3).trans rfl, (blk_cell BK281.out 4).trans rfl, (blk_cell BK281.out 5).trans rfl, (blk_cell BK281.out 6).trans rfl, (blk_cell BK281.out 7).trans rfl, (blk_cell BK281.out 8).trans rfl, (blk_cell BK281.out 9).trans rfl, (blk_cell BK281.out 10).trans rfl, (blk_cell BK281.out 11).trans rfl, (blk_cell BK281.out 12).trans rfl⟩ (fun hHeld => ?_); refine with_tabW dominolaw13_AcksAll.tab21 dominolaw13_AcksAll.bits21 (fun HT_ HW_ => ?_)
                   generalize w64.drew = w65 at HO_6 HO_255000 HO279 BK254 BK281 HB hHeld ⊢
                   refine pure_ (i := 0) (N := some 92) (v := ?_) (a' := ?_) #[true,false,false,false,false,false,false,false,false,false,false,false] rfl rfl (any_of HT_.out (by kernel_rfl)) (fun _ _ _ h => h) (Or.inl ⟨by rfl, ?_⟩) ?_ ?_
                   rotate_left;(intro w';go_simp;with_reducible rfl);rotate_left;(simp only [Act.put, List.setIfInBounds_toArray, List.set_cons_zero, List.set_cons_succ, i64_w, i32_w];rfl)
                   refine pure_ (i := 3) (N := some 95) (v := ?_) (a' := ?_) #[true,false,false,true,false,false,false,false,false,false,false,false] rfl rfl (any_of HT_.out (by kernel_rfl)) (fun _ _ _ h => h) (Or.inl ⟨by rfl, ?_⟩) ?_ ?_
                   rotate_left;(intro w';go_simp;with_reducible rfl);rotate_left;(simp only [Act.put, List.setIfInBounds_toArray, List.set_cons_zero, List.set_cons_succ, i64_w, i32_w];rfl)
                   refine take_ (i := 1) (N := some 93) (v := ?_) (a' := ?_) #[true,true,false,true,false,false,false,false,false,false,false,false] rfl rfl (take_ofW HT_.out HW_.out (by kernel_rfl)) (fun _ _ _ h => h) (Or.inl ⟨by rfl, ?_⟩) hHeld ?_ ?_
                   rotate_left
                   ·rintro w' ⟨s0, s1, s2, s3, s4, s5, s6, s7, s8, s9, s10, s11, s12⟩
                    go_simp
                    with_reducible rfl
                   rotate_left
                   ·simp only [Act.put, List.setIfInBounds_toArray, List.set_cons_zero, List.set_cons_succ, i64_w, i32_w]
                    rfl
                   refine take_ (i := 4) (N := some 96) (v := ?_) (a' := ?_) #[true,true,false,true,true,false,false,false,false,false,false,false] rfl rfl (take_ofW HT_.out HW_.out (by kernel_rfl)) (fun _ _ _ h => h) (Or.inl ⟨by rfl, ?_⟩) hHeld ?_ ?_
                   rotate_left
                   ·rintro w' ⟨s0, s1, s2, s3, s4, s5, s6, s7, s8, s9, s10, s11, s12⟩
                    go_simp
                    with_reducible rfl
                   rotate_left
                   ·simp only [Act.put, List.setIfInBounds_toArray, List.set_cons_zero, List.set_cons_succ, i64_w, i32_w]
                    rfl
                   refine one_ (i := 2) (N := some 94) #[true,true,true,true,true,false,false,false,false,false,false,false] rfl rfl (one_of HT_.out (by kernel_rfl)) (by decide) (fun K hK => ?_)
                   refine goes_ Try.func10 (by kernel_rfl) rfl #[.slice Ao63 t277.length co63] (by rfl) rfl rfl (by (try simp only [List.map_toArray, List.map_cons, List.map_nil]); first | done | rfl | (simp only [List.length_drop, List.length_take]; rfl)) ?_
                   with_reducible refine (dominolaw13_set.calls k4 _ _ t277 t282 _ ?side1 ?side2 A48.out).mono ?_
                   (case side1 => repeat (first | exact (Kd.R_reads' HO279.out).2.2 | (with_reducible refine Kd.C_alloc ?_ _) | (with_reducible refine Kd.C_drewN ?_ _) | (with_reducible refine Kd.C_drew ?_)))
                   (case side2 => exact (Kd.R_reads' HO279.out).2.1)
                   rintro e w66 ⟨v283, rfl, ho0, hb⟩
                   refine ⟨_, rfl, ?_⟩
                   have n0_ := Aside0.mk (Kd.R_below (by (with_reducible repeat (first | apply Kd.R_alloc | apply Kd.R_drewN | apply Kd.R_drew)); exact HO_6.out) hb)
                   have n1_ := Aside0.mk (Kd.V_elder' (by (with_reducible repeat (first | apply Kd.V_alloc | apply Kd.V_drewN | apply Kd.V_drew)); exact HO_255000.out) (Kd.R_base ho0) hb)
                   have n2_ := Aside0.mk (Kd.R_below (by (with_reducible repeat (first | apply Kd.R_alloc | apply Kd.R_drewN | apply Kd.R_drew)); exact HO279.out) hb)
                   have n3_ := Aside0.mk (Kd.R_lower ho0 (below_size (by repeat (first | (with_reducible first | exact HB.out | apply below_alloc | apply pw_below_drewN | apply below_drew1 | refine below_set ?_ GE254.out | refine below_set ?_ GE281.out) | exact HB.out))))
                   have n4_ := Aside0.mk (blk_below (g := gb254) (o := .cells #[.slice Ao58 x255000_4.length co58, .int .u64 x255001_4, .int .i64 x255002_4, .int .i64 x255003_4, .int .i64 x255004_4] 28 (0, 0)) (by (with_reducible repeat (first | refine blk_drewN ?_ _ | refine blk_drew ?_ | refine blk_alloc ?_ _)); exact BK254.out) hb)
                   have n5_ := Aside0.mk (blk_below (g := gb281) (o := .cells #[.int .u64 t265, .int .u64 t266, .int .u64 t267, .int .u64 t268, .int .u64 t269, .int .u64 t270, .int .u64 t271, .int .u64 t272, .bool t273, .string t274, .string t275, .string t276, .slice Ao63 t277.length co63] 32 (0, 0)) (by (with_reducible repeat (first | refine blk_drewN ?_ _ | refine blk_drew ?_ | refine blk_alloc ?_ _)); exact BK281.out) hb)
                   have n6_ := Aside0.mk (below_step (by repeat (first | (with_reducible first | exact HB.out | apply below_alloc | apply pw_below_drewN | apply below_drew1 | refine below_set ?_ GE254.out | refine below_set ?_ GE281.out) | exact HB.out)) hb)
                   clear HO_6
                   clear HO_255000
                   clear HO279
                   clear BK254
                   clear BK281
                   clear HB
                   have HO_6 := n0_
                   have HO_255000 := n1_
                   have HO279 := n2_
                   have HO284 := n3_
                   have BK254 := n4_
                   have BK281 := n5_
                   have HB := n6_
                   clear n0_ n1_ n2_ n3_ n4_ n5_ n6_
                   (try clear hb)
                   (try clear hb2)
                   (try clear hk)
                   (try clear hi)
                   (try clear ho0)
                   obtain ⟨Ao67, co67, eo67⟩ := Kd.R_slice HO284.out
                   (first | subst eo67 | (injection eo67 with f1_ f2_ f3_; have f4_ := f1_.symm; have f5_ := f3_.symm; clear f1_ f2_ f3_; subst f4_; subst f5_))
                   refine hK.out _ _ ⟨(blk_cell BK281.out 0).trans rfl, (blk_cell BK281.out 1).trans rfl, (blk_cell BK281.out 2).trans rfl, (blk_cell BK281.out 3).trans rfl, (blk_cell BK281.out 4).trans rfl, (blk_cell BK281.out 5).trans rfl, (blk_cell BK281.out 6).trans rfl, (blk_cell BK281.out 7).trans rfl, (blk_cell BK281.out 8).trans rfl, (blk_cell BK281.out 9).trans rfl, (blk_cell BK281.out 10).trans rfl, (blk_cell BK281.out 11).trans rfl, (blk_cell BK281.out 12).trans rfl⟩ (fun hHeld => ?_)
                   clear hK K
                   refine norm_ (a' := ?_) ?_ ?_
                   rotate_left
                   ·show Act.put _ (some 94) _ = _
                    simp only [Act.put, List.setIfInBounds_toArray, List.set_cons_zero, List.set_cons_succ, i64_w, i32_w]
                    rfl
                   refine pure_ (i := 5) (N := some 97) (v := ?_) (a' := ?_) #[true,true,true,true,true,true,false,false,false,false,false,false] rfl rfl (any_of HT_.out (by kernel_rfl)) (fun _ _ _ h => h) (Or.inl ⟨by rfl, ?_⟩) ?_ ?_
                   rotate_left;(intro w';go_simp;with_reducible rfl);rotate_left;(simp only [Act.put, List.setIfInBounds_toArray, List.set_cons_zero, List.set_cons_succ, i64_w, i32_w];rfl)
                   refine one_ (i := 6) (N := some 98) #[true,true,true,true,true,true,true,false,false,false,false,false] rfl rfl (one_of HT_.out (by kernel_rfl)) (by decide) (fun K hK => ?_)
                   refine goes_ Try.func9 (by kernel_rfl) rfl #[.agg #[.int .u64 2, .int .u64 0, .int .u64 0, .int .u64 0, .int .u64 0, .int .u64 0, .int .u64 0, .int .u64 t272, .bool false, .string (⟨#[]⟩ : ByteArray), .string (⟨#[]⟩ : ByteArray), .string (⟨#[]⟩ : ByteArray), .slice Ao67 t282.length co67]] (by rfl) rfl rfl (by (try simp only [List.map_toArray, List.map_cons, List.map_nil]); first | done | rfl | (simp only [List.length_drop, List.length_take]; rfl)) ?_
                   with_reducible refine (dominoref06_Put.calls k4 2 0 0 0 0 0 0 t272 false (⟨#[]⟩ : ByteArray) (⟨#[]⟩ : ByteArray) (⟨#[]⟩ : ByteArray) _ _ t282 t285 t286 _ ?side1 ?side2 A49.out).mono ?_
                   (case side1 => repeat (first | exact (Kd.R_reads' HO284.out).2.2 | (with_reducible refine Kd.C_alloc ?_ _) | (with_reducible refine Kd.C_drewN ?_ _) | (with_reducible refine Kd.C_drew ?_)))
                   (case side2 => exact (Kd.R_reads' HO284.out).2.1)
                   rintro e w68 ⟨rfl, hb⟩
                   refine ⟨_, rfl, ?_⟩
                   have n0_ := Aside0.mk (Kd.R_below (by (with_reducible repeat (first | apply Kd.R_alloc | apply Kd.R_drewN | apply Kd.R_drew)); exact HO_6.out) hb)
                   have n1_ := Aside0.mk (Kd.V_below (by (with_reducible repeat (first | apply Kd.V_alloc | apply Kd.V_drewN | apply Kd.V_drew)); exact HO_255000.out) hb)
                   have n2_ := Aside0.mk (Kd.R_below (by (with_reducible repeat (first | apply Kd.R_alloc | apply Kd.R_drewN | apply Kd.R_drew)); exact HO279.out) hb)
                   have n3_ := Aside0.mk (Kd.R_below (by (with_reducible repeat (first | apply Kd.R_alloc | apply Kd.R_drewN | apply Kd.R_drew)); exact HO284.out) hb)
                   have n4_ := Aside0.mk (blk_below (g := gb254) (o := .cells #[.slice Ao58 x255000_4.length co58, .int .u64 x255001_4, .int .i64 x255002_4, .int .i64 x255003_4, .int .i64 x255004_4] 28 (0, 0)) (by (with_reducible repeat (first | refine blk_drewN ?_ _ | refine blk_drew ?_ | refine blk_alloc ?_ _)); exact BK254.out) hb)
                   have n5_ := Aside0.mk (blk_below (g := gb281) (o := .cells #[.int .u64 t265, .int .u64 t266, .int .u64 t267, .int .u64 t268, .int .u64 t269, .int .u64 t270, .int .u64 t271, .int .u64 t272, .bool t273, .string t274, .string t275, .string t276, .slice Ao63 t277.length co63] 32 (0, 0)) (by (with_reducible repeat (first | refine blk_drewN ?_ _ | refine blk_drew ?_ | refine blk_alloc ?_ _)); exact BK281.out) hb)
                   have n6_ := Aside0.mk (below_step (by repeat (first | (with_reducible first | exact HB.out | apply below_alloc | apply pw_below_drewN | apply below_drew1 | refine below_set ?_ GE254.out | refine below_set ?_ GE281.out) | exact HB.out)) hb)
                   clear HO_6
                   clear HO_255000
                   clear HO279
                   clear HO284
                   clear BK254
                   clear BK281
                   clear HB
                   have HO_6 := n0_
                   have HO_255000 := n1_
                   have HO279 := n2_
                   have HO284 := n3_
                   have BK254 := n4_
                   have BK281 := n5_
                   have HB := n6_
                   clear n0_ n1_ n2_ n3_ n4_ n5_ n6_
                   (try clear hb)
                   (try clear hb2)
                   (try clear hk)
                   (try clear hi)
                   refine hK.out _ _ ⟨(blk_cell BK281.out 0).trans rfl, (blk_cell BK281.out 1).trans rfl, (blk_cell BK281.out 2).trans rfl, (blk_cell BK281.out 3).trans rfl, (blk_cell BK281.out 4).trans rfl, (blk_cell BK281.out 5).trans rfl, (blk_cell BK281.out 6).trans rfl, (blk_cell BK281.out 7).trans rfl, (blk_cell BK281.out 8).trans rfl, (blk_cell BK281.out 9).trans rfl, (blk_cell BK281.out 10).trans rfl, (blk_cell BK281.out 11).trans rfl, (blk_cell BK281.out 12).trans rfl⟩ (fun hHeld => ?_)
                   clear hK K
                   refine norm_ (a' := ?_) ?_ ?_
                   rotate_left
                   ·show Act.put _ (some 98) _ = _
                    simp only [Act.put, List.setIfInBounds_toArray, List.set_cons_zero, List.set_cons_succ, i64_w, i32_w]
                    rfl
                   refine pure_ (i := 7) (N := some 91) (v := ?_) (a' := ?_) #[true,true,true,true,true,true,true,true,false,false,false,false] rfl rfl (any_of HT_.out (by kernel_rfl)) (fun _ _ _ h => h) (Or.inl ⟨by rfl, ?_⟩) ?_ ?_
                   rotate_left;(intro w';go_simp;with_reducible rfl);rotate_left;(simp only [Act.put, List.setIfInBounds_toArray, List.set_cons_zero, List.set_cons_succ, i64_w, i32_w];rfl)
                   refine pure_ (i := 8) (N := some 99) (v := ?_) (a' := ?_) #[true,true,true,true,true,true,true,true,true,false,false,false] rfl rfl (any_of HT_.out (by kernel_rfl)) (fun _ _ _ h => h) (Or.inl ⟨by rfl, ?_⟩) ?_ ?_
                   rotate_left;(intro w';go_simp;with_reducible rfl);rotate_left;(simp only [Act.put, List.setIfInBounds_toArray, List.set_cons_zero, List.set_cons_succ, i64_w, i32_w];rfl)
                   refine pure_ (i := 9) (N := some 100) (v := ?_) (a' := ?_) #[true,true,true,true,true,true,true,true,true,true,false,false] rfl rfl (any_of HT_.out (by kernel_rfl)) (fun _ _ _ h => h) (Or.inl ⟨by rfl, ?_⟩) ?_ ?_
                   rotate_left;(intro w';go_simp;with_reducible rfl);rotate_left;(simp only [Act.put, List.setIfInBounds_toArray, List.set_cons_zero, List.set_cons_succ, i64_w, i32_w];rfl)
                   refine pure_ (i := 10) (N := some 15) (v := ?_) (a' := ?_) #[true,true,true,true,true,true,true,true,true,true,true,false] rfl rfl (any_of HT_.out (by kernel_rfl)) (fun _ _ _ h => h) (Or.inl ⟨by rfl, ?_⟩) ?_ ?_
                   rotate_left;(intro w';go_simp;with_reducible rfl);rotate_left;(simp only [Act.put, List.setIfInBounds_toArray, List.set_cons_zero, List.set_cons_succ, i64_w, i32_w];rfl)
                   refine pure_ (i := 11) (N := some 16) (v := ?_) (a' := ?_) #[true,true,true,true,true,true,true,true,true,true,true,true] rfl rfl (any_of HT_.out (by kernel_rfl)) (fun _ _ _ h => h) (Or.inl ⟨by rfl, ?_⟩) ?_ ?_
                   rotate_left;(intro w';go_simp;with_reducible rfl);rotate_left;(simp only [Act.put, List.setIfInBounds_toArray, List.set_cons_zero, List.set_cons_succ, i64_w, i32_w];rfl)
                   refine done_ (done_of HT_.out (by kernel_rfl)) ?_
                   have hcz69_0 : w68.cell? ⟨gb281, 0, none⟩ = some (.int .u64 t265) := (blk_cell BK281.out 0).trans rfl
                   have hcz69_1 : w68.cell? ⟨gb281, 1, none⟩ = some (.int .u64 t266) := (blk_cell BK281.out 1).trans rfl
                   have hcz69_2 : w68.cell? ⟨gb281, 2, none⟩ = some (.int .u64 t267) := (blk_cell BK281.out 2).trans rfl
                   have hcz69_3 : w68.cell? ⟨gb281, 3, none⟩ = some (.int .u64 t268) := (blk_cell BK281.out 3).trans rfl
                   have hcz69_4 : w68.cell? ⟨gb281, 4, none⟩ = some (.int .u64 t269) := (blk_cell BK281.out 4).trans rfl
                   have hcz69_5 : w68.cell? ⟨gb281, 5, none⟩ = some (.int .u64 t270) := (blk_cell BK281.out 5).trans rfl
                   have hcz69_6 : w68.cell? ⟨gb281, 6, none⟩ = some (.int .u64 t271) := (blk_cell BK281.out 6).trans rfl
                   have hcz69_7 : w68.cell? ⟨gb281, 7, none⟩ = some (.int .u64 t272) := (blk_cell BK281.out 7).trans rfl
                   have hcz69_8 : w68.cell? ⟨gb281, 8, none⟩ = some (.bool t273) := (blk_cell BK281.out 8).trans rfl
                   have hcz69_9 : w68.cell? ⟨gb281, 9, none⟩ = some (.string t274) := (blk_cell BK281.out 9).trans rfl
                   have hcz69_10 : w68.cell? ⟨gb281, 10, none⟩ = some (.string t275) := (blk_cell BK281.out 10).trans rfl
                   have hcz69_11 : w68.cell? ⟨gb281, 11, none⟩ = some (.string t276) := (blk_cell BK281.out 11).trans rfl
                   have hcz69_12 : w68.cell? ⟨gb281, 12, none⟩ = some (.slice Ao63 t277.length co63) := (blk_cell BK281.out 12).trans rfl
                   have hfz69_0 := blk_frozen BK281.out 0
                   have hfz69_1 := blk_frozen BK281.out 1
                   have hfz69_2 := blk_frozen BK281.out 2
                   have hfz69_3 := blk_frozen BK281.out 3
                   have hfz69_4 := blk_frozen BK281.out 4
                   have hfz69_5 := blk_frozen BK281.out 5
                   have hfz69_6 := blk_frozen BK281.out 6
                   have hfz69_7 := blk_frozen BK281.out 7
                   have hfz69_8 := blk_frozen BK281.out 8
                   have hfz69_9 := blk_frozen BK281.out 9
                   have hfz69_10 := blk_frozen BK281.out 10
                   have hfz69_11 := blk_frozen BK281.out 11
                   have hfz69_12 := blk_frozen BK281.out 12
                   have p287 : 0 ≤ (0 : Int) := (by omega)
                   have q287 : 0 < (t277.length : Int) := of_decide_eq_true (by first | (with_reducible assumption) | assumption)
                   obtain ⟨ad287, e287, hx287_0, hx287_1⟩ := at_T44 (Kd.R_reads' HO279.out).2.2 0 p287 q287
                   cases e287
                   have qi287 : (0 < t277.length) = True := eq_true (by omega)
                   (try rw [show ((0 : Int)).toNat = 0 from rfl] at hx287_0)
                   (try rw [show 0 * 2 = 0 from rfl] at hx287_0)
                   (try rw [Addr.add_zero'] at hx287_0)
                   (try rw [show ((0 : Int)).toNat = 0 from rfl] at hx287_1)
                   (try rw [show 0 * 2 = 0 from rfl] at hx287_1)
                   (try rw [Addr.add_zero'] at hx287_1)
                   replace p287 := eq_true p287
                   replace q287 := eq_true q287
                   have hcz70_0 : w68.cell? ⟨gb254, 0, none⟩ = some (.slice Ao58 x255000_4.length co58) := (blk_cell BK254.out 0).trans rfl
                   have hcz70_1 : w68.cell? ⟨gb254, 1, none⟩ = some (.int .u64 x255001_4) := (blk_cell BK254.out 1).trans rfl
                   have hcz70_2 : w68.cell? ⟨gb254, 2, none⟩ = some (.int .i64 x255002_4) := (blk_cell BK254.out 2).trans rfl
                   have hcz70_3 : w68.cell? ⟨gb254, 3, none⟩ = some (.int .i64 x255003_4) := (blk_cell BK254.out 3).trans rfl
                   have hcz70_4 : w68.cell? ⟨gb254, 4, none⟩ = some (.int .i64 x255004_4) := (blk_cell BK254.out 4).trans rfl
                   have hfz70_0 := blk_frozen BK254.out 0
                   have hfz70_1 := blk_frozen BK254.out 1
                   have hfz70_2 := blk_frozen BK254.out 2
                   have hfz70_3 := blk_frozen BK254.out 3
                   have hfz70_4 := blk_frozen BK254.out 4
                   try go_wp2_with (first | (go_at_call 11; (with_reducible refine (dominolaw13_shown.calls k4  t288 _ A56.out).mono ?_); rintro e w71 ⟨rfl, hb⟩; have n0_ := Aside0.mk (Kd.R_below (by (with_reducible repeat (first | apply Kd.R_alloc | apply Kd.R_drewN | apply Kd.R_drew)); exact HO_6.out) hb); have n1_ := Aside0.mk (Kd.V_below (by (with_reducible repeat (first | apply Kd.V_alloc | apply Kd.V_drewN | apply Kd.V_drew)); exact HO_255000.out) hb); have n2_ := Aside0.mk (Kd.R_below (by (with_reducible repeat (first | apply Kd.R_alloc | apply Kd.R_drewN | apply Kd.R_drew)); exact HO279.out) hb); have n3_ := Aside0.mk (Kd.R_below (by (with_reducible repeat (first | apply Kd.R_alloc | apply Kd.R_drewN | apply Kd.R_drew)); exact HO284.out) hb); have n4_ := Aside0.mk (blk_below (g := gb254) (o := .cells #[.slice Ao58 x255000_4.length co58, .int .u64 x255001_4, .int .i64 x255002_4, .int .i64 x255003_4, .int .i64 x255004_4] 28 (0, 0)) (by (with_reducible repeat (first | refine blk_drewN ?_ _ | refine blk_drew ?_ | refine blk_alloc ?_ _)); exact BK254.out) hb); have n5_ := Aside0.mk (blk_below (g := gb281) (o := .cells #[.int .u64 t265, .int .u64 t266, .int .u64 t267, .int .u64 t268, .int .u64 t269, .int .u64 t270, .int .u64 t271, .int .u64 t272, .bool t273, .string t274, .string t275, .string t276, .slice (some ad287) t277.length co63] 32 (0, 0)) (by (with_reducible repeat (first | refine blk_drewN ?_ _ | refine blk_drew ?_ | refine blk_alloc ?_ _)); exact BK281.out) hb); have n6_ := Aside0.mk (below_step (by repeat (first | (with_reducible first | exact HB.out | apply below_alloc | apply pw_below_drewN | apply below_drew1 | refine below_set ?_ GE254.out | refine below_set ?_ GE281.out) | exact HB.out)) hb); clear HO_6; clear HO_255000; clear HO279; clear HO284; clear BK254; clear BK281; clear HB; have HO_6 := n0_; have HO_255000 := n1_; have HO279 := n2_; have HO284 := n3_; have BK254 := n4_; have BK281 := n5_; have HB := n6_; clear n0_ n1_ n2_ n3_ n4_ n5_ n6_; (try clear hb); (try clear hb2); (try clear hk); (try clear hi)))
                   go_ret
                   exact ⟨by first | rfl | (have hq_ := of_eq_true c54q; simp [errW_none, errW_some, hq_, bne]; done) | (have hq_ := of_eq_true c54q; simp [errW_none, errW_some, hq_, bne]; rfl) | (simp [errW_none, errW_some] <;> rfl) | (simp [*, errW_none, errW_some] <;> rfl), by repeat (first | (with_reducible first | exact HB.out | apply below_alloc | apply pw_below_drewN | apply below_drew1 | refine below_set ?_ GE254.out | refine below_set ?_ GE281.out) | exact HB.out)⟩
                  ·rw [if_neg c55] at H
                   exact absurd H (by simp)
                 ·rw [if_neg c54] at H
                  exact absurd H (by simp)
                ·rw [if_neg c53] at H
                 exact absurd H (by simp)
               ·rw [if_neg c52] at H
                exact absurd H (by simp)
              ·rw [if_neg c51] at H
               exact absurd H (by simp)
             ·replace c50 := Bool.eq_false_iff.mpr c50
              subst c50
              have H1 : (none) = some r := by rw [if_neg (show ¬ (false = true) by decide)] at H; exact H
              clear H
              have H := H1
              clear H1
              exact absurd H (by simp)
 ·rw [if_neg c3] at H
  exact absurd H (by simp)

/-- THE ONE PURE STATEMENT of dominolaw13_AcksAll: yours. -/
def dominolaw13_AcksAll.Pure : Prop := ∀ (a0 : Int) (l1 : List Int), (Lit.int .u8 a0).wf = true → l1.length ≤ maxLen → l1.length * 1 ≤ 140737488351232 → (∀ x ∈ l1, (Lit.int .u8 x).wf = true) → ∃ k, dominolaw13_AcksAll.f k a0 l1 = some true
theorem dominolaw13_AcksAll.walk (P : dominolaw13_AcksAll.Pure) (a0 : Int) (a1 : Option Addr) (len1 cap1 : Nat) (z1 : List Int) (w : World) (w0 : (Lit.int .u8 a0).wf = true) (w1 : (a1 = none ∧ len1 = 0 ∧ cap1 = 0 ∧ z1 = []) ∨ ∃ x, a1 = some x ∧ len1 ≤ cap1 ∧ cap1 ≤ maxLen ∧ z1.length = cap1 ∧ (∀ i, i < z1.length → w.cell? (x.add i) = some (.int .u8 (z1.getD i 0))) ∧ ∀ n ∈ z1, (Lit.int .u8 n).wf = true) (y1 : len1 * 1 ≤ 140737488351232) :
  Calls Try.prog 3 #[.int .u8 a0, .slice a1 len1 cap1] w fun e w' => e = .returned (.bool true) ∧ Below w.heap.size w w' := by
 obtain ⟨l1, rfl, hr1, hm1, hw1, hc1⟩ := ReadsInt.ofRowC w1
 obtain ⟨k, h⟩ := P a0 l1 w0 hm1 y1 hw1
 refine (dominolaw13_AcksAll.calls k a0 _ _ l1 true w (Kd.C_of_reads (d := (0 : Int)) (h1 := fun _ => rfl) hr1) hc1 h).mono ?_
 rintro e w' ⟨rfl, hd⟩
 exact ⟨rfl, hd⟩

end Go.Proofs.Ytlcfjimgnfcdkaa.PAky
