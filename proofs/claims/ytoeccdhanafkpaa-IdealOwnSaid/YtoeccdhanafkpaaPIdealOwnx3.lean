-- printed for this claim by a program of the claim (wip/tools/pp.py over the kit's print)
import Derived.Test.YtoeccdhanafkpaaPIdealOwnx0
import Derived.Test.YtoeccdhanafkpaaPIdealOwnx1
import Derived.Test.YtoeccdhanafkpaaPIdealOwnx2
namespace Go.Proofs.Ytoeccdhanafkpaa.PIdealOwn
open Go.RowKit Go.Proofs.YtoeccdhanafkpaaW.PrintWords Go.Proofs.YtoeccdhanafkpaaW.PrintLast Go.Proofs.YtoeccdhanafkpaaW.PrintMore
attribute [local go_sem] max2_int min2_int max_two min_two max_three min_three max_four min_four   -- for this text's walks alone
set_option linter.unusedVariables false
set_option linter.unusedSimpArgs false

attribute [local go_sem] isSome_setCell_
/-! ### dominolaw10_IdealOwn: function 7 -/
mutual
def dominolaw10_IdealOwn.j0 : Nat → Int → List (S40) → ByteArray → Bool → Option (Bool)
 | 0,_,_,_,_ => none
 | k + 1,x0,x1,x2,x34 => if x34 = true then ((dominolaw10_shown.f k).bind fun t129 => (some t129)) else ((ideal_New.f x0).bind fun bt130 => (dominolaw10_IdealOwn.l0 k x1 x2 (([] : List ByteArray)) 0 bt130.1 bt130.2.1 bt130.2.2))
def dominolaw10_IdealOwn.l0 : Nat → List (S40) → ByteArray → List ByteArray → Int → Int → Int → List (S73) → Option (Bool)
 | 0,_,_,_,_,_,_,_ => none
 | k + 1,x1,x2,x8,x9,x136000,x136001,x136002 => if x9 < (x1.length : Int) then (if 0 ≤ x9 then ((ideal_Seal.f k x136000 x136001 x136002 ((rd_T40 x1 x9).f0) ((rd_T40 x1 x9).f1) ((rd_T40 x1 x9).f2) ((rd_T40 x1 x9).f3)).bind fun bt143 => (dominolaw10_IdealOwn.l1 k x1 x2 x8 x9 bt143.2.2.2 0 bt143.1 bt143.2.1 bt143.2.2.1)) else (none)) else (dominolaw10_IdealOwn.l2 k x1 x2 x8 0 x136000 x136001 x136002)
def dominolaw10_IdealOwn.l1 : Nat → List (S40) → ByteArray → List ByteArray → Int → ByteArray → Int → Int → Int → List (S73) → Option (Bool)
 | 0,_,_,_,_,_,_,_,_,_ => none
 | k + 1,x1,x2,x8,x9,x11,x12,x136000,x136001,x136002 => if x12 < (x8.length : Int) then (if 0 ≤ x12 then (if (rdOf ByteArray.empty x8 x12).toList = x11.toList then (some true) else (dominolaw10_IdealOwn.l1 k x1 x2 x8 x9 x11 (wrap64 (x12 + 1)) x136000 x136001 x136002)) else (none)) else (if x8.length < 8796093022208 then (if 0 ≤ x9 then (if x9 < (x1.length : Int) then ((ideal_Open.f x136000 x136001 x136002 ((rd_T40 x1 x9).f0) x11).bind fun bt155 => ((ideal_Open.f x136000 x136001 x136002 (wrap64 (((rd_T40 x1 x9).f0) + 1)) x11).bind fun bt159 => (if bt155.2.2 = true then (some false) else (if bt159.2.2 = true then (if bt159.1 = ((rd_T40 x1 x9).f1) then (if bt159.2.1.toList = ((rd_T40 x1 x9).f3).toList then (dominolaw10_IdealOwn.l0 k x1 x2 (x8 ++ [x11]) (wrap64 (x9 + 1)) x136000 x136001 x136002) else (some false)) else (some false)) else (some false))))) else (none)) else (none)) else (none))
def dominolaw10_IdealOwn.l2 : Nat → List (S40) → ByteArray → List ByteArray → Int → Int → Int → List (S73) → Option (Bool)
 | 0,_,_,_,_,_,_,_ => none
 | k + 1,x1,x2,x8,x19,x136000,x136001,x136002 => if x19 < (x8.length : Int) then (if 0 ≤ x19 then (if (rdOf ByteArray.empty x8 x19).toList = x2.toList then (some true) else (dominolaw10_IdealOwn.l2 k x1 x2 x8 (wrap64 (x19 + 1)) x136000 x136001 x136002)) else (none)) else ((ideal_Open.f x136000 x136001 x136002 0 x2).bind fun bt165 => (if bt165.2.2 = true then (some false) else (some (x136001 == (IntKind.u64.wrap ((x1.length : Int)))))))
end
def dominolaw10_IdealOwn.f (k : Nat) (a0 : Int) (l1 : List (S40)) (a2 : ByteArray) : Option (Bool) := (dominolaw10_bounded.f k l1).bind fun t127 => (if t127 = true then (if (a2.size : Int) > 300 then (dominolaw10_IdealOwn.j0 k a0 l1 a2 true) else ((dominolaw10_shown.f k).bind fun t128 => (dominolaw10_IdealOwn.j0 k a0 l1 a2 (!t128)))) else (dominolaw10_IdealOwn.j0 k a0 l1 a2 true))
theorem dominolaw10_IdealOwn.mono_l : ∀ k,(∀ y0 y1 y2 y3,LeO (dominolaw10_IdealOwn.j0 k y0 y1 y2 y3) (dominolaw10_IdealOwn.j0 (k + 1) y0 y1 y2 y3)) ∧ (∀ y0 y1 y2 y3 y4 y5 y6,LeO (dominolaw10_IdealOwn.l0 k y0 y1 y2 y3 y4 y5 y6) (dominolaw10_IdealOwn.l0 (k + 1) y0 y1 y2 y3 y4 y5 y6)) ∧ (∀ y0 y1 y2 y3 y4 y5 y6 y7 y8,LeO (dominolaw10_IdealOwn.l1 k y0 y1 y2 y3 y4 y5 y6 y7 y8) (dominolaw10_IdealOwn.l1 (k + 1) y0 y1 y2 y3 y4 y5 y6 y7 y8)) ∧ (∀ y0 y1 y2 y3 y4 y5 y6,LeO (dominolaw10_IdealOwn.l2 k y0 y1 y2 y3 y4 y5 y6) (dominolaw10_IdealOwn.l2 (k + 1) y0 y1 y2 y3 y4 y5 y6))
 | 0 => ⟨fun _ _ _ _ r h => by simp [dominolaw10_IdealOwn.j0] at h,fun _ _ _ _ _ _ _ r h => by simp [dominolaw10_IdealOwn.l0] at h,fun _ _ _ _ _ _ _ _ _ r h => by simp [dominolaw10_IdealOwn.l1] at h,fun _ _ _ _ _ _ _ r h => by simp [dominolaw10_IdealOwn.l2] at h⟩
 | k + 1 => by
  obtain ⟨ih0,ih1,ih2,ih3⟩ := dominolaw10_IdealOwn.mono_l k
  refine ⟨?_,?_,?_,?_⟩
  ·intro y0 y1 y2 y3
   unfold dominolaw10_IdealOwn.j0
   repeat' first
   | (with_reducible exact ih0 _ _ _ _)
   | (with_reducible exact ih1 _ _ _ _ _ _ _)
   | (with_reducible exact ih2 _ _ _ _ _ _ _ _ _)
   | (with_reducible exact ih3 _ _ _ _ _ _ _)
   | (with_reducible exact dominolaw10_bounded.mono _ _)
   | (with_reducible exact dominolaw10_shown.mono _)
   | (with_reducible exact ideal_Seal.mono _ _ _ _ _ _ _ _)
   | (with_reducible exact LeO.refl _)
   | (with_reducible exact LeO.none _)
   | (with_reducible refine LeO.ite ?_ ?_)
   | (with_reducible refine LeO.bind ?_ (fun _ => ?_))
   | exact ih0 _ _ _ _
   | exact ih1 _ _ _ _ _ _ _
   | exact ih2 _ _ _ _ _ _ _ _ _
   | exact ih3 _ _ _ _ _ _ _
   | exact dominolaw10_bounded.mono _ _
   | exact dominolaw10_shown.mono _
   | exact ideal_Seal.mono _ _ _ _ _ _ _ _
   | exact LeO.none _
   | refine LeO.ite ?_ ?_
   | refine LeO.bind ?_ (fun _ => ?_)
  ·intro y0 y1 y2 y3 y4 y5 y6
   unfold dominolaw10_IdealOwn.l0
   repeat' first
   | (with_reducible exact ih0 _ _ _ _)
   | (with_reducible exact ih1 _ _ _ _ _ _ _)
   | (with_reducible exact ih2 _ _ _ _ _ _ _ _ _)
   | (with_reducible exact ih3 _ _ _ _ _ _ _)
   | (with_reducible exact dominolaw10_bounded.mono _ _)
   | (with_reducible exact dominolaw10_shown.mono _)
   | (with_reducible exact ideal_Seal.mono _ _ _ _ _ _ _ _)
   | (with_reducible exact LeO.refl _)
   | (with_reducible exact LeO.none _)
   | (with_reducible refine LeO.ite ?_ ?_)
   | (with_reducible refine LeO.bind ?_ (fun _ => ?_))
   | exact ih0 _ _ _ _
   | exact ih1 _ _ _ _ _ _ _
   | exact ih2 _ _ _ _ _ _ _ _ _
   | exact ih3 _ _ _ _ _ _ _
   | exact dominolaw10_bounded.mono _ _
   | exact dominolaw10_shown.mono _
   | exact ideal_Seal.mono _ _ _ _ _ _ _ _
   | exact LeO.none _
   | refine LeO.ite ?_ ?_
   | refine LeO.bind ?_ (fun _ => ?_)
  ·intro y0 y1 y2 y3 y4 y5 y6 y7 y8
   unfold dominolaw10_IdealOwn.l1
   repeat' first
   | (with_reducible exact ih0 _ _ _ _)
   | (with_reducible exact ih1 _ _ _ _ _ _ _)
   | (with_reducible exact ih2 _ _ _ _ _ _ _ _ _)
   | (with_reducible exact ih3 _ _ _ _ _ _ _)
   | (with_reducible exact dominolaw10_bounded.mono _ _)
   | (with_reducible exact dominolaw10_shown.mono _)
   | (with_reducible exact ideal_Seal.mono _ _ _ _ _ _ _ _)
   | (with_reducible exact LeO.refl _)
   | (with_reducible exact LeO.none _)
   | (with_reducible refine LeO.ite ?_ ?_)
   | (with_reducible refine LeO.bind ?_ (fun _ => ?_))
   | exact ih0 _ _ _ _
   | exact ih1 _ _ _ _ _ _ _
   | exact ih2 _ _ _ _ _ _ _ _ _
   | exact ih3 _ _ _ _ _ _ _
   | exact dominolaw10_bounded.mono _ _
   | exact dominolaw10_shown.mono _
   | exact ideal_Seal.mono _ _ _ _ _ _ _ _
   | exact LeO.none _
   | refine LeO.ite ?_ ?_
   | refine LeO.bind ?_ (fun _ => ?_)
  ·intro y0 y1 y2 y3 y4 y5 y6
   unfold dominolaw10_IdealOwn.l2
   repeat' first
   | (with_reducible exact ih0 _ _ _ _)
   | (with_reducible exact ih1 _ _ _ _ _ _ _)
   | (with_reducible exact ih2 _ _ _ _ _ _ _ _ _)
   | (with_reducible exact ih3 _ _ _ _ _ _ _)
   | (with_reducible exact dominolaw10_bounded.mono _ _)
   | (with_reducible exact dominolaw10_shown.mono _)
   | (with_reducible exact ideal_Seal.mono _ _ _ _ _ _ _ _)
   | (with_reducible exact LeO.refl _)
   | (with_reducible exact LeO.none _)
   | (with_reducible refine LeO.ite ?_ ?_)
   | (with_reducible refine LeO.bind ?_ (fun _ => ?_))
   | exact ih0 _ _ _ _
   | exact ih1 _ _ _ _ _ _ _
   | exact ih2 _ _ _ _ _ _ _ _ _
   | exact ih3 _ _ _ _ _ _ _
   | exact dominolaw10_bounded.mono _ _
   | exact dominolaw10_shown.mono _
   | exact ideal_Seal.mono _ _ _ _ _ _ _ _
   | exact LeO.none _
   | refine LeO.ite ?_ ?_
   | refine LeO.bind ?_ (fun _ => ?_)
theorem dominolaw10_IdealOwn.mono : ∀ a0 a1 a2 k,LeO (dominolaw10_IdealOwn.f k a0 a1 a2) (dominolaw10_IdealOwn.f (k + 1) a0 a1 a2) := by
 intro a0 a1 a2 k
 obtain ⟨ih0,ih1,ih2,ih3⟩ := dominolaw10_IdealOwn.mono_l k
 unfold dominolaw10_IdealOwn.f
 repeat' first
   | (with_reducible exact ih0 _ _ _ _)
   | (with_reducible exact ih1 _ _ _ _ _ _ _)
   | (with_reducible exact ih2 _ _ _ _ _ _ _ _ _)
   | (with_reducible exact ih3 _ _ _ _ _ _ _)
   | (with_reducible exact dominolaw10_bounded.mono _ _)
   | (with_reducible exact dominolaw10_shown.mono _)
   | (with_reducible exact ideal_Seal.mono _ _ _ _ _ _ _ _)
   | (with_reducible exact LeO.refl _)
   | (with_reducible exact LeO.none _)
   | (with_reducible refine LeO.ite ?_ ?_)
   | (with_reducible refine LeO.bind ?_ (fun _ => ?_))
   | exact ih0 _ _ _ _
   | exact ih1 _ _ _ _ _ _ _
   | exact ih2 _ _ _ _ _ _ _ _ _
   | exact ih3 _ _ _ _ _ _ _
   | exact dominolaw10_bounded.mono _ _
   | exact dominolaw10_shown.mono _
   | exact ideal_Seal.mono _ _ _ _ _ _ _ _
   | exact LeO.none _
   | refine LeO.ite ?_ ?_
   | refine LeO.bind ?_ (fun _ => ?_)
def dominolaw10_IdealOwn.T8 : Bool × List (List Nat × List Nat) := (true,[([],[]),([],[]),([],[]),([1,2],[1,2]),([3],[3]),([4],[4]),([],[]),([],[]),([6,7],[6,7]),([8],[8]),([9],[9]),([],[]),([],[]),([11,12],[11,12]),([13],[13]),([14],[14]),([],[]),([],[]),([16,17],[16,17]),([18],[18]),([19],[19]),([0,5,10,15,20],[0,5,10,15,20]),([21],[21]),([22],[22]),([22],[22]),([],[]),([25,23,21,0,1,2,3,4,5,6,7,8,9,10,11,12,13,14,15,16,17,18,19,20,21,22,23,25],[23,25]),([24,26,0,1,2,3,4,5,6,7,8,9,10,11,12,13,14,15,16,17,18,19,20,21,22,23,24,25,26],[24])])
def dominolaw10_IdealOwn.B8 : List Nat := [0,0,0,6,14,30,0,0,192,448,960,0,0,6144,14336,30720,0,0,196608,458752,983040,2097151,4194303,8388607,8388607,0,50331647,134217727]
theorem dominolaw10_IdealOwn.tab8 : rtab .any (opsOf Try.f7 8) = dominolaw10_IdealOwn.T8 := by kernel_rfl
theorem dominolaw10_IdealOwn.bits8 : waitsOk dominolaw10_IdealOwn.T8.2 dominolaw10_IdealOwn.B8 = true := by kernel_rfl
def dominolaw10_IdealOwn.T16 : Bool × List (List Nat × List Nat) := (true,[([],[]),([],[]),([],[]),([1,2],[1,2]),([3],[3]),([4],[4]),([],[]),([0,5,6],[0,5,6]),([7],[7]),([8],[8]),([8],[8]),([8],[8]),([9,7,0,1,2,3,4,5,6,7,8,9],[9]),([10,12,0,1,2,3,4,5,6,7,8,9,10,12],[10]),([11,13,0,1,2,3,4,5,6,7,8,9,10,11,12,13],[11])])
def dominolaw10_IdealOwn.B16 : List Nat := [0,0,0,6,14,30,0,127,255,511,511,511,1023,6143,16383]
theorem dominolaw10_IdealOwn.tab16 : rtab .any (opsOf Try.f7 16) = dominolaw10_IdealOwn.T16 := by kernel_rfl
theorem dominolaw10_IdealOwn.bits16 : waitsOk dominolaw10_IdealOwn.T16.2 dominolaw10_IdealOwn.B16 = true := by kernel_rfl
def dominolaw10_IdealOwn.T17 : Bool × List (List Nat × List Nat) := (true,[([],[]),([],[]),([],[]),([1,2],[1,2]),([3],[3]),([4],[4]),([5],[5]),([],[]),([0,6,7],[0,6,7]),([8],[8]),([9],[9]),([9],[9]),([9],[9]),([10,8,0,1,2,3,4,5,6,7,8,9,10],[10]),([11,13,0,1,2,3,4,5,6,7,8,9,10,11,13],[11]),([12,14,0,1,2,3,4,5,6,7,8,9,10,11,12,13,14],[12])])
def dominolaw10_IdealOwn.B17 : List Nat := [0,0,0,6,14,30,62,0,255,511,1023,1023,1023,2047,12287,32767]
theorem dominolaw10_IdealOwn.tab17 : rtab .any (opsOf Try.f7 17) = dominolaw10_IdealOwn.T17 := by kernel_rfl
theorem dominolaw10_IdealOwn.bits17 : waitsOk dominolaw10_IdealOwn.T17.2 dominolaw10_IdealOwn.B17 = true := by kernel_rfl
set_option maxHeartbeats 8000000 in
set_option maxRecDepth 100000 in
theorem dominolaw10_IdealOwn.calls (k : Nat) (a0 : Int) (A1 : Option Addr) (c1 : Nat) (l1 : List (S40)) (a2 : ByteArray) (r : Bool) (w : World) (hr1 : Kd.C k40 w A1 l1.length l1) (hc1 : l1.length ≤ c1) (h : dominolaw10_IdealOwn.f k a0 l1 a2 = some r) :
  Calls Try.prog 7 #[.int .u64 a0,.slice A1 l1.length c1,.string a2] w fun e w' => e = .returned (.bool r) ∧ Below w.heap.size w w' := by
 have hu31 := Try.underlying31
 have HR1 := Aside0.mk hr1
 have HC1 := Aside0.mk hc1
 clear hr1 hc1
 have HB := Aside0.mk (Below.refl w.heap.size w)
 have H : ((dominolaw10_bounded.f k l1).bind fun t127 => (if t127 = true then (if (a2.size : Int) > 300 then (dominolaw10_IdealOwn.j0 k a0 l1 a2 true) else ((dominolaw10_shown.f k).bind fun t128 => (dominolaw10_IdealOwn.j0 k a0 l1 a2 (!t128)))) else (dominolaw10_IdealOwn.j0 k a0 l1 a2 true))) = some r := h
 clear h
 have HC4 := Aside0.mk H
 clear H
 go_enter Try.func7,Try.ntmps7
 go_upto_region 1 with (fail)
 go_cut [34] (fun v34 wc => ∃ (kq : Nat) (x34_3 : Bool),v34 = .bool x34_3 ∧ Aside0 (dominolaw10_IdealOwn.j0 kq a0 l1 a2 x34_3 = some r) ∧ Aside0 (kq ≤ k) ∧ Aside0 (Below w.heap.size w wc))
 case first =>
  have H := HC4.out
  clear HC4
  replace H := Option.bind_eq_some_iff.mp H
  obtain ⟨t127,A50,H⟩ := H
  replace H : (if t127 = true then (if (a2.size : Int) > 300 then (dominolaw10_IdealOwn.j0 k a0 l1 a2 true) else ((dominolaw10_shown.f k).bind fun t128 => (dominolaw10_IdealOwn.j0 k a0 l1 a2 (!t128)))) else (dominolaw10_IdealOwn.j0 k a0 l1 a2 true)) = some r := H
  have A5 := Aside0.mk A50
  clear A50
  by_cases c6 : t127 = true
  ·subst c6
   have H1 : (if (a2.size : Int) > 300 then (dominolaw10_IdealOwn.j0 k a0 l1 a2 true) else ((dominolaw10_shown.f k).bind fun t128 => (dominolaw10_IdealOwn.j0 k a0 l1 a2 (!t128)))) = some r := by rw [if_pos rfl] at H;exact H
   clear H
   have H := H1
   clear H1
   by_cases c7 : (a2.size : Int) > 300
   ·rw [if_pos c7] at H
    have c7b0 : decide (300 < (a2.size : Int)) = true := decide_eq_true c7
    have c7b1 : decide (300 < a2.size) = true := decide_eq_true (by omega)
    clear c7
    (first | rw [c7b0] | (simp only [i64_w,i32_w];rw [c7b0]) | skip)
    have H' := Aside0.mk H
    clear H
    go_wp2_with (first | ((with_reducible refine gate_callee (f := 14) rfl ?_);refine goesL_ (some 24) rfl rfl Try.func14 (by kernel_rfl) rfl #[.slice A1 l1.length c1] rfl (by (try simp only [List.map_toArray,List.map_cons,List.map_nil]);first | done | rfl | (simp only [List.length_drop,List.length_take];rfl)) ?_;(with_reducible refine (dominolaw10_bounded.calls k _ _ l1 true _ ?side1 ?side2 A5.out).mono ?_);(case side1 => repeat (first | exact (Kd.C_below HR1.out HB.out) | (with_reducible refine Kd.C_alloc ?_ _) | (with_reducible refine Kd.C_drewN ?_ _) | (with_reducible refine Kd.C_drew ?_)));(case side2 => exact HC1.out);rintro e w' ⟨rfl,⟨nd,rfl⟩⟩;refine ⟨_,rfl,?_⟩))
    go_meet
    case rel => exact ⟨_,(true),(by first | rfl | (simp;done) | (simp [*];done)),H',⟨by first | omega | exact Nat.le_refl _⟩,⟨by repeat (first | (with_reducible first | exact HB.out | apply below_alloc | apply pw_below_drewN | apply below_drew1) | exact HB.out)⟩⟩
   ·rw [if_neg c7] at H
    have c7b0 : decide (300 < (a2.size : Int)) = false := decide_eq_false c7
    have c7b1 : decide (300 < a2.size) = false := decide_eq_false (by omega)
    clear c7
    (first | rw [c7b0] | (simp only [i64_w,i32_w];rw [c7b0]) | skip)
    replace H := Option.bind_eq_some_iff.mp H
    obtain ⟨t128,A80,H⟩ := H
    replace H : (dominolaw10_IdealOwn.j0 k a0 l1 a2 (!t128)) = some r := H
    have A8 := Aside0.mk A80
    clear A80
    have H' := Aside0.mk H
    clear H
    go_wp2_with (first | ((with_reducible refine gate_callee (f := 14) rfl ?_);refine goesL_ (some 24) rfl rfl Try.func14 (by kernel_rfl) rfl #[.slice A1 l1.length c1] rfl (by (try simp only [List.map_toArray,List.map_cons,List.map_nil]);first | done | rfl | (simp only [List.length_drop,List.length_take];rfl)) ?_;(with_reducible refine (dominolaw10_bounded.calls k _ _ l1 true _ ?side1 ?side2 A5.out).mono ?_);(case side1 => repeat (first | exact (Kd.C_below HR1.out HB.out) | (with_reducible refine Kd.C_alloc ?_ _) | (with_reducible refine Kd.C_drewN ?_ _) | (with_reducible refine Kd.C_drew ?_)));(case side2 => exact HC1.out);rintro e w' ⟨rfl,⟨nd,rfl⟩⟩;refine ⟨_,rfl,?_⟩) | (go_at_call 9;(with_reducible refine (dominolaw10_shown.calls k  t128 _ A8.out).mono ?_);rintro e w9 ⟨rfl,hb⟩;have n0_ := Aside0.mk (below_step (by repeat (first | (with_reducible first | exact HB.out | apply below_alloc | apply pw_below_drewN | apply below_drew1) | exact HB.out)) hb);clear HB;have HB := n0_;clear n0_;(try clear hb);(try clear hb2);(try clear hk);(try clear hi)))
    go_meet
    case rel => exact ⟨_,(!t128),(by first | rfl | (simp;done) | (simp [*];done)),H',⟨by first | omega | exact Nat.le_refl _⟩,⟨by repeat (first | (with_reducible first | exact HB.out | apply below_alloc | apply pw_below_drewN | apply below_drew1) | exact HB.out)⟩⟩
  ·replace c6 := Bool.eq_false_iff.mpr c6
   subst c6
   have H1 : (dominolaw10_IdealOwn.j0 k a0 l1 a2 true) = some r := by rw [if_neg (show ¬ (false = true) by decide)] at H;exact H
   clear H
   have H := H1
   clear H1
   have H' := Aside0.mk H
   clear H
   go_wp2_with (first | ((with_reducible refine gate_callee (f := 14) rfl ?_);refine goesL_ (some 24) rfl rfl Try.func14 (by kernel_rfl) rfl #[.slice A1 l1.length c1] rfl (by (try simp only [List.map_toArray,List.map_cons,List.map_nil]);first | done | rfl | (simp only [List.length_drop,List.length_take];rfl)) ?_;(with_reducible refine (dominolaw10_bounded.calls k _ _ l1 false _ ?side1 ?side2 A5.out).mono ?_);(case side1 => repeat (first | exact (Kd.C_below HR1.out HB.out) | (with_reducible refine Kd.C_alloc ?_ _) | (with_reducible refine Kd.C_drewN ?_ _) | (with_reducible refine Kd.C_drew ?_)));(case side2 => exact HC1.out);rintro e w' ⟨rfl,⟨nd,rfl⟩⟩;refine ⟨_,rfl,?_⟩))
   go_meet
   case rel => exact ⟨_,(true),(by first | rfl | (simp;done) | (simp [*];done)),H',⟨by first | omega | exact Nat.le_refl _⟩,⟨by repeat (first | (with_reducible first | exact HB.out | apply below_alloc | apply pw_below_drewN | apply below_drew1) | exact HB.out)⟩⟩
 case rest =>
  clear HC4
  try clear c1;try clear p2
  try clear c6;try clear c7
  try clear c7b0;try clear c7b1
  obtain ⟨kq,x34_3,rfl,HA,HJ3,HB⟩ := hcut
  cases kq with
  | zero => exact absurd HA.out (by simp [dominolaw10_IdealOwn.j0])
  | succ kj3 =>
   have H := HA.out
   clear HA
   simp only [dominolaw10_IdealOwn.j0] at H
   by_cases c10 : x34_3 = true
   ·subst c10
    have H1 : ((dominolaw10_shown.f kj3).bind fun t129 => (some t129)) = some r := by rw [if_pos rfl] at H;exact H
    clear H
    have H := H1
    clear H1
    replace H := Option.bind_eq_some_iff.mp H
    obtain ⟨t129,A110,H⟩ := H
    replace H : (some t129) = some r := H
    have A11 := Aside0.mk A110
    clear A110
    obtain rfl := Option.some.inj H
    go_wp2_with (first | ((with_reducible refine gate_callee (f := 9) rfl ?_);refine goesL_ (some 35) rfl rfl Try.func9 (by kernel_rfl) rfl #[] rfl (by (try simp only [List.map_toArray,List.map_cons,List.map_nil]);first | done | rfl | (simp only [List.length_drop,List.length_take];rfl)) ?_;(with_reducible refine (dominolaw10_shown.calls kj3  t129 _ A11.out).mono ?_);rintro e w12 ⟨rfl,hb⟩;refine ⟨_,rfl,?_⟩;have n0_ := Aside0.mk (below_step (by repeat (first | (with_reducible first | exact HB.out | apply below_alloc | apply pw_below_drewN | apply below_drew1) | exact HB.out)) hb);clear HB;have HB := n0_;clear n0_;(try clear hb);(try clear hb2);(try clear hk);(try clear hi)))
    go_ret
    exact ⟨by first | rfl | (simp [errW_none,errW_some] <;> rfl) | (simp [*,errW_none,errW_some] <;> rfl),by repeat (first | (with_reducible first | exact HB.out | apply below_alloc | apply pw_below_drewN | apply below_drew1) | exact HB.out)⟩
   ·replace c10 := Bool.eq_false_iff.mpr c10
    subst c10
    have H1 : ((ideal_New.f a0).bind fun bt130 => (dominolaw10_IdealOwn.l0 kj3 l1 a2 (([] : List ByteArray)) 0 bt130.1 bt130.2.1 bt130.2.2)) = some r := by rw [if_neg (show ¬ (false = true) by decide)] at H;exact H
    clear H
    have H := H1
    clear H1
    replace H := Option.bind_eq_some_iff.mp H
    obtain ⟨⟨t130,t131,t132⟩,A130,H⟩ := H
    replace H : (dominolaw10_IdealOwn.l0 kj3 l1 a2 (([] : List ByteArray)) 0 t130 t131 t132) = some r := H
    have A13 := Aside0.mk A130
    clear A130
    obtain ⟨y136,hy136⟩ : ∃ y_ : List ByteArray,y_ = (([] : List ByteArray)) := ⟨_,rfl⟩
    replace H : (dominolaw10_IdealOwn.l0 kj3 l1 a2 y136 0 t130 t131 t132) = some r := by first | (rw [hy136];with_reducible exact H) | (have H2_ := (Option.bind_some _ _).symm.trans H;rw [hy136];with_reducible exact H2_) | (have H2_ := (Option.bind_some _ _).symm.trans H;with_reducible exact H2_) | with_reducible exact H | (rw [hy136];exact H) | exact H
    have Ny136 := Aside0.mk hy136
    clear hy136
    have H' := Aside0.mk H
    clear H
    go_wp2_with (first | ((with_reducible refine gate_callee (f := 15) rfl ?_);refine goesL_ (some 37) rfl rfl Try.func15 (by kernel_rfl) rfl #[.int .u64 a0] rfl (by (try simp only [List.map_toArray,List.map_cons,List.map_nil]);first | done | rfl | (simp only [List.length_drop,List.length_take];rfl)) ?_;(with_reducible refine (ideal_New.calls a0 t130 t131 t132 _ A13.out).mono ?_);rintro e w14 ⟨v133,rfl,ho0,hb⟩;refine ⟨_,rfl,?_⟩;have n0_ := Aside0.mk (Kd.R_lower ho0 (below_size (by repeat (first | (with_reducible first | exact HB.out | apply below_alloc | apply pw_below_drewN | apply below_drew1) | exact HB.out))));have n1_ := Aside0.mk (below_step (by repeat (first | (with_reducible first | exact HB.out | apply below_alloc | apply pw_below_drewN | apply below_drew1) | exact HB.out)) hb);clear HB;have HO134 := n0_;have HB := n1_;clear n0_ n1_;(try clear hb);(try clear hb2);(try clear hk);(try clear hi);(try clear ho0)) | ((with_reducible refine gate_dst (N := 7) rfl ?_);(try (refine gate_guard (by rfl) ?_;dsimp only));refine box_event ?hg (N := 7) ?hd (cs := #[.int .u64 0,.int .u64 0,.slice none 0 0]) (t := 31) ?hr ?_;(case hd => rfl);(case hg => rfl);(case hr => first | (go_simp;done) | (go_simp;rfl));intro gb135 hg w15 hbox hb;have n0_ := Aside0.mk (Kd.R_below (by (with_reducible repeat (first | apply Kd.R_alloc | apply Kd.R_drewN | apply Kd.R_drew));exact HO134.out) hb);have n1_ := Aside0.mk (below_step (by repeat (first | (with_reducible first | exact HB.out | apply below_alloc | apply pw_below_drewN | apply below_drew1) | exact HB.out)) hb);have n2_ := Aside0.mk (hbox);have n3_ := Aside0.mk ((by rw [hg];exact (below_size (by repeat (first | (with_reducible first | exact HB.out | apply below_alloc | apply pw_below_drewN | apply below_drew1) | exact HB.out))) : w.heap.size ≤ gb135));have n4_ := Aside0.mk ((by rw [hg];exact (below_size (by repeat (first | (with_reducible first | exact HB.out | apply below_alloc | apply pw_below_drewN | apply below_drew1) | exact HB.out))) : w.heap.size ≤ gb135));clear HO134;clear HB;have HO134 := n0_;have HB := n1_;have BK135 := n2_;have GW135 := n3_;have GE135 := n4_;clear n0_ n1_ n2_ n3_ n4_;clear hb hbox hg;have hcz16_0 : w15.cell? ⟨gb135,0,none⟩ = some (.int .u64 0) := (blk_cell BK135.out 0).trans rfl;have hcz16_1 : w15.cell? ⟨gb135,1,none⟩ = some (.int .u64 0) := (blk_cell BK135.out 1).trans rfl;have hcz16_2 : w15.cell? ⟨gb135,2,none⟩ = some (.slice none 0 0) := (blk_cell BK135.out 2).trans rfl;have hfz16_0 := blk_frozen BK135.out 0;have hfz16_1 := blk_frozen BK135.out 1;have hfz16_2 := blk_frozen BK135.out 2;obtain ⟨Ao17,co17,eo17⟩ := Kd.R_slice HO134.out;subst eo17) | ((with_reducible refine gate_dst (N := 38) rfl ?_);(try (refine gate_guard (by rfl) ?_;dsimp only));refine Kd.R_lit Kd.string _ 9 ?hg (N := 38) ?hd (xs := ([] : List ByteArray)) (inner := []) (ok := fun _ => True) (okp := fun _ => True) ?hr ?hp (fun _ hk => hk) trivial (Below.refl _ _) (Nat.le_refl _) (by simp) ?_;(case hd => rfl);(case hg => rfl);(case hr => first | (go_simp;done) | (go_simp;rfl));(case hp => exact (Reps.none _ _));intro v137 w18 ho19 hb hg_ hnew_;clear hg_ hnew_;(first | rw [← Ny136.out] at ho19 | (simp only [Int.reduceToNat] at ho19;rw [← Ny136.out] at ho19));have n0_ := Aside0.mk (Kd.R_below (by (with_reducible repeat (first | apply Kd.R_alloc | apply Kd.R_drewN | apply Kd.R_drew));exact (Kd.R_mono (Kd.R_far (p := ⟨gb135,2,none⟩) (Kd.R_far (p := ⟨gb135,1,none⟩) (Kd.R_far (p := ⟨gb135,0,none⟩) (Kd.R_types HO134.out BK135.out (by decide)) (fun _ hk => hk.2) (.int .u64 t130)) (fun _ hk => hk.2) (.int .u64 t131)) (fun _ hk => hk.2) (.slice Ao17 t132.length co17)) (fun _ h_ => h_.1))) hb);have n1_ := Aside0.mk (Kd.R_lower ho19 (below_size (by repeat (first | (with_reducible first | exact HB.out | apply below_alloc | apply pw_below_drewN | apply below_drew1 | refine below_set ?_ GE135.out) | exact HB.out))));have n2_ := Aside0.mk (blk_below (g := gb135) (o := .cells #[.int .u64 t130,.int .u64 t131,.slice Ao17 t132.length co17] 31 (0,0)) (by (with_reducible repeat (first | refine blk_drewN ?_ _ | refine blk_drew ?_ | refine blk_alloc ?_ _));refine blk_put (cs := #[.int .u64 t130,.int .u64 t131,.slice none 0 0]) ?_ 2 _ rfl;(with_reducible repeat (first | refine blk_drewN ?_ _ | refine blk_drew ?_ | refine blk_alloc ?_ _));refine blk_put (cs := #[.int .u64 t130,.int .u64 0,.slice none 0 0]) ?_ 1 _ rfl;(with_reducible repeat (first | refine blk_drewN ?_ _ | refine blk_drew ?_ | refine blk_alloc ?_ _));refine blk_put (cs := #[.int .u64 0,.int .u64 0,.slice none 0 0]) ?_ 0 _ rfl;(with_reducible repeat (first | refine blk_drewN ?_ _ | refine blk_drew ?_ | refine blk_alloc ?_ _));exact BK135.out) hb);have n3_ := Aside0.mk (below_step (by repeat (first | (with_reducible first | exact HB.out | apply below_alloc | apply pw_below_drewN | apply below_drew1 | refine below_set ?_ GE135.out) | exact HB.out)) hb);clear HO134;clear BK135;clear HB;have HO134 := n0_;have HO138 := n1_;have BK135 := n2_;have HB := n3_;clear n0_ n1_ n2_ n3_;clear hb ho19))
    go_loopg [8,9] kj3 (fun kq v8 v9 w' => ∃ (x8_2 : List ByteArray) (x9_2 : Int) (x136000_2 : Int) (x136001_2 : Int) (x136002_2 : List (S73)) (u136002 : Value),v9 = .int .i64 x9_2 ∧ Aside0 (dominolaw10_IdealOwn.l0 kq l1 a2 x8_2 x9_2 x136000_2 x136001_2 x136002_2 = some r) ∧ Aside0 (kq ≤ kj3) ∧ Aside0 (Kd.R Kd.string 9 w' w.heap.size (fun _ => True) v8 x8_2) ∧ Aside0 (Kd.R k73 73 w' w.heap.size (fun _ => True) u136002 x136002_2) ∧ Aside0 (w'.heap[gb135]? = some (.cells #[.int .u64 x136000_2,.int .u64 x136001_2,u136002] 31 (0,0))) ∧ Aside0 (Below w.heap.size w w'))
    case atStart => exact ⟨(y136),(0),(t130),(t131),(t132),(.slice Ao17 t132.length co17),(by first | rfl | (simp;done) | (simp [*];done)),H',⟨Nat.le_refl _⟩,⟨by (with_reducible repeat (first | apply Kd.R_alloc | apply Kd.R_drewN | apply Kd.R_drew));exact HO138.out⟩,⟨by (with_reducible repeat (first | apply Kd.R_alloc | apply Kd.R_drewN | apply Kd.R_drew));exact HO134.out⟩,⟨by (with_reducible repeat (first | refine blk_drewN ?_ _ | refine blk_drew ?_ | refine blk_alloc ?_ _));exact BK135.out⟩,⟨by repeat (first | (with_reducible first | exact HB.out | apply below_alloc | apply pw_below_drewN | apply below_drew1 | refine below_set ?_ GE135.out) | exact HB.out)⟩⟩
    case round =>
     clear H'
     try clear c1;try clear p2
     try clear c6;try clear c7
     try clear c7b0;try clear c7b1
     try clear c9;try clear c10
     try clear c14;try clear c15
     try clear hcz16_0;try clear hcz16_1
     try clear hcz16_2;try clear hfz16_0
     try clear hfz16_1;try clear hfz16_2;try clear p2
     obtain ⟨x8_2,x9_2,x136000_2,x136001_2,x136002_2,u136002,rfl,HA,HK2,HO_8,HO_136002,BK135,HB⟩ := hrel
     cases gk with
     | zero => exact absurd HA.out (by simp [dominolaw10_IdealOwn.l0])
     | succ k2 =>
      have H := HA.out
      clear HA
      simp only [dominolaw10_IdealOwn.l0] at H
      by_cases c20 : x9_2 < (l1.length : Int)
      ·rw [if_pos c20] at H
       have c20b0 : decide (x9_2 < (l1.length : Int)) = true := decide_eq_true c20
       clear c20
       by_cases c21 : 0 ≤ x9_2
       ·rw [if_pos c21] at H
        have c21b0 : decide (0 ≤ x9_2) = true := decide_eq_true c21
        clear c21
        replace H := Option.bind_eq_some_iff.mp H
        obtain ⟨⟨t143,t144,t145,t148⟩,A220,H⟩ := H
        replace H : (dominolaw10_IdealOwn.l1 k2 l1 a2 x8_2 x9_2 t148 0 t143 t144 t145) = some r := H
        have A22 := Aside0.mk A220
        clear A220
        have H' := Aside0.mk H
        clear H
        obtain ⟨Ao23,co23,eo23⟩ := Kd.R_slice HO_136002.out
        subst eo23
        try go_wp2
        have n0_ := Aside0.mk (Kd.R_drew HO_8.out)
        have n1_ := Aside0.mk (Kd.R_drew HO_136002.out)
        have n2_ := Aside0.mk (blk_drew BK135.out)
        have n3_ := Aside0.mk (below_drew1 HB.out)
        clear HO_8
        clear HO_136002
        clear BK135
        clear HB
        have HO_8 := n0_
        have HO_136002 := n1_
        have BK135 := n2_
        have HB := n3_
        clear n0_ n1_ n2_ n3_
        have p139 : 0 ≤ (x9_2 : Int) := of_decide_eq_true (by first | (with_reducible assumption) | assumption)
        have q139 : x9_2 < (l1.length : Int) := of_decide_eq_true (by first | (with_reducible assumption) | assumption)
        obtain ⟨ad139,e139,hx139_0,hx139_1,hx139_2,hx139_3⟩ := at_T40 HR1.out x9_2 p139 q139
        have hw139_3 := hx139_3
        have hw139_2 := hx139_2
        have hw139_1 := hx139_1
        have hw139_0 := hx139_0
        cases e139
        replace hx139_0 := (HB.out.cell (World.block_lt_of_cell? w _ hx139_0)).trans hx139_0
        replace hx139_1 := (HB.out.cell (World.block_lt_of_cell? w _ hx139_1)).trans hx139_1
        replace hx139_2 := (HB.out.cell (World.block_lt_of_cell? w _ hx139_2)).trans hx139_2
        replace hx139_3 := (HB.out.cell (World.block_lt_of_cell? w _ hx139_3)).trans hx139_3
        replace p139 := eq_true p139
        replace q139 := eq_true q139
        have p140 : 0 ≤ (x9_2 : Int) := of_decide_eq_true (by first | (with_reducible assumption) | assumption)
        have q140 : x9_2 < (l1.length : Int) := of_decide_eq_true (by first | (with_reducible assumption) | assumption)
        obtain ⟨ad140,e140,hx140_0,hx140_1,hx140_2,hx140_3⟩ := at_T40 HR1.out x9_2 p140 q140
        have hw140_3 := hx140_3
        have hw140_2 := hx140_2
        have hw140_1 := hx140_1
        have hw140_0 := hx140_0
        obtain rfl : ad139 = ad140 := (by injection e140)
        replace hx140_0 := (HB.out.cell (World.block_lt_of_cell? w _ hx140_0)).trans hx140_0
        replace hx140_1 := (HB.out.cell (World.block_lt_of_cell? w _ hx140_1)).trans hx140_1
        replace hx140_2 := (HB.out.cell (World.block_lt_of_cell? w _ hx140_2)).trans hx140_2
        replace hx140_3 := (HB.out.cell (World.block_lt_of_cell? w _ hx140_3)).trans hx140_3
        replace p140 := eq_true p140
        replace q140 := eq_true q140
        have p141 : 0 ≤ (x9_2 : Int) := of_decide_eq_true (by first | (with_reducible assumption) | assumption)
        have q141 : x9_2 < (l1.length : Int) := of_decide_eq_true (by first | (with_reducible assumption) | assumption)
        obtain ⟨ad141,e141,hx141_0,hx141_1,hx141_2,hx141_3⟩ := at_T40 HR1.out x9_2 p141 q141
        have hw141_3 := hx141_3
        have hw141_2 := hx141_2
        have hw141_1 := hx141_1
        have hw141_0 := hx141_0
        obtain rfl : ad139 = ad141 := (by injection e141)
        replace hx141_0 := (HB.out.cell (World.block_lt_of_cell? w _ hx141_0)).trans hx141_0
        replace hx141_1 := (HB.out.cell (World.block_lt_of_cell? w _ hx141_1)).trans hx141_1
        replace hx141_2 := (HB.out.cell (World.block_lt_of_cell? w _ hx141_2)).trans hx141_2
        replace hx141_3 := (HB.out.cell (World.block_lt_of_cell? w _ hx141_3)).trans hx141_3
        replace p141 := eq_true p141
        replace q141 := eq_true q141
        have p142 : 0 ≤ (x9_2 : Int) := of_decide_eq_true (by first | (with_reducible assumption) | assumption)
        have q142 : x9_2 < (l1.length : Int) := of_decide_eq_true (by first | (with_reducible assumption) | assumption)
        obtain ⟨ad142,e142,hx142_0,hx142_1,hx142_2,hx142_3⟩ := at_T40 HR1.out x9_2 p142 q142
        have hw142_3 := hx142_3
        have hw142_2 := hx142_2
        have hw142_1 := hx142_1
        have hw142_0 := hx142_0
        obtain rfl : ad139 = ad142 := (by injection e142)
        replace hx142_0 := (HB.out.cell (World.block_lt_of_cell? w _ hx142_0)).trans hx142_0
        replace hx142_1 := (HB.out.cell (World.block_lt_of_cell? w _ hx142_1)).trans hx142_1
        replace hx142_2 := (HB.out.cell (World.block_lt_of_cell? w _ hx142_2)).trans hx142_2
        replace hx142_3 := (HB.out.cell (World.block_lt_of_cell? w _ hx142_3)).trans hx142_3
        replace p142 := eq_true p142
        replace q142 := eq_true q142
        refine start_ (n := 28) (S := fun w' => w'.cell? ⟨gb135,0,none⟩ = some (.int .u64 x136000_2) ∧ w'.cell? ⟨gb135,1,none⟩ = some (.int .u64 x136001_2) ∧ w'.cell? ⟨gb135,2,none⟩ = some (.slice Ao23 x136002_2.length co23) ∧ w'.cell? (ad139.add ((x9_2).toNat * 4)) = some (.int .i64 ((rd_T40 l1 x9_2).f0)) ∧ w'.cell? ⟨(ad139.add ((x9_2).toNat * 4)).block,(ad139.add ((x9_2).toNat * 4)).off + 1,none⟩ = some (.int .u64 ((rd_T40 l1 x9_2).f1)) ∧ w'.cell? ⟨(ad139.add ((x9_2).toNat * 4)).block,(ad139.add ((x9_2).toNat * 4)).off + 2,none⟩ = some (.string ((rd_T40 l1 x9_2).f2)) ∧ w'.cell? ⟨(ad139.add ((x9_2).toNat * 4)).block,(ad139.add ((x9_2).toNat * 4)).off + 3,none⟩ = some (.string ((rd_T40 l1 x9_2).f3)) ∧ w'.cell? (ad139.add ((x9_2).toNat * 4)) = some (.int .i64 ((rd_T40 l1 x9_2).f0)) ∧ w'.cell? ⟨(ad139.add ((x9_2).toNat * 4)).block,(ad139.add ((x9_2).toNat * 4)).off + 1,none⟩ = some (.int .u64 ((rd_T40 l1 x9_2).f1)) ∧ w'.cell? ⟨(ad139.add ((x9_2).toNat * 4)).block,(ad139.add ((x9_2).toNat * 4)).off + 2,none⟩ = some (.string ((rd_T40 l1 x9_2).f2)) ∧ w'.cell? ⟨(ad139.add ((x9_2).toNat * 4)).block,(ad139.add ((x9_2).toNat * 4)).off + 3,none⟩ = some (.string ((rd_T40 l1 x9_2).f3)) ∧ w'.cell? (ad139.add ((x9_2).toNat * 4)) = some (.int .i64 ((rd_T40 l1 x9_2).f0)) ∧ w'.cell? ⟨(ad139.add ((x9_2).toNat * 4)).block,(ad139.add ((x9_2).toNat * 4)).off + 1,none⟩ = some (.int .u64 ((rd_T40 l1 x9_2).f1)) ∧ w'.cell? ⟨(ad139.add ((x9_2).toNat * 4)).block,(ad139.add ((x9_2).toNat * 4)).off + 2,none⟩ = some (.string ((rd_T40 l1 x9_2).f2)) ∧ w'.cell? ⟨(ad139.add ((x9_2).toNat * 4)).block,(ad139.add ((x9_2).toNat * 4)).off + 3,none⟩ = some (.string ((rd_T40 l1 x9_2).f3)) ∧ w'.cell? (ad139.add ((x9_2).toNat * 4)) = some (.int .i64 ((rd_T40 l1 x9_2).f0)) ∧ w'.cell? ⟨(ad139.add ((x9_2).toNat * 4)).block,(ad139.add ((x9_2).toNat * 4)).off + 1,none⟩ = some (.int .u64 ((rd_T40 l1 x9_2).f1)) ∧ w'.cell? ⟨(ad139.add ((x9_2).toNat * 4)).block,(ad139.add ((x9_2).toNat * 4)).off + 2,none⟩ = some (.string ((rd_T40 l1 x9_2).f2)) ∧ w'.cell? ⟨(ad139.add ((x9_2).toNat * 4)).block,(ad139.add ((x9_2).toNat * 4)).off + 3,none⟩ = some (.string ((rd_T40 l1 x9_2).f3))) (ds := []) #[false,false,false,false,false,false,false,false,false,false,false,false,false,false,false,false,false,false,false,false,false,false,false,false,false,false,false,false] (by kernel_rfl) rfl rfl ⟨(blk_cell BK135.out 0).trans rfl,(blk_cell BK135.out 1).trans rfl,(blk_cell BK135.out 2).trans rfl,(up_ HB.out hw139_0),(up_ HB.out hw139_1),(up_ HB.out hw139_2),(up_ HB.out hw139_3),(up_ HB.out hw140_0),(up_ HB.out hw140_1),(up_ HB.out hw140_2),(up_ HB.out hw140_3),(up_ HB.out hw141_0),(up_ HB.out hw141_1),(up_ HB.out hw141_2),(up_ HB.out hw141_3),(up_ HB.out hw142_0),(up_ HB.out hw142_1),(up_ HB.out hw142_2),(up_ HB.out hw142_3)⟩ (fun hHeld => ?_);refine with_tabW dominolaw10_IdealOwn.tab8 dominolaw10_IdealOwn.bits8 (fun HT_ HW_ => ?_)
        generalize wr.drew = w24 at HO_8 HO_136002 BK135 HB hx139_0 hx139_1 hx139_2 hx139_3 hx140_0 hx140_1 hx140_2 hx140_3 hx141_0 hx141_1 hx141_2 hx141_3 hx142_0 hx142_1 hx142_2 hx142_3 hHeld ⊢
        refine pure_ (i := 1) (N := some 47) (v := ?_) (a' := ?_) #[false,true,false,false,false,false,false,false,false,false,false,false,false,false,false,false,false,false,false,false,false,false,false,false,false,false,false,false] rfl rfl (any_of HT_.out (by kernel_rfl)) (fun _ _ _ h => h) (Or.inl ⟨by rfl,?_⟩) ?_ ?_
        rotate_left;(intro w';go_simp;with_reducible rfl);rotate_left;(simp only [Act.put,List.setIfInBounds_toArray,List.set_cons_zero,List.set_cons_succ,i64_w,i32_w];rfl)
        refine pure_ (i := 2) (N := some 48) (v := ?_) (a' := ?_) #[false,true,true,false,false,false,false,false,false,false,false,false,false,false,false,false,false,false,false,false,false,false,false,false,false,false,false,false] rfl rfl (any_of HT_.out (by kernel_rfl)) (fun _ _ _ h => h) (Or.inl ⟨by rfl,?_⟩) ?_ ?_
        rotate_left;(intro w';go_simp;with_reducible rfl);rotate_left;(simp only [Act.put,List.setIfInBounds_toArray,List.set_cons_zero,List.set_cons_succ,i64_w,i32_w];rfl)
        refine pure_ (i := 3) (N := some 49) (v := ?_) (a' := ?_) #[false,true,true,true,false,false,false,false,false,false,false,false,false,false,false,false,false,false,false,false,false,false,false,false,false,false,false,false] rfl rfl (any_of HT_.out (by kernel_rfl)) (fun _ _ _ h => h) (Or.inl ⟨by rfl,?_⟩) ?_ ?_
        rotate_left;(intro w';go_simp;with_reducible rfl);rotate_left;(simp only [Act.put,List.setIfInBounds_toArray,List.set_cons_zero,List.set_cons_succ,i64_w,i32_w];rfl)
        refine pure_ (i := 4) (N := some 50) (v := ?_) (a' := ?_) #[false,true,true,true,true,false,false,false,false,false,false,false,false,false,false,false,false,false,false,false,false,false,false,false,false,false,false,false] rfl rfl (any_of HT_.out (by kernel_rfl)) (fun _ _ _ h => h) (Or.inl ⟨by rfl,?_⟩) ?_ ?_
        rotate_left;(intro w';go_simp;with_reducible rfl);rotate_left;(simp only [Act.put,List.setIfInBounds_toArray,List.set_cons_zero,List.set_cons_succ,i64_w,i32_w];rfl)
        refine pure_ (i := 6) (N := some 52) (v := ?_) (a' := ?_) #[false,true,true,true,true,false,true,false,false,false,false,false,false,false,false,false,false,false,false,false,false,false,false,false,false,false,false,false] rfl rfl (any_of HT_.out (by kernel_rfl)) (fun _ _ _ h => h) (Or.inl ⟨by rfl,?_⟩) ?_ ?_
        rotate_left;(intro w';go_simp;with_reducible rfl);rotate_left;(simp only [Act.put,List.setIfInBounds_toArray,List.set_cons_zero,List.set_cons_succ,i64_w,i32_w];rfl)
        refine pure_ (i := 7) (N := some 53) (v := ?_) (a' := ?_) #[false,true,true,true,true,false,true,true,false,false,false,false,false,false,false,false,false,false,false,false,false,false,false,false,false,false,false,false] rfl rfl (any_of HT_.out (by kernel_rfl)) (fun _ _ _ h => h) (Or.inl ⟨by rfl,?_⟩) ?_ ?_
        rotate_left;(intro w';go_simp;with_reducible rfl);rotate_left;(simp only [Act.put,List.setIfInBounds_toArray,List.set_cons_zero,List.set_cons_succ,i64_w,i32_w];rfl)
        refine pure_ (i := 8) (N := some 54) (v := ?_) (a' := ?_) #[false,true,true,true,true,false,true,true,true,false,false,false,false,false,false,false,false,false,false,false,false,false,false,false,false,false,false,false] rfl rfl (any_of HT_.out (by kernel_rfl)) (fun _ _ _ h => h) (Or.inl ⟨by rfl,?_⟩) ?_ ?_
        rotate_left;(intro w';go_simp;with_reducible rfl);rotate_left;(simp only [Act.put,List.setIfInBounds_toArray,List.set_cons_zero,List.set_cons_succ,i64_w,i32_w];rfl)
        refine pure_ (i := 9) (N := some 55) (v := ?_) (a' := ?_) #[false,true,true,true,true,false,true,true,true,true,false,false,false,false,false,false,false,false,false,false,false,false,false,false,false,false,false,false] rfl rfl (any_of HT_.out (by kernel_rfl)) (fun _ _ _ h => h) (Or.inl ⟨by rfl,?_⟩) ?_ ?_
        rotate_left;(intro w';go_simp;with_reducible rfl);rotate_left;(simp only [Act.put,List.setIfInBounds_toArray,List.set_cons_zero,List.set_cons_succ,i64_w,i32_w];rfl)
        refine pure_ (i := 11) (N := some 57) (v := ?_) (a' := ?_) #[false,true,true,true,true,false,true,true,true,true,false,true,false,false,false,false,false,false,false,false,false,false,false,false,false,false,false,false] rfl rfl (any_of HT_.out (by kernel_rfl)) (fun _ _ _ h => h) (Or.inl ⟨by rfl,?_⟩) ?_ ?_
        rotate_left;(intro w';go_simp;with_reducible rfl);rotate_left;(simp only [Act.put,List.setIfInBounds_toArray,List.set_cons_zero,List.set_cons_succ,i64_w,i32_w];rfl)
        refine pure_ (i := 12) (N := some 58) (v := ?_) (a' := ?_) #[false,true,true,true,true,false,true,true,true,true,false,true,true,false,false,false,false,false,false,false,false,false,false,false,false,false,false,false] rfl rfl (any_of HT_.out (by kernel_rfl)) (fun _ _ _ h => h) (Or.inl ⟨by rfl,?_⟩) ?_ ?_
        rotate_left;(intro w';go_simp;with_reducible rfl);rotate_left;(simp only [Act.put,List.setIfInBounds_toArray,List.set_cons_zero,List.set_cons_succ,i64_w,i32_w];rfl)
        refine pure_ (i := 13) (N := some 59) (v := ?_) (a' := ?_) #[false,true,true,true,true,false,true,true,true,true,false,true,true,true,false,false,false,false,false,false,false,false,false,false,false,false,false,false] rfl rfl (any_of HT_.out (by kernel_rfl)) (fun _ _ _ h => h) (Or.inl ⟨by rfl,?_⟩) ?_ ?_
        rotate_left;(intro w';go_simp;with_reducible rfl);rotate_left;(simp only [Act.put,List.setIfInBounds_toArray,List.set_cons_zero,List.set_cons_succ,i64_w,i32_w];rfl)
        refine pure_ (i := 14) (N := some 60) (v := ?_) (a' := ?_) #[false,true,true,true,true,false,true,true,true,true,false,true,true,true,true,false,false,false,false,false,false,false,false,false,false,false,false,false] rfl rfl (any_of HT_.out (by kernel_rfl)) (fun _ _ _ h => h) (Or.inl ⟨by rfl,?_⟩) ?_ ?_
        rotate_left;(intro w';go_simp;with_reducible rfl);rotate_left;(simp only [Act.put,List.setIfInBounds_toArray,List.set_cons_zero,List.set_cons_succ,i64_w,i32_w];rfl)
        refine pure_ (i := 16) (N := some 62) (v := ?_) (a' := ?_) #[false,true,true,true,true,false,true,true,true,true,false,true,true,true,true,false,true,false,false,false,false,false,false,false,false,false,false,false] rfl rfl (any_of HT_.out (by kernel_rfl)) (fun _ _ _ h => h) (Or.inl ⟨by rfl,?_⟩) ?_ ?_
        rotate_left;(intro w';go_simp;with_reducible rfl);rotate_left;(simp only [Act.put,List.setIfInBounds_toArray,List.set_cons_zero,List.set_cons_succ,i64_w,i32_w];rfl)
        refine pure_ (i := 17) (N := some 63) (v := ?_) (a' := ?_) #[false,true,true,true,true,false,true,true,true,true,false,true,true,true,true,false,true,true,false,false,false,false,false,false,false,false,false,false] rfl rfl (any_of HT_.out (by kernel_rfl)) (fun _ _ _ h => h) (Or.inl ⟨by rfl,?_⟩) ?_ ?_
        rotate_left;(intro w';go_simp;with_reducible rfl);rotate_left;(simp only [Act.put,List.setIfInBounds_toArray,List.set_cons_zero,List.set_cons_succ,i64_w,i32_w];rfl)
        refine pure_ (i := 18) (N := some 64) (v := ?_) (a' := ?_) #[false,true,true,true,true,false,true,true,true,true,false,true,true,true,true,false,true,true,true,false,false,false,false,false,false,false,false,false] rfl rfl (any_of HT_.out (by kernel_rfl)) (fun _ _ _ h => h) (Or.inl ⟨by rfl,?_⟩) ?_ ?_
        rotate_left;(intro w';go_simp;with_reducible rfl);rotate_left;(simp only [Act.put,List.setIfInBounds_toArray,List.set_cons_zero,List.set_cons_succ,i64_w,i32_w];rfl)
        refine pure_ (i := 19) (N := some 65) (v := ?_) (a' := ?_) #[false,true,true,true,true,false,true,true,true,true,false,true,true,true,true,false,true,true,true,true,false,false,false,false,false,false,false,false] rfl rfl (any_of HT_.out (by kernel_rfl)) (fun _ _ _ h => h) (Or.inl ⟨by rfl,?_⟩) ?_ ?_
        rotate_left;(intro w';go_simp;with_reducible rfl);rotate_left;(simp only [Act.put,List.setIfInBounds_toArray,List.set_cons_zero,List.set_cons_succ,i64_w,i32_w];rfl)
        refine take_ (i := 0) (N := some 46) (v := ?_) (a' := ?_) #[true,true,true,true,true,false,true,true,true,true,false,true,true,true,true,false,true,true,true,true,false,false,false,false,false,false,false,false] rfl rfl (take_ofW HT_.out HW_.out (by kernel_rfl)) (fun _ _ _ h => h) (Or.inl ⟨by rfl,?_⟩) hHeld ?_ ?_
        rotate_left
        ·rintro w' ⟨s0,s1,s2,s3,s4,s5,s6,s7,s8,s9,s10,s11,s12,s13,s14,s15,s16,s17,s18⟩
         go_simp
         with_reducible rfl
        rotate_left
        ·simp only [Act.put,List.setIfInBounds_toArray,List.set_cons_zero,List.set_cons_succ,i64_w,i32_w]
         rfl
        refine take_ (i := 5) (N := some 51) (v := ?_) (a' := ?_) #[true,true,true,true,true,true,true,true,true,true,false,true,true,true,true,false,true,true,true,true,false,false,false,false,false,false,false,false] rfl rfl (take_ofW HT_.out HW_.out (by kernel_rfl)) (fun _ _ _ h => h) (Or.inl ⟨by rfl,?_⟩) hHeld ?_ ?_
        rotate_left
        ·rintro w' ⟨s0,s1,s2,s3,s4,s5,s6,s7,s8,s9,s10,s11,s12,s13,s14,s15,s16,s17,s18⟩
         go_simp
         with_reducible rfl
        rotate_left
        ·simp only [Act.put,List.setIfInBounds_toArray,List.set_cons_zero,List.set_cons_succ,i64_w,i32_w]
         rfl
        refine take_ (i := 10) (N := some 56) (v := ?_) (a' := ?_) #[true,true,true,true,true,true,true,true,true,true,true,true,true,true,true,false,true,true,true,true,false,false,false,false,false,false,false,false] rfl rfl (take_ofW HT_.out HW_.out (by kernel_rfl)) (fun _ _ _ h => h) (Or.inl ⟨by rfl,?_⟩) hHeld ?_ ?_
        rotate_left
        ·rintro w' ⟨s0,s1,s2,s3,s4,s5,s6,s7,s8,s9,s10,s11,s12,s13,s14,s15,s16,s17,s18⟩
         go_simp
         with_reducible rfl
        rotate_left
        ·simp only [Act.put,List.setIfInBounds_toArray,List.set_cons_zero,List.set_cons_succ,i64_w,i32_w]
         rfl
        refine take_ (i := 15) (N := some 61) (v := ?_) (a' := ?_) #[true,true,true,true,true,true,true,true,true,true,true,true,true,true,true,true,true,true,true,true,false,false,false,false,false,false,false,false] rfl rfl (take_ofW HT_.out HW_.out (by kernel_rfl)) (fun _ _ _ h => h) (Or.inl ⟨by rfl,?_⟩) hHeld ?_ ?_
        rotate_left
        ·rintro w' ⟨s0,s1,s2,s3,s4,s5,s6,s7,s8,s9,s10,s11,s12,s13,s14,s15,s16,s17,s18⟩
         go_simp
         with_reducible rfl
        rotate_left
        ·simp only [Act.put,List.setIfInBounds_toArray,List.set_cons_zero,List.set_cons_succ,i64_w,i32_w]
         rfl
        refine take_ (i := 20) (N := some 66) (v := ?_) (a' := ?_) #[true,true,true,true,true,true,true,true,true,true,true,true,true,true,true,true,true,true,true,true,true,false,false,false,false,false,false,false] rfl rfl (take_ofW HT_.out HW_.out (by kernel_rfl)) (fun _ _ _ h => h) (Or.inl ⟨by rfl,?_⟩) hHeld ?_ ?_
        rotate_left
        ·rintro w' ⟨s0,s1,s2,s3,s4,s5,s6,s7,s8,s9,s10,s11,s12,s13,s14,s15,s16,s17,s18⟩
         go_simp
         with_reducible rfl
        rotate_left
        ·simp only [Act.put,List.setIfInBounds_toArray,List.set_cons_zero,List.set_cons_succ,i64_w,i32_w]
         rfl
        refine join_ (σ := Value × Nat) 2 #[true,true,true,true,true,true,true,true,true,true,true,true,true,true,true,true,true,true,true,true,true,true,true,true,true,true,false,false] (fun s_ => [(67,.tuple #[.agg #[.int .u64 t143,.int .u64 t144,s_.1],.string t148]),(10,.pointer (some ⟨s_.2,0,none⟩)),(45,.tuple #[.agg #[.int .u64 t143,.int .u64 t144,s_.1],.string t148]),(68,.agg #[.int .u64 t143,.int .u64 t144,s_.1]),(69,.string t148)]) (fun s_ w' => (w'.cell? ⟨gb135,0,none⟩ = some (.int .u64 x136000_2) ∧ w'.cell? ⟨gb135,1,none⟩ = some (.int .u64 x136001_2) ∧ w'.cell? ⟨gb135,2,none⟩ = some (.slice Ao23 x136002_2.length co23) ∧ w'.cell? (ad139.add ((x9_2).toNat * 4)) = some (.int .i64 ((rd_T40 l1 x9_2).f0)) ∧ w'.cell? ⟨(ad139.add ((x9_2).toNat * 4)).block,(ad139.add ((x9_2).toNat * 4)).off + 1,none⟩ = some (.int .u64 ((rd_T40 l1 x9_2).f1)) ∧ w'.cell? ⟨(ad139.add ((x9_2).toNat * 4)).block,(ad139.add ((x9_2).toNat * 4)).off + 2,none⟩ = some (.string ((rd_T40 l1 x9_2).f2)) ∧ w'.cell? ⟨(ad139.add ((x9_2).toNat * 4)).block,(ad139.add ((x9_2).toNat * 4)).off + 3,none⟩ = some (.string ((rd_T40 l1 x9_2).f3)) ∧ w'.cell? (ad139.add ((x9_2).toNat * 4)) = some (.int .i64 ((rd_T40 l1 x9_2).f0)) ∧ w'.cell? ⟨(ad139.add ((x9_2).toNat * 4)).block,(ad139.add ((x9_2).toNat * 4)).off + 1,none⟩ = some (.int .u64 ((rd_T40 l1 x9_2).f1)) ∧ w'.cell? ⟨(ad139.add ((x9_2).toNat * 4)).block,(ad139.add ((x9_2).toNat * 4)).off + 2,none⟩ = some (.string ((rd_T40 l1 x9_2).f2)) ∧ w'.cell? ⟨(ad139.add ((x9_2).toNat * 4)).block,(ad139.add ((x9_2).toNat * 4)).off + 3,none⟩ = some (.string ((rd_T40 l1 x9_2).f3)) ∧ w'.cell? (ad139.add ((x9_2).toNat * 4)) = some (.int .i64 ((rd_T40 l1 x9_2).f0)) ∧ w'.cell? ⟨(ad139.add ((x9_2).toNat * 4)).block,(ad139.add ((x9_2).toNat * 4)).off + 1,none⟩ = some (.int .u64 ((rd_T40 l1 x9_2).f1)) ∧ w'.cell? ⟨(ad139.add ((x9_2).toNat * 4)).block,(ad139.add ((x9_2).toNat * 4)).off + 2,none⟩ = some (.string ((rd_T40 l1 x9_2).f2)) ∧ w'.cell? ⟨(ad139.add ((x9_2).toNat * 4)).block,(ad139.add ((x9_2).toNat * 4)).off + 3,none⟩ = some (.string ((rd_T40 l1 x9_2).f3)) ∧ w'.cell? (ad139.add ((x9_2).toNat * 4)) = some (.int .i64 ((rd_T40 l1 x9_2).f0)) ∧ w'.cell? ⟨(ad139.add ((x9_2).toNat * 4)).block,(ad139.add ((x9_2).toNat * 4)).off + 1,none⟩ = some (.int .u64 ((rd_T40 l1 x9_2).f1)) ∧ w'.cell? ⟨(ad139.add ((x9_2).toNat * 4)).block,(ad139.add ((x9_2).toNat * 4)).off + 2,none⟩ = some (.string ((rd_T40 l1 x9_2).f2)) ∧ w'.cell? ⟨(ad139.add ((x9_2).toNat * 4)).block,(ad139.add ((x9_2).toNat * 4)).off + 3,none⟩ = some (.string ((rd_T40 l1 x9_2).f3))) ∧ (Kd.R k73 73 w' w.heap.size (fun k_ => some k_ ≠ (.slice Ao23 x136002_2.length co23 : Value).ownBlock) s_.1 t145) ∧ (Kd.R k73 73 w' w.heap.size (fun k_ => some k_ ≠ (s_.1 : Value).ownBlock) (.slice Ao23 x136002_2.length co23) x136002_2) ∧ (Kd.R Kd.string 9 w' w.heap.size (fun _ => True) u8 x8_2) ∧ (w'.heap[gb135]? = some (.cells #[.int .u64 x136000_2,.int .u64 x136001_2,.slice Ao23 x136002_2.length co23] 31 (0,0))) ∧ (w'.heap[s_.2]? = some (.cells #[.int .u64 0,.int .u64 0,.slice none 0 0] 31 (0,0))) ∧ (w.heap.size ≤ s_.2) ∧ (w.heap.size ≤ s_.2) ∧ (gb135 ≠ s_.2) ∧ (s_.2 ≠ gb135) ∧ (Below w.heap.size w w')) ?_ ?_
        rotate_left
        ·intro hCont
         refine two_ (i := 21) (j := 25) (Ni := some 67) (Nj := some 10) #[true,true,true,true,true,true,true,true,true,true,true,true,true,true,true,true,true,true,true,true,true,true,false,false,false,false,false,false] #[true,true,true,true,true,true,true,true,true,true,true,true,true,true,true,true,true,true,true,true,true,false,false,false,false,true,false,false] rfl rfl rfl rfl (two_of HT_.out (by kernel_rfl)) (by decide) (by decide) (fun K hK => ?_) (fun K hK => ?_)
         ·skip
          refine goes_ Try.func17 (by kernel_rfl) rfl #[.agg #[.int .u64 x136000_2,.int .u64 x136001_2,.slice Ao23 x136002_2.length co23],.int .i64 ((rd_T40 l1 x9_2).f0),.int .u64 ((rd_T40 l1 x9_2).f1),.string ((rd_T40 l1 x9_2).f2),.string ((rd_T40 l1 x9_2).f3)] (by rfl) rfl rfl (by (try simp only [List.map_toArray,List.map_cons,List.map_nil]);first | done | rfl | (simp only [List.length_drop,List.length_take];rfl)) ?_
          with_reducible refine (ideal_Seal.calls k2 x136000_2 x136001_2 _ _ x136002_2 ((rd_T40 l1 x9_2).f0) ((rd_T40 l1 x9_2).f1) ((rd_T40 l1 x9_2).f2) ((rd_T40 l1 x9_2).f3) t143 t144 t145 t148 _ ?side1 ?side2 A22.out).mono ?_
          (case side1 => repeat (first | exact (Kd.R_reads' HO_136002.out).2.2 | (with_reducible refine Kd.C_alloc ?_ _) | (with_reducible refine Kd.C_drewN ?_ _) | (with_reducible refine Kd.C_drew ?_)))
          (case side2 => exact (Kd.R_reads' HO_136002.out).2.1)
          rintro e w25 ⟨v146,rfl,ho0,hb⟩
          refine ⟨_,rfl,?_⟩
          have n0_ := Aside0.mk (Kd.R_below (by (with_reducible repeat (first | apply Kd.R_alloc | apply Kd.R_drewN | apply Kd.R_drew));exact HO_8.out) hb)
          have n1_ := Aside0.mk (Kd.R_elder' (by (with_reducible repeat (first | apply Kd.R_alloc | apply Kd.R_drewN | apply Kd.R_drew));exact HO_136002.out) (Kd.R_base ho0) hb)
          have n2_ := Aside0.mk (Kd.R_lower (Kd.R_new' ho0 (Kd.R_lt (by (with_reducible repeat (first | apply Kd.R_alloc | apply Kd.R_drewN | apply Kd.R_drew));exact HO_136002.out))) (below_size (by repeat (first | (with_reducible first | exact HB.out | apply below_alloc | apply pw_below_drewN | apply below_drew1 | refine below_set ?_ GE135.out) | exact HB.out))))
          have n3_ := Aside0.mk (blk_below (g := gb135) (o := .cells #[.int .u64 x136000_2,.int .u64 x136001_2,.slice Ao23 x136002_2.length co23] 31 (0,0)) (by (with_reducible repeat (first | refine blk_drewN ?_ _ | refine blk_drew ?_ | refine blk_alloc ?_ _));exact BK135.out) hb)
          have n4_ := Aside0.mk (below_step (by repeat (first | (with_reducible first | exact HB.out | apply below_alloc | apply pw_below_drewN | apply below_drew1 | refine below_set ?_ GE135.out) | exact HB.out)) hb)
          clear HO_8
          clear HO_136002
          clear BK135
          clear HB
          have HO_8 := n0_
          have HO_136002 := n1_
          have HO147 := n2_
          have BK135 := n3_
          have HB := n4_
          clear n0_ n1_ n2_ n3_ n4_
          (try clear hb)
          (try clear hb2)
          (try clear hk)
          (try clear hi)
          (try clear ho0)
          refine hK.out _ _ ⟨(blk_cell BK135.out 0).trans rfl,(blk_cell BK135.out 1).trans rfl,(blk_cell BK135.out 2).trans rfl,(up_ HB.out hw139_0),(up_ HB.out hw139_1),(up_ HB.out hw139_2),(up_ HB.out hw139_3),(up_ HB.out hw140_0),(up_ HB.out hw140_1),(up_ HB.out hw140_2),(up_ HB.out hw140_3),(up_ HB.out hw141_0),(up_ HB.out hw141_1),(up_ HB.out hw141_2),(up_ HB.out hw141_3),(up_ HB.out hw142_0),(up_ HB.out hw142_1),(up_ HB.out hw142_2),(up_ HB.out hw142_3)⟩ (fun hHeld => ?_)
          clear hK K
          refine norm_ (a' := ?_) ?_ ?_
          rotate_left
          ·show Act.put _ (some 67) _ = _
           simp only [Act.put,List.setIfInBounds_toArray,List.set_cons_zero,List.set_cons_succ,i64_w,i32_w]
           rfl
          refine pure_ (i := 22) (N := some 45) (v := ?_) (a' := ?_) #[true,true,true,true,true,true,true,true,true,true,true,true,true,true,true,true,true,true,true,true,true,true,true,false,false,false,false,false] rfl rfl (any_of HT_.out (by kernel_rfl)) (fun _ _ _ h => h) (Or.inl ⟨by rfl,?_⟩) ?_ ?_
          rotate_left;(intro w';go_simp;with_reducible rfl);rotate_left;(simp only [Act.put,List.setIfInBounds_toArray,List.set_cons_zero,List.set_cons_succ,i64_w,i32_w];rfl)
          refine pure_ (i := 23) (N := some 68) (v := ?_) (a' := ?_) #[true,true,true,true,true,true,true,true,true,true,true,true,true,true,true,true,true,true,true,true,true,true,true,true,false,false,false,false] rfl rfl (any_of HT_.out (by kernel_rfl)) (fun _ _ _ h => h) (Or.inl ⟨by rfl,?_⟩) ?_ ?_
          rotate_left;(intro w';go_simp;with_reducible rfl);rotate_left;(simp only [Act.put,List.setIfInBounds_toArray,List.set_cons_zero,List.set_cons_succ,i64_w,i32_w];rfl)
          refine pure_ (i := 24) (N := some 69) (v := ?_) (a' := ?_) #[true,true,true,true,true,true,true,true,true,true,true,true,true,true,true,true,true,true,true,true,true,true,true,true,true,false,false,false] rfl rfl (any_of HT_.out (by kernel_rfl)) (fun _ _ _ h => h) (Or.inl ⟨by rfl,?_⟩) ?_ ?_
          rotate_left;(intro w';go_simp;with_reducible rfl);rotate_left;(simp only [Act.put,List.setIfInBounds_toArray,List.set_cons_zero,List.set_cons_succ,i64_w,i32_w];rfl)
          refine one_ (i := 25) (N := some 10) #[true,true,true,true,true,true,true,true,true,true,true,true,true,true,true,true,true,true,true,true,true,true,true,true,true,true,false,false] rfl rfl (one_of HT_.out (by kernel_rfl)) (by decide) (fun K hK => ?_)
          refine box_step ?hg (N := 10) ?hd (cs := #[.int .u64 0,.int .u64 0,.slice none 0 0]) (t := 31) ?hr ?_;(case hd => rfl);(case hg => rfl);(case hr => first | (go_simp;done) | (go_simp;rfl))
          intro gb149 hg w26 hbox hb
          have n0_ := Aside0.mk (Kd.R_below (by (with_reducible repeat (first | apply Kd.R_alloc | apply Kd.R_drewN | apply Kd.R_drew));exact HO_8.out) hb)
          have n1_ := Aside0.mk (Kd.R_below (by (with_reducible repeat (first | apply Kd.R_alloc | apply Kd.R_drewN | apply Kd.R_drew));exact HO_136002.out) hb)
          have n2_ := Aside0.mk (Kd.R_below (by (with_reducible repeat (first | apply Kd.R_alloc | apply Kd.R_drewN | apply Kd.R_drew));exact HO147.out) hb)
          have n3_ := Aside0.mk (blk_below (g := gb135) (o := .cells #[.int .u64 x136000_2,.int .u64 x136001_2,.slice Ao23 x136002_2.length co23] 31 (0,0)) (by (with_reducible repeat (first | refine blk_drewN ?_ _ | refine blk_drew ?_ | refine blk_alloc ?_ _));exact BK135.out) hb)
          have n4_ := Aside0.mk (below_step (by repeat (first | (with_reducible first | exact HB.out | apply below_alloc | apply pw_below_drewN | apply below_drew1 | refine below_set ?_ GE135.out) | exact HB.out)) hb)
          have n5_ := Aside0.mk (hbox)
          have n6_ := Aside0.mk ((by rw [hg];exact (below_size (by repeat (first | (with_reducible first | exact HB.out | apply below_alloc | apply pw_below_drewN | apply below_drew1 | refine below_set ?_ GE135.out) | exact HB.out))) : w.heap.size ≤ gb149))
          have n7_ := Aside0.mk ((by rw [hg];exact (below_size (by repeat (first | (with_reducible first | exact HB.out | apply below_alloc | apply pw_below_drewN | apply below_drew1 | refine below_set ?_ GE135.out) | exact HB.out))) : w.heap.size ≤ gb149))
          have n8_ := Aside0.mk ((by rw [hg];exact Nat.ne_of_lt (blk_lt (g := gb135) (o := .cells #[.int .u64 x136000_2,.int .u64 x136001_2,.slice Ao23 x136002_2.length co23] 31 (0,0)) (by (with_reducible repeat (first | refine blk_drewN ?_ _ | refine blk_drew ?_ | refine blk_alloc ?_ _));exact BK135.out)) : gb135 ≠ gb149))
          have n9_ := Aside0.mk ((by rw [hg];exact Nat.ne_of_gt (blk_lt (g := gb135) (o := .cells #[.int .u64 x136000_2,.int .u64 x136001_2,.slice Ao23 x136002_2.length co23] 31 (0,0)) (by (with_reducible repeat (first | refine blk_drewN ?_ _ | refine blk_drew ?_ | refine blk_alloc ?_ _));exact BK135.out)) : gb149 ≠ gb135))
          clear HO_8
          clear HO_136002
          clear HO147
          clear BK135
          clear HB
          have HO_8 := n0_
          have HO_136002 := n1_
          have HO147 := n2_
          have BK135 := n3_
          have HB := n4_
          have BK149 := n5_
          have GW149 := n6_
          have GE149 := n7_
          have NB135_149 := n8_
          have NB149_135 := n9_
          clear n0_ n1_ n2_ n3_ n4_ n5_ n6_ n7_ n8_ n9_
          clear hb hbox hg
          refine hK.out _ _ ⟨(blk_cell BK135.out 0).trans rfl,(blk_cell BK135.out 1).trans rfl,(blk_cell BK135.out 2).trans rfl,(up_ HB.out hw139_0),(up_ HB.out hw139_1),(up_ HB.out hw139_2),(up_ HB.out hw139_3),(up_ HB.out hw140_0),(up_ HB.out hw140_1),(up_ HB.out hw140_2),(up_ HB.out hw140_3),(up_ HB.out hw141_0),(up_ HB.out hw141_1),(up_ HB.out hw141_2),(up_ HB.out hw141_3),(up_ HB.out hw142_0),(up_ HB.out hw142_1),(up_ HB.out hw142_2),(up_ HB.out hw142_3)⟩ (fun hHeld => ?_)
          clear hK K
          refine norm_ (a' := ?_) ?_ ?_
          rotate_left
          ·show Act.put _ (some 10) _ = _
           simp only [Act.put,List.setIfInBounds_toArray,List.set_cons_zero,List.set_cons_succ,i64_w,i32_w]
           rfl
          exact norm_ (by simp only [putAll,Act.put,List.setIfInBounds_toArray,List.set_cons_zero,List.set_cons_succ]) (hCont (v146,gb149) _ ⟨hHeld,(by (with_reducible repeat (first | apply Kd.R_alloc | apply Kd.R_drewN | apply Kd.R_drew));exact Kd.R_mono HO147.out (fun _ hk => hk.2)),(by (with_reducible repeat (first | apply Kd.R_alloc | apply Kd.R_drewN | apply Kd.R_drew));exact Kd.R_mono HO_136002.out (fun _ hk => hk.2)),(by (with_reducible repeat (first | apply Kd.R_alloc | apply Kd.R_drewN | apply Kd.R_drew));exact HO_8.out),(by (with_reducible repeat (first | refine blk_drewN ?_ _ | refine blk_drew ?_ | refine blk_alloc ?_ _));exact BK135.out),(by (with_reducible repeat (first | refine blk_drewN ?_ _ | refine blk_drew ?_ | refine blk_alloc ?_ _));exact BK149.out),GW149.out,GE149.out,NB135_149.out,NB149_135.out,(by repeat (first | (with_reducible first | exact HB.out | apply below_alloc | apply pw_below_drewN | apply below_drew1 | refine below_set ?_ GE135.out | refine below_set ?_ GE149.out) | exact HB.out))⟩)
         ·skip
          refine box_step ?hg (N := 10) ?hd (cs := #[.int .u64 0,.int .u64 0,.slice none 0 0]) (t := 31) ?hr ?_;(case hd => rfl);(case hg => rfl);(case hr => first | (go_simp;done) | (go_simp;rfl))
          intro gb149 hg w25 hbox hb
          have n0_ := Aside0.mk (Kd.R_below (by (with_reducible repeat (first | apply Kd.R_alloc | apply Kd.R_drewN | apply Kd.R_drew));exact HO_8.out) hb)
          have n1_ := Aside0.mk (Kd.R_below (by (with_reducible repeat (first | apply Kd.R_alloc | apply Kd.R_drewN | apply Kd.R_drew));exact HO_136002.out) hb)
          have n2_ := Aside0.mk (blk_below (g := gb135) (o := .cells #[.int .u64 x136000_2,.int .u64 x136001_2,.slice Ao23 x136002_2.length co23] 31 (0,0)) (by (with_reducible repeat (first | refine blk_drewN ?_ _ | refine blk_drew ?_ | refine blk_alloc ?_ _));exact BK135.out) hb)
          have n3_ := Aside0.mk (below_step (by repeat (first | (with_reducible first | exact HB.out | apply below_alloc | apply pw_below_drewN | apply below_drew1 | refine below_set ?_ GE135.out) | exact HB.out)) hb)
          have n4_ := Aside0.mk (hbox)
          have n5_ := Aside0.mk ((by rw [hg];exact (below_size (by repeat (first | (with_reducible first | exact HB.out | apply below_alloc | apply pw_below_drewN | apply below_drew1 | refine below_set ?_ GE135.out) | exact HB.out))) : w.heap.size ≤ gb149))
          have n6_ := Aside0.mk ((by rw [hg];exact (below_size (by repeat (first | (with_reducible first | exact HB.out | apply below_alloc | apply pw_below_drewN | apply below_drew1 | refine below_set ?_ GE135.out) | exact HB.out))) : w.heap.size ≤ gb149))
          have n7_ := Aside0.mk ((by rw [hg];exact Nat.ne_of_lt (blk_lt (g := gb135) (o := .cells #[.int .u64 x136000_2,.int .u64 x136001_2,.slice Ao23 x136002_2.length co23] 31 (0,0)) (by (with_reducible repeat (first | refine blk_drewN ?_ _ | refine blk_drew ?_ | refine blk_alloc ?_ _));exact BK135.out)) : gb135 ≠ gb149))
          have n8_ := Aside0.mk ((by rw [hg];exact Nat.ne_of_gt (blk_lt (g := gb135) (o := .cells #[.int .u64 x136000_2,.int .u64 x136001_2,.slice Ao23 x136002_2.length co23] 31 (0,0)) (by (with_reducible repeat (first | refine blk_drewN ?_ _ | refine blk_drew ?_ | refine blk_alloc ?_ _));exact BK135.out)) : gb149 ≠ gb135))
          clear HO_8
          clear HO_136002
          clear BK135
          clear HB
          have HO_8 := n0_
          have HO_136002 := n1_
          have BK135 := n2_
          have HB := n3_
          have BK149 := n4_
          have GW149 := n5_
          have GE149 := n6_
          have NB135_149 := n7_
          have NB149_135 := n8_
          clear n0_ n1_ n2_ n3_ n4_ n5_ n6_ n7_ n8_
          clear hb hbox hg
          refine hK.out _ _ ⟨(blk_cell BK135.out 0).trans rfl,(blk_cell BK135.out 1).trans rfl,(blk_cell BK135.out 2).trans rfl,(up_ HB.out hw139_0),(up_ HB.out hw139_1),(up_ HB.out hw139_2),(up_ HB.out hw139_3),(up_ HB.out hw140_0),(up_ HB.out hw140_1),(up_ HB.out hw140_2),(up_ HB.out hw140_3),(up_ HB.out hw141_0),(up_ HB.out hw141_1),(up_ HB.out hw141_2),(up_ HB.out hw141_3),(up_ HB.out hw142_0),(up_ HB.out hw142_1),(up_ HB.out hw142_2),(up_ HB.out hw142_3)⟩ (fun hHeld => ?_)
          clear hK K
          refine norm_ (a' := ?_) ?_ ?_
          rotate_left
          ·show Act.put _ (some 10) _ = _
           simp only [Act.put,List.setIfInBounds_toArray,List.set_cons_zero,List.set_cons_succ,i64_w,i32_w]
           rfl
          refine one_ (i := 21) (N := some 67) #[true,true,true,true,true,true,true,true,true,true,true,true,true,true,true,true,true,true,true,true,true,true,false,false,false,true,false,false] rfl rfl (one_of HT_.out (by kernel_rfl)) (by decide) (fun K hK => ?_)
          refine goes_ Try.func17 (by kernel_rfl) rfl #[.agg #[.int .u64 x136000_2,.int .u64 x136001_2,.slice Ao23 x136002_2.length co23],.int .i64 ((rd_T40 l1 x9_2).f0),.int .u64 ((rd_T40 l1 x9_2).f1),.string ((rd_T40 l1 x9_2).f2),.string ((rd_T40 l1 x9_2).f3)] (by rfl) rfl rfl (by (try simp only [List.map_toArray,List.map_cons,List.map_nil]);first | done | rfl | (simp only [List.length_drop,List.length_take];rfl)) ?_
          with_reducible refine (ideal_Seal.calls k2 x136000_2 x136001_2 _ _ x136002_2 ((rd_T40 l1 x9_2).f0) ((rd_T40 l1 x9_2).f1) ((rd_T40 l1 x9_2).f2) ((rd_T40 l1 x9_2).f3) t143 t144 t145 t148 _ ?side1 ?side2 A22.out).mono ?_
          (case side1 => repeat (first | exact (Kd.R_reads' HO_136002.out).2.2 | (with_reducible refine Kd.C_alloc ?_ _) | (with_reducible refine Kd.C_drewN ?_ _) | (with_reducible refine Kd.C_drew ?_)))
          (case side2 => exact (Kd.R_reads' HO_136002.out).2.1)
          rintro e w26 ⟨v146,rfl,ho0,hb⟩
          refine ⟨_,rfl,?_⟩
          have n0_ := Aside0.mk (Kd.R_below (by (with_reducible repeat (first | apply Kd.R_alloc | apply Kd.R_drewN | apply Kd.R_drew));exact HO_8.out) hb)
          have n1_ := Aside0.mk (Kd.R_elder' (by (with_reducible repeat (first | apply Kd.R_alloc | apply Kd.R_drewN | apply Kd.R_drew));exact HO_136002.out) (Kd.R_base ho0) hb)
          have n2_ := Aside0.mk (Kd.R_lower (Kd.R_new' ho0 (Kd.R_lt (by (with_reducible repeat (first | apply Kd.R_alloc | apply Kd.R_drewN | apply Kd.R_drew));exact HO_136002.out))) (below_size (by repeat (first | (with_reducible first | exact HB.out | apply below_alloc | apply pw_below_drewN | apply below_drew1 | refine below_set ?_ GE135.out | refine below_set ?_ GE149.out) | exact HB.out))))
          have n3_ := Aside0.mk (blk_below (g := gb135) (o := .cells #[.int .u64 x136000_2,.int .u64 x136001_2,.slice Ao23 x136002_2.length co23] 31 (0,0)) (by (with_reducible repeat (first | refine blk_drewN ?_ _ | refine blk_drew ?_ | refine blk_alloc ?_ _));exact BK135.out) hb)
          have n4_ := Aside0.mk (blk_below (g := gb149) (o := .cells #[.int .u64 0,.int .u64 0,.slice none 0 0] 31 (0,0)) (by (with_reducible repeat (first | refine blk_drewN ?_ _ | refine blk_drew ?_ | refine blk_alloc ?_ _));exact BK149.out) hb)
          have n5_ := Aside0.mk (below_step (by repeat (first | (with_reducible first | exact HB.out | apply below_alloc | apply pw_below_drewN | apply below_drew1 | refine below_set ?_ GE135.out | refine below_set ?_ GE149.out) | exact HB.out)) hb)
          clear HO_8
          clear HO_136002
          clear BK135
          clear BK149
          clear HB
          have HO_8 := n0_
          have HO_136002 := n1_
          have HO147 := n2_
          have BK135 := n3_
          have BK149 := n4_
          have HB := n5_
          clear n0_ n1_ n2_ n3_ n4_ n5_
          (try clear hb)
          (try clear hb2)
          (try clear hk)
          (try clear hi)
          (try clear ho0)
          refine hK.out _ _ ⟨(blk_cell BK135.out 0).trans rfl,(blk_cell BK135.out 1).trans rfl,(blk_cell BK135.out 2).trans rfl,(up_ HB.out hw139_0),(up_ HB.out hw139_1),(up_ HB.out hw139_2),(up_ HB.out hw139_3),(up_ HB.out hw140_0),(up_ HB.out hw140_1),(up_ HB.out hw140_2),(up_ HB.out hw140_3),(up_ HB.out hw141_0),(up_ HB.out hw141_1),(up_ HB.out hw141_2),(up_ HB.out hw141_3),(up_ HB.out hw142_0),(up_ HB.out hw142_1),(up_ HB.out hw142_2),(up_ HB.out hw142_3)⟩ (fun hHeld => ?_)
          clear hK K
          refine norm_ (a' := ?_) ?_ ?_
          rotate_left
          ·show Act.put _ (some 67) _ = _
           simp only [Act.put,List.setIfInBounds_toArray,List.set_cons_zero,List.set_cons_succ,i64_w,i32_w]
           rfl
          refine pure_ (i := 22) (N := some 45) (v := ?_) (a' := ?_) #[true,true,true,true,true,true,true,true,true,true,true,true,true,true,true,true,true,true,true,true,true,true,true,false,false,true,false,false] rfl rfl (any_of HT_.out (by kernel_rfl)) (fun _ _ _ h => h) (Or.inl ⟨by rfl,?_⟩) ?_ ?_
          rotate_left;(intro w';go_simp;with_reducible rfl);rotate_left;(simp only [Act.put,List.setIfInBounds_toArray,List.set_cons_zero,List.set_cons_succ,i64_w,i32_w];rfl)
          refine pure_ (i := 23) (N := some 68) (v := ?_) (a' := ?_) #[true,true,true,true,true,true,true,true,true,true,true,true,true,true,true,true,true,true,true,true,true,true,true,true,false,true,false,false] rfl rfl (any_of HT_.out (by kernel_rfl)) (fun _ _ _ h => h) (Or.inl ⟨by rfl,?_⟩) ?_ ?_
          rotate_left;(intro w';go_simp;with_reducible rfl);rotate_left;(simp only [Act.put,List.setIfInBounds_toArray,List.set_cons_zero,List.set_cons_succ,i64_w,i32_w];rfl)
          refine pure_ (i := 24) (N := some 69) (v := ?_) (a' := ?_) #[true,true,true,true,true,true,true,true,true,true,true,true,true,true,true,true,true,true,true,true,true,true,true,true,true,true,false,false] rfl rfl (any_of HT_.out (by kernel_rfl)) (fun _ _ _ h => h) (Or.inl ⟨by rfl,?_⟩) ?_ ?_
          rotate_left;(intro w';go_simp;with_reducible rfl);rotate_left;(simp only [Act.put,List.setIfInBounds_toArray,List.set_cons_zero,List.set_cons_succ,i64_w,i32_w];rfl)
          exact norm_ (by simp only [putAll,Act.put,List.setIfInBounds_toArray,List.set_cons_zero,List.set_cons_succ]) (hCont (v146,gb149) _ ⟨hHeld,(by (with_reducible repeat (first | apply Kd.R_alloc | apply Kd.R_drewN | apply Kd.R_drew));exact Kd.R_mono HO147.out (fun _ hk => hk.2)),(by (with_reducible repeat (first | apply Kd.R_alloc | apply Kd.R_drewN | apply Kd.R_drew));exact Kd.R_mono HO_136002.out (fun _ hk => hk.2)),(by (with_reducible repeat (first | apply Kd.R_alloc | apply Kd.R_drewN | apply Kd.R_drew));exact HO_8.out),(by (with_reducible repeat (first | refine blk_drewN ?_ _ | refine blk_drew ?_ | refine blk_alloc ?_ _));exact BK135.out),(by (with_reducible repeat (first | refine blk_drewN ?_ _ | refine blk_drew ?_ | refine blk_alloc ?_ _));exact BK149.out),GW149.out,GE149.out,NB135_149.out,NB149_135.out,(by repeat (first | (with_reducible first | exact HB.out | apply below_alloc | apply pw_below_drewN | apply below_drew1 | refine below_set ?_ GE135.out | refine below_set ?_ GE149.out) | exact HB.out))⟩)
        rintro ⟨v146,gb149⟩ w27 ⟨hS_,h0_,h1_,h2_,h3_,h4_,h5_,h6_,h7_,h8_,h9_⟩
        have n0_ : Aside0 (Kd.R k73 73 w27 w.heap.size (fun k_ => some k_ ≠ (.slice Ao23 x136002_2.length co23 : Value).ownBlock) v146 t145) := ⟨h0_⟩
        have n1_ : Aside0 (Kd.R k73 73 w27 w.heap.size (fun k_ => some k_ ≠ (v146 : Value).ownBlock) (.slice Ao23 x136002_2.length co23) x136002_2) := ⟨h1_⟩
        have n2_ : Aside0 (Kd.R Kd.string 9 w27 w.heap.size (fun _ => True) u8 x8_2) := ⟨h2_⟩
        have n3_ : Aside0 (w27.heap[gb135]? = some (.cells #[.int .u64 x136000_2,.int .u64 x136001_2,.slice Ao23 x136002_2.length co23] 31 (0,0))) := ⟨h3_⟩
        have n4_ : Aside0 (w27.heap[gb149]? = some (.cells #[.int .u64 0,.int .u64 0,.slice none 0 0] 31 (0,0))) := ⟨h4_⟩
        have n5_ : Aside0 (w.heap.size ≤ gb149) := ⟨h5_⟩
        have n6_ : Aside0 (w.heap.size ≤ gb149) := ⟨h6_⟩
        have n7_ : Aside0 (gb135 ≠ gb149) := ⟨h7_⟩
        have n8_ : Aside0 (gb149 ≠ gb135) := ⟨h8_⟩
        have n9_ : Aside0 (Below w.heap.size w w27) := ⟨h9_⟩
        clear HO_8
        clear HO_136002
        clear BK135
        clear HB
        clear h0_ h1_ h2_ h3_ h4_ h5_ h6_ h7_ h8_ h9_
        have HO147 := n0_
        have HO_136002 := n1_
        have HO_8 := n2_
        have BK135 := n3_
        have BK149 := n4_
        have GW149 := n5_
        have GE149 := n6_
        have NB135_149 := n7_
        have NB149_135 := n8_
        have HB := n9_
        clear n0_ n1_ n2_ n3_ n4_ n5_ n6_ n7_ n8_ n9_
        have hHeld : w27.cell? ⟨gb135,0,none⟩ = some (.int .u64 x136000_2) ∧ w27.cell? ⟨gb135,1,none⟩ = some (.int .u64 x136001_2) ∧ w27.cell? ⟨gb135,2,none⟩ = some (.slice Ao23 x136002_2.length co23) ∧ w27.cell? (ad139.add ((x9_2).toNat * 4)) = some (.int .i64 ((rd_T40 l1 x9_2).f0)) ∧ w27.cell? ⟨(ad139.add ((x9_2).toNat * 4)).block,(ad139.add ((x9_2).toNat * 4)).off + 1,none⟩ = some (.int .u64 ((rd_T40 l1 x9_2).f1)) ∧ w27.cell? ⟨(ad139.add ((x9_2).toNat * 4)).block,(ad139.add ((x9_2).toNat * 4)).off + 2,none⟩ = some (.string ((rd_T40 l1 x9_2).f2)) ∧ w27.cell? ⟨(ad139.add ((x9_2).toNat * 4)).block,(ad139.add ((x9_2).toNat * 4)).off + 3,none⟩ = some (.string ((rd_T40 l1 x9_2).f3)) ∧ w27.cell? (ad139.add ((x9_2).toNat * 4)) = some (.int .i64 ((rd_T40 l1 x9_2).f0)) ∧ w27.cell? ⟨(ad139.add ((x9_2).toNat * 4)).block,(ad139.add ((x9_2).toNat * 4)).off + 1,none⟩ = some (.int .u64 ((rd_T40 l1 x9_2).f1)) ∧ w27.cell? ⟨(ad139.add ((x9_2).toNat * 4)).block,(ad139.add ((x9_2).toNat * 4)).off + 2,none⟩ = some (.string ((rd_T40 l1 x9_2).f2)) ∧ w27.cell? ⟨(ad139.add ((x9_2).toNat * 4)).block,(ad139.add ((x9_2).toNat * 4)).off + 3,none⟩ = some (.string ((rd_T40 l1 x9_2).f3)) ∧ w27.cell? (ad139.add ((x9_2).toNat * 4)) = some (.int .i64 ((rd_T40 l1 x9_2).f0)) ∧ w27.cell? ⟨(ad139.add ((x9_2).toNat * 4)).block,(ad139.add ((x9_2).toNat * 4)).off + 1,none⟩ = some (.int .u64 ((rd_T40 l1 x9_2).f1)) ∧ w27.cell? ⟨(ad139.add ((x9_2).toNat * 4)).block,(ad139.add ((x9_2).toNat * 4)).off + 2,none⟩ = some (.string ((rd_T40 l1 x9_2).f2)) ∧ w27.cell? ⟨(ad139.add ((x9_2).toNat * 4)).block,(ad139.add ((x9_2).toNat * 4)).off + 3,none⟩ = some (.string ((rd_T40 l1 x9_2).f3)) ∧ w27.cell? (ad139.add ((x9_2).toNat * 4)) = some (.int .i64 ((rd_T40 l1 x9_2).f0)) ∧ w27.cell? ⟨(ad139.add ((x9_2).toNat * 4)).block,(ad139.add ((x9_2).toNat * 4)).off + 1,none⟩ = some (.int .u64 ((rd_T40 l1 x9_2).f1)) ∧ w27.cell? ⟨(ad139.add ((x9_2).toNat * 4)).block,(ad139.add ((x9_2).toNat * 4)).off + 2,none⟩ = some (.string ((rd_T40 l1 x9_2).f2)) ∧ w27.cell? ⟨(ad139.add ((x9_2).toNat * 4)).block,(ad139.add ((x9_2).toNat * 4)).off + 3,none⟩ = some (.string ((rd_T40 l1 x9_2).f3)) := hS_
        obtain ⟨Ao30,co30,eo30⟩ := Kd.R_slice HO147.out
        (first | subst eo30 | (injection eo30 with f1_ f2_ f3_;have f4_ := f1_.symm;have f5_ := f3_.symm;clear f1_ f2_ f3_;subst f4_;subst f5_))
        refine norm_ (a' := ?_) ?_ ?_
        rotate_left
        ·simp only [putAll,Act.put,List.setIfInBounds_toArray,List.set_cons_zero,List.set_cons_succ]
         rfl
        refine one_ (i := 26) (N := none) #[true,true,true,true,true,true,true,true,true,true,true,true,true,true,true,true,true,true,true,true,true,true,true,true,true,true,true,false] rfl rfl (one_of HT_.out (by kernel_rfl)) (by decide) (fun K hK => ?_)
        have hs28 : w27.cell? ⟨gb149,0,none⟩ = some (.int .u64 0) := (blk_cell BK149.out 0).trans rfl
        have hfs28 := blk_frozen BK149.out 0
        have hns28_0 := NB135_149.out
        have hms28_0 := NB149_135.out
        have hs29 : w27.cell? ⟨gb149,1,none⟩ = some (.int .u64 0) := (blk_cell BK149.out 1).trans rfl
        have hfs29 := blk_frozen BK149.out 1
        have hns29_0 := NB135_149.out
        have hms29_0 := NB149_135.out
        have hs31 : w27.cell? ⟨gb149,2,none⟩ = some (.slice none 0 0) := (blk_cell BK149.out 2).trans rfl
        have hfs31 := blk_frozen BK149.out 2
        have hns31_0 := NB135_149.out
        have hms31_0 := NB149_135.out
        refine skip_ (w1 := ?_) (by rfl) rfl ?_ ?_
        rotate_left
        ·go_simp
         rfl
        refine hK.out _ _ ⟨((cell_far (p := ⟨gb149,_,none⟩) NB135_149.out _).trans (((cell_far (p := ⟨gb149,_,none⟩) NB135_149.out _).trans (((cell_far (p := ⟨gb149,_,none⟩) NB135_149.out _).trans (hHeld.1)))))),((cell_far (p := ⟨gb149,_,none⟩) NB135_149.out _).trans (((cell_far (p := ⟨gb149,_,none⟩) NB135_149.out _).trans (((cell_far (p := ⟨gb149,_,none⟩) NB135_149.out _).trans (hHeld.2.1)))))),((cell_far (p := ⟨gb149,_,none⟩) NB135_149.out _).trans (((cell_far (p := ⟨gb149,_,none⟩) NB135_149.out _).trans (((cell_far (p := ⟨gb149,_,none⟩) NB135_149.out _).trans (hHeld.2.2.1)))))),((cell_far (p := ⟨gb149,_,none⟩) (by first | exact Nat.ne_of_lt (Nat.lt_of_lt_of_le (by have := World.block_lt_of_cell? _ _ hw139_0;first | rwa [add_block] at this | exact this) GW149.out) | (rw [add_block];exact Nat.ne_of_lt (Nat.lt_of_lt_of_le (by have := World.block_lt_of_cell? _ _ hw139_0;first | rwa [add_block] at this | exact this) GW149.out)) | (show (Addr.add _ _).block ≠ _;rw [add_block];exact Nat.ne_of_lt (Nat.lt_of_lt_of_le (by have := World.block_lt_of_cell? _ _ hw139_0;first | rwa [add_block] at this | exact this) GW149.out)) | (dsimp only;exact Nat.ne_of_lt (Nat.lt_of_lt_of_le (by have := World.block_lt_of_cell? _ _ hw139_0;first | rwa [add_block] at this | exact this) GW149.out))) _).trans (((cell_far (p := ⟨gb149,_,none⟩) (by first | exact Nat.ne_of_lt (Nat.lt_of_lt_of_le (by have := World.block_lt_of_cell? _ _ hw139_0;first | rwa [add_block] at this | exact this) GW149.out) | (rw [add_block];exact Nat.ne_of_lt (Nat.lt_of_lt_of_le (by have := World.block_lt_of_cell? _ _ hw139_0;first | rwa [add_block] at this | exact this) GW149.out)) | (show (Addr.add _ _).block ≠ _;rw [add_block];exact Nat.ne_of_lt (Nat.lt_of_lt_of_le (by have := World.block_lt_of_cell? _ _ hw139_0;first | rwa [add_block] at this | exact this) GW149.out)) | (dsimp only;exact Nat.ne_of_lt (Nat.lt_of_lt_of_le (by have := World.block_lt_of_cell? _ _ hw139_0;first | rwa [add_block] at this | exact this) GW149.out))) _).trans (((cell_far (p := ⟨gb149,_,none⟩) (by first | exact Nat.ne_of_lt (Nat.lt_of_lt_of_le (by have := World.block_lt_of_cell? _ _ hw139_0;first | rwa [add_block] at this | exact this) GW149.out) | (rw [add_block];exact Nat.ne_of_lt (Nat.lt_of_lt_of_le (by have := World.block_lt_of_cell? _ _ hw139_0;first | rwa [add_block] at this | exact this) GW149.out)) | (show (Addr.add _ _).block ≠ _;rw [add_block];exact Nat.ne_of_lt (Nat.lt_of_lt_of_le (by have := World.block_lt_of_cell? _ _ hw139_0;first | rwa [add_block] at this | exact this) GW149.out)) | (dsimp only;exact Nat.ne_of_lt (Nat.lt_of_lt_of_le (by have := World.block_lt_of_cell? _ _ hw139_0;first | rwa [add_block] at this | exact this) GW149.out))) _).trans (hHeld.2.2.2.1)))))),((cell_far (p := ⟨gb149,_,none⟩) (by first | exact Nat.ne_of_lt (Nat.lt_of_lt_of_le (by have := World.block_lt_of_cell? _ _ hw139_1;first | rwa [add_block] at this | exact this) GW149.out) | (rw [add_block];exact Nat.ne_of_lt (Nat.lt_of_lt_of_le (by have := World.block_lt_of_cell? _ _ hw139_1;first | rwa [add_block] at this | exact this) GW149.out)) | (show (Addr.add _ _).block ≠ _;rw [add_block];exact Nat.ne_of_lt (Nat.lt_of_lt_of_le (by have := World.block_lt_of_cell? _ _ hw139_1;first | rwa [add_block] at this | exact this) GW149.out)) | (dsimp only;exact Nat.ne_of_lt (Nat.lt_of_lt_of_le (by have := World.block_lt_of_cell? _ _ hw139_1;first | rwa [add_block] at this | exact this) GW149.out))) _).trans (((cell_far (p := ⟨gb149,_,none⟩) (by first | exact Nat.ne_of_lt (Nat.lt_of_lt_of_le (by have := World.block_lt_of_cell? _ _ hw139_1;first | rwa [add_block] at this | exact this) GW149.out) | (rw [add_block];exact Nat.ne_of_lt (Nat.lt_of_lt_of_le (by have := World.block_lt_of_cell? _ _ hw139_1;first | rwa [add_block] at this | exact this) GW149.out)) | (show (Addr.add _ _).block ≠ _;rw [add_block];exact Nat.ne_of_lt (Nat.lt_of_lt_of_le (by have := World.block_lt_of_cell? _ _ hw139_1;first | rwa [add_block] at this | exact this) GW149.out)) | (dsimp only;exact Nat.ne_of_lt (Nat.lt_of_lt_of_le (by have := World.block_lt_of_cell? _ _ hw139_1;first | rwa [add_block] at this | exact this) GW149.out))) _).trans (((cell_far (p := ⟨gb149,_,none⟩) (by first | exact Nat.ne_of_lt (Nat.lt_of_lt_of_le (by have := World.block_lt_of_cell? _ _ hw139_1;first | rwa [add_block] at this | exact this) GW149.out) | (rw [add_block];exact Nat.ne_of_lt (Nat.lt_of_lt_of_le (by have := World.block_lt_of_cell? _ _ hw139_1;first | rwa [add_block] at this | exact this) GW149.out)) | (show (Addr.add _ _).block ≠ _;rw [add_block];exact Nat.ne_of_lt (Nat.lt_of_lt_of_le (by have := World.block_lt_of_cell? _ _ hw139_1;first | rwa [add_block] at this | exact this) GW149.out)) | (dsimp only;exact Nat.ne_of_lt (Nat.lt_of_lt_of_le (by have := World.block_lt_of_cell? _ _ hw139_1;first | rwa [add_block] at this | exact this) GW149.out))) _).trans (hHeld.2.2.2.2.1)))))),((cell_far (p := ⟨gb149,_,none⟩) (by first | exact Nat.ne_of_lt (Nat.lt_of_lt_of_le (by have := World.block_lt_of_cell? _ _ hw139_2;first | rwa [add_block] at this | exact this) GW149.out) | (rw [add_block];exact Nat.ne_of_lt (Nat.lt_of_lt_of_le (by have := World.block_lt_of_cell? _ _ hw139_2;first | rwa [add_block] at this | exact this) GW149.out)) | (show (Addr.add _ _).block ≠ _;rw [add_block];exact Nat.ne_of_lt (Nat.lt_of_lt_of_le (by have := World.block_lt_of_cell? _ _ hw139_2;first | rwa [add_block] at this | exact this) GW149.out)) | (dsimp only;exact Nat.ne_of_lt (Nat.lt_of_lt_of_le (by have := World.block_lt_of_cell? _ _ hw139_2;first | rwa [add_block] at this | exact this) GW149.out))) _).trans (((cell_far (p := ⟨gb149,_,none⟩) (by first | exact Nat.ne_of_lt (Nat.lt_of_lt_of_le (by have := World.block_lt_of_cell? _ _ hw139_2;first | rwa [add_block] at this | exact this) GW149.out) | (rw [add_block];exact Nat.ne_of_lt (Nat.lt_of_lt_of_le (by have := World.block_lt_of_cell? _ _ hw139_2;first | rwa [add_block] at this | exact this) GW149.out)) | (show (Addr.add _ _).block ≠ _;rw [add_block];exact Nat.ne_of_lt (Nat.lt_of_lt_of_le (by have := World.block_lt_of_cell? _ _ hw139_2;first | rwa [add_block] at this | exact this) GW149.out)) | (dsimp only;exact Nat.ne_of_lt (Nat.lt_of_lt_of_le (by have := World.block_lt_of_cell? _ _ hw139_2;first | rwa [add_block] at this | exact this) GW149.out))) _).trans (((cell_far (p := ⟨gb149,_,none⟩) (by first | exact Nat.ne_of_lt (Nat.lt_of_lt_of_le (by have := World.block_lt_of_cell? _ _ hw139_2;first | rwa [add_block] at this | exact this) GW149.out) | (rw [add_block];exact Nat.ne_of_lt (Nat.lt_of_lt_of_le (by have := World.block_lt_of_cell? _ _ hw139_2;first | rwa [add_block] at this | exact this) GW149.out)) | (show (Addr.add _ _).block ≠ _;rw [add_block];exact Nat.ne_of_lt (Nat.lt_of_lt_of_le (by have := World.block_lt_of_cell? _ _ hw139_2;first | rwa [add_block] at this | exact this) GW149.out)) | (dsimp only;exact Nat.ne_of_lt (Nat.lt_of_lt_of_le (by have := World.block_lt_of_cell? _ _ hw139_2;first | rwa [add_block] at this | exact this) GW149.out))) _).trans (hHeld.2.2.2.2.2.1)))))),((cell_far (p := ⟨gb149,_,none⟩) (by first | exact Nat.ne_of_lt (Nat.lt_of_lt_of_le (by have := World.block_lt_of_cell? _ _ hw139_3;first | rwa [add_block] at this | exact this) GW149.out) | (rw [add_block];exact Nat.ne_of_lt (Nat.lt_of_lt_of_le (by have := World.block_lt_of_cell? _ _ hw139_3;first | rwa [add_block] at this | exact this) GW149.out)) | (show (Addr.add _ _).block ≠ _;rw [add_block];exact Nat.ne_of_lt (Nat.lt_of_lt_of_le (by have := World.block_lt_of_cell? _ _ hw139_3;first | rwa [add_block] at this | exact this) GW149.out)) | (dsimp only;exact Nat.ne_of_lt (Nat.lt_of_lt_of_le (by have := World.block_lt_of_cell? _ _ hw139_3;first | rwa [add_block] at this | exact this) GW149.out))) _).trans (((cell_far (p := ⟨gb149,_,none⟩) (by first | exact Nat.ne_of_lt (Nat.lt_of_lt_of_le (by have := World.block_lt_of_cell? _ _ hw139_3;first | rwa [add_block] at this | exact this) GW149.out) | (rw [add_block];exact Nat.ne_of_lt (Nat.lt_of_lt_of_le (by have := World.block_lt_of_cell? _ _ hw139_3;first | rwa [add_block] at this | exact this) GW149.out)) | (show (Addr.add _ _).block ≠ _;rw [add_block];exact Nat.ne_of_lt (Nat.lt_of_lt_of_le (by have := World.block_lt_of_cell? _ _ hw139_3;first | rwa [add_block] at this | exact this) GW149.out)) | (dsimp only;exact Nat.ne_of_lt (Nat.lt_of_lt_of_le (by have := World.block_lt_of_cell? _ _ hw139_3;first | rwa [add_block] at this | exact this) GW149.out))) _).trans (((cell_far (p := ⟨gb149,_,none⟩) (by first | exact Nat.ne_of_lt (Nat.lt_of_lt_of_le (by have := World.block_lt_of_cell? _ _ hw139_3;first | rwa [add_block] at this | exact this) GW149.out) | (rw [add_block];exact Nat.ne_of_lt (Nat.lt_of_lt_of_le (by have := World.block_lt_of_cell? _ _ hw139_3;first | rwa [add_block] at this | exact this) GW149.out)) | (show (Addr.add _ _).block ≠ _;rw [add_block];exact Nat.ne_of_lt (Nat.lt_of_lt_of_le (by have := World.block_lt_of_cell? _ _ hw139_3;first | rwa [add_block] at this | exact this) GW149.out)) | (dsimp only;exact Nat.ne_of_lt (Nat.lt_of_lt_of_le (by have := World.block_lt_of_cell? _ _ hw139_3;first | rwa [add_block] at this | exact this) GW149.out))) _).trans (hHeld.2.2.2.2.2.2.1)))))),((cell_far (p := ⟨gb149,_,none⟩) (by first | exact Nat.ne_of_lt (Nat.lt_of_lt_of_le (by have := World.block_lt_of_cell? _ _ hw140_0;first | rwa [add_block] at this | exact this) GW149.out) | (rw [add_block];exact Nat.ne_of_lt (Nat.lt_of_lt_of_le (by have := World.block_lt_of_cell? _ _ hw140_0;first | rwa [add_block] at this | exact this) GW149.out)) | (show (Addr.add _ _).block ≠ _;rw [add_block];exact Nat.ne_of_lt (Nat.lt_of_lt_of_le (by have := World.block_lt_of_cell? _ _ hw140_0;first | rwa [add_block] at this | exact this) GW149.out)) | (dsimp only;exact Nat.ne_of_lt (Nat.lt_of_lt_of_le (by have := World.block_lt_of_cell? _ _ hw140_0;first | rwa [add_block] at this | exact this) GW149.out))) _).trans (((cell_far (p := ⟨gb149,_,none⟩) (by first | exact Nat.ne_of_lt (Nat.lt_of_lt_of_le (by have := World.block_lt_of_cell? _ _ hw140_0;first | rwa [add_block] at this | exact this) GW149.out) | (rw [add_block];exact Nat.ne_of_lt (Nat.lt_of_lt_of_le (by have := World.block_lt_of_cell? _ _ hw140_0;first | rwa [add_block] at this | exact this) GW149.out)) | (show (Addr.add _ _).block ≠ _;rw [add_block];exact Nat.ne_of_lt (Nat.lt_of_lt_of_le (by have := World.block_lt_of_cell? _ _ hw140_0;first | rwa [add_block] at this | exact this) GW149.out)) | (dsimp only;exact Nat.ne_of_lt (Nat.lt_of_lt_of_le (by have := World.block_lt_of_cell? _ _ hw140_0;first | rwa [add_block] at this | exact this) GW149.out))) _).trans (((cell_far (p := ⟨gb149,_,none⟩) (by first | exact Nat.ne_of_lt (Nat.lt_of_lt_of_le (by have := World.block_lt_of_cell? _ _ hw140_0;first | rwa [add_block] at this | exact this) GW149.out) | (rw [add_block];exact Nat.ne_of_lt (Nat.lt_of_lt_of_le (by have := World.block_lt_of_cell? _ _ hw140_0;first | rwa [add_block] at this | exact this) GW149.out)) | (show (Addr.add _ _).block ≠ _;rw [add_block];exact Nat.ne_of_lt (Nat.lt_of_lt_of_le (by have := World.block_lt_of_cell? _ _ hw140_0;first | rwa [add_block] at this | exact this) GW149.out)) | (dsimp only;exact Nat.ne_of_lt (Nat.lt_of_lt_of_le (by have := World.block_lt_of_cell? _ _ hw140_0;first | rwa [add_block] at this | exact this) GW149.out))) _).trans (hHeld.2.2.2.2.2.2.2.1)))))),((cell_far (p := ⟨gb149,_,none⟩) (by first | exact Nat.ne_of_lt (Nat.lt_of_lt_of_le (by have := World.block_lt_of_cell? _ _ hw140_1;first | rwa [add_block] at this | exact this) GW149.out) | (rw [add_block];exact Nat.ne_of_lt (Nat.lt_of_lt_of_le (by have := World.block_lt_of_cell? _ _ hw140_1;first | rwa [add_block] at this | exact this) GW149.out)) | (show (Addr.add _ _).block ≠ _;rw [add_block];exact Nat.ne_of_lt (Nat.lt_of_lt_of_le (by have := World.block_lt_of_cell? _ _ hw140_1;first | rwa [add_block] at this | exact this) GW149.out)) | (dsimp only;exact Nat.ne_of_lt (Nat.lt_of_lt_of_le (by have := World.block_lt_of_cell? _ _ hw140_1;first | rwa [add_block] at this | exact this) GW149.out))) _).trans (((cell_far (p := ⟨gb149,_,none⟩) (by first | exact Nat.ne_of_lt (Nat.lt_of_lt_of_le (by have := World.block_lt_of_cell? _ _ hw140_1;first | rwa [add_block] at this | exact this) GW149.out) | (rw [add_block];exact Nat.ne_of_lt (Nat.lt_of_lt_of_le (by have := World.block_lt_of_cell? _ _ hw140_1;first | rwa [add_block] at this | exact this) GW149.out)) | (show (Addr.add _ _).block ≠ _;rw [add_block];exact Nat.ne_of_lt (Nat.lt_of_lt_of_le (by have := World.block_lt_of_cell? _ _ hw140_1;first | rwa [add_block] at this | exact this) GW149.out)) | (dsimp only;exact Nat.ne_of_lt (Nat.lt_of_lt_of_le (by have := World.block_lt_of_cell? _ _ hw140_1;first | rwa [add_block] at this | exact this) GW149.out))) _).trans (((cell_far (p := ⟨gb149,_,none⟩) (by first | exact Nat.ne_of_lt (Nat.lt_of_lt_of_le (by have := World.block_lt_of_cell? _ _ hw140_1;first | rwa [add_block] at this | exact this) GW149.out) | (rw [add_block];exact Nat.ne_of_lt (Nat.lt_of_lt_of_le (by have := World.block_lt_of_cell? _ _ hw140_1;first | rwa [add_block] at this | exact this) GW149.out)) | (show (Addr.add _ _).block ≠ _;rw [add_block];exact Nat.ne_of_lt (Nat.lt_of_lt_of_le (by have := World.block_lt_of_cell? _ _ hw140_1;first | rwa [add_block] at this | exact this) GW149.out)) | (dsimp only;exact Nat.ne_of_lt (Nat.lt_of_lt_of_le (by have := World.block_lt_of_cell? _ _ hw140_1;first | rwa [add_block] at this | exact this) GW149.out))) _).trans (hHeld.2.2.2.2.2.2.2.2.1)))))),((cell_far (p := ⟨gb149,_,none⟩) (by first | exact Nat.ne_of_lt (Nat.lt_of_lt_of_le (by have := World.block_lt_of_cell? _ _ hw140_2;first | rwa [add_block] at this | exact this) GW149.out) | (rw [add_block];exact Nat.ne_of_lt (Nat.lt_of_lt_of_le (by have := World.block_lt_of_cell? _ _ hw140_2;first | rwa [add_block] at this | exact this) GW149.out)) | (show (Addr.add _ _).block ≠ _;rw [add_block];exact Nat.ne_of_lt (Nat.lt_of_lt_of_le (by have := World.block_lt_of_cell? _ _ hw140_2;first | rwa [add_block] at this | exact this) GW149.out)) | (dsimp only;exact Nat.ne_of_lt (Nat.lt_of_lt_of_le (by have := World.block_lt_of_cell? _ _ hw140_2;first | rwa [add_block] at this | exact this) GW149.out))) _).trans (((cell_far (p := ⟨gb149,_,none⟩) (by first | exact Nat.ne_of_lt (Nat.lt_of_lt_of_le (by have := World.block_lt_of_cell? _ _ hw140_2;first | rwa [add_block] at this | exact this) GW149.out) | (rw [add_block];exact Nat.ne_of_lt (Nat.lt_of_lt_of_le (by have := World.block_lt_of_cell? _ _ hw140_2;first | rwa [add_block] at this | exact this) GW149.out)) | (show (Addr.add _ _).block ≠ _;rw [add_block];exact Nat.ne_of_lt (Nat.lt_of_lt_of_le (by have := World.block_lt_of_cell? _ _ hw140_2;first | rwa [add_block] at this | exact this) GW149.out)) | (dsimp only;exact Nat.ne_of_lt (Nat.lt_of_lt_of_le (by have := World.block_lt_of_cell? _ _ hw140_2;first | rwa [add_block] at this | exact this) GW149.out))) _).trans (((cell_far (p := ⟨gb149,_,none⟩) (by first | exact Nat.ne_of_lt (Nat.lt_of_lt_of_le (by have := World.block_lt_of_cell? _ _ hw140_2;first | rwa [add_block] at this | exact this) GW149.out) | (rw [add_block];exact Nat.ne_of_lt (Nat.lt_of_lt_of_le (by have := World.block_lt_of_cell? _ _ hw140_2;first | rwa [add_block] at this | exact this) GW149.out)) | (show (Addr.add _ _).block ≠ _;rw [add_block];exact Nat.ne_of_lt (Nat.lt_of_lt_of_le (by have := World.block_lt_of_cell? _ _ hw140_2;first | rwa [add_block] at this | exact this) GW149.out)) | (dsimp only;exact Nat.ne_of_lt (Nat.lt_of_lt_of_le (by have := World.block_lt_of_cell? _ _ hw140_2;first | rwa [add_block] at this | exact this) GW149.out))) _).trans (hHeld.2.2.2.2.2.2.2.2.2.1)))))),((cell_far (p := ⟨gb149,_,none⟩) (by first | exact Nat.ne_of_lt (Nat.lt_of_lt_of_le (by have := World.block_lt_of_cell? _ _ hw140_3;first | rwa [add_block] at this | exact this) GW149.out) | (rw [add_block];exact Nat.ne_of_lt (Nat.lt_of_lt_of_le (by have := World.block_lt_of_cell? _ _ hw140_3;first | rwa [add_block] at this | exact this) GW149.out)) | (show (Addr.add _ _).block ≠ _;rw [add_block];exact Nat.ne_of_lt (Nat.lt_of_lt_of_le (by have := World.block_lt_of_cell? _ _ hw140_3;first | rwa [add_block] at this | exact this) GW149.out)) | (dsimp only;exact Nat.ne_of_lt (Nat.lt_of_lt_of_le (by have := World.block_lt_of_cell? _ _ hw140_3;first | rwa [add_block] at this | exact this) GW149.out))) _).trans (((cell_far (p := ⟨gb149,_,none⟩) (by first | exact Nat.ne_of_lt (Nat.lt_of_lt_of_le (by have := World.block_lt_of_cell? _ _ hw140_3;first | rwa [add_block] at this | exact this) GW149.out) | (rw [add_block];exact Nat.ne_of_lt (Nat.lt_of_lt_of_le (by have := World.block_lt_of_cell? _ _ hw140_3;first | rwa [add_block] at this | exact this) GW149.out)) | (show (Addr.add _ _).block ≠ _;rw [add_block];exact Nat.ne_of_lt (Nat.lt_of_lt_of_le (by have := World.block_lt_of_cell? _ _ hw140_3;first | rwa [add_block] at this | exact this) GW149.out)) | (dsimp only;exact Nat.ne_of_lt (Nat.lt_of_lt_of_le (by have := World.block_lt_of_cell? _ _ hw140_3;first | rwa [add_block] at this | exact this) GW149.out))) _).trans (((cell_far (p := ⟨gb149,_,none⟩) (by first | exact Nat.ne_of_lt (Nat.lt_of_lt_of_le (by have := World.block_lt_of_cell? _ _ hw140_3;first | rwa [add_block] at this | exact this) GW149.out) | (rw [add_block];exact Nat.ne_of_lt (Nat.lt_of_lt_of_le (by have := World.block_lt_of_cell? _ _ hw140_3;first | rwa [add_block] at this | exact this) GW149.out)) | (show (Addr.add _ _).block ≠ _;rw [add_block];exact Nat.ne_of_lt (Nat.lt_of_lt_of_le (by have := World.block_lt_of_cell? _ _ hw140_3;first | rwa [add_block] at this | exact this) GW149.out)) | (dsimp only;exact Nat.ne_of_lt (Nat.lt_of_lt_of_le (by have := World.block_lt_of_cell? _ _ hw140_3;first | rwa [add_block] at this | exact this) GW149.out))) _).trans (hHeld.2.2.2.2.2.2.2.2.2.2.1)))))),((cell_far (p := ⟨gb149,_,none⟩) (by first | exact Nat.ne_of_lt (Nat.lt_of_lt_of_le (by have := World.block_lt_of_cell? _ _ hw141_0;first | rwa [add_block] at this | exact this) GW149.out) | (rw [add_block];exact Nat.ne_of_lt (Nat.lt_of_lt_of_le (by have := World.block_lt_of_cell? _ _ hw141_0;first | rwa [add_block] at this | exact this) GW149.out)) | (show (Addr.add _ _).block ≠ _;rw [add_block];exact Nat.ne_of_lt (Nat.lt_of_lt_of_le (by have := World.block_lt_of_cell? _ _ hw141_0;first | rwa [add_block] at this | exact this) GW149.out)) | (dsimp only;exact Nat.ne_of_lt (Nat.lt_of_lt_of_le (by have := World.block_lt_of_cell? _ _ hw141_0;first | rwa [add_block] at this | exact this) GW149.out))) _).trans (((cell_far (p := ⟨gb149,_,none⟩) (by first | exact Nat.ne_of_lt (Nat.lt_of_lt_of_le (by have := World.block_lt_of_cell? _ _ hw141_0;first | rwa [add_block] at this | exact this) GW149.out) | (rw [add_block];exact Nat.ne_of_lt (Nat.lt_of_lt_of_le (by have := World.block_lt_of_cell? _ _ hw141_0;first | rwa [add_block] at this | exact this) GW149.out)) | (show (Addr.add _ _).block ≠ _;rw [add_block];exact Nat.ne_of_lt (Nat.lt_of_lt_of_le (by have := World.block_lt_of_cell? _ _ hw141_0;first | rwa [add_block] at this | exact this) GW149.out)) | (dsimp only;exact Nat.ne_of_lt (Nat.lt_of_lt_of_le (by have := World.block_lt_of_cell? _ _ hw141_0;first | rwa [add_block] at this | exact this) GW149.out))) _).trans (((cell_far (p := ⟨gb149,_,none⟩) (by first | exact Nat.ne_of_lt (Nat.lt_of_lt_of_le (by have := World.block_lt_of_cell? _ _ hw141_0;first | rwa [add_block] at this | exact this) GW149.out) | (rw [add_block];exact Nat.ne_of_lt (Nat.lt_of_lt_of_le (by have := World.block_lt_of_cell? _ _ hw141_0;first | rwa [add_block] at this | exact this) GW149.out)) | (show (Addr.add _ _).block ≠ _;rw [add_block];exact Nat.ne_of_lt (Nat.lt_of_lt_of_le (by have := World.block_lt_of_cell? _ _ hw141_0;first | rwa [add_block] at this | exact this) GW149.out)) | (dsimp only;exact Nat.ne_of_lt (Nat.lt_of_lt_of_le (by have := World.block_lt_of_cell? _ _ hw141_0;first | rwa [add_block] at this | exact this) GW149.out))) _).trans (hHeld.2.2.2.2.2.2.2.2.2.2.2.1)))))),((cell_far (p := ⟨gb149,_,none⟩) (by first | exact Nat.ne_of_lt (Nat.lt_of_lt_of_le (by have := World.block_lt_of_cell? _ _ hw141_1;first | rwa [add_block] at this | exact this) GW149.out) | (rw [add_block];exact Nat.ne_of_lt (Nat.lt_of_lt_of_le (by have := World.block_lt_of_cell? _ _ hw141_1;first | rwa [add_block] at this | exact this) GW149.out)) | (show (Addr.add _ _).block ≠ _;rw [add_block];exact Nat.ne_of_lt (Nat.lt_of_lt_of_le (by have := World.block_lt_of_cell? _ _ hw141_1;first | rwa [add_block] at this | exact this) GW149.out)) | (dsimp only;exact Nat.ne_of_lt (Nat.lt_of_lt_of_le (by have := World.block_lt_of_cell? _ _ hw141_1;first | rwa [add_block] at this | exact this) GW149.out))) _).trans (((cell_far (p := ⟨gb149,_,none⟩) (by first | exact Nat.ne_of_lt (Nat.lt_of_lt_of_le (by have := World.block_lt_of_cell? _ _ hw141_1;first | rwa [add_block] at this | exact this) GW149.out) | (rw [add_block];exact Nat.ne_of_lt (Nat.lt_of_lt_of_le (by have := World.block_lt_of_cell? _ _ hw141_1;first | rwa [add_block] at this | exact this) GW149.out)) | (show (Addr.add _ _).block ≠ _;rw [add_block];exact Nat.ne_of_lt (Nat.lt_of_lt_of_le (by have := World.block_lt_of_cell? _ _ hw141_1;first | rwa [add_block] at this | exact this) GW149.out)) | (dsimp only;exact Nat.ne_of_lt (Nat.lt_of_lt_of_le (by have := World.block_lt_of_cell? _ _ hw141_1;first | rwa [add_block] at this | exact this) GW149.out))) _).trans (((cell_far (p := ⟨gb149,_,none⟩) (by first | exact Nat.ne_of_lt (Nat.lt_of_lt_of_le (by have := World.block_lt_of_cell? _ _ hw141_1;first | rwa [add_block] at this | exact this) GW149.out) | (rw [add_block];exact Nat.ne_of_lt (Nat.lt_of_lt_of_le (by have := World.block_lt_of_cell? _ _ hw141_1;first | rwa [add_block] at this | exact this) GW149.out)) | (show (Addr.add _ _).block ≠ _;rw [add_block];exact Nat.ne_of_lt (Nat.lt_of_lt_of_le (by have := World.block_lt_of_cell? _ _ hw141_1;first | rwa [add_block] at this | exact this) GW149.out)) | (dsimp only;exact Nat.ne_of_lt (Nat.lt_of_lt_of_le (by have := World.block_lt_of_cell? _ _ hw141_1;first | rwa [add_block] at this | exact this) GW149.out))) _).trans (hHeld.2.2.2.2.2.2.2.2.2.2.2.2.1)))))),((cell_far (p := ⟨gb149,_,none⟩) (by first | exact Nat.ne_of_lt (Nat.lt_of_lt_of_le (by have := World.block_lt_of_cell? _ _ hw141_2;first | rwa [add_block] at this | exact this) GW149.out) | (rw [add_block];exact Nat.ne_of_lt (Nat.lt_of_lt_of_le (by have := World.block_lt_of_cell? _ _ hw141_2;first | rwa [add_block] at this | exact this) GW149.out)) | (show (Addr.add _ _).block ≠ _;rw [add_block];exact Nat.ne_of_lt (Nat.lt_of_lt_of_le (by have := World.block_lt_of_cell? _ _ hw141_2;first | rwa [add_block] at this | exact this) GW149.out)) | (dsimp only;exact Nat.ne_of_lt (Nat.lt_of_lt_of_le (by have := World.block_lt_of_cell? _ _ hw141_2;first | rwa [add_block] at this | exact this) GW149.out))) _).trans (((cell_far (p := ⟨gb149,_,none⟩) (by first | exact Nat.ne_of_lt (Nat.lt_of_lt_of_le (by have := World.block_lt_of_cell? _ _ hw141_2;first | rwa [add_block] at this | exact this) GW149.out) | (rw [add_block];exact Nat.ne_of_lt (Nat.lt_of_lt_of_le (by have := World.block_lt_of_cell? _ _ hw141_2;first | rwa [add_block] at this | exact this) GW149.out)) | (show (Addr.add _ _).block ≠ _;rw [add_block];exact Nat.ne_of_lt (Nat.lt_of_lt_of_le (by have := World.block_lt_of_cell? _ _ hw141_2;first | rwa [add_block] at this | exact this) GW149.out)) | (dsimp only;exact Nat.ne_of_lt (Nat.lt_of_lt_of_le (by have := World.block_lt_of_cell? _ _ hw141_2;first | rwa [add_block] at this | exact this) GW149.out))) _).trans (((cell_far (p := ⟨gb149,_,none⟩) (by first | exact Nat.ne_of_lt (Nat.lt_of_lt_of_le (by have := World.block_lt_of_cell? _ _ hw141_2;first | rwa [add_block] at this | exact this) GW149.out) | (rw [add_block];exact Nat.ne_of_lt (Nat.lt_of_lt_of_le (by have := World.block_lt_of_cell? _ _ hw141_2;first | rwa [add_block] at this | exact this) GW149.out)) | (show (Addr.add _ _).block ≠ _;rw [add_block];exact Nat.ne_of_lt (Nat.lt_of_lt_of_le (by have := World.block_lt_of_cell? _ _ hw141_2;first | rwa [add_block] at this | exact this) GW149.out)) | (dsimp only;exact Nat.ne_of_lt (Nat.lt_of_lt_of_le (by have := World.block_lt_of_cell? _ _ hw141_2;first | rwa [add_block] at this | exact this) GW149.out))) _).trans (hHeld.2.2.2.2.2.2.2.2.2.2.2.2.2.1)))))),((cell_far (p := ⟨gb149,_,none⟩) (by first | exact Nat.ne_of_lt (Nat.lt_of_lt_of_le (by have := World.block_lt_of_cell? _ _ hw141_3;first | rwa [add_block] at this | exact this) GW149.out) | (rw [add_block];exact Nat.ne_of_lt (Nat.lt_of_lt_of_le (by have := World.block_lt_of_cell? _ _ hw141_3;first | rwa [add_block] at this | exact this) GW149.out)) | (show (Addr.add _ _).block ≠ _;rw [add_block];exact Nat.ne_of_lt (Nat.lt_of_lt_of_le (by have := World.block_lt_of_cell? _ _ hw141_3;first | rwa [add_block] at this | exact this) GW149.out)) | (dsimp only;exact Nat.ne_of_lt (Nat.lt_of_lt_of_le (by have := World.block_lt_of_cell? _ _ hw141_3;first | rwa [add_block] at this | exact this) GW149.out))) _).trans (((cell_far (p := ⟨gb149,_,none⟩) (by first | exact Nat.ne_of_lt (Nat.lt_of_lt_of_le (by have := World.block_lt_of_cell? _ _ hw141_3;first | rwa [add_block] at this | exact this) GW149.out) | (rw [add_block];exact Nat.ne_of_lt (Nat.lt_of_lt_of_le (by have := World.block_lt_of_cell? _ _ hw141_3;first | rwa [add_block] at this | exact this) GW149.out)) | (show (Addr.add _ _).block ≠ _;rw [add_block];exact Nat.ne_of_lt (Nat.lt_of_lt_of_le (by have := World.block_lt_of_cell? _ _ hw141_3;first | rwa [add_block] at this | exact this) GW149.out)) | (dsimp only;exact Nat.ne_of_lt (Nat.lt_of_lt_of_le (by have := World.block_lt_of_cell? _ _ hw141_3;first | rwa [add_block] at this | exact this) GW149.out))) _).trans (((cell_far (p := ⟨gb149,_,none⟩) (by first | exact Nat.ne_of_lt (Nat.lt_of_lt_of_le (by have := World.block_lt_of_cell? _ _ hw141_3;first | rwa [add_block] at this | exact this) GW149.out) | (rw [add_block];exact Nat.ne_of_lt (Nat.lt_of_lt_of_le (by have := World.block_lt_of_cell? _ _ hw141_3;first | rwa [add_block] at this | exact this) GW149.out)) | (show (Addr.add _ _).block ≠ _;rw [add_block];exact Nat.ne_of_lt (Nat.lt_of_lt_of_le (by have := World.block_lt_of_cell? _ _ hw141_3;first | rwa [add_block] at this | exact this) GW149.out)) | (dsimp only;exact Nat.ne_of_lt (Nat.lt_of_lt_of_le (by have := World.block_lt_of_cell? _ _ hw141_3;first | rwa [add_block] at this | exact this) GW149.out))) _).trans (hHeld.2.2.2.2.2.2.2.2.2.2.2.2.2.2.1)))))),((cell_far (p := ⟨gb149,_,none⟩) (by first | exact Nat.ne_of_lt (Nat.lt_of_lt_of_le (by have := World.block_lt_of_cell? _ _ hw142_0;first | rwa [add_block] at this | exact this) GW149.out) | (rw [add_block];exact Nat.ne_of_lt (Nat.lt_of_lt_of_le (by have := World.block_lt_of_cell? _ _ hw142_0;first | rwa [add_block] at this | exact this) GW149.out)) | (show (Addr.add _ _).block ≠ _;rw [add_block];exact Nat.ne_of_lt (Nat.lt_of_lt_of_le (by have := World.block_lt_of_cell? _ _ hw142_0;first | rwa [add_block] at this | exact this) GW149.out)) | (dsimp only;exact Nat.ne_of_lt (Nat.lt_of_lt_of_le (by have := World.block_lt_of_cell? _ _ hw142_0;first | rwa [add_block] at this | exact this) GW149.out))) _).trans (((cell_far (p := ⟨gb149,_,none⟩) (by first | exact Nat.ne_of_lt (Nat.lt_of_lt_of_le (by have := World.block_lt_of_cell? _ _ hw142_0;first | rwa [add_block] at this | exact this) GW149.out) | (rw [add_block];exact Nat.ne_of_lt (Nat.lt_of_lt_of_le (by have := World.block_lt_of_cell? _ _ hw142_0;first | rwa [add_block] at this | exact this) GW149.out)) | (show (Addr.add _ _).block ≠ _;rw [add_block];exact Nat.ne_of_lt (Nat.lt_of_lt_of_le (by have := World.block_lt_of_cell? _ _ hw142_0;first | rwa [add_block] at this | exact this) GW149.out)) | (dsimp only;exact Nat.ne_of_lt (Nat.lt_of_lt_of_le (by have := World.block_lt_of_cell? _ _ hw142_0;first | rwa [add_block] at this | exact this) GW149.out))) _).trans (((cell_far (p := ⟨gb149,_,none⟩) (by first | exact Nat.ne_of_lt (Nat.lt_of_lt_of_le (by have := World.block_lt_of_cell? _ _ hw142_0;first | rwa [add_block] at this | exact this) GW149.out) | (rw [add_block];exact Nat.ne_of_lt (Nat.lt_of_lt_of_le (by have := World.block_lt_of_cell? _ _ hw142_0;first | rwa [add_block] at this | exact this) GW149.out)) | (show (Addr.add _ _).block ≠ _;rw [add_block];exact Nat.ne_of_lt (Nat.lt_of_lt_of_le (by have := World.block_lt_of_cell? _ _ hw142_0;first | rwa [add_block] at this | exact this) GW149.out)) | (dsimp only;exact Nat.ne_of_lt (Nat.lt_of_lt_of_le (by have := World.block_lt_of_cell? _ _ hw142_0;first | rwa [add_block] at this | exact this) GW149.out))) _).trans (hHeld.2.2.2.2.2.2.2.2.2.2.2.2.2.2.2.1)))))),((cell_far (p := ⟨gb149,_,none⟩) (by first | exact Nat.ne_of_lt (Nat.lt_of_lt_of_le (by have := World.block_lt_of_cell? _ _ hw142_1;first | rwa [add_block] at this | exact this) GW149.out) | (rw [add_block];exact Nat.ne_of_lt (Nat.lt_of_lt_of_le (by have := World.block_lt_of_cell? _ _ hw142_1;first | rwa [add_block] at this | exact this) GW149.out)) | (show (Addr.add _ _).block ≠ _;rw [add_block];exact Nat.ne_of_lt (Nat.lt_of_lt_of_le (by have := World.block_lt_of_cell? _ _ hw142_1;first | rwa [add_block] at this | exact this) GW149.out)) | (dsimp only;exact Nat.ne_of_lt (Nat.lt_of_lt_of_le (by have := World.block_lt_of_cell? _ _ hw142_1;first | rwa [add_block] at this | exact this) GW149.out))) _).trans (((cell_far (p := ⟨gb149,_,none⟩) (by first | exact Nat.ne_of_lt (Nat.lt_of_lt_of_le (by have := World.block_lt_of_cell? _ _ hw142_1;first | rwa [add_block] at this | exact this) GW149.out) | (rw [add_block];exact Nat.ne_of_lt (Nat.lt_of_lt_of_le (by have := World.block_lt_of_cell? _ _ hw142_1;first | rwa [add_block] at this | exact this) GW149.out)) | (show (Addr.add _ _).block ≠ _;rw [add_block];exact Nat.ne_of_lt (Nat.lt_of_lt_of_le (by have := World.block_lt_of_cell? _ _ hw142_1;first | rwa [add_block] at this | exact this) GW149.out)) | (dsimp only;exact Nat.ne_of_lt (Nat.lt_of_lt_of_le (by have := World.block_lt_of_cell? _ _ hw142_1;first | rwa [add_block] at this | exact this) GW149.out))) _).trans (((cell_far (p := ⟨gb149,_,none⟩) (by first | exact Nat.ne_of_lt (Nat.lt_of_lt_of_le (by have := World.block_lt_of_cell? _ _ hw142_1;first | rwa [add_block] at this | exact this) GW149.out) | (rw [add_block];exact Nat.ne_of_lt (Nat.lt_of_lt_of_le (by have := World.block_lt_of_cell? _ _ hw142_1;first | rwa [add_block] at this | exact this) GW149.out)) | (show (Addr.add _ _).block ≠ _;rw [add_block];exact Nat.ne_of_lt (Nat.lt_of_lt_of_le (by have := World.block_lt_of_cell? _ _ hw142_1;first | rwa [add_block] at this | exact this) GW149.out)) | (dsimp only;exact Nat.ne_of_lt (Nat.lt_of_lt_of_le (by have := World.block_lt_of_cell? _ _ hw142_1;first | rwa [add_block] at this | exact this) GW149.out))) _).trans (hHeld.2.2.2.2.2.2.2.2.2.2.2.2.2.2.2.2.1)))))),((cell_far (p := ⟨gb149,_,none⟩) (by first | exact Nat.ne_of_lt (Nat.lt_of_lt_of_le (by have := World.block_lt_of_cell? _ _ hw142_2;first | rwa [add_block] at this | exact this) GW149.out) | (rw [add_block];exact Nat.ne_of_lt (Nat.lt_of_lt_of_le (by have := World.block_lt_of_cell? _ _ hw142_2;first | rwa [add_block] at this | exact this) GW149.out)) | (show (Addr.add _ _).block ≠ _;rw [add_block];exact Nat.ne_of_lt (Nat.lt_of_lt_of_le (by have := World.block_lt_of_cell? _ _ hw142_2;first | rwa [add_block] at this | exact this) GW149.out)) | (dsimp only;exact Nat.ne_of_lt (Nat.lt_of_lt_of_le (by have := World.block_lt_of_cell? _ _ hw142_2;first | rwa [add_block] at this | exact this) GW149.out))) _).trans (((cell_far (p := ⟨gb149,_,none⟩) (by first | exact Nat.ne_of_lt (Nat.lt_of_lt_of_le (by have := World.block_lt_of_cell? _ _ hw142_2;first | rwa [add_block] at this | exact this) GW149.out) | (rw [add_block];exact Nat.ne_of_lt (Nat.lt_of_lt_of_le (by have := World.block_lt_of_cell? _ _ hw142_2;first | rwa [add_block] at this | exact this) GW149.out)) | (show (Addr.add _ _).block ≠ _;rw [add_block];exact Nat.ne_of_lt (Nat.lt_of_lt_of_le (by have := World.block_lt_of_cell? _ _ hw142_2;first | rwa [add_block] at this | exact this) GW149.out)) | (dsimp only;exact Nat.ne_of_lt (Nat.lt_of_lt_of_le (by have := World.block_lt_of_cell? _ _ hw142_2;first | rwa [add_block] at this | exact this) GW149.out))) _).trans (((cell_far (p := ⟨gb149,_,none⟩) (by first | exact Nat.ne_of_lt (Nat.lt_of_lt_of_le (by have := World.block_lt_of_cell? _ _ hw142_2;first | rwa [add_block] at this | exact this) GW149.out) | (rw [add_block];exact Nat.ne_of_lt (Nat.lt_of_lt_of_le (by have := World.block_lt_of_cell? _ _ hw142_2;first | rwa [add_block] at this | exact this) GW149.out)) | (show (Addr.add _ _).block ≠ _;rw [add_block];exact Nat.ne_of_lt (Nat.lt_of_lt_of_le (by have := World.block_lt_of_cell? _ _ hw142_2;first | rwa [add_block] at this | exact this) GW149.out)) | (dsimp only;exact Nat.ne_of_lt (Nat.lt_of_lt_of_le (by have := World.block_lt_of_cell? _ _ hw142_2;first | rwa [add_block] at this | exact this) GW149.out))) _).trans (hHeld.2.2.2.2.2.2.2.2.2.2.2.2.2.2.2.2.2.1)))))),((cell_far (p := ⟨gb149,_,none⟩) (by first | exact Nat.ne_of_lt (Nat.lt_of_lt_of_le (by have := World.block_lt_of_cell? _ _ hw142_3;first | rwa [add_block] at this | exact this) GW149.out) | (rw [add_block];exact Nat.ne_of_lt (Nat.lt_of_lt_of_le (by have := World.block_lt_of_cell? _ _ hw142_3;first | rwa [add_block] at this | exact this) GW149.out)) | (show (Addr.add _ _).block ≠ _;rw [add_block];exact Nat.ne_of_lt (Nat.lt_of_lt_of_le (by have := World.block_lt_of_cell? _ _ hw142_3;first | rwa [add_block] at this | exact this) GW149.out)) | (dsimp only;exact Nat.ne_of_lt (Nat.lt_of_lt_of_le (by have := World.block_lt_of_cell? _ _ hw142_3;first | rwa [add_block] at this | exact this) GW149.out))) _).trans (((cell_far (p := ⟨gb149,_,none⟩) (by first | exact Nat.ne_of_lt (Nat.lt_of_lt_of_le (by have := World.block_lt_of_cell? _ _ hw142_3;first | rwa [add_block] at this | exact this) GW149.out) | (rw [add_block];exact Nat.ne_of_lt (Nat.lt_of_lt_of_le (by have := World.block_lt_of_cell? _ _ hw142_3;first | rwa [add_block] at this | exact this) GW149.out)) | (show (Addr.add _ _).block ≠ _;rw [add_block];exact Nat.ne_of_lt (Nat.lt_of_lt_of_le (by have := World.block_lt_of_cell? _ _ hw142_3;first | rwa [add_block] at this | exact this) GW149.out)) | (dsimp only;exact Nat.ne_of_lt (Nat.lt_of_lt_of_le (by have := World.block_lt_of_cell? _ _ hw142_3;first | rwa [add_block] at this | exact this) GW149.out))) _).trans (((cell_far (p := ⟨gb149,_,none⟩) (by first | exact Nat.ne_of_lt (Nat.lt_of_lt_of_le (by have := World.block_lt_of_cell? _ _ hw142_3;first | rwa [add_block] at this | exact this) GW149.out) | (rw [add_block];exact Nat.ne_of_lt (Nat.lt_of_lt_of_le (by have := World.block_lt_of_cell? _ _ hw142_3;first | rwa [add_block] at this | exact this) GW149.out)) | (show (Addr.add _ _).block ≠ _;rw [add_block];exact Nat.ne_of_lt (Nat.lt_of_lt_of_le (by have := World.block_lt_of_cell? _ _ hw142_3;first | rwa [add_block] at this | exact this) GW149.out)) | (dsimp only;exact Nat.ne_of_lt (Nat.lt_of_lt_of_le (by have := World.block_lt_of_cell? _ _ hw142_3;first | rwa [add_block] at this | exact this) GW149.out))) _).trans (hHeld.2.2.2.2.2.2.2.2.2.2.2.2.2.2.2.2.2.2))))))⟩ (fun hHeld => ?_)
        clear hK K
        refine pure_ (i := 27) (N := some 11) (v := ?_) (a' := ?_) #[true,true,true,true,true,true,true,true,true,true,true,true,true,true,true,true,true,true,true,true,true,true,true,true,true,true,true,true] rfl rfl (any_of HT_.out (by kernel_rfl)) (fun _ _ _ h => h) (Or.inl ⟨by rfl,?_⟩) ?_ ?_
        rotate_left;(intro w';go_simp;with_reducible rfl);rotate_left;(simp only [Act.put,List.setIfInBounds_toArray,List.set_cons_zero,List.set_cons_succ,i64_w,i32_w];rfl)
        refine done_ (done_of HT_.out (by kernel_rfl)) ?_
        have hnb32 := NB149_135.out
        have hnc32 := NB135_149.out
        have hcz33_0 : w27.cell? ⟨gb149,0,none⟩ = some (.int .u64 0) := (blk_cell BK149.out 0).trans rfl
        have hcz33_1 : w27.cell? ⟨gb149,1,none⟩ = some (.int .u64 0) := (blk_cell BK149.out 1).trans rfl
        have hcz33_2 : w27.cell? ⟨gb149,2,none⟩ = some (.slice none 0 0) := (blk_cell BK149.out 2).trans rfl
        have hfz33_0 := blk_frozen BK149.out 0
        have hfz33_1 := blk_frozen BK149.out 1
        have hfz33_2 := blk_frozen BK149.out 2
        have hcz34_0 : w27.cell? ⟨gb135,0,none⟩ = some (.int .u64 x136000_2) := (blk_cell BK135.out 0).trans rfl
        have hcz34_1 : w27.cell? ⟨gb135,1,none⟩ = some (.int .u64 x136001_2) := (blk_cell BK135.out 1).trans rfl
        have hcz34_2 : w27.cell? ⟨gb135,2,none⟩ = some (.slice Ao23 x136002_2.length co23) := (blk_cell BK135.out 2).trans rfl
        have hfz34_0 := blk_frozen BK135.out 0
        have hfz34_1 := blk_frozen BK135.out 1
        have hfz34_2 := blk_frozen BK135.out 2
        try go_wp2
        go_loopg [12] k2 (fun kq v12 w' => ∃ (x12_3 : Int),v12 = .int .i64 x12_3 ∧ Aside0 (dominolaw10_IdealOwn.l1 kq l1 a2 x8_2 x9_2 t148 x12_3 t143 t144 t145 = some r) ∧ Aside0 (kq ≤ k2) ∧ Aside0 (Kd.R Kd.string 9 w' w.heap.size (fun _ => True) u8 x8_2) ∧ Aside0 (Kd.R k73 73 w' w.heap.size (fun _ => True) (.slice Ao30 t145.length co30) t145) ∧ Aside0 (Kd.R k73 73 w' w.heap.size (fun _ => True) (.slice Ao30 t145.length co30) t145) ∧ Aside0 (w'.heap[gb135]? = some (.cells #[.int .u64 t143,.int .u64 t144,(.slice Ao30 t145.length co30)] 31 (0,0))) ∧ Aside0 (w'.heap[gb149]? = some (.cells #[.int .u64 t143,.int .u64 t144,(.slice Ao30 t145.length co30)] 31 (0,0))) ∧ Aside0 (Below w.heap.size w w'))
        case atStart => exact ⟨(0),(by first | rfl | (simp;done) | (simp [*];done)),H',⟨Nat.le_refl _⟩,⟨by (with_reducible repeat (first | apply Kd.R_alloc | apply Kd.R_drewN | apply Kd.R_drew));exact Kd.R_mono (Kd.R_far (p := ⟨gb135,2,none⟩) (Kd.R_far (p := ⟨gb135,1,none⟩) (Kd.R_far (p := ⟨gb135,0,none⟩) (Kd.R_far (p := ⟨gb149,2,none⟩) (Kd.R_far (p := ⟨gb149,1,none⟩) (Kd.R_far (p := ⟨gb149,0,none⟩) (Kd.R_types (Kd.R_types HO_8.out BK149.out (by decide)) BK135.out (by decide)) (fun _ hk => hk.1.2) (.int .u64 t143)) (fun _ hk => hk.1.2) (.int .u64 t144)) (fun _ hk => hk.1.2) (.slice Ao30 t145.length co30)) (fun _ hk => hk.2) (.int .u64 t143)) (fun _ hk => hk.2) (.int .u64 t144)) (fun _ hk => hk.2) (.slice Ao30 t145.length co30)) (fun _ hk => trivial)⟩,⟨by (with_reducible repeat (first | apply Kd.R_alloc | apply Kd.R_drewN | apply Kd.R_drew));exact Kd.R_mono (Kd.R_far (p := ⟨gb135,2,none⟩) (Kd.R_far (p := ⟨gb135,1,none⟩) (Kd.R_far (p := ⟨gb135,0,none⟩) (Kd.R_far (p := ⟨gb149,2,none⟩) (Kd.R_far (p := ⟨gb149,1,none⟩) (Kd.R_far (p := ⟨gb149,0,none⟩) (Kd.R_types (Kd.R_types HO147.out BK149.out (by decide)) BK135.out (by decide)) (fun _ hk => hk.1.2) (.int .u64 t143)) (fun _ hk => hk.1.2) (.int .u64 t144)) (fun _ hk => hk.1.2) (.slice Ao30 t145.length co30)) (fun _ hk => hk.2) (.int .u64 t143)) (fun _ hk => hk.2) (.int .u64 t144)) (fun _ hk => hk.2) (.slice Ao30 t145.length co30)) (fun _ hk => trivial)⟩,⟨by (with_reducible repeat (first | apply Kd.R_alloc | apply Kd.R_drewN | apply Kd.R_drew));exact Kd.R_mono (Kd.R_far (p := ⟨gb135,2,none⟩) (Kd.R_far (p := ⟨gb135,1,none⟩) (Kd.R_far (p := ⟨gb135,0,none⟩) (Kd.R_far (p := ⟨gb149,2,none⟩) (Kd.R_far (p := ⟨gb149,1,none⟩) (Kd.R_far (p := ⟨gb149,0,none⟩) (Kd.R_types (Kd.R_types HO147.out BK149.out (by decide)) BK135.out (by decide)) (fun _ hk => hk.1.2) (.int .u64 t143)) (fun _ hk => hk.1.2) (.int .u64 t144)) (fun _ hk => hk.1.2) (.slice Ao30 t145.length co30)) (fun _ hk => hk.2) (.int .u64 t143)) (fun _ hk => hk.2) (.int .u64 t144)) (fun _ hk => hk.2) (.slice Ao30 t145.length co30)) (fun _ hk => trivial)⟩,⟨by (with_reducible repeat (first | refine blk_drewN ?_ _ | refine blk_drew ?_ | refine blk_alloc ?_ _));refine blk_put (cs := #[.int .u64 t143,.int .u64 t144,.slice Ao23 x136002_2.length co23]) ?_ 2 _ rfl;(with_reducible repeat (first | refine blk_drewN ?_ _ | refine blk_drew ?_ | refine blk_alloc ?_ _));refine blk_put (cs := #[.int .u64 t143,.int .u64 x136001_2,.slice Ao23 x136002_2.length co23]) ?_ 1 _ rfl;(with_reducible repeat (first | refine blk_drewN ?_ _ | refine blk_drew ?_ | refine blk_alloc ?_ _));refine blk_put (cs := #[.int .u64 x136000_2,.int .u64 x136001_2,.slice Ao23 x136002_2.length co23]) ?_ 0 _ rfl;(with_reducible repeat (first | refine blk_drewN ?_ _ | refine blk_drew ?_ | refine blk_alloc ?_ _));refine blk_far ?_ NB135_149.out _;(with_reducible repeat (first | refine blk_drewN ?_ _ | refine blk_drew ?_ | refine blk_alloc ?_ _));refine blk_far ?_ NB135_149.out _;(with_reducible repeat (first | refine blk_drewN ?_ _ | refine blk_drew ?_ | refine blk_alloc ?_ _));refine blk_far ?_ NB135_149.out _;(with_reducible repeat (first | refine blk_drewN ?_ _ | refine blk_drew ?_ | refine blk_alloc ?_ _));exact BK135.out⟩,⟨by (with_reducible repeat (first | refine blk_drewN ?_ _ | refine blk_drew ?_ | refine blk_alloc ?_ _));refine blk_far ?_ NB149_135.out _;(with_reducible repeat (first | refine blk_drewN ?_ _ | refine blk_drew ?_ | refine blk_alloc ?_ _));refine blk_far ?_ NB149_135.out _;(with_reducible repeat (first | refine blk_drewN ?_ _ | refine blk_drew ?_ | refine blk_alloc ?_ _));refine blk_far ?_ NB149_135.out _;(with_reducible repeat (first | refine blk_drewN ?_ _ | refine blk_drew ?_ | refine blk_alloc ?_ _));refine blk_put (cs := #[.int .u64 t143,.int .u64 t144,.slice none 0 0]) ?_ 2 _ rfl;(with_reducible repeat (first | refine blk_drewN ?_ _ | refine blk_drew ?_ | refine blk_alloc ?_ _));refine blk_put (cs := #[.int .u64 t143,.int .u64 0,.slice none 0 0]) ?_ 1 _ rfl;(with_reducible repeat (first | refine blk_drewN ?_ _ | refine blk_drew ?_ | refine blk_alloc ?_ _));refine blk_put (cs := #[.int .u64 0,.int .u64 0,.slice none 0 0]) ?_ 0 _ rfl;(with_reducible repeat (first | refine blk_drewN ?_ _ | refine blk_drew ?_ | refine blk_alloc ?_ _));exact BK149.out⟩,⟨by repeat (first | (with_reducible first | exact HB.out | apply below_alloc | apply pw_below_drewN | apply below_drew1 | refine below_set ?_ GE135.out | refine below_set ?_ GE149.out) | exact HB.out)⟩⟩
        case round =>
         clear H'
         try clear c1;try clear p1
         try clear q1;try clear hx1
         try clear c2;try clear p2
         try clear c3;try clear c6
         try clear c7;try clear c7b0
         try clear c7b1;try clear c9
         try clear c10;try clear p13
         try clear q13;try clear hx13
         try clear c14;try clear p14
         try clear q14;try clear hx14
         try clear c15;try clear c17
         try clear c20;try clear c20b0
         try clear c21;try clear c21b0
         try clear c32;try clear hcz16_0
         try clear hcz16_1;try clear hcz16_2
         try clear hcz33_0;try clear hcz33_1
         try clear hcz33_2;try clear hcz34_0
         try clear hcz34_1;try clear hcz34_2
         try clear hfz16_0;try clear hfz16_1
         try clear hfz16_2;try clear hfz33_0
         try clear hfz33_1;try clear hfz33_2
         try clear hfz34_0;try clear hfz34_1
         try clear hfz34_2;try clear hx139_0
         try clear hx139_1;try clear hx139_2
         try clear hx139_3;try clear hx140_0
         try clear hx140_1;try clear hx140_2
         try clear hx140_3;try clear hx141_0
         try clear hx141_1;try clear hx141_2
         try clear hx141_3;try clear hx142_0
         try clear hx142_1;try clear hx142_2
         try clear hx142_3;try clear p139
         try clear p140;try clear p141
         try clear p142;try clear p2
         try clear q139;try clear q140
         try clear q141;try clear q142
         obtain ⟨x12_3,rfl,HA,HK3,HO_8,HO_136002,HO_150002,BK135,BK149,HB⟩ := hrel
         cases gk with
         | zero => exact absurd HA.out (by simp [dominolaw10_IdealOwn.l1])
         | succ k3 =>
          have H := HA.out
          clear HA
          simp only [dominolaw10_IdealOwn.l1] at H
          by_cases c35 : x12_3 < (x8_2.length : Int)
          ·rw [if_pos c35] at H
           have c35b0 : decide (x12_3 < (x8_2.length : Int)) = true := decide_eq_true c35
           clear c35
           by_cases c36 : 0 ≤ x12_3
           ·rw [if_pos c36] at H
            have c36b0 : decide (0 ≤ x12_3) = true := decide_eq_true c36
            clear c36
            by_cases c37 : (rdOf ByteArray.empty x8_2 x12_3).toList = t148.toList
            ·rw [if_pos c37] at H
             have c37b0 : ((rdOf ByteArray.empty x8_2 x12_3).toList == t148.toList) = true := beq_iff_eq.mpr c37
             have c37b1 : ((rdOf ByteArray.empty x8_2 x12_3).toList != t148.toList) = false := bne_eq_false_iff_eq.mpr c37
             clear c37
             obtain rfl := Option.some.inj H
             obtain ⟨Ao38,co38,eo38⟩ := Kd.R_slice HO_8.out
             subst eo38
             have p150 : 0 ≤ (x12_3 : Int) := of_decide_eq_true (by first | (with_reducible assumption) | assumption)
             have q150 : x12_3 < (x8_2.length : Int) := of_decide_eq_true (by first | (with_reducible assumption) | assumption)
             obtain ⟨ad150,e150,hx150_0⟩ := Kd.at_string (Kd.R_reads' HO_8.out).2.2 x12_3 p150 q150
             cases e150
             replace p150 := eq_true p150
             replace q150 := eq_true q150
             go_wp2
             go_ret
             exact ⟨by first | rfl | (simp [errW_none,errW_some] <;> rfl) | (simp [*,errW_none,errW_some] <;> rfl),by repeat (first | (with_reducible first | exact HB.out | apply below_alloc | apply pw_below_drewN | apply below_drew1 | refine below_set ?_ GE135.out | refine below_set ?_ GE149.out) | exact HB.out)⟩
            ·rw [if_neg c37] at H
             have c37b0 : ((rdOf ByteArray.empty x8_2 x12_3).toList == t148.toList) = false := beq_eq_false_iff_ne.mpr c37
             have c37b1 : ((rdOf ByteArray.empty x8_2 x12_3).toList != t148.toList) = true := bne_iff_ne.mpr c37
             have H' := Aside0.mk H
             clear H
             obtain ⟨Ao39,co39,eo39⟩ := Kd.R_slice HO_8.out
             subst eo39
             have p150 : 0 ≤ (x12_3 : Int) := of_decide_eq_true (by first | (with_reducible assumption) | assumption)
             have q150 : x12_3 < (x8_2.length : Int) := of_decide_eq_true (by first | (with_reducible assumption) | assumption)
             obtain ⟨ad150,e150,hx150_0⟩ := Kd.at_string (Kd.R_reads' HO_8.out).2.2 x12_3 p150 q150
             cases e150
             replace p150 := eq_true p150
             replace q150 := eq_true q150
             go_wp2
             go_roundg k3
             case measure => have := HJ3.out;have := HK2.out;have := HK3.out;omega
             case rel => exact ⟨(wrap64 (x12_3 + 1)),(by first | rfl | (simp;done) | (simp [*];done)),H',⟨by have := HJ3.out;have := HK2.out;have := HK3.out;omega⟩,⟨by (with_reducible repeat (first | apply Kd.R_alloc | apply Kd.R_drewN | apply Kd.R_drew));exact HO_8.out⟩,⟨by (with_reducible repeat (first | apply Kd.R_alloc | apply Kd.R_drewN | apply Kd.R_drew));exact HO_136002.out⟩,⟨by (with_reducible repeat (first | apply Kd.R_alloc | apply Kd.R_drewN | apply Kd.R_drew));exact HO_150002.out⟩,⟨by (with_reducible repeat (first | refine blk_drewN ?_ _ | refine blk_drew ?_ | refine blk_alloc ?_ _));exact BK135.out⟩,⟨by (with_reducible repeat (first | refine blk_drewN ?_ _ | refine blk_drew ?_ | refine blk_alloc ?_ _));exact BK149.out⟩,⟨by repeat (first | (with_reducible first | exact HB.out | apply below_alloc | apply pw_below_drewN | apply below_drew1 | refine below_set ?_ GE135.out | refine below_set ?_ GE149.out) | exact HB.out)⟩⟩
           ·rw [if_neg c36] at H
            exact absurd H (by simp)
          ·rw [if_neg c35] at H
           have c35b0 : decide (x12_3 < (x8_2.length : Int)) = false := decide_eq_false c35
           clear c35
           by_cases c40 : x8_2.length < 8796093022208
           ·rw [if_pos c40] at H
            have LMc40 := Aside0.mk c40
            clear c40
            obtain ⟨y151,hy151⟩ : ∃ y_ : List ByteArray,y_ = (x8_2 ++ [t148]) := ⟨_,rfl⟩
            replace H : (if 0 ≤ x9_2 then (if x9_2 < (l1.length : Int) then ((ideal_Open.f t143 t144 t145 ((rd_T40 l1 x9_2).f0) t148).bind fun bt155 => ((ideal_Open.f t143 t144 t145 (wrap64 (((rd_T40 l1 x9_2).f0) + 1)) t148).bind fun bt159 => (if bt155.2.2 = true then (some false) else (if bt159.2.2 = true then (if bt159.1 = ((rd_T40 l1 x9_2).f1) then (if bt159.2.1.toList = ((rd_T40 l1 x9_2).f3).toList then (dominolaw10_IdealOwn.l0 k3 l1 a2 y151 (wrap64 (x9_2 + 1)) t143 t144 t145) else (some false)) else (some false)) else (some false))))) else (none)) else (none)) = some r := by first | (rw [hy151];with_reducible exact H) | (have H2_ := (Option.bind_some _ _).symm.trans H;rw [hy151];with_reducible exact H2_) | (have H2_ := (Option.bind_some _ _).symm.trans H;with_reducible exact H2_) | with_reducible exact H | (rw [hy151];exact H) | exact H
            have Ny151 := Aside0.mk hy151
            clear hy151
            by_cases c41 : 0 ≤ x9_2
            ·rw [if_pos c41] at H
             have c41b0 : decide (0 ≤ x9_2) = true := decide_eq_true c41
             clear c41
             by_cases c42 : x9_2 < (l1.length : Int)
             ·rw [if_pos c42] at H
              have c42b0 : decide (x9_2 < (l1.length : Int)) = true := decide_eq_true c42
              clear c42
              replace H := Option.bind_eq_some_iff.mp H
              obtain ⟨⟨t155,t156,t157⟩,A430,H⟩ := H
              replace H : ((ideal_Open.f t143 t144 t145 (wrap64 (((rd_T40 l1 x9_2).f0) + 1)) t148).bind fun bt159 => (if t157 = true then (some false) else (if bt159.2.2 = true then (if bt159.1 = ((rd_T40 l1 x9_2).f1) then (if bt159.2.1.toList = ((rd_T40 l1 x9_2).f3).toList then (dominolaw10_IdealOwn.l0 k3 l1 a2 y151 (wrap64 (x9_2 + 1)) t143 t144 t145) else (some false)) else (some false)) else (some false)))) = some r := H
              have A43 := Aside0.mk A430
              clear A430
              replace H := Option.bind_eq_some_iff.mp H
              obtain ⟨⟨t159,t160,t161⟩,A440,H⟩ := H
              replace H : (if t157 = true then (some false) else (if t161 = true then (if t159 = ((rd_T40 l1 x9_2).f1) then (if t160.toList = ((rd_T40 l1 x9_2).f3).toList then (dominolaw10_IdealOwn.l0 k3 l1 a2 y151 (wrap64 (x9_2 + 1)) t143 t144 t145) else (some false)) else (some false)) else (some false))) = some r := H
              have A44 := Aside0.mk A440
              clear A440
              by_cases c45 : t157 = true
              ·subst c45
               have H1 : (some false) = some r := by rw [if_pos rfl] at H;exact H
               clear H
               have H := H1
               clear H1
               obtain rfl := Option.some.inj H
               obtain ⟨Ao46,co46,eo46⟩ := Kd.R_slice HO_8.out
               subst eo46
               try go_wp2_with (first | ((with_reducible refine gate_builtin (b := .append) (xs := #[.tmp 83,.tmp 85]) rfl ?_);(try (refine gate_guard (by rfl) ?_;dsimp only));at_builtin;refine Kd.R_append Kd.string (w0 := w) w.heap.size rfl (.tmp 83) (.tmp 85) 52 9 (.string ⟨#[]⟩) 16 rfl Try.underlying52 info9 rfl (by decide) (by omega) (.slice Ao46 x8_2.length co46) x8_2 t148 [.string t148] (fun _ => True) (fun _ => False) rfl rfl ?aP (fun _ hk => hk.elim) ?aF ?aO ?aB ?aS ?aL ?_;(case aP => exact rfl);(case aB => exact (by repeat (first | (with_reducible first | exact HB.out | apply below_alloc | apply pw_below_drewN | apply below_drew1 | refine below_set ?_ GE135.out | refine below_set ?_ GE149.out) | exact HB.out)));(case aF => exact (fun _ _ => trivial));(case aO => exact (by (with_reducible repeat (first | apply Kd.R_alloc | apply Kd.R_drewN | apply Kd.R_drew));exact HO_8.out));(case aS => exact (below_size (by repeat (first | (with_reducible first | exact HB.out | apply below_alloc | apply pw_below_drewN | apply below_drew1 | refine below_set ?_ GE135.out | refine below_set ?_ GE149.out) | exact HB.out))));(case aL => have := LMc40.out;omega);intro v152 w47 ho hb hg hat;rw [← Ny151.out] at ho;have n0_ := Aside0.mk (Kd.R_over' (by (with_reducible repeat (first | apply Kd.R_alloc | apply Kd.R_drewN | apply Kd.R_drew));exact HO_136002.out) (Kd.R_typed (by (with_reducible repeat (first | apply Kd.R_alloc | apply Kd.R_drewN | apply Kd.R_drew));exact HO_8.out)) (by decide) hg);have n1_ := Aside0.mk (Kd.R_over' (by (with_reducible repeat (first | apply Kd.R_alloc | apply Kd.R_drewN | apply Kd.R_drew));exact HO_150002.out) (Kd.R_typed (by (with_reducible repeat (first | apply Kd.R_alloc | apply Kd.R_drewN | apply Kd.R_drew));exact HO_8.out)) (by decide) hg);have n2_ := Aside0.mk (blk_grown (g := gb135) (o := .cells #[.int .u64 t143,.int .u64 t144,.slice Ao30 t145.length co30] 31 (0,0)) (by (with_reducible repeat (first | refine blk_drewN ?_ _ | refine blk_drew ?_ | refine blk_alloc ?_ _));exact BK135.out) hg (Kd.R_ne HO_8.out BK135.out (by decide)));have n3_ := Aside0.mk (blk_grown (g := gb149) (o := .cells #[.int .u64 t143,.int .u64 t144,.slice Ao30 t145.length co30] 31 (0,0)) (by (with_reducible repeat (first | refine blk_drewN ?_ _ | refine blk_drew ?_ | refine blk_alloc ?_ _));exact BK149.out) hg (Kd.R_ne HO_8.out BK149.out (by decide)));have n4_ := Aside0.mk (hb);have n5_ := Aside0.mk (ho);clear HO_136002;clear HO_150002;clear BK135;clear BK149;clear HB;clear HO_8;have HO_136002 := n0_;have HO_150002 := n1_;have BK135 := n2_;have BK149 := n3_;have HB := n4_;have HO153 := n5_;clear n0_ n1_ n2_ n3_ n4_ n5_;clear ho hb hg hat))
               have n0_ := Aside0.mk (Kd.R_drew HO_136002.out)
               have n1_ := Aside0.mk (Kd.R_drew HO_150002.out)
               have n2_ := Aside0.mk (Kd.R_drew HO153.out)
               have n3_ := Aside0.mk (blk_drew BK135.out)
               have n4_ := Aside0.mk (blk_drew BK149.out)
               have n5_ := Aside0.mk (below_drew1 HB.out)
               clear HO_136002
               clear HO_150002
               clear HO153
               clear BK135
               clear BK149
               clear HB
               have HO_136002 := n0_
               have HO_150002 := n1_
               have HO153 := n2_
               have BK135 := n3_
               have BK149 := n4_
               have HB := n5_
               clear n0_ n1_ n2_ n3_ n4_ n5_
               have p154 : 0 ≤ (x9_2 : Int) := of_decide_eq_true (by first | (with_reducible assumption) | assumption)
               have q154 : x9_2 < (l1.length : Int) := of_decide_eq_true (by first | (with_reducible assumption) | assumption)
               obtain ⟨ad154,e154,hx154_0,hx154_1,hx154_2,hx154_3⟩ := at_T40 HR1.out x9_2 p154 q154
               have hw154_3 := hx154_3
               have hw154_2 := hx154_2
               have hw154_1 := hx154_1
               have hw154_0 := hx154_0
               obtain rfl : ad139 = ad154 := (by injection e154)
               replace hx154_0 := (HB.out.cell (World.block_lt_of_cell? w _ hx154_0)).trans hx154_0
               replace hx154_1 := (HB.out.cell (World.block_lt_of_cell? w _ hx154_1)).trans hx154_1
               replace hx154_2 := (HB.out.cell (World.block_lt_of_cell? w _ hx154_2)).trans hx154_2
               replace hx154_3 := (HB.out.cell (World.block_lt_of_cell? w _ hx154_3)).trans hx154_3
               replace p154 := eq_true p154
               replace q154 := eq_true q154
               refine start_ (n := 15) (S := fun w' => w'.cell? ⟨gb135,0,none⟩ = some (.int .u64 t143) ∧ w'.cell? ⟨gb135,1,none⟩ = some (.int .u64 t144) ∧ w'.cell? ⟨gb135,2,none⟩ = some (.slice Ao30 t145.length co30) ∧ w'.cell? (ad139.add ((x9_2).toNat * 4)) = some (.int .i64 ((rd_T40 l1 x9_2).f0)) ∧ w'.cell? ⟨(ad139.add ((x9_2).toNat * 4)).block,(ad139.add ((x9_2).toNat * 4)).off + 1,none⟩ = some (.int .u64 ((rd_T40 l1 x9_2).f1)) ∧ w'.cell? ⟨(ad139.add ((x9_2).toNat * 4)).block,(ad139.add ((x9_2).toNat * 4)).off + 2,none⟩ = some (.string ((rd_T40 l1 x9_2).f2)) ∧ w'.cell? ⟨(ad139.add ((x9_2).toNat * 4)).block,(ad139.add ((x9_2).toNat * 4)).off + 3,none⟩ = some (.string ((rd_T40 l1 x9_2).f3))) (ds := []) #[false,false,false,false,false,false,false,false,false,false,false,false,false,false,false] (by kernel_rfl) rfl rfl ⟨(blk_cell BK135.out 0).trans rfl,(blk_cell BK135.out 1).trans rfl,(blk_cell BK135.out 2).trans rfl,(up_ HB.out hw154_0),(up_ HB.out hw154_1),(up_ HB.out hw154_2),(up_ HB.out hw154_3)⟩ (fun hHeld => ?_);refine with_tabW dominolaw10_IdealOwn.tab16 dominolaw10_IdealOwn.bits16 (fun HT_ HW_ => ?_)
               generalize w47.drew = w48 at HO_136002 HO_150002 HO153 BK135 BK149 HB hx154_0 hx154_1 hx154_2 hx154_3 hHeld ⊢
               refine pure_ (i := 1) (N := some 89) (v := ?_) (a' := ?_) #[false,true,false,false,false,false,false,false,false,false,false,false,false,false,false] rfl rfl (any_of HT_.out (by kernel_rfl)) (fun _ _ _ h => h) (Or.inl ⟨by rfl,?_⟩) ?_ ?_
               rotate_left;(intro w';go_simp;with_reducible rfl);rotate_left;(simp only [Act.put,List.setIfInBounds_toArray,List.set_cons_zero,List.set_cons_succ,i64_w,i32_w];rfl)
               refine pure_ (i := 2) (N := some 90) (v := ?_) (a' := ?_) #[false,true,true,false,false,false,false,false,false,false,false,false,false,false,false] rfl rfl (any_of HT_.out (by kernel_rfl)) (fun _ _ _ h => h) (Or.inl ⟨by rfl,?_⟩) ?_ ?_
               rotate_left;(intro w';go_simp;with_reducible rfl);rotate_left;(simp only [Act.put,List.setIfInBounds_toArray,List.set_cons_zero,List.set_cons_succ,i64_w,i32_w];rfl)
               refine pure_ (i := 3) (N := some 91) (v := ?_) (a' := ?_) #[false,true,true,true,false,false,false,false,false,false,false,false,false,false,false] rfl rfl (any_of HT_.out (by kernel_rfl)) (fun _ _ _ h => h) (Or.inl ⟨by rfl,?_⟩) ?_ ?_
               rotate_left;(intro w';go_simp;with_reducible rfl);rotate_left;(simp only [Act.put,List.setIfInBounds_toArray,List.set_cons_zero,List.set_cons_succ,i64_w,i32_w];rfl)
               refine pure_ (i := 4) (N := some 92) (v := ?_) (a' := ?_) #[false,true,true,true,true,false,false,false,false,false,false,false,false,false,false] rfl rfl (any_of HT_.out (by kernel_rfl)) (fun _ _ _ h => h) (Or.inl ⟨by rfl,?_⟩) ?_ ?_
               rotate_left;(intro w';go_simp;with_reducible rfl);rotate_left;(simp only [Act.put,List.setIfInBounds_toArray,List.set_cons_zero,List.set_cons_succ,i64_w,i32_w];rfl)
               refine pure_ (i := 6) (N := some 94) (v := ?_) (a' := ?_) #[false,true,true,true,true,false,true,false,false,false,false,false,false,false,false] rfl rfl (any_of HT_.out (by kernel_rfl)) (fun _ _ _ h => h) (Or.inl ⟨by rfl,?_⟩) ?_ ?_
               rotate_left;(intro w';go_simp;with_reducible rfl);rotate_left;(simp only [Act.put,List.setIfInBounds_toArray,List.set_cons_zero,List.set_cons_succ,i64_w,i32_w];rfl)
               refine take_ (i := 0) (N := some 88) (v := ?_) (a' := ?_) #[true,true,true,true,true,false,true,false,false,false,false,false,false,false,false] rfl rfl (take_ofW HT_.out HW_.out (by kernel_rfl)) (fun _ _ _ h => h) (Or.inl ⟨by rfl,?_⟩) hHeld ?_ ?_
               rotate_left
               ·rintro w' ⟨s0,s1,s2,s3,s4,s5,s6⟩
                go_simp
                with_reducible rfl
               rotate_left
               ·simp only [Act.put,List.setIfInBounds_toArray,List.set_cons_zero,List.set_cons_succ,i64_w,i32_w]
                rfl
               refine take_ (i := 5) (N := some 93) (v := ?_) (a' := ?_) #[true,true,true,true,true,true,true,false,false,false,false,false,false,false,false] rfl rfl (take_ofW HT_.out HW_.out (by kernel_rfl)) (fun _ _ _ h => h) (Or.inl ⟨by rfl,?_⟩) hHeld ?_ ?_
               rotate_left
               ·rintro w' ⟨s0,s1,s2,s3,s4,s5,s6⟩
                go_simp
                with_reducible rfl
               rotate_left
               ·simp only [Act.put,List.setIfInBounds_toArray,List.set_cons_zero,List.set_cons_succ,i64_w,i32_w]
                rfl
               refine one_ (i := 7) (N := some 95) #[true,true,true,true,true,true,true,true,false,false,false,false,false,false,false] rfl rfl (one_of HT_.out (by kernel_rfl)) (by decide) (fun K hK => ?_)
               refine goes_ Try.func23 (by kernel_rfl) rfl #[.agg #[.int .u64 t143,.int .u64 t144,.slice Ao30 t145.length co30],.int .i64 ((rd_T40 l1 x9_2).f0),.string t148] (by rfl) rfl rfl (by (try simp only [List.map_toArray,List.map_cons,List.map_nil]);first | done | rfl | (simp only [List.length_drop,List.length_take];rfl)) ?_
               with_reducible refine (ideal_Open.calls t143 t144 _ _ t145 ((rd_T40 l1 x9_2).f0) t148 t155 t156 true _ ?side1 ?side2 A43.out).mono ?_
               (case side1 => repeat (first | exact (Kd.R_reads' HO_136002.out).2.2 | (with_reducible refine Kd.C_alloc ?_ _) | (with_reducible refine Kd.C_drewN ?_ _) | (with_reducible refine Kd.C_drew ?_)))
               (case side2 => exact (Kd.R_reads' HO_136002.out).2.1)
               rintro e w49 ⟨rfl,hb⟩
               refine ⟨_,rfl,?_⟩
               have n0_ := Aside0.mk (Kd.R_below (by (with_reducible repeat (first | apply Kd.R_alloc | apply Kd.R_drewN | apply Kd.R_drew));exact HO_136002.out) hb)
               have n1_ := Aside0.mk (Kd.R_below (by (with_reducible repeat (first | apply Kd.R_alloc | apply Kd.R_drewN | apply Kd.R_drew));exact HO_150002.out) hb)
               have n2_ := Aside0.mk (Kd.R_below (by (with_reducible repeat (first | apply Kd.R_alloc | apply Kd.R_drewN | apply Kd.R_drew));exact HO153.out) hb)
               have n3_ := Aside0.mk (blk_below (g := gb135) (o := .cells #[.int .u64 t143,.int .u64 t144,.slice Ao30 t145.length co30] 31 (0,0)) (by (with_reducible repeat (first | refine blk_drewN ?_ _ | refine blk_drew ?_ | refine blk_alloc ?_ _));exact BK135.out) hb)
               have n4_ := Aside0.mk (blk_below (g := gb149) (o := .cells #[.int .u64 t143,.int .u64 t144,.slice Ao30 t145.length co30] 31 (0,0)) (by (with_reducible repeat (first | refine blk_drewN ?_ _ | refine blk_drew ?_ | refine blk_alloc ?_ _));exact BK149.out) hb)
               have n5_ := Aside0.mk (below_step (by repeat (first | (with_reducible first | exact HB.out | apply below_alloc | apply pw_below_drewN | apply below_drew1 | refine below_set ?_ GE135.out | refine below_set ?_ GE149.out) | exact HB.out)) hb)
               clear HO_136002
               clear HO_150002
               clear HO153
               clear BK135
               clear BK149
               clear HB
               have HO_136002 := n0_
               have HO_150002 := n1_
               have HO153 := n2_
               have BK135 := n3_
               have BK149 := n4_
               have HB := n5_
               clear n0_ n1_ n2_ n3_ n4_ n5_
               (try clear hb)
               (try clear hb2)
               (try clear hk)
               (try clear hi)
               refine hK.out _ _ ⟨(blk_cell BK135.out 0).trans rfl,(blk_cell BK135.out 1).trans rfl,(blk_cell BK135.out 2).trans rfl,(up_ HB.out hw154_0),(up_ HB.out hw154_1),(up_ HB.out hw154_2),(up_ HB.out hw154_3)⟩ (fun hHeld => ?_)
               clear hK K
               refine norm_ (a' := ?_) ?_ ?_
               rotate_left
               ·show Act.put _ (some 95) _ = _
                simp only [Act.put,List.setIfInBounds_toArray,List.set_cons_zero,List.set_cons_succ,i64_w,i32_w]
                rfl
               refine pure_ (i := 8) (N := some 87) (v := ?_) (a' := ?_) #[true,true,true,true,true,true,true,true,true,false,false,false,false,false,false] rfl rfl (any_of HT_.out (by kernel_rfl)) (fun _ _ _ h => h) (Or.inl ⟨by rfl,?_⟩) ?_ ?_
               rotate_left;(intro w';go_simp;with_reducible rfl);rotate_left;(simp only [Act.put,List.setIfInBounds_toArray,List.set_cons_zero,List.set_cons_succ,i64_w,i32_w];rfl)
               refine pure_ (i := 9) (N := some 96) (v := ?_) (a' := ?_) #[true,true,true,true,true,true,true,true,true,true,false,false,false,false,false] rfl rfl (any_of HT_.out (by kernel_rfl)) (fun _ _ _ h => h) (Or.inl ⟨by rfl,?_⟩) ?_ ?_
               rotate_left;(intro w';go_simp;with_reducible rfl);rotate_left;(simp only [Act.put,List.setIfInBounds_toArray,List.set_cons_zero,List.set_cons_succ,i64_w,i32_w];rfl)
               refine pure_ (i := 10) (N := some 97) (v := ?_) (a' := ?_) #[true,true,true,true,true,true,true,true,true,true,true,false,false,false,false] rfl rfl (any_of HT_.out (by kernel_rfl)) (fun _ _ _ h => h) (Or.inl ⟨by rfl,?_⟩) ?_ ?_
               rotate_left;(intro w';go_simp;with_reducible rfl);rotate_left;(simp only [Act.put,List.setIfInBounds_toArray,List.set_cons_zero,List.set_cons_succ,i64_w,i32_w];rfl)
               refine pure_ (i := 11) (N := some 98) (v := ?_) (a' := ?_) #[true,true,true,true,true,true,true,true,true,true,true,true,false,false,false] rfl rfl (any_of HT_.out (by kernel_rfl)) (fun _ _ _ h => h) (Or.inl ⟨by rfl,?_⟩) ?_ ?_
               rotate_left;(intro w';go_simp;with_reducible rfl);rotate_left;(simp only [Act.put,List.setIfInBounds_toArray,List.set_cons_zero,List.set_cons_succ,i64_w,i32_w];rfl)
               refine pure_ (i := 12) (N := some 13) (v := ?_) (a' := ?_) #[true,true,true,true,true,true,true,true,true,true,true,true,true,false,false] rfl rfl (any_of HT_.out (by kernel_rfl)) (fun _ _ _ h => h) (Or.inl ⟨by rfl,?_⟩) ?_ ?_
               rotate_left;(intro w';go_simp;with_reducible rfl);rotate_left;(simp only [Act.put,List.setIfInBounds_toArray,List.set_cons_zero,List.set_cons_succ,i64_w,i32_w];rfl)
               refine pure_ (i := 13) (N := some 14) (v := ?_) (a' := ?_) #[true,true,true,true,true,true,true,true,true,true,true,true,true,true,false] rfl rfl (any_of HT_.out (by kernel_rfl)) (fun _ _ _ h => h) (Or.inl ⟨by rfl,?_⟩) ?_ ?_
               rotate_left;(intro w';go_simp;with_reducible rfl);rotate_left;(simp only [Act.put,List.setIfInBounds_toArray,List.set_cons_zero,List.set_cons_succ,i64_w,i32_w];rfl)
               refine pure_ (i := 14) (N := some 15) (v := ?_) (a' := ?_) #[true,true,true,true,true,true,true,true,true,true,true,true,true,true,true] rfl rfl (any_of HT_.out (by kernel_rfl)) (fun _ _ _ h => h) (Or.inl ⟨by rfl,?_⟩) ?_ ?_
               rotate_left;(intro w';go_simp;with_reducible rfl);rotate_left;(simp only [Act.put,List.setIfInBounds_toArray,List.set_cons_zero,List.set_cons_succ,i64_w,i32_w];rfl)
               refine done_ (done_of HT_.out (by kernel_rfl)) ?_
               try go_wp2
               have n0_ := Aside0.mk (Kd.R_drew HO_136002.out)
               have n1_ := Aside0.mk (Kd.R_drew HO_150002.out)
               have n2_ := Aside0.mk (Kd.R_drew HO153.out)
               have n3_ := Aside0.mk (blk_drew BK135.out)
               have n4_ := Aside0.mk (blk_drew BK149.out)
               have n5_ := Aside0.mk (below_drew1 HB.out)
               clear HO_136002
               clear HO_150002
               clear HO153
               clear BK135
               clear BK149
               clear HB
               have HO_136002 := n0_
               have HO_150002 := n1_
               have HO153 := n2_
               have BK135 := n3_
               have BK149 := n4_
               have HB := n5_
               clear n0_ n1_ n2_ n3_ n4_ n5_
               have p158 : 0 ≤ (x9_2 : Int) := of_decide_eq_true (by first | (with_reducible assumption) | assumption)
               have q158 : x9_2 < (l1.length : Int) := of_decide_eq_true (by first | (with_reducible assumption) | assumption)
               obtain ⟨ad158,e158,hx158_0,hx158_1,hx158_2,hx158_3⟩ := at_T40 HR1.out x9_2 p158 q158
               have hw158_3 := hx158_3
               have hw158_2 := hx158_2
               have hw158_1 := hx158_1
               have hw158_0 := hx158_0
               obtain rfl : ad139 = ad158 := (by injection e158)
               replace hx158_0 := (HB.out.cell (World.block_lt_of_cell? w _ hx158_0)).trans hx158_0
               replace hx158_1 := (HB.out.cell (World.block_lt_of_cell? w _ hx158_1)).trans hx158_1
               replace hx158_2 := (HB.out.cell (World.block_lt_of_cell? w _ hx158_2)).trans hx158_2
               replace hx158_3 := (HB.out.cell (World.block_lt_of_cell? w _ hx158_3)).trans hx158_3
               replace p158 := eq_true p158
               replace q158 := eq_true q158
               refine start_ (n := 16) (S := fun w' => w'.cell? ⟨gb135,0,none⟩ = some (.int .u64 t143) ∧ w'.cell? ⟨gb135,1,none⟩ = some (.int .u64 t144) ∧ w'.cell? ⟨gb135,2,none⟩ = some (.slice Ao30 t145.length co30) ∧ w'.cell? (ad139.add ((x9_2).toNat * 4)) = some (.int .i64 ((rd_T40 l1 x9_2).f0)) ∧ w'.cell? ⟨(ad139.add ((x9_2).toNat * 4)).block,(ad139.add ((x9_2).toNat * 4)).off + 1,none⟩ = some (.int .u64 ((rd_T40 l1 x9_2).f1)) ∧ w'.cell? ⟨(ad139.add ((x9_2).toNat * 4)).block,(ad139.add ((x9_2).toNat * 4)).off + 2,none⟩ = some (.string ((rd_T40 l1 x9_2).f2)) ∧ w'.cell? ⟨(ad139.add ((x9_2).toNat * 4)).block,(ad139.add ((x9_2).toNat * 4)).off + 3,none⟩ = some (.string ((rd_T40 l1 x9_2).f3))) (ds := []) #[false,false,false,false,false,false,false,false,false,false,false,false,false,false,false,false] (by kernel_rfl) rfl rfl ⟨(blk_cell BK135.out 0).trans rfl,(blk_cell BK135.out 1).trans rfl,(blk_cell BK135.out 2).trans rfl,(up_ HB.out hw158_0),(up_ HB.out hw158_1),(up_ HB.out hw158_2),(up_ HB.out hw158_3)⟩ (fun hHeld => ?_);refine with_tabW dominolaw10_IdealOwn.tab17 dominolaw10_IdealOwn.bits17 (fun HT_ HW_ => ?_)
               generalize w49.drew = w50 at HO_136002 HO_150002 HO153 BK135 BK149 HB hx158_0 hx158_1 hx158_2 hx158_3 hHeld ⊢
               refine pure_ (i := 1) (N := some 101) (v := ?_) (a' := ?_) #[false,true,false,false,false,false,false,false,false,false,false,false,false,false,false,false] rfl rfl (any_of HT_.out (by kernel_rfl)) (fun _ _ _ h => h) (Or.inl ⟨by rfl,?_⟩) ?_ ?_
               rotate_left;(intro w';go_simp;with_reducible rfl);rotate_left;(simp only [Act.put,List.setIfInBounds_toArray,List.set_cons_zero,List.set_cons_succ,i64_w,i32_w];rfl)
               refine pure_ (i := 2) (N := some 102) (v := ?_) (a' := ?_) #[false,true,true,false,false,false,false,false,false,false,false,false,false,false,false,false] rfl rfl (any_of HT_.out (by kernel_rfl)) (fun _ _ _ h => h) (Or.inl ⟨by rfl,?_⟩) ?_ ?_
               rotate_left;(intro w';go_simp;with_reducible rfl);rotate_left;(simp only [Act.put,List.setIfInBounds_toArray,List.set_cons_zero,List.set_cons_succ,i64_w,i32_w];rfl)
               refine pure_ (i := 3) (N := some 103) (v := ?_) (a' := ?_) #[false,true,true,true,false,false,false,false,false,false,false,false,false,false,false,false] rfl rfl (any_of HT_.out (by kernel_rfl)) (fun _ _ _ h => h) (Or.inl ⟨by rfl,?_⟩) ?_ ?_
               rotate_left;(intro w';go_simp;with_reducible rfl);rotate_left;(simp only [Act.put,List.setIfInBounds_toArray,List.set_cons_zero,List.set_cons_succ,i64_w,i32_w];rfl)
               refine pure_ (i := 4) (N := some 104) (v := ?_) (a' := ?_) #[false,true,true,true,true,false,false,false,false,false,false,false,false,false,false,false] rfl rfl (any_of HT_.out (by kernel_rfl)) (fun _ _ _ h => h) (Or.inl ⟨by rfl,?_⟩) ?_ ?_
               rotate_left;(intro w';go_simp;with_reducible rfl);rotate_left;(simp only [Act.put,List.setIfInBounds_toArray,List.set_cons_zero,List.set_cons_succ,i64_w,i32_w];rfl)
               refine pure_ (i := 7) (N := some 107) (v := ?_) (a' := ?_) #[false,true,true,true,true,false,false,true,false,false,false,false,false,false,false,false] rfl rfl (any_of HT_.out (by kernel_rfl)) (fun _ _ _ h => h) (Or.inl ⟨by rfl,?_⟩) ?_ ?_
               rotate_left;(intro w';go_simp;with_reducible rfl);rotate_left;(simp only [Act.put,List.setIfInBounds_toArray,List.set_cons_zero,List.set_cons_succ,i64_w,i32_w];rfl)
               refine take_ (i := 0) (N := some 100) (v := ?_) (a' := ?_) #[true,true,true,true,true,false,false,true,false,false,false,false,false,false,false,false] rfl rfl (take_ofW HT_.out HW_.out (by kernel_rfl)) (fun _ _ _ h => h) (Or.inl ⟨by rfl,?_⟩) hHeld ?_ ?_
               rotate_left
               ·rintro w' ⟨s0,s1,s2,s3,s4,s5,s6⟩
                go_simp
                with_reducible rfl
               rotate_left
               ·simp only [Act.put,List.setIfInBounds_toArray,List.set_cons_zero,List.set_cons_succ,i64_w,i32_w]
                rfl
               refine take_ (i := 5) (N := some 105) (v := ?_) (a' := ?_) #[true,true,true,true,true,true,false,true,false,false,false,false,false,false,false,false] rfl rfl (take_ofW HT_.out HW_.out (by kernel_rfl)) (fun _ _ _ h => h) (Or.inl ⟨by rfl,?_⟩) hHeld ?_ ?_
               rotate_left
               ·rintro w' ⟨s0,s1,s2,s3,s4,s5,s6⟩
                go_simp
                with_reducible rfl
               rotate_left
               ·simp only [Act.put,List.setIfInBounds_toArray,List.set_cons_zero,List.set_cons_succ,i64_w,i32_w]
                rfl
               refine pure_ (i := 6) (N := some 106) (v := ?_) (a' := ?_) #[true,true,true,true,true,true,true,true,false,false,false,false,false,false,false,false] rfl rfl (any_of HT_.out (by kernel_rfl)) (fun _ _ _ h => h) (Or.inl ⟨by rfl,?_⟩) ?_ ?_
               rotate_left;(intro w';go_simp;with_reducible rfl);rotate_left;(simp only [Act.put,List.setIfInBounds_toArray,List.set_cons_zero,List.set_cons_succ,i64_w,i32_w];rfl)
               refine one_ (i := 8) (N := some 108) #[true,true,true,true,true,true,true,true,true,false,false,false,false,false,false,false] rfl rfl (one_of HT_.out (by kernel_rfl)) (by decide) (fun K hK => ?_)
               refine goes_ Try.func23 (by kernel_rfl) rfl #[.agg #[.int .u64 t143,.int .u64 t144,.slice Ao30 t145.length co30],.int .i64 (wrap64 (((rd_T40 l1 x9_2).f0) + 1)),.string t148] (by rfl) rfl rfl (by (try simp only [List.map_toArray,List.map_cons,List.map_nil]);first | done | rfl | (simp only [List.length_drop,List.length_take];rfl)) ?_
               with_reducible refine (ideal_Open.calls t143 t144 _ _ t145 (wrap64 (((rd_T40 l1 x9_2).f0) + 1)) t148 t159 t160 t161 _ ?side1 ?side2 A44.out).mono ?_
               (case side1 => repeat (first | exact (Kd.R_reads' HO_136002.out).2.2 | (with_reducible refine Kd.C_alloc ?_ _) | (with_reducible refine Kd.C_drewN ?_ _) | (with_reducible refine Kd.C_drew ?_)))
               (case side2 => exact (Kd.R_reads' HO_136002.out).2.1)
               rintro e w51 ⟨rfl,hb⟩
               refine ⟨_,rfl,?_⟩
               have n0_ := Aside0.mk (Kd.R_below (by (with_reducible repeat (first | apply Kd.R_alloc | apply Kd.R_drewN | apply Kd.R_drew));exact HO_136002.out) hb)
               have n1_ := Aside0.mk (Kd.R_below (by (with_reducible repeat (first | apply Kd.R_alloc | apply Kd.R_drewN | apply Kd.R_drew));exact HO_150002.out) hb)
               have n2_ := Aside0.mk (Kd.R_below (by (with_reducible repeat (first | apply Kd.R_alloc | apply Kd.R_drewN | apply Kd.R_drew));exact HO153.out) hb)
               have n3_ := Aside0.mk (blk_below (g := gb135) (o := .cells #[.int .u64 t143,.int .u64 t144,.slice Ao30 t145.length co30] 31 (0,0)) (by (with_reducible repeat (first | refine blk_drewN ?_ _ | refine blk_drew ?_ | refine blk_alloc ?_ _));exact BK135.out) hb)
               have n4_ := Aside0.mk (blk_below (g := gb149) (o := .cells #[.int .u64 t143,.int .u64 t144,.slice Ao30 t145.length co30] 31 (0,0)) (by (with_reducible repeat (first | refine blk_drewN ?_ _ | refine blk_drew ?_ | refine blk_alloc ?_ _));exact BK149.out) hb)
               have n5_ := Aside0.mk (below_step (by repeat (first | (with_reducible first | exact HB.out | apply below_alloc | apply pw_below_drewN | apply below_drew1 | refine below_set ?_ GE135.out | refine below_set ?_ GE149.out) | exact HB.out)) hb)
               clear HO_136002
               clear HO_150002
               clear HO153
               clear BK135
               clear BK149
               clear HB
               have HO_136002 := n0_
               have HO_150002 := n1_
               have HO153 := n2_
               have BK135 := n3_
               have BK149 := n4_
               have HB := n5_
               clear n0_ n1_ n2_ n3_ n4_ n5_
               (try clear hb)
               (try clear hb2)
               (try clear hk)
               (try clear hi)
               refine hK.out _ _ ⟨(blk_cell BK135.out 0).trans rfl,(blk_cell BK135.out 1).trans rfl,(blk_cell BK135.out 2).trans rfl,(up_ HB.out hw158_0),(up_ HB.out hw158_1),(up_ HB.out hw158_2),(up_ HB.out hw158_3)⟩ (fun hHeld => ?_)
               clear hK K
               refine norm_ (a' := ?_) ?_ ?_
               rotate_left
               ·show Act.put _ (some 108) _ = _
                simp only [Act.put,List.setIfInBounds_toArray,List.set_cons_zero,List.set_cons_succ,i64_w,i32_w]
                rfl
               refine pure_ (i := 9) (N := some 99) (v := ?_) (a' := ?_) #[true,true,true,true,true,true,true,true,true,true,false,false,false,false,false,false] rfl rfl (any_of HT_.out (by kernel_rfl)) (fun _ _ _ h => h) (Or.inl ⟨by rfl,?_⟩) ?_ ?_
               rotate_left;(intro w';go_simp;with_reducible rfl);rotate_left;(simp only [Act.put,List.setIfInBounds_toArray,List.set_cons_zero,List.set_cons_succ,i64_w,i32_w];rfl)
               refine pure_ (i := 10) (N := some 109) (v := ?_) (a' := ?_) #[true,true,true,true,true,true,true,true,true,true,true,false,false,false,false,false] rfl rfl (any_of HT_.out (by kernel_rfl)) (fun _ _ _ h => h) (Or.inl ⟨by rfl,?_⟩) ?_ ?_
               rotate_left;(intro w';go_simp;with_reducible rfl);rotate_left;(simp only [Act.put,List.setIfInBounds_toArray,List.set_cons_zero,List.set_cons_succ,i64_w,i32_w];rfl)
               refine pure_ (i := 11) (N := some 110) (v := ?_) (a' := ?_) #[true,true,true,true,true,true,true,true,true,true,true,true,false,false,false,false] rfl rfl (any_of HT_.out (by kernel_rfl)) (fun _ _ _ h => h) (Or.inl ⟨by rfl,?_⟩) ?_ ?_
               rotate_left;(intro w';go_simp;with_reducible rfl);rotate_left;(simp only [Act.put,List.setIfInBounds_toArray,List.set_cons_zero,List.set_cons_succ,i64_w,i32_w];rfl)
               refine pure_ (i := 12) (N := some 111) (v := ?_) (a' := ?_) #[true,true,true,true,true,true,true,true,true,true,true,true,true,false,false,false] rfl rfl (any_of HT_.out (by kernel_rfl)) (fun _ _ _ h => h) (Or.inl ⟨by rfl,?_⟩) ?_ ?_
               rotate_left;(intro w';go_simp;with_reducible rfl);rotate_left;(simp only [Act.put,List.setIfInBounds_toArray,List.set_cons_zero,List.set_cons_succ,i64_w,i32_w];rfl)
               refine pure_ (i := 13) (N := some 16) (v := ?_) (a' := ?_) #[true,true,true,true,true,true,true,true,true,true,true,true,true,true,false,false] rfl rfl (any_of HT_.out (by kernel_rfl)) (fun _ _ _ h => h) (Or.inl ⟨by rfl,?_⟩) ?_ ?_
               rotate_left;(intro w';go_simp;with_reducible rfl);rotate_left;(simp only [Act.put,List.setIfInBounds_toArray,List.set_cons_zero,List.set_cons_succ,i64_w,i32_w];rfl)
               refine pure_ (i := 14) (N := some 17) (v := ?_) (a' := ?_) #[true,true,true,true,true,true,true,true,true,true,true,true,true,true,true,false] rfl rfl (any_of HT_.out (by kernel_rfl)) (fun _ _ _ h => h) (Or.inl ⟨by rfl,?_⟩) ?_ ?_
               rotate_left;(intro w';go_simp;with_reducible rfl);rotate_left;(simp only [Act.put,List.setIfInBounds_toArray,List.set_cons_zero,List.set_cons_succ,i64_w,i32_w];rfl)
               refine pure_ (i := 15) (N := some 18) (v := ?_) (a' := ?_) #[true,true,true,true,true,true,true,true,true,true,true,true,true,true,true,true] rfl rfl (any_of HT_.out (by kernel_rfl)) (fun _ _ _ h => h) (Or.inl ⟨by rfl,?_⟩) ?_ ?_
               rotate_left;(intro w';go_simp;with_reducible rfl);rotate_left;(simp only [Act.put,List.setIfInBounds_toArray,List.set_cons_zero,List.set_cons_succ,i64_w,i32_w];rfl)
               refine done_ (done_of HT_.out (by kernel_rfl)) ?_
               try go_wp2
               go_ret
               exact ⟨by first | rfl | (simp [errW_none,errW_some] <;> rfl) | (simp [*,errW_none,errW_some] <;> rfl),by repeat (first | (with_reducible first | exact HB.out | apply below_alloc | apply pw_below_drewN | apply below_drew1 | refine below_set ?_ GE135.out | refine below_set ?_ GE149.out) | exact HB.out)⟩
              ·replace c45 := Bool.eq_false_iff.mpr c45
               subst c45
               have H1 : (if t161 = true then (if t159 = ((rd_T40 l1 x9_2).f1) then (if t160.toList = ((rd_T40 l1 x9_2).f3).toList then (dominolaw10_IdealOwn.l0 k3 l1 a2 y151 (wrap64 (x9_2 + 1)) t143 t144 t145) else (some false)) else (some false)) else (some false)) = some r := by rw [if_neg (show ¬ (false = true) by decide)] at H;exact H
               clear H
               have H := H1
               clear H1
               by_cases c52 : t161 = true
               ·subst c52
                have H1 : (if t159 = ((rd_T40 l1 x9_2).f1) then (if t160.toList = ((rd_T40 l1 x9_2).f3).toList then (dominolaw10_IdealOwn.l0 k3 l1 a2 y151 (wrap64 (x9_2 + 1)) t143 t144 t145) else (some false)) else (some false)) = some r := by rw [if_pos rfl] at H;exact H
                clear H
                have H := H1
                clear H1
                by_cases c53 : t159 = ((rd_T40 l1 x9_2).f1)
                ·rw [if_pos c53] at H
                 have c53b0 : (t159 == ((rd_T40 l1 x9_2).f1)) = true := beq_iff_eq.mpr c53
                 have c53b1 : (t159 != ((rd_T40 l1 x9_2).f1)) = false := bne_eq_false_iff_eq.mpr c53
                 clear c53
                 by_cases c54 : t160.toList = ((rd_T40 l1 x9_2).f3).toList
                 ·rw [if_pos c54] at H
                  have c54b0 : (t160.toList == ((rd_T40 l1 x9_2).f3).toList) = true := beq_iff_eq.mpr c54
                  have c54b1 : (t160.toList != ((rd_T40 l1 x9_2).f3).toList) = false := bne_eq_false_iff_eq.mpr c54
                  clear c54
                  have H' := Aside0.mk H
                  clear H
                  obtain ⟨Ao55,co55,eo55⟩ := Kd.R_slice HO_8.out
                  subst eo55
                  try go_wp2_with (first | ((with_reducible refine gate_builtin (b := .append) (xs := #[.tmp 83,.tmp 85]) rfl ?_);(try (refine gate_guard (by rfl) ?_;dsimp only));at_builtin;refine Kd.R_append Kd.string (w0 := w) w.heap.size rfl (.tmp 83) (.tmp 85) 52 9 (.string ⟨#[]⟩) 16 rfl Try.underlying52 info9 rfl (by decide) (by omega) (.slice Ao55 x8_2.length co55) x8_2 t148 [.string t148] (fun _ => True) (fun _ => False) rfl rfl ?aP (fun _ hk => hk.elim) ?aF ?aO ?aB ?aS ?aL ?_;(case aP => exact rfl);(case aB => exact (by repeat (first | (with_reducible first | exact HB.out | apply below_alloc | apply pw_below_drewN | apply below_drew1 | refine below_set ?_ GE135.out | refine below_set ?_ GE149.out) | exact HB.out)));(case aF => exact (fun _ _ => trivial));(case aO => exact (by (with_reducible repeat (first | apply Kd.R_alloc | apply Kd.R_drewN | apply Kd.R_drew));exact HO_8.out));(case aS => exact (below_size (by repeat (first | (with_reducible first | exact HB.out | apply below_alloc | apply pw_below_drewN | apply below_drew1 | refine below_set ?_ GE135.out | refine below_set ?_ GE149.out) | exact HB.out))));(case aL => have := LMc40.out;omega);intro v152 w56 ho hb hg hat;rw [← Ny151.out] at ho;have n0_ := Aside0.mk (Kd.R_over' (by (with_reducible repeat (first | apply Kd.R_alloc | apply Kd.R_drewN | apply Kd.R_drew));exact HO_136002.out) (Kd.R_typed (by (with_reducible repeat (first | apply Kd.R_alloc | apply Kd.R_drewN | apply Kd.R_drew));exact HO_8.out)) (by decide) hg);have n1_ := Aside0.mk (Kd.R_over' (by (with_reducible repeat (first | apply Kd.R_alloc | apply Kd.R_drewN | apply Kd.R_drew));exact HO_150002.out) (Kd.R_typed (by (with_reducible repeat (first | apply Kd.R_alloc | apply Kd.R_drewN | apply Kd.R_drew));exact HO_8.out)) (by decide) hg);have n2_ := Aside0.mk (blk_grown (g := gb135) (o := .cells #[.int .u64 t143,.int .u64 t144,.slice Ao30 t145.length co30] 31 (0,0)) (by (with_reducible repeat (first | refine blk_drewN ?_ _ | refine blk_drew ?_ | refine blk_alloc ?_ _));exact BK135.out) hg (Kd.R_ne HO_8.out BK135.out (by decide)));have n3_ := Aside0.mk (blk_grown (g := gb149) (o := .cells #[.int .u64 t143,.int .u64 t144,.slice Ao30 t145.length co30] 31 (0,0)) (by (with_reducible repeat (first | refine blk_drewN ?_ _ | refine blk_drew ?_ | refine blk_alloc ?_ _));exact BK149.out) hg (Kd.R_ne HO_8.out BK149.out (by decide)));have n4_ := Aside0.mk (hb);have n5_ := Aside0.mk (ho);clear HO_136002;clear HO_150002;clear BK135;clear BK149;clear HB;clear HO_8;have HO_136002 := n0_;have HO_150002 := n1_;have BK135 := n2_;have BK149 := n3_;have HB := n4_;have HO153 := n5_;clear n0_ n1_ n2_ n3_ n4_ n5_;clear ho hb hg hat))
                  have n0_ := Aside0.mk (Kd.R_drew HO_136002.out)
                  have n1_ := Aside0.mk (Kd.R_drew HO_150002.out)
                  have n2_ := Aside0.mk (Kd.R_drew HO153.out)
                  have n3_ := Aside0.mk (blk_drew BK135.out)
                  have n4_ := Aside0.mk (blk_drew BK149.out)
                  have n5_ := Aside0.mk (below_drew1 HB.out)
                  clear HO_136002
                  clear HO_150002
                  clear HO153
                  clear BK135
                  clear BK149
                  clear HB
                  have HO_136002 := n0_
                  have HO_150002 := n1_
                  have HO153 := n2_
                  have BK135 := n3_
                  have BK149 := n4_
                  have HB := n5_
                  clear n0_ n1_ n2_ n3_ n4_ n5_
                  have p154 : 0 ≤ (x9_2 : Int) := of_decide_eq_true (by first | (with_reducible assumption) | assumption)
                  have q154 : x9_2 < (l1.length : Int) := of_decide_eq_true (by first | (with_reducible assumption) | assumption)
                  obtain ⟨ad154,e154,hx154_0,hx154_1,hx154_2,hx154_3⟩ := at_T40 HR1.out x9_2 p154 q154
                  have hw154_3 := hx154_3
                  have hw154_2 := hx154_2
                  have hw154_1 := hx154_1
                  have hw154_0 := hx154_0
                  obtain rfl : ad139 = ad154 := (by injection e154)
                  replace hx154_0 := (HB.out.cell (World.block_lt_of_cell? w _ hx154_0)).trans hx154_0
                  replace hx154_1 := (HB.out.cell (World.block_lt_of_cell? w _ hx154_1)).trans hx154_1
                  replace hx154_2 := (HB.out.cell (World.block_lt_of_cell? w _ hx154_2)).trans hx154_2
                  replace hx154_3 := (HB.out.cell (World.block_lt_of_cell? w _ hx154_3)).trans hx154_3
                  replace p154 := eq_true p154
                  replace q154 := eq_true q154
                  refine start_ (n := 15) (S := fun w' => w'.cell? ⟨gb135,0,none⟩ = some (.int .u64 t143) ∧ w'.cell? ⟨gb135,1,none⟩ = some (.int .u64 t144) ∧ w'.cell? ⟨gb135,2,none⟩ = some (.slice Ao30 t145.length co30) ∧ w'.cell? (ad139.add ((x9_2).toNat * 4)) = some (.int .i64 ((rd_T40 l1 x9_2).f0)) ∧ w'.cell? ⟨(ad139.add ((x9_2).toNat * 4)).block,(ad139.add ((x9_2).toNat * 4)).off + 1,none⟩ = some (.int .u64 ((rd_T40 l1 x9_2).f1)) ∧ w'.cell? ⟨(ad139.add ((x9_2).toNat * 4)).block,(ad139.add ((x9_2).toNat * 4)).off + 2,none⟩ = some (.string ((rd_T40 l1 x9_2).f2)) ∧ w'.cell? ⟨(ad139.add ((x9_2).toNat * 4)).block,(ad139.add ((x9_2).toNat * 4)).off + 3,none⟩ = some (.string ((rd_T40 l1 x9_2).f3))) (ds := []) #[false,false,false,false,false,false,false,false,false,false,false,false,false,false,false] (by kernel_rfl) rfl rfl ⟨(blk_cell BK135.out 0).trans rfl,(blk_cell BK135.out 1).trans rfl,(blk_cell BK135.out 2).trans rfl,(up_ HB.out hw154_0),(up_ HB.out hw154_1),(up_ HB.out hw154_2),(up_ HB.out hw154_3)⟩ (fun hHeld => ?_);refine with_tabW dominolaw10_IdealOwn.tab16 dominolaw10_IdealOwn.bits16 (fun HT_ HW_ => ?_)
                  generalize w56.drew = w57 at HO_136002 HO_150002 HO153 BK135 BK149 HB hx154_0 hx154_1 hx154_2 hx154_3 hHeld ⊢
                  refine pure_ (i := 1) (N := some 89) (v := ?_) (a' := ?_) #[false,true,false,false,false,false,false,false,false,false,false,false,false,false,false] rfl rfl (any_of HT_.out (by kernel_rfl)) (fun _ _ _ h => h) (Or.inl ⟨by rfl,?_⟩) ?_ ?_
                  rotate_left;(intro w';go_simp;with_reducible rfl);rotate_left;(simp only [Act.put,List.setIfInBounds_toArray,List.set_cons_zero,List.set_cons_succ,i64_w,i32_w];rfl)
                  refine pure_ (i := 2) (N := some 90) (v := ?_) (a' := ?_) #[false,true,true,false,false,false,false,false,false,false,false,false,false,false,false] rfl rfl (any_of HT_.out (by kernel_rfl)) (fun _ _ _ h => h) (Or.inl ⟨by rfl,?_⟩) ?_ ?_
                  rotate_left;(intro w';go_simp;with_reducible rfl);rotate_left;(simp only [Act.put,List.setIfInBounds_toArray,List.set_cons_zero,List.set_cons_succ,i64_w,i32_w];rfl)
                  refine pure_ (i := 3) (N := some 91) (v := ?_) (a' := ?_) #[false,true,true,true,false,false,false,false,false,false,false,false,false,false,false] rfl rfl (any_of HT_.out (by kernel_rfl)) (fun _ _ _ h => h) (Or.inl ⟨by rfl,?_⟩) ?_ ?_
                  rotate_left;(intro w';go_simp;with_reducible rfl);rotate_left;(simp only [Act.put,List.setIfInBounds_toArray,List.set_cons_zero,List.set_cons_succ,i64_w,i32_w];rfl)
                  refine pure_ (i := 4) (N := some 92) (v := ?_) (a' := ?_) #[false,true,true,true,true,false,false,false,false,false,false,false,false,false,false] rfl rfl (any_of HT_.out (by kernel_rfl)) (fun _ _ _ h => h) (Or.inl ⟨by rfl,?_⟩) ?_ ?_
                  rotate_left;(intro w';go_simp;with_reducible rfl);rotate_left;(simp only [Act.put,List.setIfInBounds_toArray,List.set_cons_zero,List.set_cons_succ,i64_w,i32_w];rfl)
                  refine pure_ (i := 6) (N := some 94) (v := ?_) (a' := ?_) #[false,true,true,true,true,false,true,false,false,false,false,false,false,false,false] rfl rfl (any_of HT_.out (by kernel_rfl)) (fun _ _ _ h => h) (Or.inl ⟨by rfl,?_⟩) ?_ ?_
                  rotate_left;(intro w';go_simp;with_reducible rfl);rotate_left;(simp only [Act.put,List.setIfInBounds_toArray,List.set_cons_zero,List.set_cons_succ,i64_w,i32_w];rfl)
                  refine take_ (i := 0) (N := some 88) (v := ?_) (a' := ?_) #[true,true,true,true,true,false,true,false,false,false,false,false,false,false,false] rfl rfl (take_ofW HT_.out HW_.out (by kernel_rfl)) (fun _ _ _ h => h) (Or.inl ⟨by rfl,?_⟩) hHeld ?_ ?_
                  rotate_left
                  ·rintro w' ⟨s0,s1,s2,s3,s4,s5,s6⟩
                   go_simp
                   with_reducible rfl
                  rotate_left
                  ·simp only [Act.put,List.setIfInBounds_toArray,List.set_cons_zero,List.set_cons_succ,i64_w,i32_w]
                   rfl
                  refine take_ (i := 5) (N := some 93) (v := ?_) (a' := ?_) #[true,true,true,true,true,true,true,false,false,false,false,false,false,false,false] rfl rfl (take_ofW HT_.out HW_.out (by kernel_rfl)) (fun _ _ _ h => h) (Or.inl ⟨by rfl,?_⟩) hHeld ?_ ?_
                  rotate_left
                  ·rintro w' ⟨s0,s1,s2,s3,s4,s5,s6⟩
                   go_simp
                   with_reducible rfl
                  rotate_left
                  ·simp only [Act.put,List.setIfInBounds_toArray,List.set_cons_zero,List.set_cons_succ,i64_w,i32_w]
                   rfl
                  refine one_ (i := 7) (N := some 95) #[true,true,true,true,true,true,true,true,false,false,false,false,false,false,false] rfl rfl (one_of HT_.out (by kernel_rfl)) (by decide) (fun K hK => ?_)
                  refine goes_ Try.func23 (by kernel_rfl) rfl #[.agg #[.int .u64 t143,.int .u64 t144,.slice Ao30 t145.length co30],.int .i64 ((rd_T40 l1 x9_2).f0),.string t148] (by rfl) rfl rfl (by (try simp only [List.map_toArray,List.map_cons,List.map_nil]);first | done | rfl | (simp only [List.length_drop,List.length_take];rfl)) ?_
                  with_reducible refine (ideal_Open.calls t143 t144 _ _ t145 ((rd_T40 l1 x9_2).f0) t148 t155 t156 false _ ?side1 ?side2 A43.out).mono ?_
                  (case side1 => repeat (first | exact (Kd.R_reads' HO_136002.out).2.2 | (with_reducible refine Kd.C_alloc ?_ _) | (with_reducible refine Kd.C_drewN ?_ _) | (with_reducible refine Kd.C_drew ?_)))
                  (case side2 => exact (Kd.R_reads' HO_136002.out).2.1)
                  rintro e w58 ⟨rfl,hb⟩
                  refine ⟨_,rfl,?_⟩
                  have n0_ := Aside0.mk (Kd.R_below (by (with_reducible repeat (first | apply Kd.R_alloc | apply Kd.R_drewN | apply Kd.R_drew));exact HO_136002.out) hb)
                  have n1_ := Aside0.mk (Kd.R_below (by (with_reducible repeat (first | apply Kd.R_alloc | apply Kd.R_drewN | apply Kd.R_drew));exact HO_150002.out) hb)
                  have n2_ := Aside0.mk (Kd.R_below (by (with_reducible repeat (first | apply Kd.R_alloc | apply Kd.R_drewN | apply Kd.R_drew));exact HO153.out) hb)
                  have n3_ := Aside0.mk (blk_below (g := gb135) (o := .cells #[.int .u64 t143,.int .u64 t144,.slice Ao30 t145.length co30] 31 (0,0)) (by (with_reducible repeat (first | refine blk_drewN ?_ _ | refine blk_drew ?_ | refine blk_alloc ?_ _));exact BK135.out) hb)
                  have n4_ := Aside0.mk (blk_below (g := gb149) (o := .cells #[.int .u64 t143,.int .u64 t144,.slice Ao30 t145.length co30] 31 (0,0)) (by (with_reducible repeat (first | refine blk_drewN ?_ _ | refine blk_drew ?_ | refine blk_alloc ?_ _));exact BK149.out) hb)
                  have n5_ := Aside0.mk (below_step (by repeat (first | (with_reducible first | exact HB.out | apply below_alloc | apply pw_below_drewN | apply below_drew1 | refine below_set ?_ GE135.out | refine below_set ?_ GE149.out) | exact HB.out)) hb)
                  clear HO_136002
                  clear HO_150002
                  clear HO153
                  clear BK135
                  clear BK149
                  clear HB
                  have HO_136002 := n0_
                  have HO_150002 := n1_
                  have HO153 := n2_
                  have BK135 := n3_
                  have BK149 := n4_
                  have HB := n5_
                  clear n0_ n1_ n2_ n3_ n4_ n5_
                  (try clear hb)
                  (try clear hb2)
                  (try clear hk)
                  (try clear hi)
                  refine hK.out _ _ ⟨(blk_cell BK135.out 0).trans rfl,(blk_cell BK135.out 1).trans rfl,(blk_cell BK135.out 2).trans rfl,(up_ HB.out hw154_0),(up_ HB.out hw154_1),(up_ HB.out hw154_2),(up_ HB.out hw154_3)⟩ (fun hHeld => ?_)
                  clear hK K
                  refine norm_ (a' := ?_) ?_ ?_
                  rotate_left
                  ·show Act.put _ (some 95) _ = _
                   simp only [Act.put,List.setIfInBounds_toArray,List.set_cons_zero,List.set_cons_succ,i64_w,i32_w]
                   rfl
                  refine pure_ (i := 8) (N := some 87) (v := ?_) (a' := ?_) #[true,true,true,true,true,true,true,true,true,false,false,false,false,false,false] rfl rfl (any_of HT_.out (by kernel_rfl)) (fun _ _ _ h => h) (Or.inl ⟨by rfl,?_⟩) ?_ ?_
                  rotate_left;(intro w';go_simp;with_reducible rfl);rotate_left;(simp only [Act.put,List.setIfInBounds_toArray,List.set_cons_zero,List.set_cons_succ,i64_w,i32_w];rfl)
                  refine pure_ (i := 9) (N := some 96) (v := ?_) (a' := ?_) #[true,true,true,true,true,true,true,true,true,true,false,false,false,false,false] rfl rfl (any_of HT_.out (by kernel_rfl)) (fun _ _ _ h => h) (Or.inl ⟨by rfl,?_⟩) ?_ ?_
                  rotate_left;(intro w';go_simp;with_reducible rfl);rotate_left;(simp only [Act.put,List.setIfInBounds_toArray,List.set_cons_zero,List.set_cons_succ,i64_w,i32_w];rfl)
                  refine pure_ (i := 10) (N := some 97) (v := ?_) (a' := ?_) #[true,true,true,true,true,true,true,true,true,true,true,false,false,false,false] rfl rfl (any_of HT_.out (by kernel_rfl)) (fun _ _ _ h => h) (Or.inl ⟨by rfl,?_⟩) ?_ ?_
                  rotate_left;(intro w';go_simp;with_reducible rfl);rotate_left;(simp only [Act.put,List.setIfInBounds_toArray,List.set_cons_zero,List.set_cons_succ,i64_w,i32_w];rfl)
                  refine pure_ (i := 11) (N := some 98) (v := ?_) (a' := ?_) #[true,true,true,true,true,true,true,true,true,true,true,true,false,false,false] rfl rfl (any_of HT_.out (by kernel_rfl)) (fun _ _ _ h => h) (Or.inl ⟨by rfl,?_⟩) ?_ ?_
                  rotate_left;(intro w';go_simp;with_reducible rfl);rotate_left;(simp only [Act.put,List.setIfInBounds_toArray,List.set_cons_zero,List.set_cons_succ,i64_w,i32_w];rfl)
                  refine pure_ (i := 12) (N := some 13) (v := ?_) (a' := ?_) #[true,true,true,true,true,true,true,true,true,true,true,true,true,false,false] rfl rfl (any_of HT_.out (by kernel_rfl)) (fun _ _ _ h => h) (Or.inl ⟨by rfl,?_⟩) ?_ ?_
                  rotate_left;(intro w';go_simp;with_reducible rfl);rotate_left;(simp only [Act.put,List.setIfInBounds_toArray,List.set_cons_zero,List.set_cons_succ,i64_w,i32_w];rfl)
                  refine pure_ (i := 13) (N := some 14) (v := ?_) (a' := ?_) #[true,true,true,true,true,true,true,true,true,true,true,true,true,true,false] rfl rfl (any_of HT_.out (by kernel_rfl)) (fun _ _ _ h => h) (Or.inl ⟨by rfl,?_⟩) ?_ ?_
                  rotate_left;(intro w';go_simp;with_reducible rfl);rotate_left;(simp only [Act.put,List.setIfInBounds_toArray,List.set_cons_zero,List.set_cons_succ,i64_w,i32_w];rfl)
                  refine pure_ (i := 14) (N := some 15) (v := ?_) (a' := ?_) #[true,true,true,true,true,true,true,true,true,true,true,true,true,true,true] rfl rfl (any_of HT_.out (by kernel_rfl)) (fun _ _ _ h => h) (Or.inl ⟨by rfl,?_⟩) ?_ ?_
                  rotate_left;(intro w';go_simp;with_reducible rfl);rotate_left;(simp only [Act.put,List.setIfInBounds_toArray,List.set_cons_zero,List.set_cons_succ,i64_w,i32_w];rfl)
                  refine done_ (done_of HT_.out (by kernel_rfl)) ?_
                  try go_wp2
                  have n0_ := Aside0.mk (Kd.R_drew HO_136002.out)
                  have n1_ := Aside0.mk (Kd.R_drew HO_150002.out)
                  have n2_ := Aside0.mk (Kd.R_drew HO153.out)
                  have n3_ := Aside0.mk (blk_drew BK135.out)
                  have n4_ := Aside0.mk (blk_drew BK149.out)
                  have n5_ := Aside0.mk (below_drew1 HB.out)
                  clear HO_136002
                  clear HO_150002
                  clear HO153
                  clear BK135
                  clear BK149
                  clear HB
                  have HO_136002 := n0_
                  have HO_150002 := n1_
                  have HO153 := n2_
                  have BK135 := n3_
                  have BK149 := n4_
                  have HB := n5_
                  clear n0_ n1_ n2_ n3_ n4_ n5_
                  have p158 : 0 ≤ (x9_2 : Int) := of_decide_eq_true (by first | (with_reducible assumption) | assumption)
                  have q158 : x9_2 < (l1.length : Int) := of_decide_eq_true (by first | (with_reducible assumption) | assumption)
                  obtain ⟨ad158,e158,hx158_0,hx158_1,hx158_2,hx158_3⟩ := at_T40 HR1.out x9_2 p158 q158
                  have hw158_3 := hx158_3
                  have hw158_2 := hx158_2
                  have hw158_1 := hx158_1
                  have hw158_0 := hx158_0
                  obtain rfl : ad139 = ad158 := (by injection e158)
                  replace hx158_0 := (HB.out.cell (World.block_lt_of_cell? w _ hx158_0)).trans hx158_0
                  replace hx158_1 := (HB.out.cell (World.block_lt_of_cell? w _ hx158_1)).trans hx158_1
                  replace hx158_2 := (HB.out.cell (World.block_lt_of_cell? w _ hx158_2)).trans hx158_2
                  replace hx158_3 := (HB.out.cell (World.block_lt_of_cell? w _ hx158_3)).trans hx158_3
                  replace p158 := eq_true p158
                  replace q158 := eq_true q158
                  refine start_ (n := 16) (S := fun w' => w'.cell? ⟨gb135,0,none⟩ = some (.int .u64 t143) ∧ w'.cell? ⟨gb135,1,none⟩ = some (.int .u64 t144) ∧ w'.cell? ⟨gb135,2,none⟩ = some (.slice Ao30 t145.length co30) ∧ w'.cell? (ad139.add ((x9_2).toNat * 4)) = some (.int .i64 ((rd_T40 l1 x9_2).f0)) ∧ w'.cell? ⟨(ad139.add ((x9_2).toNat * 4)).block,(ad139.add ((x9_2).toNat * 4)).off + 1,none⟩ = some (.int .u64 ((rd_T40 l1 x9_2).f1)) ∧ w'.cell? ⟨(ad139.add ((x9_2).toNat * 4)).block,(ad139.add ((x9_2).toNat * 4)).off + 2,none⟩ = some (.string ((rd_T40 l1 x9_2).f2)) ∧ w'.cell? ⟨(ad139.add ((x9_2).toNat * 4)).block,(ad139.add ((x9_2).toNat * 4)).off + 3,none⟩ = some (.string ((rd_T40 l1 x9_2).f3))) (ds := []) #[false,false,false,false,false,false,false,false,false,false,false,false,false,false,false,false] (by kernel_rfl) rfl rfl ⟨(blk_cell BK135.out 0).trans rfl,(blk_cell BK135.out 1).trans rfl,(blk_cell BK135.out 2).trans rfl,(up_ HB.out hw158_0),(up_ HB.out hw158_1),(up_ HB.out hw158_2),(up_ HB.out hw158_3)⟩ (fun hHeld => ?_);refine with_tabW dominolaw10_IdealOwn.tab17 dominolaw10_IdealOwn.bits17 (fun HT_ HW_ => ?_)
                  generalize w58.drew = w59 at HO_136002 HO_150002 HO153 BK135 BK149 HB hx158_0 hx158_1 hx158_2 hx158_3 hHeld ⊢
                  refine pure_ (i := 1) (N := some 101) (v := ?_) (a' := ?_) #[false,true,false,false,false,false,false,false,false,false,false,false,false,false,false,false] rfl rfl (any_of HT_.out (by kernel_rfl)) (fun _ _ _ h => h) (Or.inl ⟨by rfl,?_⟩) ?_ ?_
                  rotate_left;(intro w';go_simp;with_reducible rfl);rotate_left;(simp only [Act.put,List.setIfInBounds_toArray,List.set_cons_zero,List.set_cons_succ,i64_w,i32_w];rfl)
                  refine pure_ (i := 2) (N := some 102) (v := ?_) (a' := ?_) #[false,true,true,false,false,false,false,false,false,false,false,false,false,false,false,false] rfl rfl (any_of HT_.out (by kernel_rfl)) (fun _ _ _ h => h) (Or.inl ⟨by rfl,?_⟩) ?_ ?_
                  rotate_left;(intro w';go_simp;with_reducible rfl);rotate_left;(simp only [Act.put,List.setIfInBounds_toArray,List.set_cons_zero,List.set_cons_succ,i64_w,i32_w];rfl)
                  refine pure_ (i := 3) (N := some 103) (v := ?_) (a' := ?_) #[false,true,true,true,false,false,false,false,false,false,false,false,false,false,false,false] rfl rfl (any_of HT_.out (by kernel_rfl)) (fun _ _ _ h => h) (Or.inl ⟨by rfl,?_⟩) ?_ ?_
                  rotate_left;(intro w';go_simp;with_reducible rfl);rotate_left;(simp only [Act.put,List.setIfInBounds_toArray,List.set_cons_zero,List.set_cons_succ,i64_w,i32_w];rfl)
                  refine pure_ (i := 4) (N := some 104) (v := ?_) (a' := ?_) #[false,true,true,true,true,false,false,false,false,false,false,false,false,false,false,false] rfl rfl (any_of HT_.out (by kernel_rfl)) (fun _ _ _ h => h) (Or.inl ⟨by rfl,?_⟩) ?_ ?_
                  rotate_left;(intro w';go_simp;with_reducible rfl);rotate_left;(simp only [Act.put,List.setIfInBounds_toArray,List.set_cons_zero,List.set_cons_succ,i64_w,i32_w];rfl)
                  refine pure_ (i := 7) (N := some 107) (v := ?_) (a' := ?_) #[false,true,true,true,true,false,false,true,false,false,false,false,false,false,false,false] rfl rfl (any_of HT_.out (by kernel_rfl)) (fun _ _ _ h => h) (Or.inl ⟨by rfl,?_⟩) ?_ ?_
                  rotate_left;(intro w';go_simp;with_reducible rfl);rotate_left;(simp only [Act.put,List.setIfInBounds_toArray,List.set_cons_zero,List.set_cons_succ,i64_w,i32_w];rfl)
                  refine take_ (i := 0) (N := some 100) (v := ?_) (a' := ?_) #[true,true,true,true,true,false,false,true,false,false,false,false,false,false,false,false] rfl rfl (take_ofW HT_.out HW_.out (by kernel_rfl)) (fun _ _ _ h => h) (Or.inl ⟨by rfl,?_⟩) hHeld ?_ ?_
                  rotate_left
                  ·rintro w' ⟨s0,s1,s2,s3,s4,s5,s6⟩
                   go_simp
                   with_reducible rfl
                  rotate_left
                  ·simp only [Act.put,List.setIfInBounds_toArray,List.set_cons_zero,List.set_cons_succ,i64_w,i32_w]
                   rfl
                  refine take_ (i := 5) (N := some 105) (v := ?_) (a' := ?_) #[true,true,true,true,true,true,false,true,false,false,false,false,false,false,false,false] rfl rfl (take_ofW HT_.out HW_.out (by kernel_rfl)) (fun _ _ _ h => h) (Or.inl ⟨by rfl,?_⟩) hHeld ?_ ?_
                  rotate_left
                  ·rintro w' ⟨s0,s1,s2,s3,s4,s5,s6⟩
                   go_simp
                   with_reducible rfl
                  rotate_left
                  ·simp only [Act.put,List.setIfInBounds_toArray,List.set_cons_zero,List.set_cons_succ,i64_w,i32_w]
                   rfl
                  refine pure_ (i := 6) (N := some 106) (v := ?_) (a' := ?_) #[true,true,true,true,true,true,true,true,false,false,false,false,false,false,false,false] rfl rfl (any_of HT_.out (by kernel_rfl)) (fun _ _ _ h => h) (Or.inl ⟨by rfl,?_⟩) ?_ ?_
                  rotate_left;(intro w';go_simp;with_reducible rfl);rotate_left;(simp only [Act.put,List.setIfInBounds_toArray,List.set_cons_zero,List.set_cons_succ,i64_w,i32_w];rfl)
                  refine one_ (i := 8) (N := some 108) #[true,true,true,true,true,true,true,true,true,false,false,false,false,false,false,false] rfl rfl (one_of HT_.out (by kernel_rfl)) (by decide) (fun K hK => ?_)
                  refine goes_ Try.func23 (by kernel_rfl) rfl #[.agg #[.int .u64 t143,.int .u64 t144,.slice Ao30 t145.length co30],.int .i64 (wrap64 (((rd_T40 l1 x9_2).f0) + 1)),.string t148] (by rfl) rfl rfl (by (try simp only [List.map_toArray,List.map_cons,List.map_nil]);first | done | rfl | (simp only [List.length_drop,List.length_take];rfl)) ?_
                  with_reducible refine (ideal_Open.calls t143 t144 _ _ t145 (wrap64 (((rd_T40 l1 x9_2).f0) + 1)) t148 t159 t160 true _ ?side1 ?side2 A44.out).mono ?_
                  (case side1 => repeat (first | exact (Kd.R_reads' HO_136002.out).2.2 | (with_reducible refine Kd.C_alloc ?_ _) | (with_reducible refine Kd.C_drewN ?_ _) | (with_reducible refine Kd.C_drew ?_)))
                  (case side2 => exact (Kd.R_reads' HO_136002.out).2.1)
                  rintro e w60 ⟨rfl,hb⟩
                  refine ⟨_,rfl,?_⟩
                  have n0_ := Aside0.mk (Kd.R_below (by (with_reducible repeat (first | apply Kd.R_alloc | apply Kd.R_drewN | apply Kd.R_drew));exact HO_136002.out) hb)
                  have n1_ := Aside0.mk (Kd.R_below (by (with_reducible repeat (first | apply Kd.R_alloc | apply Kd.R_drewN | apply Kd.R_drew));exact HO_150002.out) hb)
                  have n2_ := Aside0.mk (Kd.R_below (by (with_reducible repeat (first | apply Kd.R_alloc | apply Kd.R_drewN | apply Kd.R_drew));exact HO153.out) hb)
                  have n3_ := Aside0.mk (blk_below (g := gb135) (o := .cells #[.int .u64 t143,.int .u64 t144,.slice Ao30 t145.length co30] 31 (0,0)) (by (with_reducible repeat (first | refine blk_drewN ?_ _ | refine blk_drew ?_ | refine blk_alloc ?_ _));exact BK135.out) hb)
                  have n4_ := Aside0.mk (blk_below (g := gb149) (o := .cells #[.int .u64 t143,.int .u64 t144,.slice Ao30 t145.length co30] 31 (0,0)) (by (with_reducible repeat (first | refine blk_drewN ?_ _ | refine blk_drew ?_ | refine blk_alloc ?_ _));exact BK149.out) hb)
                  have n5_ := Aside0.mk (below_step (by repeat (first | (with_reducible first | exact HB.out | apply below_alloc | apply pw_below_drewN | apply below_drew1 | refine below_set ?_ GE135.out | refine below_set ?_ GE149.out) | exact HB.out)) hb)
                  clear HO_136002
                  clear HO_150002
                  clear HO153
                  clear BK135
                  clear BK149
                  clear HB
                  have HO_136002 := n0_
                  have HO_150002 := n1_
                  have HO153 := n2_
                  have BK135 := n3_
                  have BK149 := n4_
                  have HB := n5_
                  clear n0_ n1_ n2_ n3_ n4_ n5_
                  (try clear hb)
                  (try clear hb2)
                  (try clear hk)
                  (try clear hi)
                  refine hK.out _ _ ⟨(blk_cell BK135.out 0).trans rfl,(blk_cell BK135.out 1).trans rfl,(blk_cell BK135.out 2).trans rfl,(up_ HB.out hw158_0),(up_ HB.out hw158_1),(up_ HB.out hw158_2),(up_ HB.out hw158_3)⟩ (fun hHeld => ?_)
                  clear hK K
                  refine norm_ (a' := ?_) ?_ ?_
                  rotate_left
                  ·show Act.put _ (some 108) _ = _
                   simp only [Act.put,List.setIfInBounds_toArray,List.set_cons_zero,List.set_cons_succ,i64_w,i32_w]
                   rfl
                  refine pure_ (i := 9) (N := some 99) (v := ?_) (a' := ?_) #[true,true,true,true,true,true,true,true,true,true,false,false,false,false,false,false] rfl rfl (any_of HT_.out (by kernel_rfl)) (fun _ _ _ h => h) (Or.inl ⟨by rfl,?_⟩) ?_ ?_
                  rotate_left;(intro w';go_simp;with_reducible rfl);rotate_left;(simp only [Act.put,List.setIfInBounds_toArray,List.set_cons_zero,List.set_cons_succ,i64_w,i32_w];rfl)
                  refine pure_ (i := 10) (N := some 109) (v := ?_) (a' := ?_) #[true,true,true,true,true,true,true,true,true,true,true,false,false,false,false,false] rfl rfl (any_of HT_.out (by kernel_rfl)) (fun _ _ _ h => h) (Or.inl ⟨by rfl,?_⟩) ?_ ?_
                  rotate_left;(intro w';go_simp;with_reducible rfl);rotate_left;(simp only [Act.put,List.setIfInBounds_toArray,List.set_cons_zero,List.set_cons_succ,i64_w,i32_w];rfl)
                  refine pure_ (i := 11) (N := some 110) (v := ?_) (a' := ?_) #[true,true,true,true,true,true,true,true,true,true,true,true,false,false,false,false] rfl rfl (any_of HT_.out (by kernel_rfl)) (fun _ _ _ h => h) (Or.inl ⟨by rfl,?_⟩) ?_ ?_
                  rotate_left;(intro w';go_simp;with_reducible rfl);rotate_left;(simp only [Act.put,List.setIfInBounds_toArray,List.set_cons_zero,List.set_cons_succ,i64_w,i32_w];rfl)
                  refine pure_ (i := 12) (N := some 111) (v := ?_) (a' := ?_) #[true,true,true,true,true,true,true,true,true,true,true,true,true,false,false,false] rfl rfl (any_of HT_.out (by kernel_rfl)) (fun _ _ _ h => h) (Or.inl ⟨by rfl,?_⟩) ?_ ?_
                  rotate_left;(intro w';go_simp;with_reducible rfl);rotate_left;(simp only [Act.put,List.setIfInBounds_toArray,List.set_cons_zero,List.set_cons_succ,i64_w,i32_w];rfl)
                  refine pure_ (i := 13) (N := some 16) (v := ?_) (a' := ?_) #[true,true,true,true,true,true,true,true,true,true,true,true,true,true,false,false] rfl rfl (any_of HT_.out (by kernel_rfl)) (fun _ _ _ h => h) (Or.inl ⟨by rfl,?_⟩) ?_ ?_
                  rotate_left;(intro w';go_simp;with_reducible rfl);rotate_left;(simp only [Act.put,List.setIfInBounds_toArray,List.set_cons_zero,List.set_cons_succ,i64_w,i32_w];rfl)
                  refine pure_ (i := 14) (N := some 17) (v := ?_) (a' := ?_) #[true,true,true,true,true,true,true,true,true,true,true,true,true,true,true,false] rfl rfl (any_of HT_.out (by kernel_rfl)) (fun _ _ _ h => h) (Or.inl ⟨by rfl,?_⟩) ?_ ?_
                  rotate_left;(intro w';go_simp;with_reducible rfl);rotate_left;(simp only [Act.put,List.setIfInBounds_toArray,List.set_cons_zero,List.set_cons_succ,i64_w,i32_w];rfl)
                  refine pure_ (i := 15) (N := some 18) (v := ?_) (a' := ?_) #[true,true,true,true,true,true,true,true,true,true,true,true,true,true,true,true] rfl rfl (any_of HT_.out (by kernel_rfl)) (fun _ _ _ h => h) (Or.inl ⟨by rfl,?_⟩) ?_ ?_
                  rotate_left;(intro w';go_simp;with_reducible rfl);rotate_left;(simp only [Act.put,List.setIfInBounds_toArray,List.set_cons_zero,List.set_cons_succ,i64_w,i32_w];rfl)
                  refine done_ (done_of HT_.out (by kernel_rfl)) ?_
                  have p162 : 0 ≤ (x9_2 : Int) := of_decide_eq_true (by first | (with_reducible assumption) | assumption)
                  have q162 : x9_2 < (l1.length : Int) := of_decide_eq_true (by first | (with_reducible assumption) | assumption)
                  obtain ⟨ad162,e162,hx162_0,hx162_1,hx162_2,hx162_3⟩ := at_T40 HR1.out x9_2 p162 q162
                  obtain rfl : ad139 = ad162 := (by injection e162)
                  replace hx162_0 := (HB.out.cell (World.block_lt_of_cell? w _ hx162_0)).trans hx162_0
                  replace hx162_1 := (HB.out.cell (World.block_lt_of_cell? w _ hx162_1)).trans hx162_1
                  replace hx162_2 := (HB.out.cell (World.block_lt_of_cell? w _ hx162_2)).trans hx162_2
                  replace hx162_3 := (HB.out.cell (World.block_lt_of_cell? w _ hx162_3)).trans hx162_3
                  replace p162 := eq_true p162
                  replace q162 := eq_true q162
                  have p163 : 0 ≤ (x9_2 : Int) := of_decide_eq_true (by first | (with_reducible assumption) | assumption)
                  have q163 : x9_2 < (l1.length : Int) := of_decide_eq_true (by first | (with_reducible assumption) | assumption)
                  obtain ⟨ad163,e163,hx163_0,hx163_1,hx163_2,hx163_3⟩ := at_T40 HR1.out x9_2 p163 q163
                  obtain rfl : ad139 = ad163 := (by injection e163)
                  replace hx163_0 := (HB.out.cell (World.block_lt_of_cell? w _ hx163_0)).trans hx163_0
                  replace hx163_1 := (HB.out.cell (World.block_lt_of_cell? w _ hx163_1)).trans hx163_1
                  replace hx163_2 := (HB.out.cell (World.block_lt_of_cell? w _ hx163_2)).trans hx163_2
                  replace hx163_3 := (HB.out.cell (World.block_lt_of_cell? w _ hx163_3)).trans hx163_3
                  replace p163 := eq_true p163
                  replace q163 := eq_true q163
                  try go_wp2
                  go_roundg k3
                  case measure => have := HJ3.out;have := HK2.out;have := HK3.out;omega
                  case rel => exact ⟨(y151),(wrap64 (x9_2 + 1)),(t143),(t144),(t145),(.slice Ao30 t145.length co30),(by first | rfl | (simp;done) | (simp [*];done)),H',⟨by have := HJ3.out;have := HK2.out;have := HK3.out;omega⟩,⟨by (with_reducible repeat (first | apply Kd.R_alloc | apply Kd.R_drewN | apply Kd.R_drew));exact HO153.out⟩,⟨by (with_reducible repeat (first | apply Kd.R_alloc | apply Kd.R_drewN | apply Kd.R_drew));exact HO_136002.out⟩,⟨by (with_reducible repeat (first | refine blk_drewN ?_ _ | refine blk_drew ?_ | refine blk_alloc ?_ _));exact BK135.out⟩,⟨by repeat (first | (with_reducible first | exact HB.out | apply below_alloc | apply pw_below_drewN | apply below_drew1 | refine below_set ?_ GE135.out | refine below_set ?_ GE149.out) | exact HB.out)⟩⟩
                 ·rw [if_neg c54] at H
                  have c54b0 : (t160.toList == ((rd_T40 l1 x9_2).f3).toList) = false := beq_eq_false_iff_ne.mpr c54
                  have c54b1 : (t160.toList != ((rd_T40 l1 x9_2).f3).toList) = true := bne_iff_ne.mpr c54
                  obtain rfl := Option.some.inj H
                  obtain ⟨Ao61,co61,eo61⟩ := Kd.R_slice HO_8.out
                  subst eo61
                  try go_wp2_with (first | ((with_reducible refine gate_builtin (b := .append) (xs := #[.tmp 83,.tmp 85]) rfl ?_);(try (refine gate_guard (by rfl) ?_;dsimp only));at_builtin;refine Kd.R_append Kd.string (w0 := w) w.heap.size rfl (.tmp 83) (.tmp 85) 52 9 (.string ⟨#[]⟩) 16 rfl Try.underlying52 info9 rfl (by decide) (by omega) (.slice Ao61 x8_2.length co61) x8_2 t148 [.string t148] (fun _ => True) (fun _ => False) rfl rfl ?aP (fun _ hk => hk.elim) ?aF ?aO ?aB ?aS ?aL ?_;(case aP => exact rfl);(case aB => exact (by repeat (first | (with_reducible first | exact HB.out | apply below_alloc | apply pw_below_drewN | apply below_drew1 | refine below_set ?_ GE135.out | refine below_set ?_ GE149.out) | exact HB.out)));(case aF => exact (fun _ _ => trivial));(case aO => exact (by (with_reducible repeat (first | apply Kd.R_alloc | apply Kd.R_drewN | apply Kd.R_drew));exact HO_8.out));(case aS => exact (below_size (by repeat (first | (with_reducible first | exact HB.out | apply below_alloc | apply pw_below_drewN | apply below_drew1 | refine below_set ?_ GE135.out | refine below_set ?_ GE149.out) | exact HB.out))));(case aL => have := LMc40.out;omega);intro v152 w62 ho hb hg hat;rw [← Ny151.out] at ho;have n0_ := Aside0.mk (Kd.R_over' (by (with_reducible repeat (first | apply Kd.R_alloc | apply Kd.R_drewN | apply Kd.R_drew));exact HO_136002.out) (Kd.R_typed (by (with_reducible repeat (first | apply Kd.R_alloc | apply Kd.R_drewN | apply Kd.R_drew));exact HO_8.out)) (by decide) hg);have n1_ := Aside0.mk (Kd.R_over' (by (with_reducible repeat (first | apply Kd.R_alloc | apply Kd.R_drewN | apply Kd.R_drew));exact HO_150002.out) (Kd.R_typed (by (with_reducible repeat (first | apply Kd.R_alloc | apply Kd.R_drewN | apply Kd.R_drew));exact HO_8.out)) (by decide) hg);have n2_ := Aside0.mk (blk_grown (g := gb135) (o := .cells #[.int .u64 t143,.int .u64 t144,.slice Ao30 t145.length co30] 31 (0,0)) (by (with_reducible repeat (first | refine blk_drewN ?_ _ | refine blk_drew ?_ | refine blk_alloc ?_ _));exact BK135.out) hg (Kd.R_ne HO_8.out BK135.out (by decide)));have n3_ := Aside0.mk (blk_grown (g := gb149) (o := .cells #[.int .u64 t143,.int .u64 t144,.slice Ao30 t145.length co30] 31 (0,0)) (by (with_reducible repeat (first | refine blk_drewN ?_ _ | refine blk_drew ?_ | refine blk_alloc ?_ _));exact BK149.out) hg (Kd.R_ne HO_8.out BK149.out (by decide)));have n4_ := Aside0.mk (hb);have n5_ := Aside0.mk (ho);clear HO_136002;clear HO_150002;clear BK135;clear BK149;clear HB;clear HO_8;have HO_136002 := n0_;have HO_150002 := n1_;have BK135 := n2_;have BK149 := n3_;have HB := n4_;have HO153 := n5_;clear n0_ n1_ n2_ n3_ n4_ n5_;clear ho hb hg hat))
                  have n0_ := Aside0.mk (Kd.R_drew HO_136002.out)
                  have n1_ := Aside0.mk (Kd.R_drew HO_150002.out)
                  have n2_ := Aside0.mk (Kd.R_drew HO153.out)
                  have n3_ := Aside0.mk (blk_drew BK135.out)
                  have n4_ := Aside0.mk (blk_drew BK149.out)
                  have n5_ := Aside0.mk (below_drew1 HB.out)
                  clear HO_136002
                  clear HO_150002
                  clear HO153
                  clear BK135
                  clear BK149
                  clear HB
                  have HO_136002 := n0_
                  have HO_150002 := n1_
                  have HO153 := n2_
                  have BK135 := n3_
                  have BK149 := n4_
                  have HB := n5_
                  clear n0_ n1_ n2_ n3_ n4_ n5_
                  have p154 : 0 ≤ (x9_2 : Int) := of_decide_eq_true (by first | (with_reducible assumption) | assumption)
                  have q154 : x9_2 < (l1.length : Int) := of_decide_eq_true (by first | (with_reducible assumption) | assumption)
                  obtain ⟨ad154,e154,hx154_0,hx154_1,hx154_2,hx154_3⟩ := at_T40 HR1.out x9_2 p154 q154
                  have hw154_3 := hx154_3
                  have hw154_2 := hx154_2
                  have hw154_1 := hx154_1
                  have hw154_0 := hx154_0
                  obtain rfl : ad139 = ad154 := (by injection e154)
                  replace hx154_0 := (HB.out.cell (World.block_lt_of_cell? w _ hx154_0)).trans hx154_0
                  replace hx154_1 := (HB.out.cell (World.block_lt_of_cell? w _ hx154_1)).trans hx154_1
                  replace hx154_2 := (HB.out.cell (World.block_lt_of_cell? w _ hx154_2)).trans hx154_2
                  replace hx154_3 := (HB.out.cell (World.block_lt_of_cell? w _ hx154_3)).trans hx154_3
                  replace p154 := eq_true p154
                  replace q154 := eq_true q154
                  refine start_ (n := 15) (S := fun w' => w'.cell? ⟨gb135,0,none⟩ = some (.int .u64 t143) ∧ w'.cell? ⟨gb135,1,none⟩ = some (.int .u64 t144) ∧ w'.cell? ⟨gb135,2,none⟩ = some (.slice Ao30 t145.length co30) ∧ w'.cell? (ad139.add ((x9_2).toNat * 4)) = some (.int .i64 ((rd_T40 l1 x9_2).f0)) ∧ w'.cell? ⟨(ad139.add ((x9_2).toNat * 4)).block,(ad139.add ((x9_2).toNat * 4)).off + 1,none⟩ = some (.int .u64 ((rd_T40 l1 x9_2).f1)) ∧ w'.cell? ⟨(ad139.add ((x9_2).toNat * 4)).block,(ad139.add ((x9_2).toNat * 4)).off + 2,none⟩ = some (.string ((rd_T40 l1 x9_2).f2)) ∧ w'.cell? ⟨(ad139.add ((x9_2).toNat * 4)).block,(ad139.add ((x9_2).toNat * 4)).off + 3,none⟩ = some (.string ((rd_T40 l1 x9_2).f3))) (ds := []) #[false,false,false,false,false,false,false,false,false,false,false,false,false,false,false] (by kernel_rfl) rfl rfl ⟨(blk_cell BK135.out 0).trans rfl,(blk_cell BK135.out 1).trans rfl,(blk_cell BK135.out 2).trans rfl,(up_ HB.out hw154_0),(up_ HB.out hw154_1),(up_ HB.out hw154_2),(up_ HB.out hw154_3)⟩ (fun hHeld => ?_);refine with_tabW dominolaw10_IdealOwn.tab16 dominolaw10_IdealOwn.bits16 (fun HT_ HW_ => ?_)
                  generalize w62.drew = w63 at HO_136002 HO_150002 HO153 BK135 BK149 HB hx154_0 hx154_1 hx154_2 hx154_3 hHeld ⊢
                  refine pure_ (i := 1) (N := some 89) (v := ?_) (a' := ?_) #[false,true,false,false,false,false,false,false,false,false,false,false,false,false,false] rfl rfl (any_of HT_.out (by kernel_rfl)) (fun _ _ _ h => h) (Or.inl ⟨by rfl,?_⟩) ?_ ?_
                  rotate_left;(intro w';go_simp;with_reducible rfl);rotate_left;(simp only [Act.put,List.setIfInBounds_toArray,List.set_cons_zero,List.set_cons_succ,i64_w,i32_w];rfl)
                  refine pure_ (i := 2) (N := some 90) (v := ?_) (a' := ?_) #[false,true,true,false,false,false,false,false,false,false,false,false,false,false,false] rfl rfl (any_of HT_.out (by kernel_rfl)) (fun _ _ _ h => h) (Or.inl ⟨by rfl,?_⟩) ?_ ?_
                  rotate_left;(intro w';go_simp;with_reducible rfl);rotate_left;(simp only [Act.put,List.setIfInBounds_toArray,List.set_cons_zero,List.set_cons_succ,i64_w,i32_w];rfl)
                  refine pure_ (i := 3) (N := some 91) (v := ?_) (a' := ?_) #[false,true,true,true,false,false,false,false,false,false,false,false,false,false,false] rfl rfl (any_of HT_.out (by kernel_rfl)) (fun _ _ _ h => h) (Or.inl ⟨by rfl,?_⟩) ?_ ?_
                  rotate_left;(intro w';go_simp;with_reducible rfl);rotate_left;(simp only [Act.put,List.setIfInBounds_toArray,List.set_cons_zero,List.set_cons_succ,i64_w,i32_w];rfl)
                  refine pure_ (i := 4) (N := some 92) (v := ?_) (a' := ?_) #[false,true,true,true,true,false,false,false,false,false,false,false,false,false,false] rfl rfl (any_of HT_.out (by kernel_rfl)) (fun _ _ _ h => h) (Or.inl ⟨by rfl,?_⟩) ?_ ?_
                  rotate_left;(intro w';go_simp;with_reducible rfl);rotate_left;(simp only [Act.put,List.setIfInBounds_toArray,List.set_cons_zero,List.set_cons_succ,i64_w,i32_w];rfl)
                  refine pure_ (i := 6) (N := some 94) (v := ?_) (a' := ?_) #[false,true,true,true,true,false,true,false,false,false,false,false,false,false,false] rfl rfl (any_of HT_.out (by kernel_rfl)) (fun _ _ _ h => h) (Or.inl ⟨by rfl,?_⟩) ?_ ?_
                  rotate_left;(intro w';go_simp;with_reducible rfl);rotate_left;(simp only [Act.put,List.setIfInBounds_toArray,List.set_cons_zero,List.set_cons_succ,i64_w,i32_w];rfl)
                  refine take_ (i := 0) (N := some 88) (v := ?_) (a' := ?_) #[true,true,true,true,true,false,true,false,false,false,false,false,false,false,false] rfl rfl (take_ofW HT_.out HW_.out (by kernel_rfl)) (fun _ _ _ h => h) (Or.inl ⟨by rfl,?_⟩) hHeld ?_ ?_
                  rotate_left
                  ·rintro w' ⟨s0,s1,s2,s3,s4,s5,s6⟩
                   go_simp
                   with_reducible rfl
                  rotate_left
                  ·simp only [Act.put,List.setIfInBounds_toArray,List.set_cons_zero,List.set_cons_succ,i64_w,i32_w]
                   rfl
                  refine take_ (i := 5) (N := some 93) (v := ?_) (a' := ?_) #[true,true,true,true,true,true,true,false,false,false,false,false,false,false,false] rfl rfl (take_ofW HT_.out HW_.out (by kernel_rfl)) (fun _ _ _ h => h) (Or.inl ⟨by rfl,?_⟩) hHeld ?_ ?_
                  rotate_left
                  ·rintro w' ⟨s0,s1,s2,s3,s4,s5,s6⟩
                   go_simp
                   with_reducible rfl
                  rotate_left
                  ·simp only [Act.put,List.setIfInBounds_toArray,List.set_cons_zero,List.set_cons_succ,i64_w,i32_w]
                   rfl
                  refine one_ (i := 7) (N := some 95) #[true,true,true,true,true,true,true,true,false,false,false,false,false,false,false] rfl rfl (one_of HT_.out (by kernel_rfl)) (by decide) (fun K hK => ?_)
                  refine goes_ Try.func23 (by kernel_rfl) rfl #[.agg #[.int .u64 t143,.int .u64 t144,.slice Ao30 t145.length co30],.int .i64 ((rd_T40 l1 x9_2).f0),.string t148] (by rfl) rfl rfl (by (try simp only [List.map_toArray,List.map_cons,List.map_nil]);first | done | rfl | (simp only [List.length_drop,List.length_take];rfl)) ?_
                  with_reducible refine (ideal_Open.calls t143 t144 _ _ t145 ((rd_T40 l1 x9_2).f0) t148 t155 t156 false _ ?side1 ?side2 A43.out).mono ?_
                  (case side1 => repeat (first | exact (Kd.R_reads' HO_136002.out).2.2 | (with_reducible refine Kd.C_alloc ?_ _) | (with_reducible refine Kd.C_drewN ?_ _) | (with_reducible refine Kd.C_drew ?_)))
                  (case side2 => exact (Kd.R_reads' HO_136002.out).2.1)
                  rintro e w64 ⟨rfl,hb⟩
                  refine ⟨_,rfl,?_⟩
                  have n0_ := Aside0.mk (Kd.R_below (by (with_reducible repeat (first | apply Kd.R_alloc | apply Kd.R_drewN | apply Kd.R_drew));exact HO_136002.out) hb)
                  have n1_ := Aside0.mk (Kd.R_below (by (with_reducible repeat (first | apply Kd.R_alloc | apply Kd.R_drewN | apply Kd.R_drew));exact HO_150002.out) hb)
                  have n2_ := Aside0.mk (Kd.R_below (by (with_reducible repeat (first | apply Kd.R_alloc | apply Kd.R_drewN | apply Kd.R_drew));exact HO153.out) hb)
                  have n3_ := Aside0.mk (blk_below (g := gb135) (o := .cells #[.int .u64 t143,.int .u64 t144,.slice Ao30 t145.length co30] 31 (0,0)) (by (with_reducible repeat (first | refine blk_drewN ?_ _ | refine blk_drew ?_ | refine blk_alloc ?_ _));exact BK135.out) hb)
                  have n4_ := Aside0.mk (blk_below (g := gb149) (o := .cells #[.int .u64 t143,.int .u64 t144,.slice Ao30 t145.length co30] 31 (0,0)) (by (with_reducible repeat (first | refine blk_drewN ?_ _ | refine blk_drew ?_ | refine blk_alloc ?_ _));exact BK149.out) hb)
                  have n5_ := Aside0.mk (below_step (by repeat (first | (with_reducible first | exact HB.out | apply below_alloc | apply pw_below_drewN | apply below_drew1 | refine below_set ?_ GE135.out | refine below_set ?_ GE149.out) | exact HB.out)) hb)
                  clear HO_136002
                  clear HO_150002
                  clear HO153
                  clear BK135
                  clear BK149
                  clear HB
                  have HO_136002 := n0_
                  have HO_150002 := n1_
                  have HO153 := n2_
                  have BK135 := n3_
                  have BK149 := n4_
                  have HB := n5_
                  clear n0_ n1_ n2_ n3_ n4_ n5_
                  (try clear hb)
                  (try clear hb2)
                  (try clear hk)
                  (try clear hi)
                  refine hK.out _ _ ⟨(blk_cell BK135.out 0).trans rfl,(blk_cell BK135.out 1).trans rfl,(blk_cell BK135.out 2).trans rfl,(up_ HB.out hw154_0),(up_ HB.out hw154_1),(up_ HB.out hw154_2),(up_ HB.out hw154_3)⟩ (fun hHeld => ?_)
                  clear hK K
                  refine norm_ (a' := ?_) ?_ ?_
                  rotate_left
                  ·show Act.put _ (some 95) _ = _
                   simp only [Act.put,List.setIfInBounds_toArray,List.set_cons_zero,List.set_cons_succ,i64_w,i32_w]
                   rfl
                  refine pure_ (i := 8) (N := some 87) (v := ?_) (a' := ?_) #[true,true,true,true,true,true,true,true,true,false,false,false,false,false,false] rfl rfl (any_of HT_.out (by kernel_rfl)) (fun _ _ _ h => h) (Or.inl ⟨by rfl,?_⟩) ?_ ?_
                  rotate_left;(intro w';go_simp;with_reducible rfl);rotate_left;(simp only [Act.put,List.setIfInBounds_toArray,List.set_cons_zero,List.set_cons_succ,i64_w,i32_w];rfl)
                  refine pure_ (i := 9) (N := some 96) (v := ?_) (a' := ?_) #[true,true,true,true,true,true,true,true,true,true,false,false,false,false,false] rfl rfl (any_of HT_.out (by kernel_rfl)) (fun _ _ _ h => h) (Or.inl ⟨by rfl,?_⟩) ?_ ?_
                  rotate_left;(intro w';go_simp;with_reducible rfl);rotate_left;(simp only [Act.put,List.setIfInBounds_toArray,List.set_cons_zero,List.set_cons_succ,i64_w,i32_w];rfl)
                  refine pure_ (i := 10) (N := some 97) (v := ?_) (a' := ?_) #[true,true,true,true,true,true,true,true,true,true,true,false,false,false,false] rfl rfl (any_of HT_.out (by kernel_rfl)) (fun _ _ _ h => h) (Or.inl ⟨by rfl,?_⟩) ?_ ?_
                  rotate_left;(intro w';go_simp;with_reducible rfl);rotate_left;(simp only [Act.put,List.setIfInBounds_toArray,List.set_cons_zero,List.set_cons_succ,i64_w,i32_w];rfl)
                  refine pure_ (i := 11) (N := some 98) (v := ?_) (a' := ?_) #[true,true,true,true,true,true,true,true,true,true,true,true,false,false,false] rfl rfl (any_of HT_.out (by kernel_rfl)) (fun _ _ _ h => h) (Or.inl ⟨by rfl,?_⟩) ?_ ?_
                  rotate_left;(intro w';go_simp;with_reducible rfl);rotate_left;(simp only [Act.put,List.setIfInBounds_toArray,List.set_cons_zero,List.set_cons_succ,i64_w,i32_w];rfl)
                  refine pure_ (i := 12) (N := some 13) (v := ?_) (a' := ?_) #[true,true,true,true,true,true,true,true,true,true,true,true,true,false,false] rfl rfl (any_of HT_.out (by kernel_rfl)) (fun _ _ _ h => h) (Or.inl ⟨by rfl,?_⟩) ?_ ?_
                  rotate_left;(intro w';go_simp;with_reducible rfl);rotate_left;(simp only [Act.put,List.setIfInBounds_toArray,List.set_cons_zero,List.set_cons_succ,i64_w,i32_w];rfl)
                  refine pure_ (i := 13) (N := some 14) (v := ?_) (a' := ?_) #[true,true,true,true,true,true,true,true,true,true,true,true,true,true,false] rfl rfl (any_of HT_.out (by kernel_rfl)) (fun _ _ _ h => h) (Or.inl ⟨by rfl,?_⟩) ?_ ?_
                  rotate_left;(intro w';go_simp;with_reducible rfl);rotate_left;(simp only [Act.put,List.setIfInBounds_toArray,List.set_cons_zero,List.set_cons_succ,i64_w,i32_w];rfl)
                  refine pure_ (i := 14) (N := some 15) (v := ?_) (a' := ?_) #[true,true,true,true,true,true,true,true,true,true,true,true,true,true,true] rfl rfl (any_of HT_.out (by kernel_rfl)) (fun _ _ _ h => h) (Or.inl ⟨by rfl,?_⟩) ?_ ?_
                  rotate_left;(intro w';go_simp;with_reducible rfl);rotate_left;(simp only [Act.put,List.setIfInBounds_toArray,List.set_cons_zero,List.set_cons_succ,i64_w,i32_w];rfl)
                  refine done_ (done_of HT_.out (by kernel_rfl)) ?_
                  try go_wp2
                  have n0_ := Aside0.mk (Kd.R_drew HO_136002.out)
                  have n1_ := Aside0.mk (Kd.R_drew HO_150002.out)
                  have n2_ := Aside0.mk (Kd.R_drew HO153.out)
                  have n3_ := Aside0.mk (blk_drew BK135.out)
                  have n4_ := Aside0.mk (blk_drew BK149.out)
                  have n5_ := Aside0.mk (below_drew1 HB.out)
                  clear HO_136002
                  clear HO_150002
                  clear HO153
                  clear BK135
                  clear BK149
                  clear HB
                  have HO_136002 := n0_
                  have HO_150002 := n1_
                  have HO153 := n2_
                  have BK135 := n3_
                  have BK149 := n4_
                  have HB := n5_
                  clear n0_ n1_ n2_ n3_ n4_ n5_
                  have p158 : 0 ≤ (x9_2 : Int) := of_decide_eq_true (by first | (with_reducible assumption) | assumption)
                  have q158 : x9_2 < (l1.length : Int) := of_decide_eq_true (by first | (with_reducible assumption) | assumption)
                  obtain ⟨ad158,e158,hx158_0,hx158_1,hx158_2,hx158_3⟩ := at_T40 HR1.out x9_2 p158 q158
                  have hw158_3 := hx158_3
                  have hw158_2 := hx158_2
                  have hw158_1 := hx158_1
                  have hw158_0 := hx158_0
                  obtain rfl : ad139 = ad158 := (by injection e158)
                  replace hx158_0 := (HB.out.cell (World.block_lt_of_cell? w _ hx158_0)).trans hx158_0
                  replace hx158_1 := (HB.out.cell (World.block_lt_of_cell? w _ hx158_1)).trans hx158_1
                  replace hx158_2 := (HB.out.cell (World.block_lt_of_cell? w _ hx158_2)).trans hx158_2
                  replace hx158_3 := (HB.out.cell (World.block_lt_of_cell? w _ hx158_3)).trans hx158_3
                  replace p158 := eq_true p158
                  replace q158 := eq_true q158
                  refine start_ (n := 16) (S := fun w' => w'.cell? ⟨gb135,0,none⟩ = some (.int .u64 t143) ∧ w'.cell? ⟨gb135,1,none⟩ = some (.int .u64 t144) ∧ w'.cell? ⟨gb135,2,none⟩ = some (.slice Ao30 t145.length co30) ∧ w'.cell? (ad139.add ((x9_2).toNat * 4)) = some (.int .i64 ((rd_T40 l1 x9_2).f0)) ∧ w'.cell? ⟨(ad139.add ((x9_2).toNat * 4)).block,(ad139.add ((x9_2).toNat * 4)).off + 1,none⟩ = some (.int .u64 ((rd_T40 l1 x9_2).f1)) ∧ w'.cell? ⟨(ad139.add ((x9_2).toNat * 4)).block,(ad139.add ((x9_2).toNat * 4)).off + 2,none⟩ = some (.string ((rd_T40 l1 x9_2).f2)) ∧ w'.cell? ⟨(ad139.add ((x9_2).toNat * 4)).block,(ad139.add ((x9_2).toNat * 4)).off + 3,none⟩ = some (.string ((rd_T40 l1 x9_2).f3))) (ds := []) #[false,false,false,false,false,false,false,false,false,false,false,false,false,false,false,false] (by kernel_rfl) rfl rfl ⟨(blk_cell BK135.out 0).trans rfl,(blk_cell BK135.out 1).trans rfl,(blk_cell BK135.out 2).trans rfl,(up_ HB.out hw158_0),(up_ HB.out hw158_1),(up_ HB.out hw158_2),(up_ HB.out hw158_3)⟩ (fun hHeld => ?_);refine with_tabW dominolaw10_IdealOwn.tab17 dominolaw10_IdealOwn.bits17 (fun HT_ HW_ => ?_)
                  generalize w64.drew = w65 at HO_136002 HO_150002 HO153 BK135 BK149 HB hx158_0 hx158_1 hx158_2 hx158_3 hHeld ⊢
                  refine pure_ (i := 1) (N := some 101) (v := ?_) (a' := ?_) #[false,true,false,false,false,false,false,false,false,false,false,false,false,false,false,false] rfl rfl (any_of HT_.out (by kernel_rfl)) (fun _ _ _ h => h) (Or.inl ⟨by rfl,?_⟩) ?_ ?_
                  rotate_left;(intro w';go_simp;with_reducible rfl);rotate_left;(simp only [Act.put,List.setIfInBounds_toArray,List.set_cons_zero,List.set_cons_succ,i64_w,i32_w];rfl)
                  refine pure_ (i := 2) (N := some 102) (v := ?_) (a' := ?_) #[false,true,true,false,false,false,false,false,false,false,false,false,false,false,false,false] rfl rfl (any_of HT_.out (by kernel_rfl)) (fun _ _ _ h => h) (Or.inl ⟨by rfl,?_⟩) ?_ ?_
                  rotate_left;(intro w';go_simp;with_reducible rfl);rotate_left;(simp only [Act.put,List.setIfInBounds_toArray,List.set_cons_zero,List.set_cons_succ,i64_w,i32_w];rfl)
                  refine pure_ (i := 3) (N := some 103) (v := ?_) (a' := ?_) #[false,true,true,true,false,false,false,false,false,false,false,false,false,false,false,false] rfl rfl (any_of HT_.out (by kernel_rfl)) (fun _ _ _ h => h) (Or.inl ⟨by rfl,?_⟩) ?_ ?_
                  rotate_left;(intro w';go_simp;with_reducible rfl);rotate_left;(simp only [Act.put,List.setIfInBounds_toArray,List.set_cons_zero,List.set_cons_succ,i64_w,i32_w];rfl)
                  refine pure_ (i := 4) (N := some 104) (v := ?_) (a' := ?_) #[false,true,true,true,true,false,false,false,false,false,false,false,false,false,false,false] rfl rfl (any_of HT_.out (by kernel_rfl)) (fun _ _ _ h => h) (Or.inl ⟨by rfl,?_⟩) ?_ ?_
                  rotate_left;(intro w';go_simp;with_reducible rfl);rotate_left;(simp only [Act.put,List.setIfInBounds_toArray,List.set_cons_zero,List.set_cons_succ,i64_w,i32_w];rfl)
                  refine pure_ (i := 7) (N := some 107) (v := ?_) (a' := ?_) #[false,true,true,true,true,false,false,true,false,false,false,false,false,false,false,false] rfl rfl (any_of HT_.out (by kernel_rfl)) (fun _ _ _ h => h) (Or.inl ⟨by rfl,?_⟩) ?_ ?_
                  rotate_left;(intro w';go_simp;with_reducible rfl);rotate_left;(simp only [Act.put,List.setIfInBounds_toArray,List.set_cons_zero,List.set_cons_succ,i64_w,i32_w];rfl)
                  refine take_ (i := 0) (N := some 100) (v := ?_) (a' := ?_) #[true,true,true,true,true,false,false,true,false,false,false,false,false,false,false,false] rfl rfl (take_ofW HT_.out HW_.out (by kernel_rfl)) (fun _ _ _ h => h) (Or.inl ⟨by rfl,?_⟩) hHeld ?_ ?_
                  rotate_left
                  ·rintro w' ⟨s0,s1,s2,s3,s4,s5,s6⟩
                   go_simp
                   with_reducible rfl
                  rotate_left
                  ·simp only [Act.put,List.setIfInBounds_toArray,List.set_cons_zero,List.set_cons_succ,i64_w,i32_w]
                   rfl
                  refine take_ (i := 5) (N := some 105) (v := ?_) (a' := ?_) #[true,true,true,true,true,true,false,true,false,false,false,false,false,false,false,false] rfl rfl (take_ofW HT_.out HW_.out (by kernel_rfl)) (fun _ _ _ h => h) (Or.inl ⟨by rfl,?_⟩) hHeld ?_ ?_
                  rotate_left
                  ·rintro w' ⟨s0,s1,s2,s3,s4,s5,s6⟩
                   go_simp
                   with_reducible rfl
                  rotate_left
                  ·simp only [Act.put,List.setIfInBounds_toArray,List.set_cons_zero,List.set_cons_succ,i64_w,i32_w]
                   rfl
                  refine pure_ (i := 6) (N := some 106) (v := ?_) (a' := ?_) #[true,true,true,true,true,true,true,true,false,false,false,false,false,false,false,false] rfl rfl (any_of HT_.out (by kernel_rfl)) (fun _ _ _ h => h) (Or.inl ⟨by rfl,?_⟩) ?_ ?_
                  rotate_left;(intro w';go_simp;with_reducible rfl);rotate_left;(simp only [Act.put,List.setIfInBounds_toArray,List.set_cons_zero,List.set_cons_succ,i64_w,i32_w];rfl)
                  refine one_ (i := 8) (N := some 108) #[true,true,true,true,true,true,true,true,true,false,false,false,false,false,false,false] rfl rfl (one_of HT_.out (by kernel_rfl)) (by decide) (fun K hK => ?_)
                  refine goes_ Try.func23 (by kernel_rfl) rfl #[.agg #[.int .u64 t143,.int .u64 t144,.slice Ao30 t145.length co30],.int .i64 (wrap64 (((rd_T40 l1 x9_2).f0) + 1)),.string t148] (by rfl) rfl rfl (by (try simp only [List.map_toArray,List.map_cons,List.map_nil]);first | done | rfl | (simp only [List.length_drop,List.length_take];rfl)) ?_
                  with_reducible refine (ideal_Open.calls t143 t144 _ _ t145 (wrap64 (((rd_T40 l1 x9_2).f0) + 1)) t148 t159 t160 true _ ?side1 ?side2 A44.out).mono ?_
                  (case side1 => repeat (first | exact (Kd.R_reads' HO_136002.out).2.2 | (with_reducible refine Kd.C_alloc ?_ _) | (with_reducible refine Kd.C_drewN ?_ _) | (with_reducible refine Kd.C_drew ?_)))
                  (case side2 => exact (Kd.R_reads' HO_136002.out).2.1)
                  rintro e w66 ⟨rfl,hb⟩
                  refine ⟨_,rfl,?_⟩
                  have n0_ := Aside0.mk (Kd.R_below (by (with_reducible repeat (first | apply Kd.R_alloc | apply Kd.R_drewN | apply Kd.R_drew));exact HO_136002.out) hb)
                  have n1_ := Aside0.mk (Kd.R_below (by (with_reducible repeat (first | apply Kd.R_alloc | apply Kd.R_drewN | apply Kd.R_drew));exact HO_150002.out) hb)
                  have n2_ := Aside0.mk (Kd.R_below (by (with_reducible repeat (first | apply Kd.R_alloc | apply Kd.R_drewN | apply Kd.R_drew));exact HO153.out) hb)
                  have n3_ := Aside0.mk (blk_below (g := gb135) (o := .cells #[.int .u64 t143,.int .u64 t144,.slice Ao30 t145.length co30] 31 (0,0)) (by (with_reducible repeat (first | refine blk_drewN ?_ _ | refine blk_drew ?_ | refine blk_alloc ?_ _));exact BK135.out) hb)
                  have n4_ := Aside0.mk (blk_below (g := gb149) (o := .cells #[.int .u64 t143,.int .u64 t144,.slice Ao30 t145.length co30] 31 (0,0)) (by (with_reducible repeat (first | refine blk_drewN ?_ _ | refine blk_drew ?_ | refine blk_alloc ?_ _));exact BK149.out) hb)
                  have n5_ := Aside0.mk (below_step (by repeat (first | (with_reducible first | exact HB.out | apply below_alloc | apply pw_below_drewN | apply below_drew1 | refine below_set ?_ GE135.out | refine below_set ?_ GE149.out) | exact HB.out)) hb)
                  clear HO_136002
                  clear HO_150002
                  clear HO153
                  clear BK135
                  clear BK149
                  clear HB
                  have HO_136002 := n0_
                  have HO_150002 := n1_
                  have HO153 := n2_
                  have BK135 := n3_
                  have BK149 := n4_
                  have HB := n5_
                  clear n0_ n1_ n2_ n3_ n4_ n5_
                  (try clear hb)
                  (try clear hb2)
                  (try clear hk)
                  (try clear hi)
                  refine hK.out _ _ ⟨(blk_cell BK135.out 0).trans rfl,(blk_cell BK135.out 1).trans rfl,(blk_cell BK135.out 2).trans rfl,(up_ HB.out hw158_0),(up_ HB.out hw158_1),(up_ HB.out hw158_2),(up_ HB.out hw158_3)⟩ (fun hHeld => ?_)
                  clear hK K
                  refine norm_ (a' := ?_) ?_ ?_
                  rotate_left
                  ·show Act.put _ (some 108) _ = _
                   simp only [Act.put,List.setIfInBounds_toArray,List.set_cons_zero,List.set_cons_succ,i64_w,i32_w]
                   rfl
                  refine pure_ (i := 9) (N := some 99) (v := ?_) (a' := ?_) #[true,true,true,true,true,true,true,true,true,true,false,false,false,false,false,false] rfl rfl (any_of HT_.out (by kernel_rfl)) (fun _ _ _ h => h) (Or.inl ⟨by rfl,?_⟩) ?_ ?_
                  rotate_left;(intro w';go_simp;with_reducible rfl);rotate_left;(simp only [Act.put,List.setIfInBounds_toArray,List.set_cons_zero,List.set_cons_succ,i64_w,i32_w];rfl)
                  refine pure_ (i := 10) (N := some 109) (v := ?_) (a' := ?_) #[true,true,true,true,true,true,true,true,true,true,true,false,false,false,false,false] rfl rfl (any_of HT_.out (by kernel_rfl)) (fun _ _ _ h => h) (Or.inl ⟨by rfl,?_⟩) ?_ ?_
                  rotate_left;(intro w';go_simp;with_reducible rfl);rotate_left;(simp only [Act.put,List.setIfInBounds_toArray,List.set_cons_zero,List.set_cons_succ,i64_w,i32_w];rfl)
                  refine pure_ (i := 11) (N := some 110) (v := ?_) (a' := ?_) #[true,true,true,true,true,true,true,true,true,true,true,true,false,false,false,false] rfl rfl (any_of HT_.out (by kernel_rfl)) (fun _ _ _ h => h) (Or.inl ⟨by rfl,?_⟩) ?_ ?_
                  rotate_left;(intro w';go_simp;with_reducible rfl);rotate_left;(simp only [Act.put,List.setIfInBounds_toArray,List.set_cons_zero,List.set_cons_succ,i64_w,i32_w];rfl)
                  refine pure_ (i := 12) (N := some 111) (v := ?_) (a' := ?_) #[true,true,true,true,true,true,true,true,true,true,true,true,true,false,false,false] rfl rfl (any_of HT_.out (by kernel_rfl)) (fun _ _ _ h => h) (Or.inl ⟨by rfl,?_⟩) ?_ ?_
                  rotate_left;(intro w';go_simp;with_reducible rfl);rotate_left;(simp only [Act.put,List.setIfInBounds_toArray,List.set_cons_zero,List.set_cons_succ,i64_w,i32_w];rfl)
                  refine pure_ (i := 13) (N := some 16) (v := ?_) (a' := ?_) #[true,true,true,true,true,true,true,true,true,true,true,true,true,true,false,false] rfl rfl (any_of HT_.out (by kernel_rfl)) (fun _ _ _ h => h) (Or.inl ⟨by rfl,?_⟩) ?_ ?_
                  rotate_left;(intro w';go_simp;with_reducible rfl);rotate_left;(simp only [Act.put,List.setIfInBounds_toArray,List.set_cons_zero,List.set_cons_succ,i64_w,i32_w];rfl)
                  refine pure_ (i := 14) (N := some 17) (v := ?_) (a' := ?_) #[true,true,true,true,true,true,true,true,true,true,true,true,true,true,true,false] rfl rfl (any_of HT_.out (by kernel_rfl)) (fun _ _ _ h => h) (Or.inl ⟨by rfl,?_⟩) ?_ ?_
                  rotate_left;(intro w';go_simp;with_reducible rfl);rotate_left;(simp only [Act.put,List.setIfInBounds_toArray,List.set_cons_zero,List.set_cons_succ,i64_w,i32_w];rfl)
                  refine pure_ (i := 15) (N := some 18) (v := ?_) (a' := ?_) #[true,true,true,true,true,true,true,true,true,true,true,true,true,true,true,true] rfl rfl (any_of HT_.out (by kernel_rfl)) (fun _ _ _ h => h) (Or.inl ⟨by rfl,?_⟩) ?_ ?_
                  rotate_left;(intro w';go_simp;with_reducible rfl);rotate_left;(simp only [Act.put,List.setIfInBounds_toArray,List.set_cons_zero,List.set_cons_succ,i64_w,i32_w];rfl)
                  refine done_ (done_of HT_.out (by kernel_rfl)) ?_
                  have p162 : 0 ≤ (x9_2 : Int) := of_decide_eq_true (by first | (with_reducible assumption) | assumption)
                  have q162 : x9_2 < (l1.length : Int) := of_decide_eq_true (by first | (with_reducible assumption) | assumption)
                  obtain ⟨ad162,e162,hx162_0,hx162_1,hx162_2,hx162_3⟩ := at_T40 HR1.out x9_2 p162 q162
                  obtain rfl : ad139 = ad162 := (by injection e162)
                  replace hx162_0 := (HB.out.cell (World.block_lt_of_cell? w _ hx162_0)).trans hx162_0
                  replace hx162_1 := (HB.out.cell (World.block_lt_of_cell? w _ hx162_1)).trans hx162_1
                  replace hx162_2 := (HB.out.cell (World.block_lt_of_cell? w _ hx162_2)).trans hx162_2
                  replace hx162_3 := (HB.out.cell (World.block_lt_of_cell? w _ hx162_3)).trans hx162_3
                  replace p162 := eq_true p162
                  replace q162 := eq_true q162
                  have p163 : 0 ≤ (x9_2 : Int) := of_decide_eq_true (by first | (with_reducible assumption) | assumption)
                  have q163 : x9_2 < (l1.length : Int) := of_decide_eq_true (by first | (with_reducible assumption) | assumption)
                  obtain ⟨ad163,e163,hx163_0,hx163_1,hx163_2,hx163_3⟩ := at_T40 HR1.out x9_2 p163 q163
                  obtain rfl : ad139 = ad163 := (by injection e163)
                  replace hx163_0 := (HB.out.cell (World.block_lt_of_cell? w _ hx163_0)).trans hx163_0
                  replace hx163_1 := (HB.out.cell (World.block_lt_of_cell? w _ hx163_1)).trans hx163_1
                  replace hx163_2 := (HB.out.cell (World.block_lt_of_cell? w _ hx163_2)).trans hx163_2
                  replace hx163_3 := (HB.out.cell (World.block_lt_of_cell? w _ hx163_3)).trans hx163_3
                  replace p163 := eq_true p163
                  replace q163 := eq_true q163
                  try go_wp2
                  go_ret
                  exact ⟨by first | rfl | (simp [errW_none,errW_some] <;> rfl) | (simp [*,errW_none,errW_some] <;> rfl),by repeat (first | (with_reducible first | exact HB.out | apply below_alloc | apply pw_below_drewN | apply below_drew1 | refine below_set ?_ GE135.out | refine below_set ?_ GE149.out) | exact HB.out)⟩
                ·rw [if_neg c53] at H
                 have c53b0 : (t159 == ((rd_T40 l1 x9_2).f1)) = false := beq_eq_false_iff_ne.mpr c53
                 have c53b1 : (t159 != ((rd_T40 l1 x9_2).f1)) = true := bne_iff_ne.mpr c53
                 obtain rfl := Option.some.inj H
                 obtain ⟨Ao67,co67,eo67⟩ := Kd.R_slice HO_8.out
                 subst eo67
                 try go_wp2_with (first | ((with_reducible refine gate_builtin (b := .append) (xs := #[.tmp 83,.tmp 85]) rfl ?_);(try (refine gate_guard (by rfl) ?_;dsimp only));at_builtin;refine Kd.R_append Kd.string (w0 := w) w.heap.size rfl (.tmp 83) (.tmp 85) 52 9 (.string ⟨#[]⟩) 16 rfl Try.underlying52 info9 rfl (by decide) (by omega) (.slice Ao67 x8_2.length co67) x8_2 t148 [.string t148] (fun _ => True) (fun _ => False) rfl rfl ?aP (fun _ hk => hk.elim) ?aF ?aO ?aB ?aS ?aL ?_;(case aP => exact rfl);(case aB => exact (by repeat (first | (with_reducible first | exact HB.out | apply below_alloc | apply pw_below_drewN | apply below_drew1 | refine below_set ?_ GE135.out | refine below_set ?_ GE149.out) | exact HB.out)));(case aF => exact (fun _ _ => trivial));(case aO => exact (by (with_reducible repeat (first | apply Kd.R_alloc | apply Kd.R_drewN | apply Kd.R_drew));exact HO_8.out));(case aS => exact (below_size (by repeat (first | (with_reducible first | exact HB.out | apply below_alloc | apply pw_below_drewN | apply below_drew1 | refine below_set ?_ GE135.out | refine below_set ?_ GE149.out) | exact HB.out))));(case aL => have := LMc40.out;omega);intro v152 w68 ho hb hg hat;rw [← Ny151.out] at ho;have n0_ := Aside0.mk (Kd.R_over' (by (with_reducible repeat (first | apply Kd.R_alloc | apply Kd.R_drewN | apply Kd.R_drew));exact HO_136002.out) (Kd.R_typed (by (with_reducible repeat (first | apply Kd.R_alloc | apply Kd.R_drewN | apply Kd.R_drew));exact HO_8.out)) (by decide) hg);have n1_ := Aside0.mk (Kd.R_over' (by (with_reducible repeat (first | apply Kd.R_alloc | apply Kd.R_drewN | apply Kd.R_drew));exact HO_150002.out) (Kd.R_typed (by (with_reducible repeat (first | apply Kd.R_alloc | apply Kd.R_drewN | apply Kd.R_drew));exact HO_8.out)) (by decide) hg);have n2_ := Aside0.mk (blk_grown (g := gb135) (o := .cells #[.int .u64 t143,.int .u64 t144,.slice Ao30 t145.length co30] 31 (0,0)) (by (with_reducible repeat (first | refine blk_drewN ?_ _ | refine blk_drew ?_ | refine blk_alloc ?_ _));exact BK135.out) hg (Kd.R_ne HO_8.out BK135.out (by decide)));have n3_ := Aside0.mk (blk_grown (g := gb149) (o := .cells #[.int .u64 t143,.int .u64 t144,.slice Ao30 t145.length co30] 31 (0,0)) (by (with_reducible repeat (first | refine blk_drewN ?_ _ | refine blk_drew ?_ | refine blk_alloc ?_ _));exact BK149.out) hg (Kd.R_ne HO_8.out BK149.out (by decide)));have n4_ := Aside0.mk (hb);have n5_ := Aside0.mk (ho);clear HO_136002;clear HO_150002;clear BK135;clear BK149;clear HB;clear HO_8;have HO_136002 := n0_;have HO_150002 := n1_;have BK135 := n2_;have BK149 := n3_;have HB := n4_;have HO153 := n5_;clear n0_ n1_ n2_ n3_ n4_ n5_;clear ho hb hg hat))
                 have n0_ := Aside0.mk (Kd.R_drew HO_136002.out)
                 have n1_ := Aside0.mk (Kd.R_drew HO_150002.out)
                 have n2_ := Aside0.mk (Kd.R_drew HO153.out)
                 have n3_ := Aside0.mk (blk_drew BK135.out)
                 have n4_ := Aside0.mk (blk_drew BK149.out)
                 have n5_ := Aside0.mk (below_drew1 HB.out)
                 clear HO_136002
                 clear HO_150002
                 clear HO153
                 clear BK135
                 clear BK149
                 clear HB
                 have HO_136002 := n0_
                 have HO_150002 := n1_
                 have HO153 := n2_
                 have BK135 := n3_
                 have BK149 := n4_
                 have HB := n5_
                 clear n0_ n1_ n2_ n3_ n4_ n5_
                 have p154 : 0 ≤ (x9_2 : Int) := of_decide_eq_true (by first | (with_reducible assumption) | assumption)
                 have q154 : x9_2 < (l1.length : Int) := of_decide_eq_true (by first | (with_reducible assumption) | assumption)
                 obtain ⟨ad154,e154,hx154_0,hx154_1,hx154_2,hx154_3⟩ := at_T40 HR1.out x9_2 p154 q154
                 have hw154_3 := hx154_3
                 have hw154_2 := hx154_2
                 have hw154_1 := hx154_1
                 have hw154_0 := hx154_0
                 obtain rfl : ad139 = ad154 := (by injection e154)
                 replace hx154_0 := (HB.out.cell (World.block_lt_of_cell? w _ hx154_0)).trans hx154_0
                 replace hx154_1 := (HB.out.cell (World.block_lt_of_cell? w _ hx154_1)).trans hx154_1
                 replace hx154_2 := (HB.out.cell (World.block_lt_of_cell? w _ hx154_2)).trans hx154_2
                 replace hx154_3 := (HB.out.cell (World.block_lt_of_cell? w _ hx154_3)).trans hx154_3
                 replace p154 := eq_true p154
                 replace q154 := eq_true q154
                 refine start_ (n := 15) (S := fun w' => w'.cell? ⟨gb135,0,none⟩ = some (.int .u64 t143) ∧ w'.cell? ⟨gb135,1,none⟩ = some (.int .u64 t144) ∧ w'.cell? ⟨gb135,2,none⟩ = some (.slice Ao30 t145.length co30) ∧ w'.cell? (ad139.add ((x9_2).toNat * 4)) = some (.int .i64 ((rd_T40 l1 x9_2).f0)) ∧ w'.cell? ⟨(ad139.add ((x9_2).toNat * 4)).block,(ad139.add ((x9_2).toNat * 4)).off + 1,none⟩ = some (.int .u64 ((rd_T40 l1 x9_2).f1)) ∧ w'.cell? ⟨(ad139.add ((x9_2).toNat * 4)).block,(ad139.add ((x9_2).toNat * 4)).off + 2,none⟩ = some (.string ((rd_T40 l1 x9_2).f2)) ∧ w'.cell? ⟨(ad139.add ((x9_2).toNat * 4)).block,(ad139.add ((x9_2).toNat * 4)).off + 3,none⟩ = some (.string ((rd_T40 l1 x9_2).f3))) (ds := []) #[false,false,false,false,false,false,false,false,false,false,false,false,false,false,false] (by kernel_rfl) rfl rfl ⟨(blk_cell BK135.out 0).trans rfl,(blk_cell BK135.out 1).trans rfl,(blk_cell BK135.out 2).trans rfl,(up_ HB.out hw154_0),(up_ HB.out hw154_1),(up_ HB.out hw154_2),(up_ HB.out hw154_3)⟩ (fun hHeld => ?_);refine with_tabW dominolaw10_IdealOwn.tab16 dominolaw10_IdealOwn.bits16 (fun HT_ HW_ => ?_)
                 generalize w68.drew = w69 at HO_136002 HO_150002 HO153 BK135 BK149 HB hx154_0 hx154_1 hx154_2 hx154_3 hHeld ⊢
                 refine pure_ (i := 1) (N := some 89) (v := ?_) (a' := ?_) #[false,true,false,false,false,false,false,false,false,false,false,false,false,false,false] rfl rfl (any_of HT_.out (by kernel_rfl)) (fun _ _ _ h => h) (Or.inl ⟨by rfl,?_⟩) ?_ ?_
                 rotate_left;(intro w';go_simp;with_reducible rfl);rotate_left;(simp only [Act.put,List.setIfInBounds_toArray,List.set_cons_zero,List.set_cons_succ,i64_w,i32_w];rfl)
                 refine pure_ (i := 2) (N := some 90) (v := ?_) (a' := ?_) #[false,true,true,false,false,false,false,false,false,false,false,false,false,false,false] rfl rfl (any_of HT_.out (by kernel_rfl)) (fun _ _ _ h => h) (Or.inl ⟨by rfl,?_⟩) ?_ ?_
                 rotate_left;(intro w';go_simp;with_reducible rfl);rotate_left;(simp only [Act.put,List.setIfInBounds_toArray,List.set_cons_zero,List.set_cons_succ,i64_w,i32_w];rfl)
                 refine pure_ (i := 3) (N := some 91) (v := ?_) (a' := ?_) #[false,true,true,true,false,false,false,false,false,false,false,false,false,false,false] rfl rfl (any_of HT_.out (by kernel_rfl)) (fun _ _ _ h => h) (Or.inl ⟨by rfl,?_⟩) ?_ ?_
                 rotate_left;(intro w';go_simp;with_reducible rfl);rotate_left;(simp only [Act.put,List.setIfInBounds_toArray,List.set_cons_zero,List.set_cons_succ,i64_w,i32_w];rfl)
                 refine pure_ (i := 4) (N := some 92) (v := ?_) (a' := ?_) #[false,true,true,true,true,false,false,false,false,false,false,false,false,false,false] rfl rfl (any_of HT_.out (by kernel_rfl)) (fun _ _ _ h => h) (Or.inl ⟨by rfl,?_⟩) ?_ ?_
                 rotate_left;(intro w';go_simp;with_reducible rfl);rotate_left;(simp only [Act.put,List.setIfInBounds_toArray,List.set_cons_zero,List.set_cons_succ,i64_w,i32_w];rfl)
                 refine pure_ (i := 6) (N := some 94) (v := ?_) (a' := ?_) #[false,true,true,true,true,false,true,false,false,false,false,false,false,false,false] rfl rfl (any_of HT_.out (by kernel_rfl)) (fun _ _ _ h => h) (Or.inl ⟨by rfl,?_⟩) ?_ ?_
                 rotate_left;(intro w';go_simp;with_reducible rfl);rotate_left;(simp only [Act.put,List.setIfInBounds_toArray,List.set_cons_zero,List.set_cons_succ,i64_w,i32_w];rfl)
                 refine take_ (i := 0) (N := some 88) (v := ?_) (a' := ?_) #[true,true,true,true,true,false,true,false,false,false,false,false,false,false,false] rfl rfl (take_ofW HT_.out HW_.out (by kernel_rfl)) (fun _ _ _ h => h) (Or.inl ⟨by rfl,?_⟩) hHeld ?_ ?_
                 rotate_left
                 ·rintro w' ⟨s0,s1,s2,s3,s4,s5,s6⟩
                  go_simp
                  with_reducible rfl
                 rotate_left
                 ·simp only [Act.put,List.setIfInBounds_toArray,List.set_cons_zero,List.set_cons_succ,i64_w,i32_w]
                  rfl
                 refine take_ (i := 5) (N := some 93) (v := ?_) (a' := ?_) #[true,true,true,true,true,true,true,false,false,false,false,false,false,false,false] rfl rfl (take_ofW HT_.out HW_.out (by kernel_rfl)) (fun _ _ _ h => h) (Or.inl ⟨by rfl,?_⟩) hHeld ?_ ?_
                 rotate_left
                 ·rintro w' ⟨s0,s1,s2,s3,s4,s5,s6⟩
                  go_simp
                  with_reducible rfl
                 rotate_left
                 ·simp only [Act.put,List.setIfInBounds_toArray,List.set_cons_zero,List.set_cons_succ,i64_w,i32_w]
                  rfl
                 refine one_ (i := 7) (N := some 95) #[true,true,true,true,true,true,true,true,false,false,false,false,false,false,false] rfl rfl (one_of HT_.out (by kernel_rfl)) (by decide) (fun K hK => ?_)
                 refine goes_ Try.func23 (by kernel_rfl) rfl #[.agg #[.int .u64 t143,.int .u64 t144,.slice Ao30 t145.length co30],.int .i64 ((rd_T40 l1 x9_2).f0),.string t148] (by rfl) rfl rfl (by (try simp only [List.map_toArray,List.map_cons,List.map_nil]);first | done | rfl | (simp only [List.length_drop,List.length_take];rfl)) ?_
                 with_reducible refine (ideal_Open.calls t143 t144 _ _ t145 ((rd_T40 l1 x9_2).f0) t148 t155 t156 false _ ?side1 ?side2 A43.out).mono ?_
                 (case side1 => repeat (first | exact (Kd.R_reads' HO_136002.out).2.2 | (with_reducible refine Kd.C_alloc ?_ _) | (with_reducible refine Kd.C_drewN ?_ _) | (with_reducible refine Kd.C_drew ?_)))
                 (case side2 => exact (Kd.R_reads' HO_136002.out).2.1)
                 rintro e w70 ⟨rfl,hb⟩
                 refine ⟨_,rfl,?_⟩
                 have n0_ := Aside0.mk (Kd.R_below (by (with_reducible repeat (first | apply Kd.R_alloc | apply Kd.R_drewN | apply Kd.R_drew));exact HO_136002.out) hb)
                 have n1_ := Aside0.mk (Kd.R_below (by (with_reducible repeat (first | apply Kd.R_alloc | apply Kd.R_drewN | apply Kd.R_drew));exact HO_150002.out) hb)
                 have n2_ := Aside0.mk (Kd.R_below (by (with_reducible repeat (first | apply Kd.R_alloc | apply Kd.R_drewN | apply Kd.R_drew));exact HO153.out) hb)
                 have n3_ := Aside0.mk (blk_below (g := gb135) (o := .cells #[.int .u64 t143,.int .u64 t144,.slice Ao30 t145.length co30] 31 (0,0)) (by (with_reducible repeat (first | refine blk_drewN ?_ _ | refine blk_drew ?_ | refine blk_alloc ?_ _));exact BK135.out) hb)
                 have n4_ := Aside0.mk (blk_below (g := gb149) (o := .cells #[.int .u64 t143,.int .u64 t144,.slice Ao30 t145.length co30] 31 (0,0)) (by (with_reducible repeat (first | refine blk_drewN ?_ _ | refine blk_drew ?_ | refine blk_alloc ?_ _));exact BK149.out) hb)
                 have n5_ := Aside0.mk (below_step (by repeat (first | (with_reducible first | exact HB.out | apply below_alloc | apply pw_below_drewN | apply below_drew1 | refine below_set ?_ GE135.out | refine below_set ?_ GE149.out) | exact HB.out)) hb)
                 clear HO_136002
                 clear HO_150002
                 clear HO153
                 clear BK135
                 clear BK149
                 clear HB
                 have HO_136002 := n0_
                 have HO_150002 := n1_
                 have HO153 := n2_
                 have BK135 := n3_
                 have BK149 := n4_
                 have HB := n5_
                 clear n0_ n1_ n2_ n3_ n4_ n5_
                 (try clear hb)
                 (try clear hb2)
                 (try clear hk)
                 (try clear hi)
                 refine hK.out _ _ ⟨(blk_cell BK135.out 0).trans rfl,(blk_cell BK135.out 1).trans rfl,(blk_cell BK135.out 2).trans rfl,(up_ HB.out hw154_0),(up_ HB.out hw154_1),(up_ HB.out hw154_2),(up_ HB.out hw154_3)⟩ (fun hHeld => ?_)
                 clear hK K
                 refine norm_ (a' := ?_) ?_ ?_
                 rotate_left
                 ·show Act.put _ (some 95) _ = _
                  simp only [Act.put,List.setIfInBounds_toArray,List.set_cons_zero,List.set_cons_succ,i64_w,i32_w]
                  rfl
                 refine pure_ (i := 8) (N := some 87) (v := ?_) (a' := ?_) #[true,true,true,true,true,true,true,true,true,false,false,false,false,false,false] rfl rfl (any_of HT_.out (by kernel_rfl)) (fun _ _ _ h => h) (Or.inl ⟨by rfl,?_⟩) ?_ ?_
                 rotate_left;(intro w';go_simp;with_reducible rfl);rotate_left;(simp only [Act.put,List.setIfInBounds_toArray,List.set_cons_zero,List.set_cons_succ,i64_w,i32_w];rfl)
                 refine pure_ (i := 9) (N := some 96) (v := ?_) (a' := ?_) #[true,true,true,true,true,true,true,true,true,true,false,false,false,false,false] rfl rfl (any_of HT_.out (by kernel_rfl)) (fun _ _ _ h => h) (Or.inl ⟨by rfl,?_⟩) ?_ ?_
                 rotate_left;(intro w';go_simp;with_reducible rfl);rotate_left;(simp only [Act.put,List.setIfInBounds_toArray,List.set_cons_zero,List.set_cons_succ,i64_w,i32_w];rfl)
                 refine pure_ (i := 10) (N := some 97) (v := ?_) (a' := ?_) #[true,true,true,true,true,true,true,true,true,true,true,false,false,false,false] rfl rfl (any_of HT_.out (by kernel_rfl)) (fun _ _ _ h => h) (Or.inl ⟨by rfl,?_⟩) ?_ ?_
                 rotate_left;(intro w';go_simp;with_reducible rfl);rotate_left;(simp only [Act.put,List.setIfInBounds_toArray,List.set_cons_zero,List.set_cons_succ,i64_w,i32_w];rfl)
                 refine pure_ (i := 11) (N := some 98) (v := ?_) (a' := ?_) #[true,true,true,true,true,true,true,true,true,true,true,true,false,false,false] rfl rfl (any_of HT_.out (by kernel_rfl)) (fun _ _ _ h => h) (Or.inl ⟨by rfl,?_⟩) ?_ ?_
                 rotate_left;(intro w';go_simp;with_reducible rfl);rotate_left;(simp only [Act.put,List.setIfInBounds_toArray,List.set_cons_zero,List.set_cons_succ,i64_w,i32_w];rfl)
                 refine pure_ (i := 12) (N := some 13) (v := ?_) (a' := ?_) #[true,true,true,true,true,true,true,true,true,true,true,true,true,false,false] rfl rfl (any_of HT_.out (by kernel_rfl)) (fun _ _ _ h => h) (Or.inl ⟨by rfl,?_⟩) ?_ ?_
                 rotate_left;(intro w';go_simp;with_reducible rfl);rotate_left;(simp only [Act.put,List.setIfInBounds_toArray,List.set_cons_zero,List.set_cons_succ,i64_w,i32_w];rfl)
                 refine pure_ (i := 13) (N := some 14) (v := ?_) (a' := ?_) #[true,true,true,true,true,true,true,true,true,true,true,true,true,true,false] rfl rfl (any_of HT_.out (by kernel_rfl)) (fun _ _ _ h => h) (Or.inl ⟨by rfl,?_⟩) ?_ ?_
                 rotate_left;(intro w';go_simp;with_reducible rfl);rotate_left;(simp only [Act.put,List.setIfInBounds_toArray,List.set_cons_zero,List.set_cons_succ,i64_w,i32_w];rfl)
                 refine pure_ (i := 14) (N := some 15) (v := ?_) (a' := ?_) #[true,true,true,true,true,true,true,true,true,true,true,true,true,true,true] rfl rfl (any_of HT_.out (by kernel_rfl)) (fun _ _ _ h => h) (Or.inl ⟨by rfl,?_⟩) ?_ ?_
                 rotate_left;(intro w';go_simp;with_reducible rfl);rotate_left;(simp only [Act.put,List.setIfInBounds_toArray,List.set_cons_zero,List.set_cons_succ,i64_w,i32_w];rfl)
                 refine done_ (done_of HT_.out (by kernel_rfl)) ?_
                 try go_wp2
                 have n0_ := Aside0.mk (Kd.R_drew HO_136002.out)
                 have n1_ := Aside0.mk (Kd.R_drew HO_150002.out)
                 have n2_ := Aside0.mk (Kd.R_drew HO153.out)
                 have n3_ := Aside0.mk (blk_drew BK135.out)
                 have n4_ := Aside0.mk (blk_drew BK149.out)
                 have n5_ := Aside0.mk (below_drew1 HB.out)
                 clear HO_136002
                 clear HO_150002
                 clear HO153
                 clear BK135
                 clear BK149
                 clear HB
                 have HO_136002 := n0_
                 have HO_150002 := n1_
                 have HO153 := n2_
                 have BK135 := n3_
                 have BK149 := n4_
                 have HB := n5_
                 clear n0_ n1_ n2_ n3_ n4_ n5_
                 have p158 : 0 ≤ (x9_2 : Int) := of_decide_eq_true (by first | (with_reducible assumption) | assumption)
                 have q158 : x9_2 < (l1.length : Int) := of_decide_eq_true (by first | (with_reducible assumption) | assumption)
                 obtain ⟨ad158,e158,hx158_0,hx158_1,hx158_2,hx158_3⟩ := at_T40 HR1.out x9_2 p158 q158
                 have hw158_3 := hx158_3
                 have hw158_2 := hx158_2
                 have hw158_1 := hx158_1
                 have hw158_0 := hx158_0
                 obtain rfl : ad139 = ad158 := (by injection e158)
                 replace hx158_0 := (HB.out.cell (World.block_lt_of_cell? w _ hx158_0)).trans hx158_0
                 replace hx158_1 := (HB.out.cell (World.block_lt_of_cell? w _ hx158_1)).trans hx158_1
                 replace hx158_2 := (HB.out.cell (World.block_lt_of_cell? w _ hx158_2)).trans hx158_2
                 replace hx158_3 := (HB.out.cell (World.block_lt_of_cell? w _ hx158_3)).trans hx158_3
                 replace p158 := eq_true p158
                 replace q158 := eq_true q158
                 refine start_ (n := 16) (S := fun w' => w'.cell? ⟨gb135,0,none⟩ = some (.int .u64 t143) ∧ w'.cell? ⟨gb135,1,none⟩ = some (.int .u64 t144) ∧ w'.cell? ⟨gb135,2,none⟩ = some (.slice Ao30 t145.length co30) ∧ w'.cell? (ad139.add ((x9_2).toNat * 4)) = some (.int .i64 ((rd_T40 l1 x9_2).f0)) ∧ w'.cell? ⟨(ad139.add ((x9_2).toNat * 4)).block,(ad139.add ((x9_2).toNat * 4)).off + 1,none⟩ = some (.int .u64 ((rd_T40 l1 x9_2).f1)) ∧ w'.cell? ⟨(ad139.add ((x9_2).toNat * 4)).block,(ad139.add ((x9_2).toNat * 4)).off + 2,none⟩ = some (.string ((rd_T40 l1 x9_2).f2)) ∧ w'.cell? ⟨(ad139.add ((x9_2).toNat * 4)).block,(ad139.add ((x9_2).toNat * 4)).off + 3,none⟩ = some (.string ((rd_T40 l1 x9_2).f3))) (ds := []) #[false,false,false,false,false,false,false,false,false,false,false,false,false,false,false,false] (by kernel_rfl) rfl rfl ⟨(blk_cell BK135.out 0).trans rfl,(blk_cell BK135.out 1).trans rfl,(blk_cell BK135.out 2).trans rfl,(up_ HB.out hw158_0),(up_ HB.out hw158_1),(up_ HB.out hw158_2),(up_ HB.out hw158_3)⟩ (fun hHeld => ?_);refine with_tabW dominolaw10_IdealOwn.tab17 dominolaw10_IdealOwn.bits17 (fun HT_ HW_ => ?_)
                 generalize w70.drew = w71 at HO_136002 HO_150002 HO153 BK135 BK149 HB hx158_0 hx158_1 hx158_2 hx158_3 hHeld ⊢
                 refine pure_ (i := 1) (N := some 101) (v := ?_) (a' := ?_) #[false,true,false,false,false,false,false,false,false,false,false,false,false,false,false,false] rfl rfl (any_of HT_.out (by kernel_rfl)) (fun _ _ _ h => h) (Or.inl ⟨by rfl,?_⟩) ?_ ?_
                 rotate_left;(intro w';go_simp;with_reducible rfl);rotate_left;(simp only [Act.put,List.setIfInBounds_toArray,List.set_cons_zero,List.set_cons_succ,i64_w,i32_w];rfl)
                 refine pure_ (i := 2) (N := some 102) (v := ?_) (a' := ?_) #[false,true,true,false,false,false,false,false,false,false,false,false,false,false,false,false] rfl rfl (any_of HT_.out (by kernel_rfl)) (fun _ _ _ h => h) (Or.inl ⟨by rfl,?_⟩) ?_ ?_
                 rotate_left;(intro w';go_simp;with_reducible rfl);rotate_left;(simp only [Act.put,List.setIfInBounds_toArray,List.set_cons_zero,List.set_cons_succ,i64_w,i32_w];rfl)
                 refine pure_ (i := 3) (N := some 103) (v := ?_) (a' := ?_) #[false,true,true,true,false,false,false,false,false,false,false,false,false,false,false,false] rfl rfl (any_of HT_.out (by kernel_rfl)) (fun _ _ _ h => h) (Or.inl ⟨by rfl,?_⟩) ?_ ?_
                 rotate_left;(intro w';go_simp;with_reducible rfl);rotate_left;(simp only [Act.put,List.setIfInBounds_toArray,List.set_cons_zero,List.set_cons_succ,i64_w,i32_w];rfl)
                 refine pure_ (i := 4) (N := some 104) (v := ?_) (a' := ?_) #[false,true,true,true,true,false,false,false,false,false,false,false,false,false,false,false] rfl rfl (any_of HT_.out (by kernel_rfl)) (fun _ _ _ h => h) (Or.inl ⟨by rfl,?_⟩) ?_ ?_
                 rotate_left;(intro w';go_simp;with_reducible rfl);rotate_left;(simp only [Act.put,List.setIfInBounds_toArray,List.set_cons_zero,List.set_cons_succ,i64_w,i32_w];rfl)
                 refine pure_ (i := 7) (N := some 107) (v := ?_) (a' := ?_) #[false,true,true,true,true,false,false,true,false,false,false,false,false,false,false,false] rfl rfl (any_of HT_.out (by kernel_rfl)) (fun _ _ _ h => h) (Or.inl ⟨by rfl,?_⟩) ?_ ?_
                 rotate_left;(intro w';go_simp;with_reducible rfl);rotate_left;(simp only [Act.put,List.setIfInBounds_toArray,List.set_cons_zero,List.set_cons_succ,i64_w,i32_w];rfl)
                 refine take_ (i := 0) (N := some 100) (v := ?_) (a' := ?_) #[true,true,true,true,true,false,false,true,false,false,false,false,false,false,false,false] rfl rfl (take_ofW HT_.out HW_.out (by kernel_rfl)) (fun _ _ _ h => h) (Or.inl ⟨by rfl,?_⟩) hHeld ?_ ?_
                 rotate_left
                 ·rintro w' ⟨s0,s1,s2,s3,s4,s5,s6⟩
                  go_simp
                  with_reducible rfl
                 rotate_left
                 ·simp only [Act.put,List.setIfInBounds_toArray,List.set_cons_zero,List.set_cons_succ,i64_w,i32_w]
                  rfl
                 refine take_ (i := 5) (N := some 105) (v := ?_) (a' := ?_) #[true,true,true,true,true,true,false,true,false,false,false,false,false,false,false,false] rfl rfl (take_ofW HT_.out HW_.out (by kernel_rfl)) (fun _ _ _ h => h) (Or.inl ⟨by rfl,?_⟩) hHeld ?_ ?_
                 rotate_left
                 ·rintro w' ⟨s0,s1,s2,s3,s4,s5,s6⟩
                  go_simp
                  with_reducible rfl
                 rotate_left
                 ·simp only [Act.put,List.setIfInBounds_toArray,List.set_cons_zero,List.set_cons_succ,i64_w,i32_w]
                  rfl
                 refine pure_ (i := 6) (N := some 106) (v := ?_) (a' := ?_) #[true,true,true,true,true,true,true,true,false,false,false,false,false,false,false,false] rfl rfl (any_of HT_.out (by kernel_rfl)) (fun _ _ _ h => h) (Or.inl ⟨by rfl,?_⟩) ?_ ?_
                 rotate_left;(intro w';go_simp;with_reducible rfl);rotate_left;(simp only [Act.put,List.setIfInBounds_toArray,List.set_cons_zero,List.set_cons_succ,i64_w,i32_w];rfl)
                 refine one_ (i := 8) (N := some 108) #[true,true,true,true,true,true,true,true,true,false,false,false,false,false,false,false] rfl rfl (one_of HT_.out (by kernel_rfl)) (by decide) (fun K hK => ?_)
                 refine goes_ Try.func23 (by kernel_rfl) rfl #[.agg #[.int .u64 t143,.int .u64 t144,.slice Ao30 t145.length co30],.int .i64 (wrap64 (((rd_T40 l1 x9_2).f0) + 1)),.string t148] (by rfl) rfl rfl (by (try simp only [List.map_toArray,List.map_cons,List.map_nil]);first | done | rfl | (simp only [List.length_drop,List.length_take];rfl)) ?_
                 with_reducible refine (ideal_Open.calls t143 t144 _ _ t145 (wrap64 (((rd_T40 l1 x9_2).f0) + 1)) t148 t159 t160 true _ ?side1 ?side2 A44.out).mono ?_
                 (case side1 => repeat (first | exact (Kd.R_reads' HO_136002.out).2.2 | (with_reducible refine Kd.C_alloc ?_ _) | (with_reducible refine Kd.C_drewN ?_ _) | (with_reducible refine Kd.C_drew ?_)))
                 (case side2 => exact (Kd.R_reads' HO_136002.out).2.1)
                 rintro e w72 ⟨rfl,hb⟩
                 refine ⟨_,rfl,?_⟩
                 have n0_ := Aside0.mk (Kd.R_below (by (with_reducible repeat (first | apply Kd.R_alloc | apply Kd.R_drewN | apply Kd.R_drew));exact HO_136002.out) hb)
                 have n1_ := Aside0.mk (Kd.R_below (by (with_reducible repeat (first | apply Kd.R_alloc | apply Kd.R_drewN | apply Kd.R_drew));exact HO_150002.out) hb)
                 have n2_ := Aside0.mk (Kd.R_below (by (with_reducible repeat (first | apply Kd.R_alloc | apply Kd.R_drewN | apply Kd.R_drew));exact HO153.out) hb)
                 have n3_ := Aside0.mk (blk_below (g := gb135) (o := .cells #[.int .u64 t143,.int .u64 t144,.slice Ao30 t145.length co30] 31 (0,0)) (by (with_reducible repeat (first | refine blk_drewN ?_ _ | refine blk_drew ?_ | refine blk_alloc ?_ _));exact BK135.out) hb)
                 have n4_ := Aside0.mk (blk_below (g := gb149) (o := .cells #[.int .u64 t143,.int .u64 t144,.slice Ao30 t145.length co30] 31 (0,0)) (by (with_reducible repeat (first | refine blk_drewN ?_ _ | refine blk_drew ?_ | refine blk_alloc ?_ _));exact BK149.out) hb)
                 have n5_ := Aside0.mk (below_step (by repeat (first | (with_reducible first | exact HB.out | apply below_alloc | apply pw_below_drewN | apply below_drew1 | refine below_set ?_ GE135.out | refine below_set ?_ GE149.out) | exact HB.out)) hb)
                 clear HO_136002
                 clear HO_150002
                 clear HO153
                 clear BK135
                 clear BK149
                 clear HB
                 have HO_136002 := n0_
                 have HO_150002 := n1_
                 have HO153 := n2_
                 have BK135 := n3_
                 have BK149 := n4_
                 have HB := n5_
                 clear n0_ n1_ n2_ n3_ n4_ n5_
                 (try clear hb)
                 (try clear hb2)
                 (try clear hk)
                 (try clear hi)
                 refine hK.out _ _ ⟨(blk_cell BK135.out 0).trans rfl,(blk_cell BK135.out 1).trans rfl,(blk_cell BK135.out 2).trans rfl,(up_ HB.out hw158_0),(up_ HB.out hw158_1),(up_ HB.out hw158_2),(up_ HB.out hw158_3)⟩ (fun hHeld => ?_)
                 clear hK K
                 refine norm_ (a' := ?_) ?_ ?_
                 rotate_left
                 ·show Act.put _ (some 108) _ = _
                  simp only [Act.put,List.setIfInBounds_toArray,List.set_cons_zero,List.set_cons_succ,i64_w,i32_w]
                  rfl
                 refine pure_ (i := 9) (N := some 99) (v := ?_) (a' := ?_) #[true,true,true,true,true,true,true,true,true,true,false,false,false,false,false,false] rfl rfl (any_of HT_.out (by kernel_rfl)) (fun _ _ _ h => h) (Or.inl ⟨by rfl,?_⟩) ?_ ?_
                 rotate_left;(intro w';go_simp;with_reducible rfl);rotate_left;(simp only [Act.put,List.setIfInBounds_toArray,List.set_cons_zero,List.set_cons_succ,i64_w,i32_w];rfl)
                 refine pure_ (i := 10) (N := some 109) (v := ?_) (a' := ?_) #[true,true,true,true,true,true,true,true,true,true,true,false,false,false,false,false] rfl rfl (any_of HT_.out (by kernel_rfl)) (fun _ _ _ h => h) (Or.inl ⟨by rfl,?_⟩) ?_ ?_
                 rotate_left;(intro w';go_simp;with_reducible rfl);rotate_left;(simp only [Act.put,List.setIfInBounds_toArray,List.set_cons_zero,List.set_cons_succ,i64_w,i32_w];rfl)
                 refine pure_ (i := 11) (N := some 110) (v := ?_) (a' := ?_) #[true,true,true,true,true,true,true,true,true,true,true,true,false,false,false,false] rfl rfl (any_of HT_.out (by kernel_rfl)) (fun _ _ _ h => h) (Or.inl ⟨by rfl,?_⟩) ?_ ?_
                 rotate_left;(intro w';go_simp;with_reducible rfl);rotate_left;(simp only [Act.put,List.setIfInBounds_toArray,List.set_cons_zero,List.set_cons_succ,i64_w,i32_w];rfl)
                 refine pure_ (i := 12) (N := some 111) (v := ?_) (a' := ?_) #[true,true,true,true,true,true,true,true,true,true,true,true,true,false,false,false] rfl rfl (any_of HT_.out (by kernel_rfl)) (fun _ _ _ h => h) (Or.inl ⟨by rfl,?_⟩) ?_ ?_
                 rotate_left;(intro w';go_simp;with_reducible rfl);rotate_left;(simp only [Act.put,List.setIfInBounds_toArray,List.set_cons_zero,List.set_cons_succ,i64_w,i32_w];rfl)
                 refine pure_ (i := 13) (N := some 16) (v := ?_) (a' := ?_) #[true,true,true,true,true,true,true,true,true,true,true,true,true,true,false,false] rfl rfl (any_of HT_.out (by kernel_rfl)) (fun _ _ _ h => h) (Or.inl ⟨by rfl,?_⟩) ?_ ?_
                 rotate_left;(intro w';go_simp;with_reducible rfl);rotate_left;(simp only [Act.put,List.setIfInBounds_toArray,List.set_cons_zero,List.set_cons_succ,i64_w,i32_w];rfl)
                 refine pure_ (i := 14) (N := some 17) (v := ?_) (a' := ?_) #[true,true,true,true,true,true,true,true,true,true,true,true,true,true,true,false] rfl rfl (any_of HT_.out (by kernel_rfl)) (fun _ _ _ h => h) (Or.inl ⟨by rfl,?_⟩) ?_ ?_
                 rotate_left;(intro w';go_simp;with_reducible rfl);rotate_left;(simp only [Act.put,List.setIfInBounds_toArray,List.set_cons_zero,List.set_cons_succ,i64_w,i32_w];rfl)
                 refine pure_ (i := 15) (N := some 18) (v := ?_) (a' := ?_) #[true,true,true,true,true,true,true,true,true,true,true,true,true,true,true,true] rfl rfl (any_of HT_.out (by kernel_rfl)) (fun _ _ _ h => h) (Or.inl ⟨by rfl,?_⟩) ?_ ?_
                 rotate_left;(intro w';go_simp;with_reducible rfl);rotate_left;(simp only [Act.put,List.setIfInBounds_toArray,List.set_cons_zero,List.set_cons_succ,i64_w,i32_w];rfl)
                 refine done_ (done_of HT_.out (by kernel_rfl)) ?_
                 have p162 : 0 ≤ (x9_2 : Int) := of_decide_eq_true (by first | (with_reducible assumption) | assumption)
                 have q162 : x9_2 < (l1.length : Int) := of_decide_eq_true (by first | (with_reducible assumption) | assumption)
                 obtain ⟨ad162,e162,hx162_0,hx162_1,hx162_2,hx162_3⟩ := at_T40 HR1.out x9_2 p162 q162
                 obtain rfl : ad139 = ad162 := (by injection e162)
                 replace hx162_0 := (HB.out.cell (World.block_lt_of_cell? w _ hx162_0)).trans hx162_0
                 replace hx162_1 := (HB.out.cell (World.block_lt_of_cell? w _ hx162_1)).trans hx162_1
                 replace hx162_2 := (HB.out.cell (World.block_lt_of_cell? w _ hx162_2)).trans hx162_2
                 replace hx162_3 := (HB.out.cell (World.block_lt_of_cell? w _ hx162_3)).trans hx162_3
                 replace p162 := eq_true p162
                 replace q162 := eq_true q162
                 try go_wp2
                 go_ret
                 exact ⟨by first | rfl | (simp [errW_none,errW_some] <;> rfl) | (simp [*,errW_none,errW_some] <;> rfl),by repeat (first | (with_reducible first | exact HB.out | apply below_alloc | apply pw_below_drewN | apply below_drew1 | refine below_set ?_ GE135.out | refine below_set ?_ GE149.out) | exact HB.out)⟩
               ·replace c52 := Bool.eq_false_iff.mpr c52
                subst c52
                have H1 : (some false) = some r := by rw [if_neg (show ¬ (false = true) by decide)] at H;exact H
                clear H
                have H := H1
                clear H1
                obtain rfl := Option.some.inj H
                obtain ⟨Ao73,co73,eo73⟩ := Kd.R_slice HO_8.out
                subst eo73
                try go_wp2_with (first | ((with_reducible refine gate_builtin (b := .append) (xs := #[.tmp 83,.tmp 85]) rfl ?_);(try (refine gate_guard (by rfl) ?_;dsimp only));at_builtin;refine Kd.R_append Kd.string (w0 := w) w.heap.size rfl (.tmp 83) (.tmp 85) 52 9 (.string ⟨#[]⟩) 16 rfl Try.underlying52 info9 rfl (by decide) (by omega) (.slice Ao73 x8_2.length co73) x8_2 t148 [.string t148] (fun _ => True) (fun _ => False) rfl rfl ?aP (fun _ hk => hk.elim) ?aF ?aO ?aB ?aS ?aL ?_;(case aP => exact rfl);(case aB => exact (by repeat (first | (with_reducible first | exact HB.out | apply below_alloc | apply pw_below_drewN | apply below_drew1 | refine below_set ?_ GE135.out | refine below_set ?_ GE149.out) | exact HB.out)));(case aF => exact (fun _ _ => trivial));(case aO => exact (by (with_reducible repeat (first | apply Kd.R_alloc | apply Kd.R_drewN | apply Kd.R_drew));exact HO_8.out));(case aS => exact (below_size (by repeat (first | (with_reducible first | exact HB.out | apply below_alloc | apply pw_below_drewN | apply below_drew1 | refine below_set ?_ GE135.out | refine below_set ?_ GE149.out) | exact HB.out))));(case aL => have := LMc40.out;omega);intro v152 w74 ho hb hg hat;rw [← Ny151.out] at ho;have n0_ := Aside0.mk (Kd.R_over' (by (with_reducible repeat (first | apply Kd.R_alloc | apply Kd.R_drewN | apply Kd.R_drew));exact HO_136002.out) (Kd.R_typed (by (with_reducible repeat (first | apply Kd.R_alloc | apply Kd.R_drewN | apply Kd.R_drew));exact HO_8.out)) (by decide) hg);have n1_ := Aside0.mk (Kd.R_over' (by (with_reducible repeat (first | apply Kd.R_alloc | apply Kd.R_drewN | apply Kd.R_drew));exact HO_150002.out) (Kd.R_typed (by (with_reducible repeat (first | apply Kd.R_alloc | apply Kd.R_drewN | apply Kd.R_drew));exact HO_8.out)) (by decide) hg);have n2_ := Aside0.mk (blk_grown (g := gb135) (o := .cells #[.int .u64 t143,.int .u64 t144,.slice Ao30 t145.length co30] 31 (0,0)) (by (with_reducible repeat (first | refine blk_drewN ?_ _ | refine blk_drew ?_ | refine blk_alloc ?_ _));exact BK135.out) hg (Kd.R_ne HO_8.out BK135.out (by decide)));have n3_ := Aside0.mk (blk_grown (g := gb149) (o := .cells #[.int .u64 t143,.int .u64 t144,.slice Ao30 t145.length co30] 31 (0,0)) (by (with_reducible repeat (first | refine blk_drewN ?_ _ | refine blk_drew ?_ | refine blk_alloc ?_ _));exact BK149.out) hg (Kd.R_ne HO_8.out BK149.out (by decide)));have n4_ := Aside0.mk (hb);have n5_ := Aside0.mk (ho);clear HO_136002;clear HO_150002;clear BK135;clear BK149;clear HB;clear HO_8;have HO_136002 := n0_;have HO_150002 := n1_;have BK135 := n2_;have BK149 := n3_;have HB := n4_;have HO153 := n5_;clear n0_ n1_ n2_ n3_ n4_ n5_;clear ho hb hg hat))
                have n0_ := Aside0.mk (Kd.R_drew HO_136002.out)
                have n1_ := Aside0.mk (Kd.R_drew HO_150002.out)
                have n2_ := Aside0.mk (Kd.R_drew HO153.out)
                have n3_ := Aside0.mk (blk_drew BK135.out)
                have n4_ := Aside0.mk (blk_drew BK149.out)
                have n5_ := Aside0.mk (below_drew1 HB.out)
                clear HO_136002
                clear HO_150002
                clear HO153
                clear BK135
                clear BK149
                clear HB
                have HO_136002 := n0_
                have HO_150002 := n1_
                have HO153 := n2_
                have BK135 := n3_
                have BK149 := n4_
                have HB := n5_
                clear n0_ n1_ n2_ n3_ n4_ n5_
                have p154 : 0 ≤ (x9_2 : Int) := of_decide_eq_true (by first | (with_reducible assumption) | assumption)
                have q154 : x9_2 < (l1.length : Int) := of_decide_eq_true (by first | (with_reducible assumption) | assumption)
                obtain ⟨ad154,e154,hx154_0,hx154_1,hx154_2,hx154_3⟩ := at_T40 HR1.out x9_2 p154 q154
                have hw154_3 := hx154_3
                have hw154_2 := hx154_2
                have hw154_1 := hx154_1
                have hw154_0 := hx154_0
                obtain rfl : ad139 = ad154 := (by injection e154)
                replace hx154_0 := (HB.out.cell (World.block_lt_of_cell? w _ hx154_0)).trans hx154_0
                replace hx154_1 := (HB.out.cell (World.block_lt_of_cell? w _ hx154_1)).trans hx154_1
                replace hx154_2 := (HB.out.cell (World.block_lt_of_cell? w _ hx154_2)).trans hx154_2
                replace hx154_3 := (HB.out.cell (World.block_lt_of_cell? w _ hx154_3)).trans hx154_3
                replace p154 := eq_true p154
                replace q154 := eq_true q154
                refine start_ (n := 15) (S := fun w' => w'.cell? ⟨gb135,0,none⟩ = some (.int .u64 t143) ∧ w'.cell? ⟨gb135,1,none⟩ = some (.int .u64 t144) ∧ w'.cell? ⟨gb135,2,none⟩ = some (.slice Ao30 t145.length co30) ∧ w'.cell? (ad139.add ((x9_2).toNat * 4)) = some (.int .i64 ((rd_T40 l1 x9_2).f0)) ∧ w'.cell? ⟨(ad139.add ((x9_2).toNat * 4)).block,(ad139.add ((x9_2).toNat * 4)).off + 1,none⟩ = some (.int .u64 ((rd_T40 l1 x9_2).f1)) ∧ w'.cell? ⟨(ad139.add ((x9_2).toNat * 4)).block,(ad139.add ((x9_2).toNat * 4)).off + 2,none⟩ = some (.string ((rd_T40 l1 x9_2).f2)) ∧ w'.cell? ⟨(ad139.add ((x9_2).toNat * 4)).block,(ad139.add ((x9_2).toNat * 4)).off + 3,none⟩ = some (.string ((rd_T40 l1 x9_2).f3))) (ds := []) #[false,false,false,false,false,false,false,false,false,false,false,false,false,false,false] (by kernel_rfl) rfl rfl ⟨(blk_cell BK135.out 0).trans rfl,(blk_cell BK135.out 1).trans rfl,(blk_cell BK135.out 2).trans rfl,(up_ HB.out hw154_0),(up_ HB.out hw154_1),(up_ HB.out hw154_2),(up_ HB.out hw154_3)⟩ (fun hHeld => ?_);refine with_tabW dominolaw10_IdealOwn.tab16 dominolaw10_IdealOwn.bits16 (fun HT_ HW_ => ?_)
                generalize w74.drew = w75 at HO_136002 HO_150002 HO153 BK135 BK149 HB hx154_0 hx154_1 hx154_2 hx154_3 hHeld ⊢
                refine pure_ (i := 1) (N := some 89) (v := ?_) (a' := ?_) #[false,true,false,false,false,false,false,false,false,false,false,false,false,false,false] rfl rfl (any_of HT_.out (by kernel_rfl)) (fun _ _ _ h => h) (Or.inl ⟨by rfl,?_⟩) ?_ ?_
                rotate_left;(intro w';go_simp;with_reducible rfl);rotate_left;(simp only [Act.put,List.setIfInBounds_toArray,List.set_cons_zero,List.set_cons_succ,i64_w,i32_w];rfl)
                refine pure_ (i := 2) (N := some 90) (v := ?_) (a' := ?_) #[false,true,true,false,false,false,false,false,false,false,false,false,false,false,false] rfl rfl (any_of HT_.out (by kernel_rfl)) (fun _ _ _ h => h) (Or.inl ⟨by rfl,?_⟩) ?_ ?_
                rotate_left;(intro w';go_simp;with_reducible rfl);rotate_left;(simp only [Act.put,List.setIfInBounds_toArray,List.set_cons_zero,List.set_cons_succ,i64_w,i32_w];rfl)
                refine pure_ (i := 3) (N := some 91) (v := ?_) (a' := ?_) #[false,true,true,true,false,false,false,false,false,false,false,false,false,false,false] rfl rfl (any_of HT_.out (by kernel_rfl)) (fun _ _ _ h => h) (Or.inl ⟨by rfl,?_⟩) ?_ ?_
                rotate_left;(intro w';go_simp;with_reducible rfl);rotate_left;(simp only [Act.put,List.setIfInBounds_toArray,List.set_cons_zero,List.set_cons_succ,i64_w,i32_w];rfl)
                refine pure_ (i := 4) (N := some 92) (v := ?_) (a' := ?_) #[false,true,true,true,true,false,false,false,false,false,false,false,false,false,false] rfl rfl (any_of HT_.out (by kernel_rfl)) (fun _ _ _ h => h) (Or.inl ⟨by rfl,?_⟩) ?_ ?_
                rotate_left;(intro w';go_simp;with_reducible rfl);rotate_left;(simp only [Act.put,List.setIfInBounds_toArray,List.set_cons_zero,List.set_cons_succ,i64_w,i32_w];rfl)
                refine pure_ (i := 6) (N := some 94) (v := ?_) (a' := ?_) #[false,true,true,true,true,false,true,false,false,false,false,false,false,false,false] rfl rfl (any_of HT_.out (by kernel_rfl)) (fun _ _ _ h => h) (Or.inl ⟨by rfl,?_⟩) ?_ ?_
                rotate_left;(intro w';go_simp;with_reducible rfl);rotate_left;(simp only [Act.put,List.setIfInBounds_toArray,List.set_cons_zero,List.set_cons_succ,i64_w,i32_w];rfl)
                refine take_ (i := 0) (N := some 88) (v := ?_) (a' := ?_) #[true,true,true,true,true,false,true,false,false,false,false,false,false,false,false] rfl rfl (take_ofW HT_.out HW_.out (by kernel_rfl)) (fun _ _ _ h => h) (Or.inl ⟨by rfl,?_⟩) hHeld ?_ ?_
                rotate_left
                ·rintro w' ⟨s0,s1,s2,s3,s4,s5,s6⟩
                 go_simp
                 with_reducible rfl
                rotate_left
                ·simp only [Act.put,List.setIfInBounds_toArray,List.set_cons_zero,List.set_cons_succ,i64_w,i32_w]
                 rfl
                refine take_ (i := 5) (N := some 93) (v := ?_) (a' := ?_) #[true,true,true,true,true,true,true,false,false,false,false,false,false,false,false] rfl rfl (take_ofW HT_.out HW_.out (by kernel_rfl)) (fun _ _ _ h => h) (Or.inl ⟨by rfl,?_⟩) hHeld ?_ ?_
                rotate_left
                ·rintro w' ⟨s0,s1,s2,s3,s4,s5,s6⟩
                 go_simp
                 with_reducible rfl
                rotate_left
                ·simp only [Act.put,List.setIfInBounds_toArray,List.set_cons_zero,List.set_cons_succ,i64_w,i32_w]
                 rfl
                refine one_ (i := 7) (N := some 95) #[true,true,true,true,true,true,true,true,false,false,false,false,false,false,false] rfl rfl (one_of HT_.out (by kernel_rfl)) (by decide) (fun K hK => ?_)
                refine goes_ Try.func23 (by kernel_rfl) rfl #[.agg #[.int .u64 t143,.int .u64 t144,.slice Ao30 t145.length co30],.int .i64 ((rd_T40 l1 x9_2).f0),.string t148] (by rfl) rfl rfl (by (try simp only [List.map_toArray,List.map_cons,List.map_nil]);first | done | rfl | (simp only [List.length_drop,List.length_take];rfl)) ?_
                with_reducible refine (ideal_Open.calls t143 t144 _ _ t145 ((rd_T40 l1 x9_2).f0) t148 t155 t156 false _ ?side1 ?side2 A43.out).mono ?_
                (case side1 => repeat (first | exact (Kd.R_reads' HO_136002.out).2.2 | (with_reducible refine Kd.C_alloc ?_ _) | (with_reducible refine Kd.C_drewN ?_ _) | (with_reducible refine Kd.C_drew ?_)))
                (case side2 => exact (Kd.R_reads' HO_136002.out).2.1)
                rintro e w76 ⟨rfl,hb⟩
                refine ⟨_,rfl,?_⟩
                have n0_ := Aside0.mk (Kd.R_below (by (with_reducible repeat (first | apply Kd.R_alloc | apply Kd.R_drewN | apply Kd.R_drew));exact HO_136002.out) hb)
                have n1_ := Aside0.mk (Kd.R_below (by (with_reducible repeat (first | apply Kd.R_alloc | apply Kd.R_drewN | apply Kd.R_drew));exact HO_150002.out) hb)
                have n2_ := Aside0.mk (Kd.R_below (by (with_reducible repeat (first | apply Kd.R_alloc | apply Kd.R_drewN | apply Kd.R_drew));exact HO153.out) hb)
                have n3_ := Aside0.mk (blk_below (g := gb135) (o := .cells #[.int .u64 t143,.int .u64 t144,.slice Ao30 t145.length co30] 31 (0,0)) (by (with_reducible repeat (first | refine blk_drewN ?_ _ | refine blk_drew ?_ | refine blk_alloc ?_ _));exact BK135.out) hb)
                have n4_ := Aside0.mk (blk_below (g := gb149) (o := .cells #[.int .u64 t143,.int .u64 t144,.slice Ao30 t145.length co30] 31 (0,0)) (by (with_reducible repeat (first | refine blk_drewN ?_ _ | refine blk_drew ?_ | refine blk_alloc ?_ _));exact BK149.out) hb)
                have n5_ := Aside0.mk (below_step (by repeat (first | (with_reducible first | exact HB.out | apply below_alloc | apply pw_below_drewN | apply below_drew1 | refine below_set ?_ GE135.out | refine below_set ?_ GE149.out) | exact HB.out)) hb)
                clear HO_136002
                clear HO_150002
                clear HO153
                clear BK135
                clear BK149
                clear HB
                have HO_136002 := n0_
                have HO_150002 := n1_
                have HO153 := n2_
                have BK135 := n3_
                have BK149 := n4_
                have HB := n5_
                clear n0_ n1_ n2_ n3_ n4_ n5_
                (try clear hb)
                (try clear hb2)
                (try clear hk)
                (try clear hi)
                refine hK.out _ _ ⟨(blk_cell BK135.out 0).trans rfl,(blk_cell BK135.out 1).trans rfl,(blk_cell BK135.out 2).trans rfl,(up_ HB.out hw154_0),(up_ HB.out hw154_1),(up_ HB.out hw154_2),(up_ HB.out hw154_3)⟩ (fun hHeld => ?_)
                clear hK K
                refine norm_ (a' := ?_) ?_ ?_
                rotate_left
                ·show Act.put _ (some 95) _ = _
                 simp only [Act.put,List.setIfInBounds_toArray,List.set_cons_zero,List.set_cons_succ,i64_w,i32_w]
                 rfl
                refine pure_ (i := 8) (N := some 87) (v := ?_) (a' := ?_) #[true,true,true,true,true,true,true,true,true,false,false,false,false,false,false] rfl rfl (any_of HT_.out (by kernel_rfl)) (fun _ _ _ h => h) (Or.inl ⟨by rfl,?_⟩) ?_ ?_
                rotate_left;(intro w';go_simp;with_reducible rfl);rotate_left;(simp only [Act.put,List.setIfInBounds_toArray,List.set_cons_zero,List.set_cons_succ,i64_w,i32_w];rfl)
                refine pure_ (i := 9) (N := some 96) (v := ?_) (a' := ?_) #[true,true,true,true,true,true,true,true,true,true,false,false,false,false,false] rfl rfl (any_of HT_.out (by kernel_rfl)) (fun _ _ _ h => h) (Or.inl ⟨by rfl,?_⟩) ?_ ?_
                rotate_left;(intro w';go_simp;with_reducible rfl);rotate_left;(simp only [Act.put,List.setIfInBounds_toArray,List.set_cons_zero,List.set_cons_succ,i64_w,i32_w];rfl)
                refine pure_ (i := 10) (N := some 97) (v := ?_) (a' := ?_) #[true,true,true,true,true,true,true,true,true,true,true,false,false,false,false] rfl rfl (any_of HT_.out (by kernel_rfl)) (fun _ _ _ h => h) (Or.inl ⟨by rfl,?_⟩) ?_ ?_
                rotate_left;(intro w';go_simp;with_reducible rfl);rotate_left;(simp only [Act.put,List.setIfInBounds_toArray,List.set_cons_zero,List.set_cons_succ,i64_w,i32_w];rfl)
                refine pure_ (i := 11) (N := some 98) (v := ?_) (a' := ?_) #[true,true,true,true,true,true,true,true,true,true,true,true,false,false,false] rfl rfl (any_of HT_.out (by kernel_rfl)) (fun _ _ _ h => h) (Or.inl ⟨by rfl,?_⟩) ?_ ?_
                rotate_left;(intro w';go_simp;with_reducible rfl);rotate_left;(simp only [Act.put,List.setIfInBounds_toArray,List.set_cons_zero,List.set_cons_succ,i64_w,i32_w];rfl)
                refine pure_ (i := 12) (N := some 13) (v := ?_) (a' := ?_) #[true,true,true,true,true,true,true,true,true,true,true,true,true,false,false] rfl rfl (any_of HT_.out (by kernel_rfl)) (fun _ _ _ h => h) (Or.inl ⟨by rfl,?_⟩) ?_ ?_
                rotate_left;(intro w';go_simp;with_reducible rfl);rotate_left;(simp only [Act.put,List.setIfInBounds_toArray,List.set_cons_zero,List.set_cons_succ,i64_w,i32_w];rfl)
                refine pure_ (i := 13) (N := some 14) (v := ?_) (a' := ?_) #[true,true,true,true,true,true,true,true,true,true,true,true,true,true,false] rfl rfl (any_of HT_.out (by kernel_rfl)) (fun _ _ _ h => h) (Or.inl ⟨by rfl,?_⟩) ?_ ?_
                rotate_left;(intro w';go_simp;with_reducible rfl);rotate_left;(simp only [Act.put,List.setIfInBounds_toArray,List.set_cons_zero,List.set_cons_succ,i64_w,i32_w];rfl)
                refine pure_ (i := 14) (N := some 15) (v := ?_) (a' := ?_) #[true,true,true,true,true,true,true,true,true,true,true,true,true,true,true] rfl rfl (any_of HT_.out (by kernel_rfl)) (fun _ _ _ h => h) (Or.inl ⟨by rfl,?_⟩) ?_ ?_
                rotate_left;(intro w';go_simp;with_reducible rfl);rotate_left;(simp only [Act.put,List.setIfInBounds_toArray,List.set_cons_zero,List.set_cons_succ,i64_w,i32_w];rfl)
                refine done_ (done_of HT_.out (by kernel_rfl)) ?_
                try go_wp2
                have n0_ := Aside0.mk (Kd.R_drew HO_136002.out)
                have n1_ := Aside0.mk (Kd.R_drew HO_150002.out)
                have n2_ := Aside0.mk (Kd.R_drew HO153.out)
                have n3_ := Aside0.mk (blk_drew BK135.out)
                have n4_ := Aside0.mk (blk_drew BK149.out)
                have n5_ := Aside0.mk (below_drew1 HB.out)
                clear HO_136002
                clear HO_150002
                clear HO153
                clear BK135
                clear BK149
                clear HB
                have HO_136002 := n0_
                have HO_150002 := n1_
                have HO153 := n2_
                have BK135 := n3_
                have BK149 := n4_
                have HB := n5_
                clear n0_ n1_ n2_ n3_ n4_ n5_
                have p158 : 0 ≤ (x9_2 : Int) := of_decide_eq_true (by first | (with_reducible assumption) | assumption)
                have q158 : x9_2 < (l1.length : Int) := of_decide_eq_true (by first | (with_reducible assumption) | assumption)
                obtain ⟨ad158,e158,hx158_0,hx158_1,hx158_2,hx158_3⟩ := at_T40 HR1.out x9_2 p158 q158
                have hw158_3 := hx158_3
                have hw158_2 := hx158_2
                have hw158_1 := hx158_1
                have hw158_0 := hx158_0
                obtain rfl : ad139 = ad158 := (by injection e158)
                replace hx158_0 := (HB.out.cell (World.block_lt_of_cell? w _ hx158_0)).trans hx158_0
                replace hx158_1 := (HB.out.cell (World.block_lt_of_cell? w _ hx158_1)).trans hx158_1
                replace hx158_2 := (HB.out.cell (World.block_lt_of_cell? w _ hx158_2)).trans hx158_2
                replace hx158_3 := (HB.out.cell (World.block_lt_of_cell? w _ hx158_3)).trans hx158_3
                replace p158 := eq_true p158
                replace q158 := eq_true q158
                refine start_ (n := 16) (S := fun w' => w'.cell? ⟨gb135,0,none⟩ = some (.int .u64 t143) ∧ w'.cell? ⟨gb135,1,none⟩ = some (.int .u64 t144) ∧ w'.cell? ⟨gb135,2,none⟩ = some (.slice Ao30 t145.length co30) ∧ w'.cell? (ad139.add ((x9_2).toNat * 4)) = some (.int .i64 ((rd_T40 l1 x9_2).f0)) ∧ w'.cell? ⟨(ad139.add ((x9_2).toNat * 4)).block,(ad139.add ((x9_2).toNat * 4)).off + 1,none⟩ = some (.int .u64 ((rd_T40 l1 x9_2).f1)) ∧ w'.cell? ⟨(ad139.add ((x9_2).toNat * 4)).block,(ad139.add ((x9_2).toNat * 4)).off + 2,none⟩ = some (.string ((rd_T40 l1 x9_2).f2)) ∧ w'.cell? ⟨(ad139.add ((x9_2).toNat * 4)).block,(ad139.add ((x9_2).toNat * 4)).off + 3,none⟩ = some (.string ((rd_T40 l1 x9_2).f3))) (ds := []) #[false,false,false,false,false,false,false,false,false,false,false,false,false,false,false,false] (by kernel_rfl) rfl rfl ⟨(blk_cell BK135.out 0).trans rfl,(blk_cell BK135.out 1).trans rfl,(blk_cell BK135.out 2).trans rfl,(up_ HB.out hw158_0),(up_ HB.out hw158_1),(up_ HB.out hw158_2),(up_ HB.out hw158_3)⟩ (fun hHeld => ?_);refine with_tabW dominolaw10_IdealOwn.tab17 dominolaw10_IdealOwn.bits17 (fun HT_ HW_ => ?_)
                generalize w76.drew = w77 at HO_136002 HO_150002 HO153 BK135 BK149 HB hx158_0 hx158_1 hx158_2 hx158_3 hHeld ⊢
                refine pure_ (i := 1) (N := some 101) (v := ?_) (a' := ?_) #[false,true,false,false,false,false,false,false,false,false,false,false,false,false,false,false] rfl rfl (any_of HT_.out (by kernel_rfl)) (fun _ _ _ h => h) (Or.inl ⟨by rfl,?_⟩) ?_ ?_
                rotate_left;(intro w';go_simp;with_reducible rfl);rotate_left;(simp only [Act.put,List.setIfInBounds_toArray,List.set_cons_zero,List.set_cons_succ,i64_w,i32_w];rfl)
                refine pure_ (i := 2) (N := some 102) (v := ?_) (a' := ?_) #[false,true,true,false,false,false,false,false,false,false,false,false,false,false,false,false] rfl rfl (any_of HT_.out (by kernel_rfl)) (fun _ _ _ h => h) (Or.inl ⟨by rfl,?_⟩) ?_ ?_
                rotate_left;(intro w';go_simp;with_reducible rfl);rotate_left;(simp only [Act.put,List.setIfInBounds_toArray,List.set_cons_zero,List.set_cons_succ,i64_w,i32_w];rfl)
                refine pure_ (i := 3) (N := some 103) (v := ?_) (a' := ?_) #[false,true,true,true,false,false,false,false,false,false,false,false,false,false,false,false] rfl rfl (any_of HT_.out (by kernel_rfl)) (fun _ _ _ h => h) (Or.inl ⟨by rfl,?_⟩) ?_ ?_
                rotate_left;(intro w';go_simp;with_reducible rfl);rotate_left;(simp only [Act.put,List.setIfInBounds_toArray,List.set_cons_zero,List.set_cons_succ,i64_w,i32_w];rfl)
                refine pure_ (i := 4) (N := some 104) (v := ?_) (a' := ?_) #[false,true,true,true,true,false,false,false,false,false,false,false,false,false,false,false] rfl rfl (any_of HT_.out (by kernel_rfl)) (fun _ _ _ h => h) (Or.inl ⟨by rfl,?_⟩) ?_ ?_
                rotate_left;(intro w';go_simp;with_reducible rfl);rotate_left;(simp only [Act.put,List.setIfInBounds_toArray,List.set_cons_zero,List.set_cons_succ,i64_w,i32_w];rfl)
                refine pure_ (i := 7) (N := some 107) (v := ?_) (a' := ?_) #[false,true,true,true,true,false,false,true,false,false,false,false,false,false,false,false] rfl rfl (any_of HT_.out (by kernel_rfl)) (fun _ _ _ h => h) (Or.inl ⟨by rfl,?_⟩) ?_ ?_
                rotate_left;(intro w';go_simp;with_reducible rfl);rotate_left;(simp only [Act.put,List.setIfInBounds_toArray,List.set_cons_zero,List.set_cons_succ,i64_w,i32_w];rfl)
                refine take_ (i := 0) (N := some 100) (v := ?_) (a' := ?_) #[true,true,true,true,true,false,false,true,false,false,false,false,false,false,false,false] rfl rfl (take_ofW HT_.out HW_.out (by kernel_rfl)) (fun _ _ _ h => h) (Or.inl ⟨by rfl,?_⟩) hHeld ?_ ?_
                rotate_left
                ·rintro w' ⟨s0,s1,s2,s3,s4,s5,s6⟩
                 go_simp
                 with_reducible rfl
                rotate_left
                ·simp only [Act.put,List.setIfInBounds_toArray,List.set_cons_zero,List.set_cons_succ,i64_w,i32_w]
                 rfl
                refine take_ (i := 5) (N := some 105) (v := ?_) (a' := ?_) #[true,true,true,true,true,true,false,true,false,false,false,false,false,false,false,false] rfl rfl (take_ofW HT_.out HW_.out (by kernel_rfl)) (fun _ _ _ h => h) (Or.inl ⟨by rfl,?_⟩) hHeld ?_ ?_
                rotate_left
                ·rintro w' ⟨s0,s1,s2,s3,s4,s5,s6⟩
                 go_simp
                 with_reducible rfl
                rotate_left
                ·simp only [Act.put,List.setIfInBounds_toArray,List.set_cons_zero,List.set_cons_succ,i64_w,i32_w]
                 rfl
                refine pure_ (i := 6) (N := some 106) (v := ?_) (a' := ?_) #[true,true,true,true,true,true,true,true,false,false,false,false,false,false,false,false] rfl rfl (any_of HT_.out (by kernel_rfl)) (fun _ _ _ h => h) (Or.inl ⟨by rfl,?_⟩) ?_ ?_
                rotate_left;(intro w';go_simp;with_reducible rfl);rotate_left;(simp only [Act.put,List.setIfInBounds_toArray,List.set_cons_zero,List.set_cons_succ,i64_w,i32_w];rfl)
                refine one_ (i := 8) (N := some 108) #[true,true,true,true,true,true,true,true,true,false,false,false,false,false,false,false] rfl rfl (one_of HT_.out (by kernel_rfl)) (by decide) (fun K hK => ?_)
                refine goes_ Try.func23 (by kernel_rfl) rfl #[.agg #[.int .u64 t143,.int .u64 t144,.slice Ao30 t145.length co30],.int .i64 (wrap64 (((rd_T40 l1 x9_2).f0) + 1)),.string t148] (by rfl) rfl rfl (by (try simp only [List.map_toArray,List.map_cons,List.map_nil]);first | done | rfl | (simp only [List.length_drop,List.length_take];rfl)) ?_
                with_reducible refine (ideal_Open.calls t143 t144 _ _ t145 (wrap64 (((rd_T40 l1 x9_2).f0) + 1)) t148 t159 t160 false _ ?side1 ?side2 A44.out).mono ?_
                (case side1 => repeat (first | exact (Kd.R_reads' HO_136002.out).2.2 | (with_reducible refine Kd.C_alloc ?_ _) | (with_reducible refine Kd.C_drewN ?_ _) | (with_reducible refine Kd.C_drew ?_)))
                (case side2 => exact (Kd.R_reads' HO_136002.out).2.1)
                rintro e w78 ⟨rfl,hb⟩
                refine ⟨_,rfl,?_⟩
                have n0_ := Aside0.mk (Kd.R_below (by (with_reducible repeat (first | apply Kd.R_alloc | apply Kd.R_drewN | apply Kd.R_drew));exact HO_136002.out) hb)
                have n1_ := Aside0.mk (Kd.R_below (by (with_reducible repeat (first | apply Kd.R_alloc | apply Kd.R_drewN | apply Kd.R_drew));exact HO_150002.out) hb)
                have n2_ := Aside0.mk (Kd.R_below (by (with_reducible repeat (first | apply Kd.R_alloc | apply Kd.R_drewN | apply Kd.R_drew));exact HO153.out) hb)
                have n3_ := Aside0.mk (blk_below (g := gb135) (o := .cells #[.int .u64 t143,.int .u64 t144,.slice Ao30 t145.length co30] 31 (0,0)) (by (with_reducible repeat (first | refine blk_drewN ?_ _ | refine blk_drew ?_ | refine blk_alloc ?_ _));exact BK135.out) hb)
                have n4_ := Aside0.mk (blk_below (g := gb149) (o := .cells #[.int .u64 t143,.int .u64 t144,.slice Ao30 t145.length co30] 31 (0,0)) (by (with_reducible repeat (first | refine blk_drewN ?_ _ | refine blk_drew ?_ | refine blk_alloc ?_ _));exact BK149.out) hb)
                have n5_ := Aside0.mk (below_step (by repeat (first | (with_reducible first | exact HB.out | apply below_alloc | apply pw_below_drewN | apply below_drew1 | refine below_set ?_ GE135.out | refine below_set ?_ GE149.out) | exact HB.out)) hb)
                clear HO_136002
                clear HO_150002
                clear HO153
                clear BK135
                clear BK149
                clear HB
                have HO_136002 := n0_
                have HO_150002 := n1_
                have HO153 := n2_
                have BK135 := n3_
                have BK149 := n4_
                have HB := n5_
                clear n0_ n1_ n2_ n3_ n4_ n5_
                (try clear hb)
                (try clear hb2)
                (try clear hk)
                (try clear hi)
                refine hK.out _ _ ⟨(blk_cell BK135.out 0).trans rfl,(blk_cell BK135.out 1).trans rfl,(blk_cell BK135.out 2).trans rfl,(up_ HB.out hw158_0),(up_ HB.out hw158_1),(up_ HB.out hw158_2),(up_ HB.out hw158_3)⟩ (fun hHeld => ?_)
                clear hK K
                refine norm_ (a' := ?_) ?_ ?_
                rotate_left
                ·show Act.put _ (some 108) _ = _
                 simp only [Act.put,List.setIfInBounds_toArray,List.set_cons_zero,List.set_cons_succ,i64_w,i32_w]
                 rfl
                refine pure_ (i := 9) (N := some 99) (v := ?_) (a' := ?_) #[true,true,true,true,true,true,true,true,true,true,false,false,false,false,false,false] rfl rfl (any_of HT_.out (by kernel_rfl)) (fun _ _ _ h => h) (Or.inl ⟨by rfl,?_⟩) ?_ ?_
                rotate_left;(intro w';go_simp;with_reducible rfl);rotate_left;(simp only [Act.put,List.setIfInBounds_toArray,List.set_cons_zero,List.set_cons_succ,i64_w,i32_w];rfl)
                refine pure_ (i := 10) (N := some 109) (v := ?_) (a' := ?_) #[true,true,true,true,true,true,true,true,true,true,true,false,false,false,false,false] rfl rfl (any_of HT_.out (by kernel_rfl)) (fun _ _ _ h => h) (Or.inl ⟨by rfl,?_⟩) ?_ ?_
                rotate_left;(intro w';go_simp;with_reducible rfl);rotate_left;(simp only [Act.put,List.setIfInBounds_toArray,List.set_cons_zero,List.set_cons_succ,i64_w,i32_w];rfl)
                refine pure_ (i := 11) (N := some 110) (v := ?_) (a' := ?_) #[true,true,true,true,true,true,true,true,true,true,true,true,false,false,false,false] rfl rfl (any_of HT_.out (by kernel_rfl)) (fun _ _ _ h => h) (Or.inl ⟨by rfl,?_⟩) ?_ ?_
                rotate_left;(intro w';go_simp;with_reducible rfl);rotate_left;(simp only [Act.put,List.setIfInBounds_toArray,List.set_cons_zero,List.set_cons_succ,i64_w,i32_w];rfl)
                refine pure_ (i := 12) (N := some 111) (v := ?_) (a' := ?_) #[true,true,true,true,true,true,true,true,true,true,true,true,true,false,false,false] rfl rfl (any_of HT_.out (by kernel_rfl)) (fun _ _ _ h => h) (Or.inl ⟨by rfl,?_⟩) ?_ ?_
                rotate_left;(intro w';go_simp;with_reducible rfl);rotate_left;(simp only [Act.put,List.setIfInBounds_toArray,List.set_cons_zero,List.set_cons_succ,i64_w,i32_w];rfl)
                refine pure_ (i := 13) (N := some 16) (v := ?_) (a' := ?_) #[true,true,true,true,true,true,true,true,true,true,true,true,true,true,false,false] rfl rfl (any_of HT_.out (by kernel_rfl)) (fun _ _ _ h => h) (Or.inl ⟨by rfl,?_⟩) ?_ ?_
                rotate_left;(intro w';go_simp;with_reducible rfl);rotate_left;(simp only [Act.put,List.setIfInBounds_toArray,List.set_cons_zero,List.set_cons_succ,i64_w,i32_w];rfl)
                refine pure_ (i := 14) (N := some 17) (v := ?_) (a' := ?_) #[true,true,true,true,true,true,true,true,true,true,true,true,true,true,true,false] rfl rfl (any_of HT_.out (by kernel_rfl)) (fun _ _ _ h => h) (Or.inl ⟨by rfl,?_⟩) ?_ ?_
                rotate_left;(intro w';go_simp;with_reducible rfl);rotate_left;(simp only [Act.put,List.setIfInBounds_toArray,List.set_cons_zero,List.set_cons_succ,i64_w,i32_w];rfl)
                refine pure_ (i := 15) (N := some 18) (v := ?_) (a' := ?_) #[true,true,true,true,true,true,true,true,true,true,true,true,true,true,true,true] rfl rfl (any_of HT_.out (by kernel_rfl)) (fun _ _ _ h => h) (Or.inl ⟨by rfl,?_⟩) ?_ ?_
                rotate_left;(intro w';go_simp;with_reducible rfl);rotate_left;(simp only [Act.put,List.setIfInBounds_toArray,List.set_cons_zero,List.set_cons_succ,i64_w,i32_w];rfl)
                refine done_ (done_of HT_.out (by kernel_rfl)) ?_
                try go_wp2
                go_ret
                exact ⟨by first | rfl | (simp [errW_none,errW_some] <;> rfl) | (simp [*,errW_none,errW_some] <;> rfl),by repeat (first | (with_reducible first | exact HB.out | apply below_alloc | apply pw_below_drewN | apply below_drew1 | refine below_set ?_ GE135.out | refine below_set ?_ GE149.out) | exact HB.out)⟩
             ·rw [if_neg c42] at H
              exact absurd H (by simp)
            ·rw [if_neg c41] at H
             exact absurd H (by simp)
           ·rw [if_neg c40] at H
            exact absurd H (by simp)
       ·rw [if_neg c21] at H
        exact absurd H (by simp)
      ·rw [if_neg c20] at H
       have c20b0 : decide (x9_2 < (l1.length : Int)) = false := decide_eq_false c20
       clear c20
       have H' := Aside0.mk H
       clear H
       go_wp2
       go_loopg [19] k2 (fun kq v19 w' => ∃ (x19_3 : Int),v19 = .int .i64 x19_3 ∧ Aside0 (dominolaw10_IdealOwn.l2 kq l1 a2 x8_2 x19_3 x136000_2 x136001_2 x136002_2 = some r) ∧ Aside0 (kq ≤ k2) ∧ Aside0 (Kd.R Kd.string 9 w' w.heap.size (fun _ => True) u8 x8_2) ∧ Aside0 (Kd.R k73 73 w' w.heap.size (fun _ => True) u136002 x136002_2) ∧ Aside0 (w'.heap[gb135]? = some (.cells #[.int .u64 x136000_2,.int .u64 x136001_2,u136002] 31 (0,0))) ∧ Aside0 (Below w.heap.size w w'))
       case atStart => exact ⟨(0),(by first | rfl | (simp;done) | (simp [*];done)),H',⟨Nat.le_refl _⟩,⟨by (with_reducible repeat (first | apply Kd.R_alloc | apply Kd.R_drewN | apply Kd.R_drew));exact HO_8.out⟩,⟨by (with_reducible repeat (first | apply Kd.R_alloc | apply Kd.R_drewN | apply Kd.R_drew));exact HO_136002.out⟩,⟨by (with_reducible repeat (first | refine blk_drewN ?_ _ | refine blk_drew ?_ | refine blk_alloc ?_ _));exact BK135.out⟩,⟨by repeat (first | (with_reducible first | exact HB.out | apply below_alloc | apply pw_below_drewN | apply below_drew1 | refine below_set ?_ GE135.out) | exact HB.out)⟩⟩
       case round =>
        clear H'
        try clear p1;try clear q1
        try clear hx1;try clear c2
        try clear p2;try clear c4
        try clear c5;try clear p6
        try clear p15;try clear q15
        try clear hx15;try clear p16
        try clear q16;try clear hx16
        try clear c20;try clear c20b0
        try clear c21;try clear c23
        try clear c40;try clear c41
        try clear c42;try clear c52
        try clear p64;try clear hx154_0
        try clear hx154_1;try clear hx154_2
        try clear hx154_3;try clear hx158_0
        try clear hx158_1;try clear hx158_2
        try clear hx158_3;try clear hx162_0
        try clear hx162_1;try clear hx162_2
        try clear hx162_3;try clear p154
        try clear p158;try clear p162
        try clear q154;try clear q158;try clear q162
        obtain ⟨x19_3,rfl,HA,HK3,HO_8,HO_136002,BK135,HB⟩ := hrel
        cases gk with
        | zero => exact absurd HA.out (by simp [dominolaw10_IdealOwn.l2])
        | succ k3 =>
         have H := HA.out
         clear HA
         simp only [dominolaw10_IdealOwn.l2] at H
         by_cases c79 : x19_3 < (x8_2.length : Int)
         ·rw [if_pos c79] at H
          have c79b0 : decide (x19_3 < (x8_2.length : Int)) = true := decide_eq_true c79
          clear c79
          by_cases c80 : 0 ≤ x19_3
          ·rw [if_pos c80] at H
           have c80b0 : decide (0 ≤ x19_3) = true := decide_eq_true c80
           clear c80
           by_cases c81 : (rdOf ByteArray.empty x8_2 x19_3).toList = a2.toList
           ·rw [if_pos c81] at H
            have c81b0 : ((rdOf ByteArray.empty x8_2 x19_3).toList == a2.toList) = true := beq_iff_eq.mpr c81
            have c81b1 : ((rdOf ByteArray.empty x8_2 x19_3).toList != a2.toList) = false := bne_eq_false_iff_eq.mpr c81
            clear c81
            obtain rfl := Option.some.inj H
            obtain ⟨Ao82,co82,eo82⟩ := Kd.R_slice HO_8.out
            subst eo82
            have p164 : 0 ≤ (x19_3 : Int) := of_decide_eq_true (by first | (with_reducible assumption) | assumption)
            have q164 : x19_3 < (x8_2.length : Int) := of_decide_eq_true (by first | (with_reducible assumption) | assumption)
            obtain ⟨ad164,e164,hx164_0⟩ := Kd.at_string (Kd.R_reads' HO_8.out).2.2 x19_3 p164 q164
            cases e164
            replace p164 := eq_true p164
            replace q164 := eq_true q164
            go_wp2
            go_ret
            exact ⟨by first | rfl | (simp [errW_none,errW_some] <;> rfl) | (simp [*,errW_none,errW_some] <;> rfl),by repeat (first | (with_reducible first | exact HB.out | apply below_alloc | apply pw_below_drewN | apply below_drew1 | refine below_set ?_ GE135.out) | exact HB.out)⟩
           ·rw [if_neg c81] at H
            have c81b0 : ((rdOf ByteArray.empty x8_2 x19_3).toList == a2.toList) = false := beq_eq_false_iff_ne.mpr c81
            have c81b1 : ((rdOf ByteArray.empty x8_2 x19_3).toList != a2.toList) = true := bne_iff_ne.mpr c81
            have H' := Aside0.mk H
            clear H
            obtain ⟨Ao83,co83,eo83⟩ := Kd.R_slice HO_8.out
            subst eo83
            have p164 : 0 ≤ (x19_3 : Int) := of_decide_eq_true (by first | (with_reducible assumption) | assumption)
            have q164 : x19_3 < (x8_2.length : Int) := of_decide_eq_true (by first | (with_reducible assumption) | assumption)
            obtain ⟨ad164,e164,hx164_0⟩ := Kd.at_string (Kd.R_reads' HO_8.out).2.2 x19_3 p164 q164
            cases e164
            replace p164 := eq_true p164
            replace q164 := eq_true q164
            go_wp2
            go_roundg k3
            case measure => have := HJ3.out;have := HK2.out;have := HK3.out;omega
            case rel => exact ⟨(wrap64 (x19_3 + 1)),(by first | rfl | (simp;done) | (simp [*];done)),H',⟨by have := HJ3.out;have := HK2.out;have := HK3.out;omega⟩,⟨by (with_reducible repeat (first | apply Kd.R_alloc | apply Kd.R_drewN | apply Kd.R_drew));exact HO_8.out⟩,⟨by (with_reducible repeat (first | apply Kd.R_alloc | apply Kd.R_drewN | apply Kd.R_drew));exact HO_136002.out⟩,⟨by (with_reducible repeat (first | refine blk_drewN ?_ _ | refine blk_drew ?_ | refine blk_alloc ?_ _));exact BK135.out⟩,⟨by repeat (first | (with_reducible first | exact HB.out | apply below_alloc | apply pw_below_drewN | apply below_drew1 | refine below_set ?_ GE135.out) | exact HB.out)⟩⟩
          ·rw [if_neg c80] at H
           exact absurd H (by simp)
         ·rw [if_neg c79] at H
          have c79b0 : decide (x19_3 < (x8_2.length : Int)) = false := decide_eq_false c79
          clear c79
          replace H := Option.bind_eq_some_iff.mp H
          obtain ⟨⟨t165,t166,t167⟩,A840,H⟩ := H
          replace H : (if t167 = true then (some false) else (some (x136001_2 == (IntKind.u64.wrap ((l1.length : Int)))))) = some r := H
          have A84 := Aside0.mk A840
          clear A840
          by_cases c85 : t167 = true
          ·subst c85
           have H1 : (some false) = some r := by rw [if_pos rfl] at H;exact H
           clear H
           have H := H1
           clear H1
           obtain rfl := Option.some.inj H
           obtain ⟨Ao86,co86,eo86⟩ := Kd.R_slice HO_8.out
           subst eo86
           have hcz87_0 : wr.cell? ⟨gb135,0,none⟩ = some (.int .u64 x136000_2) := (blk_cell BK135.out 0).trans rfl
           have hcz87_1 : wr.cell? ⟨gb135,1,none⟩ = some (.int .u64 x136001_2) := (blk_cell BK135.out 1).trans rfl
           have hcz87_2 : wr.cell? ⟨gb135,2,none⟩ = some (u136002) := (blk_cell BK135.out 2).trans rfl
           have hfz87_0 := blk_frozen BK135.out 0
           have hfz87_1 := blk_frozen BK135.out 1
           have hfz87_2 := blk_frozen BK135.out 2
           obtain ⟨Ao88,co88,eo88⟩ := Kd.R_slice HO_136002.out
           subst eo88
           go_wp2_with (first | ((with_reducible refine gate_callee (f := 23) rfl ?_);refine goesL_ (some 150) rfl rfl Try.func23 (by kernel_rfl) rfl #[.agg #[.int .u64 x136000_2,.int .u64 x136001_2,.slice Ao88 x136002_2.length co88],.int .i64 0,.string a2] rfl (by (try simp only [List.map_toArray,List.map_cons,List.map_nil]);first | done | rfl | (simp only [List.length_drop,List.length_take];rfl)) ?_;(with_reducible refine (ideal_Open.calls x136000_2 x136001_2 _ _ x136002_2 0 a2 t165 t166 true _ ?side1 ?side2 A84.out).mono ?_);(case side1 => repeat (first | exact (Kd.R_reads' HO_136002.out).2.2 | (with_reducible refine Kd.C_alloc ?_ _) | (with_reducible refine Kd.C_drewN ?_ _) | (with_reducible refine Kd.C_drew ?_)));(case side2 => exact (Kd.R_reads' HO_136002.out).2.1);rintro e w89 ⟨rfl,hb⟩;refine ⟨_,rfl,?_⟩;have n0_ := Aside0.mk (Kd.R_below (by (with_reducible repeat (first | apply Kd.R_alloc | apply Kd.R_drewN | apply Kd.R_drew));exact HO_8.out) hb);have n1_ := Aside0.mk (Kd.R_below (by (with_reducible repeat (first | apply Kd.R_alloc | apply Kd.R_drewN | apply Kd.R_drew));exact HO_136002.out) hb);have n2_ := Aside0.mk (blk_below (g := gb135) (o := .cells #[.int .u64 x136000_2,.int .u64 x136001_2,.slice Ao88 x136002_2.length co88] 31 (0,0)) (by (with_reducible repeat (first | refine blk_drewN ?_ _ | refine blk_drew ?_ | refine blk_alloc ?_ _));exact BK135.out) hb);have n3_ := Aside0.mk (below_step (by repeat (first | (with_reducible first | exact HB.out | apply below_alloc | apply pw_below_drewN | apply below_drew1 | refine below_set ?_ GE135.out) | exact HB.out)) hb);clear HO_8;clear HO_136002;clear BK135;clear HB;have HO_8 := n0_;have HO_136002 := n1_;have BK135 := n2_;have HB := n3_;clear n0_ n1_ n2_ n3_;(try clear hb);(try clear hb2);(try clear hk);(try clear hi)))
           go_ret
           exact ⟨by first | rfl | (simp [errW_none,errW_some] <;> rfl) | (simp [*,errW_none,errW_some] <;> rfl),by repeat (first | (with_reducible first | exact HB.out | apply below_alloc | apply pw_below_drewN | apply below_drew1 | refine below_set ?_ GE135.out) | exact HB.out)⟩
          ·replace c85 := Bool.eq_false_iff.mpr c85
           subst c85
           have H1 : (some (x136001_2 == (IntKind.u64.wrap ((l1.length : Int))))) = some r := by rw [if_neg (show ¬ (false = true) by decide)] at H;exact H
           clear H
           have H := H1
           clear H1
           obtain rfl := Option.some.inj H
           obtain ⟨Ao90,co90,eo90⟩ := Kd.R_slice HO_8.out
           subst eo90
           have hcz91_0 : wr.cell? ⟨gb135,0,none⟩ = some (.int .u64 x136000_2) := (blk_cell BK135.out 0).trans rfl
           have hcz91_1 : wr.cell? ⟨gb135,1,none⟩ = some (.int .u64 x136001_2) := (blk_cell BK135.out 1).trans rfl
           have hcz91_2 : wr.cell? ⟨gb135,2,none⟩ = some (u136002) := (blk_cell BK135.out 2).trans rfl
           have hfz91_0 := blk_frozen BK135.out 0
           have hfz91_1 := blk_frozen BK135.out 1
           have hfz91_2 := blk_frozen BK135.out 2
           obtain ⟨Ao92,co92,eo92⟩ := Kd.R_slice HO_136002.out
           subst eo92
           go_wp2_with (first | ((with_reducible refine gate_callee (f := 23) rfl ?_);refine goesL_ (some 150) rfl rfl Try.func23 (by kernel_rfl) rfl #[.agg #[.int .u64 x136000_2,.int .u64 x136001_2,.slice Ao92 x136002_2.length co92],.int .i64 0,.string a2] rfl (by (try simp only [List.map_toArray,List.map_cons,List.map_nil]);first | done | rfl | (simp only [List.length_drop,List.length_take];rfl)) ?_;(with_reducible refine (ideal_Open.calls x136000_2 x136001_2 _ _ x136002_2 0 a2 t165 t166 false _ ?side1 ?side2 A84.out).mono ?_);(case side1 => repeat (first | exact (Kd.R_reads' HO_136002.out).2.2 | (with_reducible refine Kd.C_alloc ?_ _) | (with_reducible refine Kd.C_drewN ?_ _) | (with_reducible refine Kd.C_drew ?_)));(case side2 => exact (Kd.R_reads' HO_136002.out).2.1);rintro e w93 ⟨rfl,hb⟩;refine ⟨_,rfl,?_⟩;have n0_ := Aside0.mk (Kd.R_below (by (with_reducible repeat (first | apply Kd.R_alloc | apply Kd.R_drewN | apply Kd.R_drew));exact HO_8.out) hb);have n1_ := Aside0.mk (Kd.R_below (by (with_reducible repeat (first | apply Kd.R_alloc | apply Kd.R_drewN | apply Kd.R_drew));exact HO_136002.out) hb);have n2_ := Aside0.mk (blk_below (g := gb135) (o := .cells #[.int .u64 x136000_2,.int .u64 x136001_2,.slice Ao92 x136002_2.length co92] 31 (0,0)) (by (with_reducible repeat (first | refine blk_drewN ?_ _ | refine blk_drew ?_ | refine blk_alloc ?_ _));exact BK135.out) hb);have n3_ := Aside0.mk (below_step (by repeat (first | (with_reducible first | exact HB.out | apply below_alloc | apply pw_below_drewN | apply below_drew1 | refine below_set ?_ GE135.out) | exact HB.out)) hb);clear HO_8;clear HO_136002;clear BK135;clear HB;have HO_8 := n0_;have HO_136002 := n1_;have BK135 := n2_;have HB := n3_;clear n0_ n1_ n2_ n3_;(try clear hb);(try clear hb2);(try clear hk);(try clear hi);have hcz94_0 : w93.cell? ⟨gb135,0,none⟩ = some (.int .u64 x136000_2) := (blk_cell BK135.out 0).trans rfl;have hcz94_1 : w93.cell? ⟨gb135,1,none⟩ = some (.int .u64 x136001_2) := (blk_cell BK135.out 1).trans rfl;have hcz94_2 : w93.cell? ⟨gb135,2,none⟩ = some (.slice Ao92 x136002_2.length co92) := (blk_cell BK135.out 2).trans rfl;have hfz94_0 := blk_frozen BK135.out 0;have hfz94_1 := blk_frozen BK135.out 1;have hfz94_2 := blk_frozen BK135.out 2))
           go_ret
           exact ⟨by first | rfl | (simp [errW_none,errW_some] <;> rfl) | (simp [*,errW_none,errW_some] <;> rfl),by repeat (first | (with_reducible first | exact HB.out | apply below_alloc | apply pw_below_drewN | apply below_drew1 | refine below_set ?_ GE135.out) | exact HB.out)⟩

/-- THE ONE PURE STATEMENT of dominolaw10_IdealOwn: yours. -/
def dominolaw10_IdealOwn.Pure : Prop := ∀ (a0 : Int) (l1 : List (S40)) (a2 : ByteArray),(Lit.int .u64 a0).wf = true → l1.length ≤ maxLen → l1.length * 48 ≤ 140737488351232 → (∀ x ∈ l1,((Lit.int .i64 x.f0).wf = true ∧ (Lit.int .u64 x.f1).wf = true ∧ x.f2.size ≤ maxLen ∧ x.f3.size ≤ maxLen)) → a2.size ≤ 140737488351232 → ∃ k,dominolaw10_IdealOwn.f k a0 l1 a2 = some true
theorem dominolaw10_IdealOwn.walk (P : dominolaw10_IdealOwn.Pure) (a0 : Int) (a1 : Option Addr) (cap1 : Nat) (l1 : List (S40)) (a2 : ByteArray) (w : World) (w0 : (Lit.int .u64 a0).wf = true) (hr1 : Kd.C k40 w a1 l1.length l1) (hc1 : l1.length ≤ cap1) (w1_0 : l1.length ≤ maxLen) (w1_1 : l1.length * 48 ≤ 140737488351232) (w1_2 : (∀ x ∈ l1,((Lit.int .i64 x.f0).wf = true ∧ (Lit.int .u64 x.f1).wf = true ∧ x.f2.size ≤ maxLen ∧ x.f3.size ≤ maxLen))) (w2 : a2.size ≤ 140737488351232) :
  Calls Try.prog 7 #[.int .u64 a0,.slice a1 l1.length cap1,.string a2] w fun e w' => e = .returned (.bool true) ∧ Below w.heap.size w w' := by
 obtain ⟨k,h⟩ := P a0 l1 a2 w0 w1_0 w1_1 w1_2 w2
 refine (dominolaw10_IdealOwn.calls k a0 a1 cap1 l1 a2 true w hr1 hc1 h).mono ?_
 rintro e w' ⟨rfl,hd⟩
 exact ⟨rfl,hd⟩

end Go.Proofs.Ytoeccdhanafkpaa.PIdealOwn
