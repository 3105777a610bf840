-- printed for this claim by a program of the claim (wip/tools/pp.py over the kit's print)
import Derived.Test.YtoeccdhanafkpaaPIdealSealsx0
import Derived.Test.YtoeccdhanafkpaaPIdealSealsx2
import Derived.Test.YtoeccdhanafkpaaPIdealSealsx3
import Derived.Test.YtoeccdhanafkpaaPIdealSealsx4
import Derived.Test.YtoeccdhanafkpaaPIdealSealsx5
namespace Go.Proofs.Ytoeccdhanafkpaa.PIdealSeals
open Go.RowKit Go.Proofs.YtoeccdhanafkpaaW.PrintWords Go.Proofs.YtoeccdhanafkpaaW.PrintLast Go.Proofs.YtoeccdhanafkpaaW.PrintMore
attribute [local go_sem] max2_int min2_int max_two min_two max_three min_three max_four min_four   -- for this text's walks alone
set_option linter.unusedVariables false
set_option linter.unusedSimpArgs false

attribute [local go_sem] isSome_setCell_
/-! ### dominolaw10_IdealSeals: function 4 -/
mutual
def dominolaw10_IdealSeals.j0 : Nat → Int → List (S40) → Int → ByteArray → Bool → Option (Bool)
 | 0,_,_,_,_,_ => none
 | k + 1,x0,x1,x2,x3,x39 => if x39 = true then ((dominolaw10_shown.f k).bind fun t169 => (some t169)) else ((ideal_New.f x0).bind fun bt170 => ((dominoref10_New.f x0).bind fun bt176 => (dominolaw10_IdealSeals.l0 k x1 x2 x3 0 bt170.1 bt170.2.1 bt170.2.2 bt176.1 bt176.2.1 bt176.2.2)))
def dominolaw10_IdealSeals.l0 : Nat → List (S40) → Int → ByteArray → Int → Int → Int → List (S73) → Int → Int → List (S74) → Option (Bool)
 | 0,_,_,_,_,_,_,_,_,_,_ => none
 | k + 1,x1,x2,x3,x11,x176000,x176001,x176002,x182000,x182001,x182002 => if x11 < (x1.length : Int) then (if 0 ≤ x11 then ((ideal_Seal.f k x176000 x176001 x176002 ((rd_T40 x1 x11).f0) ((rd_T40 x1 x11).f1) ((rd_T40 x1 x11).f2) ((rd_T40 x1 x11).f3)).bind fun bt186 => ((dominoref10_Seal.f k x182000 x182001 x182002 ((rd_T40 x1 x11).f0) ((rd_T40 x1 x11).f1) ((rd_T40 x1 x11).f2) ((rd_T40 x1 x11).f3)).bind fun bt197 => (if bt186.2.2.2.toList = bt197.2.2.2.toList then ((dominolaw10_its.f k bt186.1 bt186.2.1 bt186.2.2.1).bind fun bt204 => ((dominoref10_Same.f k bt204.1 bt204.2.1 bt204.2.2 bt197.1 bt197.2.1 bt197.2.2.1).bind fun t209 => (if t209 = true then ((ideal_Cid.f bt186.2.2.2).bind fun t210 => ((dominoref10_Cid.f bt197.2.2.2).bind fun t211 => (dominolaw10_IdealSeals.j2 k x1 x2 x3 x11 bt186.2.2.2 (t210.toList != t211.toList) bt186.1 bt186.2.1 bt186.2.2.1 bt197.1 bt197.2.1 bt197.2.2.1))) else (dominolaw10_IdealSeals.j2 k x1 x2 x3 x11 bt186.2.2.2 true bt186.1 bt186.2.1 bt186.2.2.1 bt197.1 bt197.2.1 bt197.2.2.1)))) else (dominolaw10_IdealSeals.j2 k x1 x2 x3 x11 bt186.2.2.2 true bt186.1 bt186.2.1 bt186.2.2.1 bt197.1 bt197.2.1 bt197.2.2.1)))) else (none)) else ((ideal_Open.f x176000 x176001 x176002 x2 x3).bind fun bt218 => ((dominoref10_Open.f k x182000 x182001 x182002 x2 x3).bind fun bt221 => (if bt218.1 = bt221.1 then (if bt218.2.1.toList = bt221.2.1.toList then (if (bt218.2.2 == bt221.2.2) = true then ((ideal_Cid.f x3).bind fun t224 => ((dominoref10_Cid.f x3).bind fun t225 => (some (t224.toList == t225.toList)))) else (some false)) else (some false)) else (some false))))
def dominolaw10_IdealSeals.j2 : Nat → List (S40) → Int → ByteArray → Int → ByteArray → Bool → Int → Int → List (S73) → Int → Int → List (S74) → Option (Bool)
 | 0,_,_,_,_,_,_,_,_,_,_,_,_ => none
 | k + 1,x1,x2,x3,x11,x13,x119,x176000,x176001,x176002,x182000,x182001,x182002 => if x119 = true then (some false) else ((ideal_Open.f x176000 x176001 x176002 x2 x13).bind fun bt212 => ((dominoref10_Open.f k x182000 x182001 x182002 x2 x13).bind fun bt215 => (if bt212.1 = bt215.1 then (if bt212.2.1.toList = bt215.2.1.toList then (if (bt212.2.2 != bt215.2.2) = true then (some false) else (dominolaw10_IdealSeals.l0 k x1 x2 x3 (wrap64 (x11 + 1)) x176000 x176001 x176002 x182000 x182001 x182002)) else (some false)) else (some false))))
end
def dominolaw10_IdealSeals.f (k : Nat) (a0 : Int) (l1 : List (S40)) (a2 : Int) (a3 : ByteArray) : Option (Bool):=(dominolaw10_bounded.f k l1).bind fun t167 => (if t167 = true then (if (a3.size : Int) > 300 then (dominolaw10_IdealSeals.j0 k a0 l1 a2 a3 true) else ((dominolaw10_shown.f k).bind fun t168 => (dominolaw10_IdealSeals.j0 k a0 l1 a2 a3 (!t168)))) else (dominolaw10_IdealSeals.j0 k a0 l1 a2 a3 true))
theorem dominolaw10_IdealSeals.mono_l : ∀ k,(∀ y0 y1 y2 y3 y4,LeO (dominolaw10_IdealSeals.j0 k y0 y1 y2 y3 y4) (dominolaw10_IdealSeals.j0 (k + 1) y0 y1 y2 y3 y4)) ∧ (∀ y0 y1 y2 y3 y4 y5 y6 y7 y8 y9,LeO (dominolaw10_IdealSeals.l0 k y0 y1 y2 y3 y4 y5 y6 y7 y8 y9) (dominolaw10_IdealSeals.l0 (k + 1) y0 y1 y2 y3 y4 y5 y6 y7 y8 y9)) ∧ (∀ y0 y1 y2 y3 y4 y5 y6 y7 y8 y9 y10 y11,LeO (dominolaw10_IdealSeals.j2 k y0 y1 y2 y3 y4 y5 y6 y7 y8 y9 y10 y11) (dominolaw10_IdealSeals.j2 (k + 1) y0 y1 y2 y3 y4 y5 y6 y7 y8 y9 y10 y11))
 | 0 => ⟨fun _ _ _ _ _ r h => by simp [dominolaw10_IdealSeals.j0] at h,fun _ _ _ _ _ _ _ _ _ _ r h => by simp [dominolaw10_IdealSeals.l0] at h,fun _ _ _ _ _ _ _ _ _ _ _ _ r h => by simp [dominolaw10_IdealSeals.j2] at h⟩
 | k + 1 => by
  obtain ⟨ih0,ih1,ih2⟩:=dominolaw10_IdealSeals.mono_l k
  refine ⟨?_,?_,?_⟩
  ·intro y0 y1 y2 y3 y4
   unfold dominolaw10_IdealSeals.j0
   repeat' first
   | (with_reducible exact ih0 _ _ _ _ _)
   | (with_reducible exact ih1 _ _ _ _ _ _ _ _ _ _)
   | (with_reducible exact ih2 _ _ _ _ _ _ _ _ _ _ _ _)
   | (with_reducible exact dominolaw10_bounded.mono _ _)
   | (with_reducible exact dominolaw10_its.mono _ _ _ _)
   | (with_reducible exact dominolaw10_shown.mono _)
   | (with_reducible exact dominoref10_Open.mono _ _ _ _ _ _)
   | (with_reducible exact dominoref10_Same.mono _ _ _ _ _ _ _)
   | (with_reducible exact dominoref10_Seal.mono _ _ _ _ _ _ _ _)
   | (with_reducible exact ideal_Seal.mono _ _ _ _ _ _ _ _)
   | (with_reducible exact LeO.refl _)
   | (with_reducible exact LeO.none _)
   | (with_reducible refine LeO.ite ?_ ?_)
   | (with_reducible refine LeO.bind ?_ (fun _ => ?_))
   | exact ih0 _ _ _ _ _
   | exact ih1 _ _ _ _ _ _ _ _ _ _
   | exact ih2 _ _ _ _ _ _ _ _ _ _ _ _
   | exact dominolaw10_bounded.mono _ _
   | exact dominolaw10_its.mono _ _ _ _
   | exact dominolaw10_shown.mono _
   | exact dominoref10_Open.mono _ _ _ _ _ _
   | exact dominoref10_Same.mono _ _ _ _ _ _ _
   | exact dominoref10_Seal.mono _ _ _ _ _ _ _ _
   | exact ideal_Seal.mono _ _ _ _ _ _ _ _
   | exact LeO.none _
   | refine LeO.ite ?_ ?_
   | refine LeO.bind ?_ (fun _ => ?_)
  ·intro y0 y1 y2 y3 y4 y5 y6 y7 y8 y9
   unfold dominolaw10_IdealSeals.l0
   repeat' first
   | (with_reducible exact ih0 _ _ _ _ _)
   | (with_reducible exact ih1 _ _ _ _ _ _ _ _ _ _)
   | (with_reducible exact ih2 _ _ _ _ _ _ _ _ _ _ _ _)
   | (with_reducible exact dominolaw10_bounded.mono _ _)
   | (with_reducible exact dominolaw10_its.mono _ _ _ _)
   | (with_reducible exact dominolaw10_shown.mono _)
   | (with_reducible exact dominoref10_Open.mono _ _ _ _ _ _)
   | (with_reducible exact dominoref10_Same.mono _ _ _ _ _ _ _)
   | (with_reducible exact dominoref10_Seal.mono _ _ _ _ _ _ _ _)
   | (with_reducible exact ideal_Seal.mono _ _ _ _ _ _ _ _)
   | (with_reducible exact LeO.refl _)
   | (with_reducible exact LeO.none _)
   | (with_reducible refine LeO.ite ?_ ?_)
   | (with_reducible refine LeO.bind ?_ (fun _ => ?_))
   | exact ih0 _ _ _ _ _
   | exact ih1 _ _ _ _ _ _ _ _ _ _
   | exact ih2 _ _ _ _ _ _ _ _ _ _ _ _
   | exact dominolaw10_bounded.mono _ _
   | exact dominolaw10_its.mono _ _ _ _
   | exact dominolaw10_shown.mono _
   | exact dominoref10_Open.mono _ _ _ _ _ _
   | exact dominoref10_Same.mono _ _ _ _ _ _ _
   | exact dominoref10_Seal.mono _ _ _ _ _ _ _ _
   | exact ideal_Seal.mono _ _ _ _ _ _ _ _
   | exact LeO.none _
   | refine LeO.ite ?_ ?_
   | refine LeO.bind ?_ (fun _ => ?_)
  ·intro y0 y1 y2 y3 y4 y5 y6 y7 y8 y9 y10 y11
   unfold dominolaw10_IdealSeals.j2
   repeat' first
   | (with_reducible exact ih0 _ _ _ _ _)
   | (with_reducible exact ih1 _ _ _ _ _ _ _ _ _ _)
   | (with_reducible exact ih2 _ _ _ _ _ _ _ _ _ _ _ _)
   | (with_reducible exact dominolaw10_bounded.mono _ _)
   | (with_reducible exact dominolaw10_its.mono _ _ _ _)
   | (with_reducible exact dominolaw10_shown.mono _)
   | (with_reducible exact dominoref10_Open.mono _ _ _ _ _ _)
   | (with_reducible exact dominoref10_Same.mono _ _ _ _ _ _ _)
   | (with_reducible exact dominoref10_Seal.mono _ _ _ _ _ _ _ _)
   | (with_reducible exact ideal_Seal.mono _ _ _ _ _ _ _ _)
   | (with_reducible exact LeO.refl _)
   | (with_reducible exact LeO.none _)
   | (with_reducible refine LeO.ite ?_ ?_)
   | (with_reducible refine LeO.bind ?_ (fun _ => ?_))
   | exact ih0 _ _ _ _ _
   | exact ih1 _ _ _ _ _ _ _ _ _ _
   | exact ih2 _ _ _ _ _ _ _ _ _ _ _ _
   | exact dominolaw10_bounded.mono _ _
   | exact dominolaw10_its.mono _ _ _ _
   | exact dominolaw10_shown.mono _
   | exact dominoref10_Open.mono _ _ _ _ _ _
   | exact dominoref10_Same.mono _ _ _ _ _ _ _
   | exact dominoref10_Seal.mono _ _ _ _ _ _ _ _
   | exact ideal_Seal.mono _ _ _ _ _ _ _ _
   | exact LeO.none _
   | refine LeO.ite ?_ ?_
   | refine LeO.bind ?_ (fun _ => ?_)
theorem dominolaw10_IdealSeals.mono : ∀ a0 a1 a2 a3 k,LeO (dominolaw10_IdealSeals.f k a0 a1 a2 a3) (dominolaw10_IdealSeals.f (k + 1) a0 a1 a2 a3):=by
 intro a0 a1 a2 a3 k
 obtain ⟨ih0,ih1,ih2⟩:=dominolaw10_IdealSeals.mono_l k
 unfold dominolaw10_IdealSeals.f
 repeat' first
   | (with_reducible exact ih0 _ _ _ _ _)
   | (with_reducible exact ih1 _ _ _ _ _ _ _ _ _ _)
   | (with_reducible exact ih2 _ _ _ _ _ _ _ _ _ _ _ _)
   | (with_reducible exact dominolaw10_bounded.mono _ _)
   | (with_reducible exact dominolaw10_its.mono _ _ _ _)
   | (with_reducible exact dominolaw10_shown.mono _)
   | (with_reducible exact dominoref10_Open.mono _ _ _ _ _ _)
   | (with_reducible exact dominoref10_Same.mono _ _ _ _ _ _ _)
   | (with_reducible exact dominoref10_Seal.mono _ _ _ _ _ _ _ _)
   | (with_reducible exact ideal_Seal.mono _ _ _ _ _ _ _ _)
   | (with_reducible exact LeO.refl _)
   | (with_reducible exact LeO.none _)
   | (with_reducible refine LeO.ite ?_ ?_)
   | (with_reducible refine LeO.bind ?_ (fun _ => ?_))
   | exact ih0 _ _ _ _ _
   | exact ih1 _ _ _ _ _ _ _ _ _ _
   | exact ih2 _ _ _ _ _ _ _ _ _ _ _ _
   | exact dominolaw10_bounded.mono _ _
   | exact dominolaw10_its.mono _ _ _ _
   | exact dominolaw10_shown.mono _
   | exact dominoref10_Open.mono _ _ _ _ _ _
   | exact dominoref10_Same.mono _ _ _ _ _ _ _
   | exact dominoref10_Seal.mono _ _ _ _ _ _ _ _
   | exact ideal_Seal.mono _ _ _ _ _ _ _ _
   | exact LeO.none _
   | refine LeO.ite ?_ ?_
   | refine LeO.bind ?_ (fun _ => ?_)
def dominolaw10_IdealSeals.T8 : Bool × List (List Nat × List Nat):=(true,[([],[]),([],[]),([],[]),([1,2],[1,2]),([3],[3]),([4],[4]),([],[]),([],[]),([6,7],[6,7]),([8],[8]),([9],[9]),([],[]),([],[]),([11,12],[11,12]),([13],[13]),([14],[14]),([],[]),([],[]),([16,17],[16,17]),([18],[18]),([19],[19]),([0,5,10,15,20],[0,5,10,15,20]),([21],[21]),([22],[22]),([22],[22]),([],[]),([25,23,21,0,1,2,3,4,5,6,7,8,9,10,11,12,13,14,15,16,17,18,19,20,21,22,23,25],[23,25]),([24,26,0,1,2,3,4,5,6,7,8,9,10,11,12,13,14,15,16,17,18,19,20,21,22,23,24,25,26],[24])])
def dominolaw10_IdealSeals.B8 : List Nat:=[0,0,0,6,14,30,0,0,192,448,960,0,0,6144,14336,30720,0,0,196608,458752,983040,2097151,4194303,8388607,8388607,0,50331647,134217727]
theorem dominolaw10_IdealSeals.tab8 : rtab .any (opsOf Try.f4 8) = dominolaw10_IdealSeals.T8:=by kernel_rfl
theorem dominolaw10_IdealSeals.bits8 : waitsOk dominolaw10_IdealSeals.T8.2 dominolaw10_IdealSeals.B8 = true:=by kernel_rfl
def dominolaw10_IdealSeals.T9 : Bool × List (List Nat × List Nat):=(true,[([],[]),([],[]),([],[]),([1,2],[1,2]),([3],[3]),([4],[4]),([],[]),([],[]),([6,7],[6,7]),([8],[8]),([9],[9]),([],[]),([],[]),([11,12],[11,12]),([13],[13]),([14],[14]),([],[]),([],[]),([16,17],[16,17]),([18],[18]),([19],[19]),([0,5,10,15,20],[0,5,10,15,20]),([21],[21]),([22],[22]),([22],[22]),([],[]),([25,23,21,0,1,2,3,4,5,6,7,8,9,10,11,12,13,14,15,16,17,18,19,20,21,22,23,25],[23,25]),([24,26,0,1,2,3,4,5,6,7,8,9,10,11,12,13,14,15,16,17,18,19,20,21,22,23,24,25,26],[24])])
def dominolaw10_IdealSeals.B9 : List Nat:=[0,0,0,6,14,30,0,0,192,448,960,0,0,6144,14336,30720,0,0,196608,458752,983040,2097151,4194303,8388607,8388607,0,50331647,134217727]
theorem dominolaw10_IdealSeals.tab9 : rtab .any (opsOf Try.f4 9) = dominolaw10_IdealSeals.T9:=by kernel_rfl
theorem dominolaw10_IdealSeals.bits9 : waitsOk dominolaw10_IdealSeals.T9.2 dominolaw10_IdealSeals.B9 = true:=by kernel_rfl
def dominolaw10_IdealSeals.T12 : Bool × List (List Nat × List Nat):=(true,[([],[]),([],[]),([0,1],[0,1]),([2],[2]),([3],[3]),([4,3,3],[3,4]),([3],[3]),([5,6,5,3],[3,5,6]),([7,3],[3,7]),([3,8],[3,8]),([9,7],[9]),([10],[10]),([11,10,10],[10,11]),([10],[10]),([13,12,10],[10,13]),([12,14,10],[10,12,14]),([10,15],[10,15])])
def dominolaw10_IdealSeals.B12 : List Nat:=[0,0,3,7,15,31,15,127,255,511,1023,2047,4095,2047,16383,32767,65535]
theorem dominolaw10_IdealSeals.tab12 : rtab .any (opsOf Try.f4 12) = dominolaw10_IdealSeals.T12:=by kernel_rfl
theorem dominolaw10_IdealSeals.bits12 : waitsOk dominolaw10_IdealSeals.T12.2 dominolaw10_IdealSeals.B12 = true:=by kernel_rfl
set_option maxHeartbeats 8000000 in
set_option maxRecDepth 100000 in
theorem dominolaw10_IdealSeals.calls (k : Nat) (a0 : Int) (A1 : Option Addr) (c1 : Nat) (l1 : List (S40)) (a2 : Int) (a3 : ByteArray) (r : Bool) (w : World) (hr1 : Kd.C k40 w A1 l1.length l1) (hc1 : l1.length ≤ c1) (h : dominolaw10_IdealSeals.f k a0 l1 a2 a3 = some r) :
  Calls Try.prog 4 #[.int .u64 a0,.slice A1 l1.length c1,.int .i64 a2,.string a3] w fun e w' => e = .returned (.bool r) ∧ Below w.heap.size w w':=by
 have hu31:=Try.underlying31
 have hu35:=Try.underlying35
 have HR1:=am_ hr1
 have HC1:=am_ hc1
 clear hr1 hc1
 have HB:=am_ (Below.refl w.heap.size w)
 have H : ((dominolaw10_bounded.f k l1).bind fun t167 => (if t167 = true then (if (a3.size : Int) > 300 then (dominolaw10_IdealSeals.j0 k a0 l1 a2 a3 true) else ((dominolaw10_shown.f k).bind fun t168 => (dominolaw10_IdealSeals.j0 k a0 l1 a2 a3 (!t168)))) else (dominolaw10_IdealSeals.j0 k a0 l1 a2 a3 true))) = some r:=h
 clear h
 have HC5:=am_ H
 clear H
 go_enter Try.func4,Try.ntmps4
 go_upto_region 1 with (fail)
 go_cut [39] (fun v39 wc => ∃ (kq : Nat) (x39_4 : Bool),v39 = .bool x39_4 ∧ Aside0 (dominolaw10_IdealSeals.j0 kq a0 l1 a2 a3 x39_4 = some r) ∧ Aside0 (kq ≤ k) ∧ Aside0 (Below w.heap.size w wc))
 case first =>
  have H:=HC5.out
  clear HC5
  replace H:=Option.bind_eq_some_iff.mp H
  obtain ⟨t167,A60,H⟩:=H
  replace H : (if t167 = true then (if (a3.size : Int) > 300 then (dominolaw10_IdealSeals.j0 k a0 l1 a2 a3 true) else ((dominolaw10_shown.f k).bind fun t168 => (dominolaw10_IdealSeals.j0 k a0 l1 a2 a3 (!t168)))) else (dominolaw10_IdealSeals.j0 k a0 l1 a2 a3 true)) = some r:=H
  have A6:=am_ A60
  clear A60
  by_cases c7 : t167 = true
  ·subst c7
   have H1 : (if (a3.size : Int) > 300 then (dominolaw10_IdealSeals.j0 k a0 l1 a2 a3 true) else ((dominolaw10_shown.f k).bind fun t168 => (dominolaw10_IdealSeals.j0 k a0 l1 a2 a3 (!t168)))) = some r:=by rw [if_pos rfl] at H;exact H
   clear H
   have H:=H1
   clear H1
   by_cases c8 : (a3.size : Int) > 300
   ·rw [if_pos c8] at H
    have c8b0 : decide (300 < (a3.size : Int)) = true:=decide_eq_true c8
    have c8b1 : decide (300 < a3.size) = true:=decide_eq_true (by omega)
    clear c8
    (first|rw [c8b0]|(simp only [i64_w,i32_w];rw [c8b0])|skip)
    have H':=am_ H
    clear H
    go_wp2_with (first|((with_reducible refine gate_callee (f:=14) rfl ?_);refine goesL_ (some 29) rfl rfl Try.func14 (by kernel_rfl) rfl #[.slice A1 l1.length c1] rfl (by (try simp only [List.map_toArray,List.map_cons,List.map_nil]);first|done|rfl|(simp only [List.length_drop,List.length_take];rfl)) ?_;(with_reducible refine (dominolaw10_bounded.calls k _ _ l1 true _ ?side1 ?side2 A6.out).mono ?_);(case side1 => repeat (first|exact (Kd.C_below HR1.out HB.out)|(with_reducible refine Kd.C_alloc ?_ _)|(with_reducible refine Kd.C_drewN ?_ _)|(with_reducible refine Kd.C_drew ?_)));(case side2 => exact HC1.out);rintro e w' ⟨rfl,⟨nd,rfl⟩⟩;refine ⟨_,rfl,?_⟩))
    go_meet
    case rel => exact ⟨_,(true),(by first|rfl|(simp;done)|(simp [*];done)),H',⟨by first|omega|exact Nat.le_refl _⟩,⟨by repeat (first|(with_reducible first|exact HB.out|apply ba_|apply pn_|apply pd_)|exact HB.out)⟩⟩
   ·rw [if_neg c8] at H
    have c8b0 : decide (300 < (a3.size : Int)) = false:=decide_eq_false c8
    have c8b1 : decide (300 < a3.size) = false:=decide_eq_false (by omega)
    clear c8
    (first|rw [c8b0]|(simp only [i64_w,i32_w];rw [c8b0])|skip)
    replace H:=Option.bind_eq_some_iff.mp H
    obtain ⟨t168,A90,H⟩:=H
    replace H : (dominolaw10_IdealSeals.j0 k a0 l1 a2 a3 (!t168)) = some r:=H
    have A9:=am_ A90
    clear A90
    have H':=am_ H
    clear H
    go_wp2_with (first|((with_reducible refine gate_callee (f:=14) rfl ?_);refine goesL_ (some 29) rfl rfl Try.func14 (by kernel_rfl) rfl #[.slice A1 l1.length c1] rfl (by (try simp only [List.map_toArray,List.map_cons,List.map_nil]);first|done|rfl|(simp only [List.length_drop,List.length_take];rfl)) ?_;(with_reducible refine (dominolaw10_bounded.calls k _ _ l1 true _ ?side1 ?side2 A6.out).mono ?_);(case side1 => repeat (first|exact (Kd.C_below HR1.out HB.out)|(with_reducible refine Kd.C_alloc ?_ _)|(with_reducible refine Kd.C_drewN ?_ _)|(with_reducible refine Kd.C_drew ?_)));(case side2 => exact HC1.out);rintro e w' ⟨rfl,⟨nd,rfl⟩⟩;refine ⟨_,rfl,?_⟩)|(go_at_call 9;(with_reducible refine (dominolaw10_shown.calls k  t168 _ A9.out).mono ?_);rintro e w10 ⟨rfl,hb⟩;have n0_:=am_ (below_step (by repeat (first|(with_reducible first|exact HB.out|apply ba_|apply pn_|apply pd_)|exact HB.out)) hb);clear HB;have HB:=n0_;clear n0_;(try clear hb);(try clear hb2);(try clear hk);(try clear hi)))
    go_meet
    case rel => exact ⟨_,(!t168),(by first|rfl|(simp;done)|(simp [*];done)),H',⟨by first|omega|exact Nat.le_refl _⟩,⟨by repeat (first|(with_reducible first|exact HB.out|apply ba_|apply pn_|apply pd_)|exact HB.out)⟩⟩
  ·replace c7:=Bool.eq_false_iff.mpr c7
   subst c7
   have H1 : (dominolaw10_IdealSeals.j0 k a0 l1 a2 a3 true) = some r:=by rw [if_neg (show ¬ (false = true) by decide)] at H;exact H
   clear H
   have H:=H1
   clear H1
   have H':=am_ H
   clear H
   go_wp2_with (first|((with_reducible refine gate_callee (f:=14) rfl ?_);refine goesL_ (some 29) rfl rfl Try.func14 (by kernel_rfl) rfl #[.slice A1 l1.length c1] rfl (by (try simp only [List.map_toArray,List.map_cons,List.map_nil]);first|done|rfl|(simp only [List.length_drop,List.length_take];rfl)) ?_;(with_reducible refine (dominolaw10_bounded.calls k _ _ l1 false _ ?side1 ?side2 A6.out).mono ?_);(case side1 => repeat (first|exact (Kd.C_below HR1.out HB.out)|(with_reducible refine Kd.C_alloc ?_ _)|(with_reducible refine Kd.C_drewN ?_ _)|(with_reducible refine Kd.C_drew ?_)));(case side2 => exact HC1.out);rintro e w' ⟨rfl,⟨nd,rfl⟩⟩;refine ⟨_,rfl,?_⟩))
   go_meet
   case rel => exact ⟨_,(true),(by first|rfl|(simp;done)|(simp [*];done)),H',⟨by first|omega|exact Nat.le_refl _⟩,⟨by repeat (first|(with_reducible first|exact HB.out|apply ba_|apply pn_|apply pd_)|exact HB.out)⟩⟩
 case rest =>
  clear HC5
  try clear c1;try clear p2
  try clear c4;try clear c7
  try clear c8;try clear c8b0;try clear c8b1
  obtain ⟨kq,x39_4,rfl,HA,HJ4,HB⟩:=hcut
  cases kq with
  | zero => exact absurd HA.out (by simp [dominolaw10_IdealSeals.j0])
  | succ kj4 =>
   have H:=HA.out
   clear HA
   simp only [dominolaw10_IdealSeals.j0] at H
   by_cases c11 : x39_4 = true
   ·subst c11
    have H1 : ((dominolaw10_shown.f kj4).bind fun t169 => (some t169)) = some r:=by rw [if_pos rfl] at H;exact H
    clear H
    have H:=H1
    clear H1
    replace H:=Option.bind_eq_some_iff.mp H
    obtain ⟨t169,A120,H⟩:=H
    replace H : (some t169) = some r:=H
    have A12:=am_ A120
    clear A120
    obtain rfl:=Option.some.inj H
    go_wp2_with (first|((with_reducible refine gate_callee (f:=9) rfl ?_);refine goesL_ (some 40) rfl rfl Try.func9 (by kernel_rfl) rfl #[] rfl (by (try simp only [List.map_toArray,List.map_cons,List.map_nil]);first|done|rfl|(simp only [List.length_drop,List.length_take];rfl)) ?_;(with_reducible refine (dominolaw10_shown.calls kj4  t169 _ A12.out).mono ?_);rintro e w13 ⟨rfl,hb⟩;refine ⟨_,rfl,?_⟩;have n0_:=am_ (below_step (by repeat (first|(with_reducible first|exact HB.out|apply ba_|apply pn_|apply pd_)|exact HB.out)) hb);clear HB;have HB:=n0_;clear n0_;(try clear hb);(try clear hb2);(try clear hk);(try clear hi)))
    go_ret
    exact ⟨by first|rfl|(simp [errW_none,errW_some] <;> rfl)|(simp [*,errW_none,errW_some] <;> rfl),by repeat (first|(with_reducible first|exact HB.out|apply ba_|apply pn_|apply pd_)|exact HB.out)⟩
   ·replace c11:=Bool.eq_false_iff.mpr c11
    subst c11
    have H1 : ((ideal_New.f a0).bind fun bt170 => ((dominoref10_New.f a0).bind fun bt176 => (dominolaw10_IdealSeals.l0 kj4 l1 a2 a3 0 bt170.1 bt170.2.1 bt170.2.2 bt176.1 bt176.2.1 bt176.2.2))) = some r:=by rw [if_neg (show ¬ (false = true) by decide)] at H;exact H
    clear H
    have H:=H1
    clear H1
    replace H:=Option.bind_eq_some_iff.mp H
    obtain ⟨⟨t170,t171,t172⟩,A140,H⟩:=H
    replace H : ((dominoref10_New.f a0).bind fun bt176 => (dominolaw10_IdealSeals.l0 kj4 l1 a2 a3 0 t170 t171 t172 bt176.1 bt176.2.1 bt176.2.2)) = some r:=H
    have A14:=am_ A140
    clear A140
    replace H:=Option.bind_eq_some_iff.mp H
    obtain ⟨⟨t176,t177,t178⟩,A150,H⟩:=H
    replace H : (dominolaw10_IdealSeals.l0 kj4 l1 a2 a3 0 t170 t171 t172 t176 t177 t178) = some r:=H
    have A15:=am_ A150
    clear A150
    have H':=am_ H
    clear H
    go_wp2_with (first|((with_reducible refine gate_callee (f:=15) rfl ?_);refine goesL_ (some 42) rfl rfl Try.func15 (by kernel_rfl) rfl #[.int .u64 a0] rfl (by (try simp only [List.map_toArray,List.map_cons,List.map_nil]);first|done|rfl|(simp only [List.length_drop,List.length_take];rfl)) ?_;(with_reducible refine (ideal_New.calls a0 t170 t171 t172 _ A14.out).mono ?_);rintro e w16 ⟨v173,rfl,ho0,hb⟩;refine ⟨_,rfl,?_⟩;have n0_:=am_ (Kd.R_lower ho0 (below_size (by repeat (first|(with_reducible first|exact HB.out|apply ba_|apply pn_|apply pd_)|exact HB.out))));have n1_:=am_ (below_step (by repeat (first|(with_reducible first|exact HB.out|apply ba_|apply pn_|apply pd_)|exact HB.out)) hb);clear HB;have HO174:=n0_;have HB:=n1_;clear n0_ n1_;(try clear hb);(try clear hb2);(try clear hk);(try clear hi);(try clear ho0))|((with_reducible refine gate_dst (N:=9) rfl ?_);(try (refine gate_guard (by rfl) ?_;dsimp only));refine box_event ?hg (N:=9) ?hd (cs:=#[.int .u64 0,.int .u64 0,.slice none 0 0]) (t:=31) ?hr ?_;(case hd => rfl);(case hg => rfl);(case hr => first|(go_simp;done)|(go_simp;rfl));intro gb175 hg w17 hbox hb;have n0_:=am_ (Kd.R_below (by (with_reducible repeat (first|apply ra_|apply rn_|apply rd_));exact HO174.out) hb);have n1_:=am_ (below_step (by repeat (first|(with_reducible first|exact HB.out|apply ba_|apply pn_|apply pd_)|exact HB.out)) hb);have n2_:=am_ (hbox);have n3_:=am_ ((by rw [hg];exact (below_size (by repeat (first|(with_reducible first|exact HB.out|apply ba_|apply pn_|apply pd_)|exact HB.out))) : w.heap.size ≤ gb175));have n4_:=am_ ((by rw [hg];exact (below_size (by repeat (first|(with_reducible first|exact HB.out|apply ba_|apply pn_|apply pd_)|exact HB.out))) : w.heap.size ≤ gb175));clear HO174;clear HB;have HO174:=n0_;have HB:=n1_;have BK175:=n2_;have GW175:=n3_;have GE175:=n4_;clear n0_ n1_ n2_ n3_ n4_;clear hb hbox hg;have hcz18_0 : w17.cell? ⟨gb175,0,none⟩ = some (.int .u64 0):=(kc_ BK175.out 0).trans rfl;have hcz18_1 : w17.cell? ⟨gb175,1,none⟩ = some (.int .u64 0):=(kc_ BK175.out 1).trans rfl;have hcz18_2 : w17.cell? ⟨gb175,2,none⟩ = some (.slice none 0 0):=(kc_ BK175.out 2).trans rfl;have hfz18_0:=blk_frozen BK175.out 0;have hfz18_1:=blk_frozen BK175.out 1;have hfz18_2:=blk_frozen BK175.out 2;obtain ⟨Ao19,co19,eo19⟩:=Kd.R_slice HO174.out;subst eo19)|((with_reducible refine gate_callee (f:=16) rfl ?_);refine goesL_ (some 44) rfl rfl Try.func16 (by kernel_rfl) rfl #[.int .u64 a0] rfl (by (try simp only [List.map_toArray,List.map_cons,List.map_nil]);first|done|rfl|(simp only [List.length_drop,List.length_take];rfl)) ?_;(with_reducible refine (dominoref10_New.calls a0 t176 t177 t178 _ A15.out).mono ?_);rintro e w20 ⟨v179,rfl,ho0,hb⟩;refine ⟨_,rfl,?_⟩;have n0_:=am_ (Kd.R_below (by (with_reducible repeat (first|apply ra_|apply rn_|apply rd_));exact (Kd.R_mono (Kd.R_far (p:=⟨gb175,2,none⟩) (Kd.R_far (p:=⟨gb175,1,none⟩) (Kd.R_far (p:=⟨gb175,0,none⟩) (Kd.R_types HO174.out BK175.out (by decide)) (fun _ hk => hk.2) (.int .u64 t170)) (fun _ hk => hk.2) (.int .u64 t171)) (fun _ hk => hk.2) (.slice Ao19 t172.length co19)) (fun _ h_ => h_.1))) hb);have n1_:=am_ (Kd.R_lower ho0 (below_size (by repeat (first|(with_reducible first|exact HB.out|apply ba_|apply pn_|apply pd_|refine bs_ ?_ GE175.out)|exact HB.out))));have n2_:=am_ (blk_below (g:=gb175) (o:=.cells #[.int .u64 t170,.int .u64 t171,.slice Ao19 t172.length co19] 31 (0,0)) (by (with_reducible repeat (first|refine kn_ ?_ _|refine kd_ ?_|refine ka_ ?_ _));refine blk_put (cs:=#[.int .u64 t170,.int .u64 t171,.slice none 0 0]) ?_ 2 _ rfl;(with_reducible repeat (first|refine kn_ ?_ _|refine kd_ ?_|refine ka_ ?_ _));refine blk_put (cs:=#[.int .u64 t170,.int .u64 0,.slice none 0 0]) ?_ 1 _ rfl;(with_reducible repeat (first|refine kn_ ?_ _|refine kd_ ?_|refine ka_ ?_ _));refine blk_put (cs:=#[.int .u64 0,.int .u64 0,.slice none 0 0]) ?_ 0 _ rfl;(with_reducible repeat (first|refine kn_ ?_ _|refine kd_ ?_|refine ka_ ?_ _));exact BK175.out) hb);have n3_:=am_ (below_step (by repeat (first|(with_reducible first|exact HB.out|apply ba_|apply pn_|apply pd_|refine bs_ ?_ GE175.out)|exact HB.out)) hb);clear HO174;clear BK175;clear HB;have HO174:=n0_;have HO180:=n1_;have BK175:=n2_;have HB:=n3_;clear n0_ n1_ n2_ n3_;(try clear hb);(try clear hb2);(try clear hk);(try clear hi);(try clear ho0))|((with_reducible refine gate_dst (N:=10) rfl ?_);(try (refine gate_guard (by rfl) ?_;dsimp only));refine box_event ?hg (N:=10) ?hd (cs:=#[.int .u64 0,.int .u64 0,.slice none 0 0]) (t:=35) ?hr ?_;(case hd => rfl);(case hg => rfl);(case hr => first|(go_simp;done)|(go_simp;rfl));intro gb181 hg w21 hbox hb;have n0_:=am_ (Kd.R_below (by (with_reducible repeat (first|apply ra_|apply rn_|apply rd_));exact HO174.out) hb);have n1_:=am_ (Kd.R_below (by (with_reducible repeat (first|apply ra_|apply rn_|apply rd_));exact HO180.out) hb);have n2_:=am_ (blk_below (g:=gb175) (o:=.cells #[.int .u64 t170,.int .u64 t171,.slice Ao19 t172.length co19] 31 (0,0)) (by (with_reducible repeat (first|refine kn_ ?_ _|refine kd_ ?_|refine ka_ ?_ _));exact BK175.out) hb);have n3_:=am_ (below_step (by repeat (first|(with_reducible first|exact HB.out|apply ba_|apply pn_|apply pd_|refine bs_ ?_ GE175.out)|exact HB.out)) hb);have n4_:=am_ (hbox);have n5_:=am_ ((by rw [hg];exact (below_size (by repeat (first|(with_reducible first|exact HB.out|apply ba_|apply pn_|apply pd_|refine bs_ ?_ GE175.out)|exact HB.out))) : w.heap.size ≤ gb181));have n6_:=am_ ((by rw [hg];exact (below_size (by repeat (first|(with_reducible first|exact HB.out|apply ba_|apply pn_|apply pd_|refine bs_ ?_ GE175.out)|exact HB.out))) : w.heap.size ≤ gb181));have n7_:=am_ ((by rw [hg];exact Nat.ne_of_lt (blk_lt (g:=gb175) (o:=.cells #[.int .u64 t170,.int .u64 t171,.slice Ao19 t172.length co19] 31 (0,0)) (by (with_reducible repeat (first|refine kn_ ?_ _|refine kd_ ?_|refine ka_ ?_ _));exact BK175.out)) : gb175 ≠ gb181));have n8_:=am_ ((by rw [hg];exact Nat.ne_of_gt (blk_lt (g:=gb175) (o:=.cells #[.int .u64 t170,.int .u64 t171,.slice Ao19 t172.length co19] 31 (0,0)) (by (with_reducible repeat (first|refine kn_ ?_ _|refine kd_ ?_|refine ka_ ?_ _));exact BK175.out)) : gb181 ≠ gb175));clear HO174;clear HO180;clear BK175;clear HB;have HO174:=n0_;have HO180:=n1_;have BK175:=n2_;have HB:=n3_;have BK181:=n4_;have GW181:=n5_;have GE181:=n6_;have NB175_181:=n7_;have NB181_175:=n8_;clear n0_ n1_ n2_ n3_ n4_ n5_ n6_ n7_ n8_;clear hb hbox hg;have hnb22:=NB181_175.out;have hnc22:=NB175_181.out;have hcz23_0 : w21.cell? ⟨gb181,0,none⟩ = some (.int .u64 0):=(kc_ BK181.out 0).trans rfl;have hcz23_1 : w21.cell? ⟨gb181,1,none⟩ = some (.int .u64 0):=(kc_ BK181.out 1).trans rfl;have hcz23_2 : w21.cell? ⟨gb181,2,none⟩ = some (.slice none 0 0):=(kc_ BK181.out 2).trans rfl;have hfz23_0:=blk_frozen BK181.out 0;have hfz23_1:=blk_frozen BK181.out 1;have hfz23_2:=blk_frozen BK181.out 2;obtain ⟨Ao24,co24,eo24⟩:=Kd.R_slice HO180.out;subst eo24))
    go_loopg [11] kj4 (fun kq v11 w' => ∃ (x11_2 : Int) (x176000_2 : Int) (x176001_2 : Int) (x176002_2 : List (S73)) (x182000_2 : Int) (x182001_2 : Int) (x182002_2 : List (S74)) (u176002 : Value) (u182002 : Value),v11 = .int .i64 x11_2 ∧ Aside0 (dominolaw10_IdealSeals.l0 kq l1 a2 a3 x11_2 x176000_2 x176001_2 x176002_2 x182000_2 x182001_2 x182002_2 = some r) ∧ Aside0 (kq ≤ kj4) ∧ Aside0 (Kd.R k73 73 w' w.heap.size (fun _ => True) u176002 x176002_2) ∧ Aside0 (Kd.R k74 74 w' w.heap.size (fun _ => True) u182002 x182002_2) ∧ Aside0 (w'.heap[gb175]? = some (.cells #[.int .u64 x176000_2,.int .u64 x176001_2,u176002] 31 (0,0))) ∧ Aside0 (w'.heap[gb181]? = some (.cells #[.int .u64 x182000_2,.int .u64 x182001_2,u182002] 35 (0,0))) ∧ Aside0 (Below w.heap.size w w'))
    case atStart => exact ⟨(0),(t170),(t171),(t172),(t176),(t177),(t178),(.slice Ao19 t172.length co19),(.slice Ao24 t178.length co24),(by first|rfl|(simp;done)|(simp [*];done)),H',⟨Nat.le_refl _⟩,⟨by (with_reducible repeat (first|apply ra_|apply rn_|apply rd_));exact Kd.R_mono (Kd.R_far (p:=⟨gb181,2,none⟩) (Kd.R_far (p:=⟨gb181,1,none⟩) (Kd.R_far (p:=⟨gb181,0,none⟩) (Kd.R_types HO174.out BK181.out (by decide)) (fun _ hk => hk.2) (.int .u64 t176)) (fun _ hk => hk.2) (.int .u64 t177)) (fun _ hk => hk.2) (.slice Ao24 t178.length co24)) (fun _ hk => trivial)⟩,⟨by (with_reducible repeat (first|apply ra_|apply rn_|apply rd_));exact Kd.R_mono (Kd.R_far (p:=⟨gb181,2,none⟩) (Kd.R_far (p:=⟨gb181,1,none⟩) (Kd.R_far (p:=⟨gb181,0,none⟩) (Kd.R_types HO180.out BK181.out (by decide)) (fun _ hk => hk.2) (.int .u64 t176)) (fun _ hk => hk.2) (.int .u64 t177)) (fun _ hk => hk.2) (.slice Ao24 t178.length co24)) (fun _ hk => trivial)⟩,⟨by (with_reducible repeat (first|refine kn_ ?_ _|refine kd_ ?_|refine ka_ ?_ _));refine blk_far ?_ NB175_181.out _;(with_reducible repeat (first|refine kn_ ?_ _|refine kd_ ?_|refine ka_ ?_ _));refine blk_far ?_ NB175_181.out _;(with_reducible repeat (first|refine kn_ ?_ _|refine kd_ ?_|refine ka_ ?_ _));refine blk_far ?_ NB175_181.out _;(with_reducible repeat (first|refine kn_ ?_ _|refine kd_ ?_|refine ka_ ?_ _));exact BK175.out⟩,⟨by (with_reducible repeat (first|refine kn_ ?_ _|refine kd_ ?_|refine ka_ ?_ _));refine blk_put (cs:=#[.int .u64 t176,.int .u64 t177,.slice none 0 0]) ?_ 2 _ rfl;(with_reducible repeat (first|refine kn_ ?_ _|refine kd_ ?_|refine ka_ ?_ _));refine blk_put (cs:=#[.int .u64 t176,.int .u64 0,.slice none 0 0]) ?_ 1 _ rfl;(with_reducible repeat (first|refine kn_ ?_ _|refine kd_ ?_|refine ka_ ?_ _));refine blk_put (cs:=#[.int .u64 0,.int .u64 0,.slice none 0 0]) ?_ 0 _ rfl;(with_reducible repeat (first|refine kn_ ?_ _|refine kd_ ?_|refine ka_ ?_ _));exact BK181.out⟩,⟨by repeat (first|(with_reducible first|exact HB.out|apply ba_|apply pn_|apply pd_|refine bs_ ?_ GE175.out|refine bs_ ?_ GE181.out)|exact HB.out)⟩⟩
    case round =>
     clear H'
     try clear c1;try clear c2
     try clear p2;try clear c4
     try clear c7;try clear c8
     try clear c8b0;try clear c8b1
     try clear c9;try clear c11
     try clear c14;try clear c15
     try clear c16;try clear c22
     try clear hcz18_0;try clear hcz18_1
     try clear hcz18_2;try clear hcz23_0
     try clear hcz23_1;try clear hcz23_2
     try clear hfz18_0;try clear hfz18_1
     try clear hfz18_2;try clear hfz23_0
     try clear hfz23_1;try clear hfz23_2;try clear p2
     obtain ⟨x11_2,x176000_2,x176001_2,x176002_2,x182000_2,x182001_2,x182002_2,u176002,u182002,rfl,HA,HK2,HO_176002,HO_182002,BK175,BK181,HB⟩:=hrel
     cases gk with
     | zero => exact absurd HA.out (by simp [dominolaw10_IdealSeals.l0])
     | succ k2 =>
      have H:=HA.out
      clear HA
      simp only [dominolaw10_IdealSeals.l0] at H
      by_cases c25 : x11_2 < (l1.length : Int)
      ·rw [if_pos c25] at H
       have c25b0 : decide (x11_2 < (l1.length : Int)) = true:=decide_eq_true c25
       clear c25
       by_cases c26 : 0 ≤ x11_2
       ·rw [if_pos c26] at H
        have c26b0 : decide (0 ≤ x11_2) = true:=decide_eq_true c26
        clear c26
        replace H:=Option.bind_eq_some_iff.mp H
        obtain ⟨⟨t186,t187,t188,t191⟩,A270,H⟩:=H
        replace H : ((dominoref10_Seal.f k2 x182000_2 x182001_2 x182002_2 ((rd_T40 l1 x11_2).f0) ((rd_T40 l1 x11_2).f1) ((rd_T40 l1 x11_2).f2) ((rd_T40 l1 x11_2).f3)).bind fun bt197 => (if t191.toList = bt197.2.2.2.toList then ((dominolaw10_its.f k2 t186 t187 t188).bind fun bt204 => ((dominoref10_Same.f k2 bt204.1 bt204.2.1 bt204.2.2 bt197.1 bt197.2.1 bt197.2.2.1).bind fun t209 => (if t209 = true then ((ideal_Cid.f t191).bind fun t210 => ((dominoref10_Cid.f bt197.2.2.2).bind fun t211 => (dominolaw10_IdealSeals.j2 k2 l1 a2 a3 x11_2 t191 (t210.toList != t211.toList) t186 t187 t188 bt197.1 bt197.2.1 bt197.2.2.1))) else (dominolaw10_IdealSeals.j2 k2 l1 a2 a3 x11_2 t191 true t186 t187 t188 bt197.1 bt197.2.1 bt197.2.2.1)))) else (dominolaw10_IdealSeals.j2 k2 l1 a2 a3 x11_2 t191 true t186 t187 t188 bt197.1 bt197.2.1 bt197.2.2.1))) = some r:=H
        have A27:=am_ A270
        clear A270
        replace H:=Option.bind_eq_some_iff.mp H
        obtain ⟨⟨t197,t198,t199,t202⟩,A280,H⟩:=H
        replace H : (if t191.toList = t202.toList then ((dominolaw10_its.f k2 t186 t187 t188).bind fun bt204 => ((dominoref10_Same.f k2 bt204.1 bt204.2.1 bt204.2.2 t197 t198 t199).bind fun t209 => (if t209 = true then ((ideal_Cid.f t191).bind fun t210 => ((dominoref10_Cid.f t202).bind fun t211 => (dominolaw10_IdealSeals.j2 k2 l1 a2 a3 x11_2 t191 (t210.toList != t211.toList) t186 t187 t188 t197 t198 t199))) else (dominolaw10_IdealSeals.j2 k2 l1 a2 a3 x11_2 t191 true t186 t187 t188 t197 t198 t199)))) else (dominolaw10_IdealSeals.j2 k2 l1 a2 a3 x11_2 t191 true t186 t187 t188 t197 t198 t199)) = some r:=H
        have A28:=am_ A280
        clear A280
        have HC29:=am_ H
        clear H
        obtain ⟨Ao30,co30,eo30⟩:=Kd.R_slice HO_176002.out
        subst eo30
        try go_wp2
        have n0_:=am_ (rd_ HO_176002.out)
        have n1_:=am_ (rd_ HO_182002.out)
        have n2_:=am_ (kd_ BK175.out)
        have n3_:=am_ (kd_ BK181.out)
        have n4_:=am_ (pd_ HB.out)
        clear HO_176002
        clear HO_182002
        clear BK175
        clear BK181
        clear HB
        have HO_176002:=n0_
        have HO_182002:=n1_
        have BK175:=n2_
        have BK181:=n3_
        have HB:=n4_
        clear n0_ n1_ n2_ n3_ n4_
        have p182 : 0 ≤ (x11_2 : Int):=of_decide_eq_true (by first|(with_reducible assumption)|assumption)
        have q182 : x11_2 < (l1.length : Int):=of_decide_eq_true (by first|(with_reducible assumption)|assumption)
        obtain ⟨ad182,e182,hx182_0,hx182_1,hx182_2,hx182_3⟩:=at_T40 HR1.out x11_2 p182 q182
        have hw182_3:=hx182_3
        have hw182_2:=hx182_2
        have hw182_1:=hx182_1
        have hw182_0:=hx182_0
        cases e182
        replace hx182_0:=(HB.out.cell (World.block_lt_of_cell? w _ hx182_0)).trans hx182_0
        replace hx182_1:=(HB.out.cell (World.block_lt_of_cell? w _ hx182_1)).trans hx182_1
        replace hx182_2:=(HB.out.cell (World.block_lt_of_cell? w _ hx182_2)).trans hx182_2
        replace hx182_3:=(HB.out.cell (World.block_lt_of_cell? w _ hx182_3)).trans hx182_3
        replace p182:=eq_true p182
        replace q182:=eq_true q182
        have p183 : 0 ≤ (x11_2 : Int):=of_decide_eq_true (by first|(with_reducible assumption)|assumption)
        have q183 : x11_2 < (l1.length : Int):=of_decide_eq_true (by first|(with_reducible assumption)|assumption)
        obtain ⟨ad183,e183,hx183_0,hx183_1,hx183_2,hx183_3⟩:=at_T40 HR1.out x11_2 p183 q183
        have hw183_3:=hx183_3
        have hw183_2:=hx183_2
        have hw183_1:=hx183_1
        have hw183_0:=hx183_0
        obtain rfl : ad182 = ad183:=(by injection e183)
        replace hx183_0:=(HB.out.cell (World.block_lt_of_cell? w _ hx183_0)).trans hx183_0
        replace hx183_1:=(HB.out.cell (World.block_lt_of_cell? w _ hx183_1)).trans hx183_1
        replace hx183_2:=(HB.out.cell (World.block_lt_of_cell? w _ hx183_2)).trans hx183_2
        replace hx183_3:=(HB.out.cell (World.block_lt_of_cell? w _ hx183_3)).trans hx183_3
        replace p183:=eq_true p183
        replace q183:=eq_true q183
        have p184 : 0 ≤ (x11_2 : Int):=of_decide_eq_true (by first|(with_reducible assumption)|assumption)
        have q184 : x11_2 < (l1.length : Int):=of_decide_eq_true (by first|(with_reducible assumption)|assumption)
        obtain ⟨ad184,e184,hx184_0,hx184_1,hx184_2,hx184_3⟩:=at_T40 HR1.out x11_2 p184 q184
        have hw184_3:=hx184_3
        have hw184_2:=hx184_2
        have hw184_1:=hx184_1
        have hw184_0:=hx184_0
        obtain rfl : ad182 = ad184:=(by injection e184)
        replace hx184_0:=(HB.out.cell (World.block_lt_of_cell? w _ hx184_0)).trans hx184_0
        replace hx184_1:=(HB.out.cell (World.block_lt_of_cell? w _ hx184_1)).trans hx184_1
        replace hx184_2:=(HB.out.cell (World.block_lt_of_cell? w _ hx184_2)).trans hx184_2
        replace hx184_3:=(HB.out.cell (World.block_lt_of_cell? w _ hx184_3)).trans hx184_3
        replace p184:=eq_true p184
        replace q184:=eq_true q184
        have p185 : 0 ≤ (x11_2 : Int):=of_decide_eq_true (by first|(with_reducible assumption)|assumption)
        have q185 : x11_2 < (l1.length : Int):=of_decide_eq_true (by first|(with_reducible assumption)|assumption)
        obtain ⟨ad185,e185,hx185_0,hx185_1,hx185_2,hx185_3⟩:=at_T40 HR1.out x11_2 p185 q185
        have hw185_3:=hx185_3
        have hw185_2:=hx185_2
        have hw185_1:=hx185_1
        have hw185_0:=hx185_0
        obtain rfl : ad182 = ad185:=(by injection e185)
        replace hx185_0:=(HB.out.cell (World.block_lt_of_cell? w _ hx185_0)).trans hx185_0
        replace hx185_1:=(HB.out.cell (World.block_lt_of_cell? w _ hx185_1)).trans hx185_1
        replace hx185_2:=(HB.out.cell (World.block_lt_of_cell? w _ hx185_2)).trans hx185_2
        replace hx185_3:=(HB.out.cell (World.block_lt_of_cell? w _ hx185_3)).trans hx185_3
        replace p185:=eq_true p185
        replace q185:=eq_true q185
        refine start_ (n:=28) (S:=fun w' => w'.cell? ⟨gb175,0,none⟩ = some (.int .u64 x176000_2) ∧ w'.cell? ⟨gb175,1,none⟩ = some (.int .u64 x176001_2) ∧ w'.cell? ⟨gb175,2,none⟩ = some (.slice Ao30 x176002_2.length co30) ∧ w'.cell? (ad182.add ((x11_2).toNat * 4)) = some (.int .i64 ((rd_T40 l1 x11_2).f0)) ∧ w'.cell? ⟨(ad182.add ((x11_2).toNat * 4)).block,(ad182.add ((x11_2).toNat * 4)).off + 1,none⟩ = some (.int .u64 ((rd_T40 l1 x11_2).f1)) ∧ w'.cell? ⟨(ad182.add ((x11_2).toNat * 4)).block,(ad182.add ((x11_2).toNat * 4)).off + 2,none⟩ = some (.string ((rd_T40 l1 x11_2).f2)) ∧ w'.cell? ⟨(ad182.add ((x11_2).toNat * 4)).block,(ad182.add ((x11_2).toNat * 4)).off + 3,none⟩ = some (.string ((rd_T40 l1 x11_2).f3)) ∧ w'.cell? (ad182.add ((x11_2).toNat * 4)) = some (.int .i64 ((rd_T40 l1 x11_2).f0)) ∧ w'.cell? ⟨(ad182.add ((x11_2).toNat * 4)).block,(ad182.add ((x11_2).toNat * 4)).off + 1,none⟩ = some (.int .u64 ((rd_T40 l1 x11_2).f1)) ∧ w'.cell? ⟨(ad182.add ((x11_2).toNat * 4)).block,(ad182.add ((x11_2).toNat * 4)).off + 2,none⟩ = some (.string ((rd_T40 l1 x11_2).f2)) ∧ w'.cell? ⟨(ad182.add ((x11_2).toNat * 4)).block,(ad182.add ((x11_2).toNat * 4)).off + 3,none⟩ = some (.string ((rd_T40 l1 x11_2).f3)) ∧ w'.cell? (ad182.add ((x11_2).toNat * 4)) = some (.int .i64 ((rd_T40 l1 x11_2).f0)) ∧ w'.cell? ⟨(ad182.add ((x11_2).toNat * 4)).block,(ad182.add ((x11_2).toNat * 4)).off + 1,none⟩ = some (.int .u64 ((rd_T40 l1 x11_2).f1)) ∧ w'.cell? ⟨(ad182.add ((x11_2).toNat * 4)).block,(ad182.add ((x11_2).toNat * 4)).off + 2,none⟩ = some (.string ((rd_T40 l1 x11_2).f2)) ∧ w'.cell? ⟨(ad182.add ((x11_2).toNat * 4)).block,(ad182.add ((x11_2).toNat * 4)).off + 3,none⟩ = some (.string ((rd_T40 l1 x11_2).f3)) ∧ w'.cell? (ad182.add ((x11_2).toNat * 4)) = some (.int .i64 ((rd_T40 l1 x11_2).f0)) ∧ w'.cell? ⟨(ad182.add ((x11_2).toNat * 4)).block,(ad182.add ((x11_2).toNat * 4)).off + 1,none⟩ = some (.int .u64 ((rd_T40 l1 x11_2).f1)) ∧ w'.cell? ⟨(ad182.add ((x11_2).toNat * 4)).block,(ad182.add ((x11_2).toNat * 4)).off + 2,none⟩ = some (.string ((rd_T40 l1 x11_2).f2)) ∧ w'.cell? ⟨(ad182.add ((x11_2).toNat * 4)).block,(ad182.add ((x11_2).toNat * 4)).off + 3,none⟩ = some (.string ((rd_T40 l1 x11_2).f3))) (ds:=[]) #[F_,F_,F_,F_,F_,F_,F_,F_,F_,F_,F_,F_,F_,F_,F_,F_,F_,F_,F_,F_,F_,F_,F_,F_,F_,F_,F_,F_] (by kernel_rfl) rfl rfl ⟨(kc_ BK175.out 0).trans rfl,(kc_ BK175.out 1).trans rfl,(kc_ BK175.out 2).trans rfl,(up_ HB.out hw182_0),(up_ HB.out hw182_1),(up_ HB.out hw182_2),(up_ HB.out hw182_3),(up_ HB.out hw183_0),(up_ HB.out hw183_1),(up_ HB.out hw183_2),(up_ HB.out hw183_3),(up_ HB.out hw184_0),(up_ HB.out hw184_1),(up_ HB.out hw184_2),(up_ HB.out hw184_3),(up_ HB.out hw185_0),(up_ HB.out hw185_1),(up_ HB.out hw185_2),(up_ HB.out hw185_3)⟩ (fun hHeld => ?_);refine with_tabW dominolaw10_IdealSeals.tab8 dominolaw10_IdealSeals.bits8 (fun HT_ HW_ => ?_)
        generalize wr.drew = w31 at HO_176002 HO_182002 BK175 BK181 HB hx182_0 hx182_1 hx182_2 hx182_3 hx183_0 hx183_1 hx183_2 hx183_3 hx184_0 hx184_1 hx184_2 hx184_3 hx185_0 hx185_1 hx185_2 hx185_3 hHeld ⊢
        refine pure_ (i:=1) (N:=some 53) (v:=?_) (a':=?_) #[F_,T_,F_,F_,F_,F_,F_,F_,F_,F_,F_,F_,F_,F_,F_,F_,F_,F_,F_,F_,F_,F_,F_,F_,F_,F_,F_,F_] rfl rfl (any_of HT_.out (by kernel_rfl)) (fun _ _ _ h => h) (Or.inl ⟨by rfl,?_⟩) ?_ ?_
        rotate_left;(intro w';go_simp;with_reducible rfl);rotate_left;(simp only [Act.put,ps_,i64_w,i32_w];rfl)
        refine pure_ (i:=2) (N:=some 54) (v:=?_) (a':=?_) #[F_,T_,T_,F_,F_,F_,F_,F_,F_,F_,F_,F_,F_,F_,F_,F_,F_,F_,F_,F_,F_,F_,F_,F_,F_,F_,F_,F_] rfl rfl (any_of HT_.out (by kernel_rfl)) (fun _ _ _ h => h) (Or.inl ⟨by rfl,?_⟩) ?_ ?_
        rotate_left;(intro w';go_simp;with_reducible rfl);rotate_left;(simp only [Act.put,ps_,i64_w,i32_w];rfl)
        refine pure_ (i:=3) (N:=some 55) (v:=?_) (a':=?_) #[F_,T_,T_,T_,F_,F_,F_,F_,F_,F_,F_,F_,F_,F_,F_,F_,F_,F_,F_,F_,F_,F_,F_,F_,F_,F_,F_,F_] rfl rfl (any_of HT_.out (by kernel_rfl)) (fun _ _ _ h => h) (Or.inl ⟨by rfl,?_⟩) ?_ ?_
        rotate_left;(intro w';go_simp;with_reducible rfl);rotate_left;(simp only [Act.put,ps_,i64_w,i32_w];rfl)
        refine pure_ (i:=4) (N:=some 56) (v:=?_) (a':=?_) #[F_,T_,T_,T_,T_,F_,F_,F_,F_,F_,F_,F_,F_,F_,F_,F_,F_,F_,F_,F_,F_,F_,F_,F_,F_,F_,F_,F_] rfl rfl (any_of HT_.out (by kernel_rfl)) (fun _ _ _ h => h) (Or.inl ⟨by rfl,?_⟩) ?_ ?_
        rotate_left;(intro w';go_simp;with_reducible rfl);rotate_left;(simp only [Act.put,ps_,i64_w,i32_w];rfl)
        refine pure_ (i:=6) (N:=some 58) (v:=?_) (a':=?_) #[F_,T_,T_,T_,T_,F_,T_,F_,F_,F_,F_,F_,F_,F_,F_,F_,F_,F_,F_,F_,F_,F_,F_,F_,F_,F_,F_,F_] rfl rfl (any_of HT_.out (by kernel_rfl)) (fun _ _ _ h => h) (Or.inl ⟨by rfl,?_⟩) ?_ ?_
        rotate_left;(intro w';go_simp;with_reducible rfl);rotate_left;(simp only [Act.put,ps_,i64_w,i32_w];rfl)
        refine pure_ (i:=7) (N:=some 59) (v:=?_) (a':=?_) #[F_,T_,T_,T_,T_,F_,T_,T_,F_,F_,F_,F_,F_,F_,F_,F_,F_,F_,F_,F_,F_,F_,F_,F_,F_,F_,F_,F_] rfl rfl (any_of HT_.out (by kernel_rfl)) (fun _ _ _ h => h) (Or.inl ⟨by rfl,?_⟩) ?_ ?_
        rotate_left;(intro w';go_simp;with_reducible rfl);rotate_left;(simp only [Act.put,ps_,i64_w,i32_w];rfl)
        refine pure_ (i:=8) (N:=some 60) (v:=?_) (a':=?_) #[F_,T_,T_,T_,T_,F_,T_,T_,T_,F_,F_,F_,F_,F_,F_,F_,F_,F_,F_,F_,F_,F_,F_,F_,F_,F_,F_,F_] rfl rfl (any_of HT_.out (by kernel_rfl)) (fun _ _ _ h => h) (Or.inl ⟨by rfl,?_⟩) ?_ ?_
        rotate_left;(intro w';go_simp;with_reducible rfl);rotate_left;(simp only [Act.put,ps_,i64_w,i32_w];rfl)
        refine pure_ (i:=9) (N:=some 61) (v:=?_) (a':=?_) #[F_,T_,T_,T_,T_,F_,T_,T_,T_,T_,F_,F_,F_,F_,F_,F_,F_,F_,F_,F_,F_,F_,F_,F_,F_,F_,F_,F_] rfl rfl (any_of HT_.out (by kernel_rfl)) (fun _ _ _ h => h) (Or.inl ⟨by rfl,?_⟩) ?_ ?_
        rotate_left;(intro w';go_simp;with_reducible rfl);rotate_left;(simp only [Act.put,ps_,i64_w,i32_w];rfl)
        refine pure_ (i:=11) (N:=some 63) (v:=?_) (a':=?_) #[F_,T_,T_,T_,T_,F_,T_,T_,T_,T_,F_,T_,F_,F_,F_,F_,F_,F_,F_,F_,F_,F_,F_,F_,F_,F_,F_,F_] rfl rfl (any_of HT_.out (by kernel_rfl)) (fun _ _ _ h => h) (Or.inl ⟨by rfl,?_⟩) ?_ ?_
        rotate_left;(intro w';go_simp;with_reducible rfl);rotate_left;(simp only [Act.put,ps_,i64_w,i32_w];rfl)
        refine pure_ (i:=12) (N:=some 64) (v:=?_) (a':=?_) #[F_,T_,T_,T_,T_,F_,T_,T_,T_,T_,F_,T_,T_,F_,F_,F_,F_,F_,F_,F_,F_,F_,F_,F_,F_,F_,F_,F_] rfl rfl (any_of HT_.out (by kernel_rfl)) (fun _ _ _ h => h) (Or.inl ⟨by rfl,?_⟩) ?_ ?_
        rotate_left;(intro w';go_simp;with_reducible rfl);rotate_left;(simp only [Act.put,ps_,i64_w,i32_w];rfl)
        refine pure_ (i:=13) (N:=some 65) (v:=?_) (a':=?_) #[F_,T_,T_,T_,T_,F_,T_,T_,T_,T_,F_,T_,T_,T_,F_,F_,F_,F_,F_,F_,F_,F_,F_,F_,F_,F_,F_,F_] rfl rfl (any_of HT_.out (by kernel_rfl)) (fun _ _ _ h => h) (Or.inl ⟨by rfl,?_⟩) ?_ ?_
        rotate_left;(intro w';go_simp;with_reducible rfl);rotate_left;(simp only [Act.put,ps_,i64_w,i32_w];rfl)
        refine pure_ (i:=14) (N:=some 66) (v:=?_) (a':=?_) #[F_,T_,T_,T_,T_,F_,T_,T_,T_,T_,F_,T_,T_,T_,T_,F_,F_,F_,F_,F_,F_,F_,F_,F_,F_,F_,F_,F_] rfl rfl (any_of HT_.out (by kernel_rfl)) (fun _ _ _ h => h) (Or.inl ⟨by rfl,?_⟩) ?_ ?_
        rotate_left;(intro w';go_simp;with_reducible rfl);rotate_left;(simp only [Act.put,ps_,i64_w,i32_w];rfl)
        refine pure_ (i:=16) (N:=some 68) (v:=?_) (a':=?_) #[F_,T_,T_,T_,T_,F_,T_,T_,T_,T_,F_,T_,T_,T_,T_,F_,T_,F_,F_,F_,F_,F_,F_,F_,F_,F_,F_,F_] rfl rfl (any_of HT_.out (by kernel_rfl)) (fun _ _ _ h => h) (Or.inl ⟨by rfl,?_⟩) ?_ ?_
        rotate_left;(intro w';go_simp;with_reducible rfl);rotate_left;(simp only [Act.put,ps_,i64_w,i32_w];rfl)
        refine pure_ (i:=17) (N:=some 69) (v:=?_) (a':=?_) #[F_,T_,T_,T_,T_,F_,T_,T_,T_,T_,F_,T_,T_,T_,T_,F_,T_,T_,F_,F_,F_,F_,F_,F_,F_,F_,F_,F_] rfl rfl (any_of HT_.out (by kernel_rfl)) (fun _ _ _ h => h) (Or.inl ⟨by rfl,?_⟩) ?_ ?_
        rotate_left;(intro w';go_simp;with_reducible rfl);rotate_left;(simp only [Act.put,ps_,i64_w,i32_w];rfl)
        refine pure_ (i:=18) (N:=some 70) (v:=?_) (a':=?_) #[F_,T_,T_,T_,T_,F_,T_,T_,T_,T_,F_,T_,T_,T_,T_,F_,T_,T_,T_,F_,F_,F_,F_,F_,F_,F_,F_,F_] rfl rfl (any_of HT_.out (by kernel_rfl)) (fun _ _ _ h => h) (Or.inl ⟨by rfl,?_⟩) ?_ ?_
        rotate_left;(intro w';go_simp;with_reducible rfl);rotate_left;(simp only [Act.put,ps_,i64_w,i32_w];rfl)
        refine pure_ (i:=19) (N:=some 71) (v:=?_) (a':=?_) #[F_,T_,T_,T_,T_,F_,T_,T_,T_,T_,F_,T_,T_,T_,T_,F_,T_,T_,T_,T_,F_,F_,F_,F_,F_,F_,F_,F_] rfl rfl (any_of HT_.out (by kernel_rfl)) (fun _ _ _ h => h) (Or.inl ⟨by rfl,?_⟩) ?_ ?_
        rotate_left;(intro w';go_simp;with_reducible rfl);rotate_left;(simp only [Act.put,ps_,i64_w,i32_w];rfl)
        refine take_ (i:=0) (N:=some 52) (v:=?_) (a':=?_) #[T_,T_,T_,T_,T_,F_,T_,T_,T_,T_,F_,T_,T_,T_,T_,F_,T_,T_,T_,T_,F_,F_,F_,F_,F_,F_,F_,F_] rfl rfl (take_ofW HT_.out HW_.out (by kernel_rfl)) (fun _ _ _ h => h) (Or.inl ⟨by rfl,?_⟩) hHeld ?_ ?_
        rotate_left
        ·rintro w' ⟨s0,s1,s2,s3,s4,s5,s6,s7,s8,s9,s10,s11,s12,s13,s14,s15,s16,s17,s18⟩
         go_simp
         with_reducible rfl
        rotate_left
        ·simp only [Act.put,ps_,i64_w,i32_w]
         rfl
        refine take_ (i:=5) (N:=some 57) (v:=?_) (a':=?_) #[T_,T_,T_,T_,T_,T_,T_,T_,T_,T_,F_,T_,T_,T_,T_,F_,T_,T_,T_,T_,F_,F_,F_,F_,F_,F_,F_,F_] rfl rfl (take_ofW HT_.out HW_.out (by kernel_rfl)) (fun _ _ _ h => h) (Or.inl ⟨by rfl,?_⟩) hHeld ?_ ?_
        rotate_left
        ·rintro w' ⟨s0,s1,s2,s3,s4,s5,s6,s7,s8,s9,s10,s11,s12,s13,s14,s15,s16,s17,s18⟩
         go_simp
         with_reducible rfl
        rotate_left
        ·simp only [Act.put,ps_,i64_w,i32_w]
         rfl
        refine take_ (i:=10) (N:=some 62) (v:=?_) (a':=?_) #[T_,T_,T_,T_,T_,T_,T_,T_,T_,T_,T_,T_,T_,T_,T_,F_,T_,T_,T_,T_,F_,F_,F_,F_,F_,F_,F_,F_] rfl rfl (take_ofW HT_.out HW_.out (by kernel_rfl)) (fun _ _ _ h => h) (Or.inl ⟨by rfl,?_⟩) hHeld ?_ ?_
        rotate_left
        ·rintro w' ⟨s0,s1,s2,s3,s4,s5,s6,s7,s8,s9,s10,s11,s12,s13,s14,s15,s16,s17,s18⟩
         go_simp
         with_reducible rfl
        rotate_left
        ·simp only [Act.put,ps_,i64_w,i32_w]
         rfl
        refine take_ (i:=15) (N:=some 67) (v:=?_) (a':=?_) #[T_,T_,T_,T_,T_,T_,T_,T_,T_,T_,T_,T_,T_,T_,T_,T_,T_,T_,T_,T_,F_,F_,F_,F_,F_,F_,F_,F_] rfl rfl (take_ofW HT_.out HW_.out (by kernel_rfl)) (fun _ _ _ h => h) (Or.inl ⟨by rfl,?_⟩) hHeld ?_ ?_
        rotate_left
        ·rintro w' ⟨s0,s1,s2,s3,s4,s5,s6,s7,s8,s9,s10,s11,s12,s13,s14,s15,s16,s17,s18⟩
         go_simp
         with_reducible rfl
        rotate_left
        ·simp only [Act.put,ps_,i64_w,i32_w]
         rfl
        refine take_ (i:=20) (N:=some 72) (v:=?_) (a':=?_) #[T_,T_,T_,T_,T_,T_,T_,T_,T_,T_,T_,T_,T_,T_,T_,T_,T_,T_,T_,T_,T_,F_,F_,F_,F_,F_,F_,F_] rfl rfl (take_ofW HT_.out HW_.out (by kernel_rfl)) (fun _ _ _ h => h) (Or.inl ⟨by rfl,?_⟩) hHeld ?_ ?_
        rotate_left
        ·rintro w' ⟨s0,s1,s2,s3,s4,s5,s6,s7,s8,s9,s10,s11,s12,s13,s14,s15,s16,s17,s18⟩
         go_simp
         with_reducible rfl
        rotate_left
        ·simp only [Act.put,ps_,i64_w,i32_w]
         rfl
        refine join_ (σ:=Value × Nat) 2 #[T_,T_,T_,T_,T_,T_,T_,T_,T_,T_,T_,T_,T_,T_,T_,T_,T_,T_,T_,T_,T_,T_,T_,T_,T_,T_,F_,F_] (fun s_ => [(73,.tuple #[.agg #[.int .u64 t186,.int .u64 t187,s_.1],.string t191]),(12,.pointer (some ⟨s_.2,0,none⟩)),(51,.tuple #[.agg #[.int .u64 t186,.int .u64 t187,s_.1],.string t191]),(74,.agg #[.int .u64 t186,.int .u64 t187,s_.1]),(75,.string t191)]) (fun s_ w' => (w'.cell? ⟨gb175,0,none⟩ = some (.int .u64 x176000_2) ∧ w'.cell? ⟨gb175,1,none⟩ = some (.int .u64 x176001_2) ∧ w'.cell? ⟨gb175,2,none⟩ = some (.slice Ao30 x176002_2.length co30) ∧ w'.cell? (ad182.add ((x11_2).toNat * 4)) = some (.int .i64 ((rd_T40 l1 x11_2).f0)) ∧ w'.cell? ⟨(ad182.add ((x11_2).toNat * 4)).block,(ad182.add ((x11_2).toNat * 4)).off + 1,none⟩ = some (.int .u64 ((rd_T40 l1 x11_2).f1)) ∧ w'.cell? ⟨(ad182.add ((x11_2).toNat * 4)).block,(ad182.add ((x11_2).toNat * 4)).off + 2,none⟩ = some (.string ((rd_T40 l1 x11_2).f2)) ∧ w'.cell? ⟨(ad182.add ((x11_2).toNat * 4)).block,(ad182.add ((x11_2).toNat * 4)).off + 3,none⟩ = some (.string ((rd_T40 l1 x11_2).f3)) ∧ w'.cell? (ad182.add ((x11_2).toNat * 4)) = some (.int .i64 ((rd_T40 l1 x11_2).f0)) ∧ w'.cell? ⟨(ad182.add ((x11_2).toNat * 4)).block,(ad182.add ((x11_2).toNat * 4)).off + 1,none⟩ = some (.int .u64 ((rd_T40 l1 x11_2).f1)) ∧ w'.cell? ⟨(ad182.add ((x11_2).toNat * 4)).block,(ad182.add ((x11_2).toNat * 4)).off + 2,none⟩ = some (.string ((rd_T40 l1 x11_2).f2)) ∧ w'.cell? ⟨(ad182.add ((x11_2).toNat * 4)).block,(ad182.add ((x11_2).toNat * 4)).off + 3,none⟩ = some (.string ((rd_T40 l1 x11_2).f3)) ∧ w'.cell? (ad182.add ((x11_2).toNat * 4)) = some (.int .i64 ((rd_T40 l1 x11_2).f0)) ∧ w'.cell? ⟨(ad182.add ((x11_2).toNat * 4)).block,(ad182.add ((x11_2).toNat * 4)).off + 1,none⟩ = some (.int .u64 ((rd_T40 l1 x11_2).f1)) ∧ w'.cell? ⟨(ad182.add ((x11_2).toNat * 4)).block,(ad182.add ((x11_2).toNat * 4)).off + 2,none⟩ = some (.string ((rd_T40 l1 x11_2).f2)) ∧ w'.cell? ⟨(ad182.add ((x11_2).toNat * 4)).block,(ad182.add ((x11_2).toNat * 4)).off + 3,none⟩ = some (.string ((rd_T40 l1 x11_2).f3)) ∧ w'.cell? (ad182.add ((x11_2).toNat * 4)) = some (.int .i64 ((rd_T40 l1 x11_2).f0)) ∧ w'.cell? ⟨(ad182.add ((x11_2).toNat * 4)).block,(ad182.add ((x11_2).toNat * 4)).off + 1,none⟩ = some (.int .u64 ((rd_T40 l1 x11_2).f1)) ∧ w'.cell? ⟨(ad182.add ((x11_2).toNat * 4)).block,(ad182.add ((x11_2).toNat * 4)).off + 2,none⟩ = some (.string ((rd_T40 l1 x11_2).f2)) ∧ w'.cell? ⟨(ad182.add ((x11_2).toNat * 4)).block,(ad182.add ((x11_2).toNat * 4)).off + 3,none⟩ = some (.string ((rd_T40 l1 x11_2).f3))) ∧ (Kd.R k73 73 w' w.heap.size (fun k_ => some k_ ≠ (.slice Ao30 x176002_2.length co30 : Value).ownBlock) s_.1 t188) ∧ (Kd.R k73 73 w' w.heap.size (fun k_ => some k_ ≠ (s_.1 : Value).ownBlock) (.slice Ao30 x176002_2.length co30) x176002_2) ∧ (Kd.R k74 74 w' w.heap.size (fun _ => True) u182002 x182002_2) ∧ (w'.heap[gb175]? = some (.cells #[.int .u64 x176000_2,.int .u64 x176001_2,.slice Ao30 x176002_2.length co30] 31 (0,0))) ∧ (w'.heap[gb181]? = some (.cells #[.int .u64 x182000_2,.int .u64 x182001_2,u182002] 35 (0,0))) ∧ (w'.heap[s_.2]? = some (.cells #[.int .u64 0,.int .u64 0,.slice none 0 0] 31 (0,0))) ∧ (w.heap.size ≤ s_.2) ∧ (w.heap.size ≤ s_.2) ∧ (gb175 ≠ s_.2) ∧ (s_.2 ≠ gb175) ∧ (gb181 ≠ s_.2) ∧ (s_.2 ≠ gb181) ∧ (Below w.heap.size w w')) ?_ ?_
        rotate_left
        ·intro hCont
         refine two_ (i:=21) (j:=25) (Ni:=some 73) (Nj:=some 12) #[T_,T_,T_,T_,T_,T_,T_,T_,T_,T_,T_,T_,T_,T_,T_,T_,T_,T_,T_,T_,T_,T_,F_,F_,F_,F_,F_,F_] #[T_,T_,T_,T_,T_,T_,T_,T_,T_,T_,T_,T_,T_,T_,T_,T_,T_,T_,T_,T_,T_,F_,F_,F_,F_,T_,F_,F_] rfl rfl rfl rfl (two_of HT_.out (by kernel_rfl)) (by decide) (by decide) (fun K hK => ?_) (fun K hK => ?_)
         ·skip
          refine goes_ Try.func17 (by kernel_rfl) rfl #[.agg #[.int .u64 x176000_2,.int .u64 x176001_2,.slice Ao30 x176002_2.length co30],.int .i64 ((rd_T40 l1 x11_2).f0),.int .u64 ((rd_T40 l1 x11_2).f1),.string ((rd_T40 l1 x11_2).f2),.string ((rd_T40 l1 x11_2).f3)] (by rfl) rfl rfl (by (try simp only [List.map_toArray,List.map_cons,List.map_nil]);first|done|rfl|(simp only [List.length_drop,List.length_take];rfl)) ?_
          with_reducible refine (ideal_Seal.calls k2 x176000_2 x176001_2 _ _ x176002_2 ((rd_T40 l1 x11_2).f0) ((rd_T40 l1 x11_2).f1) ((rd_T40 l1 x11_2).f2) ((rd_T40 l1 x11_2).f3) t186 t187 t188 t191 _ ?side1 ?side2 A27.out).mono ?_
          (case side1 => repeat (first|exact (Kd.R_reads' HO_176002.out).2.2|(with_reducible refine Kd.C_alloc ?_ _)|(with_reducible refine Kd.C_drewN ?_ _)|(with_reducible refine Kd.C_drew ?_)))
          (case side2 => exact (Kd.R_reads' HO_176002.out).2.1)
          rintro e w32 ⟨v189,rfl,ho0,hb⟩
          refine ⟨_,rfl,?_⟩
          have n0_:=am_ (Kd.R_elder' (by (with_reducible repeat (first|apply ra_|apply rn_|apply rd_));exact HO_176002.out) (Kd.R_base ho0) hb)
          have n1_:=am_ (Kd.R_below (by (with_reducible repeat (first|apply ra_|apply rn_|apply rd_));exact HO_182002.out) hb)
          have n2_:=am_ (Kd.R_lower (Kd.R_new' ho0 (Kd.R_lt (by (with_reducible repeat (first|apply ra_|apply rn_|apply rd_));exact HO_176002.out))) (below_size (by repeat (first|(with_reducible first|exact HB.out|apply ba_|apply pn_|apply pd_|refine bs_ ?_ GE175.out|refine bs_ ?_ GE181.out)|exact HB.out))))
          have n3_:=am_ (blk_below (g:=gb175) (o:=.cells #[.int .u64 x176000_2,.int .u64 x176001_2,.slice Ao30 x176002_2.length co30] 31 (0,0)) (by (with_reducible repeat (first|refine kn_ ?_ _|refine kd_ ?_|refine ka_ ?_ _));exact BK175.out) hb)
          have n4_:=am_ (blk_below (g:=gb181) (o:=.cells #[.int .u64 x182000_2,.int .u64 x182001_2,u182002] 35 (0,0)) (by (with_reducible repeat (first|refine kn_ ?_ _|refine kd_ ?_|refine ka_ ?_ _));exact BK181.out) hb)
          have n5_:=am_ (below_step (by repeat (first|(with_reducible first|exact HB.out|apply ba_|apply pn_|apply pd_|refine bs_ ?_ GE175.out|refine bs_ ?_ GE181.out)|exact HB.out)) hb)
          clear HO_176002
          clear HO_182002
          clear BK175
          clear BK181
          clear HB
          have HO_176002:=n0_
          have HO_182002:=n1_
          have HO190:=n2_
          have BK175:=n3_
          have BK181:=n4_
          have HB:=n5_
          clear n0_ n1_ n2_ n3_ n4_ n5_
          (try clear hb)
          (try clear hb2)
          (try clear hk)
          (try clear hi)
          (try clear ho0)
          refine hK.out _ _ ⟨(kc_ BK175.out 0).trans rfl,(kc_ BK175.out 1).trans rfl,(kc_ BK175.out 2).trans rfl,(up_ HB.out hw182_0),(up_ HB.out hw182_1),(up_ HB.out hw182_2),(up_ HB.out hw182_3),(up_ HB.out hw183_0),(up_ HB.out hw183_1),(up_ HB.out hw183_2),(up_ HB.out hw183_3),(up_ HB.out hw184_0),(up_ HB.out hw184_1),(up_ HB.out hw184_2),(up_ HB.out hw184_3),(up_ HB.out hw185_0),(up_ HB.out hw185_1),(up_ HB.out hw185_2),(up_ HB.out hw185_3)⟩ (fun hHeld => ?_)
          clear hK K
          refine norm_ (a':=?_) ?_ ?_
          rotate_left
          ·show Act.put _ (some 73) _ = _
           simp only [Act.put,ps_,i64_w,i32_w]
           rfl
          refine pure_ (i:=22) (N:=some 51) (v:=?_) (a':=?_) #[T_,T_,T_,T_,T_,T_,T_,T_,T_,T_,T_,T_,T_,T_,T_,T_,T_,T_,T_,T_,T_,T_,T_,F_,F_,F_,F_,F_] rfl rfl (any_of HT_.out (by kernel_rfl)) (fun _ _ _ h => h) (Or.inl ⟨by rfl,?_⟩) ?_ ?_
          rotate_left;(intro w';go_simp;with_reducible rfl);rotate_left;(simp only [Act.put,ps_,i64_w,i32_w];rfl)
          refine pure_ (i:=23) (N:=some 74) (v:=?_) (a':=?_) #[T_,T_,T_,T_,T_,T_,T_,T_,T_,T_,T_,T_,T_,T_,T_,T_,T_,T_,T_,T_,T_,T_,T_,T_,F_,F_,F_,F_] rfl rfl (any_of HT_.out (by kernel_rfl)) (fun _ _ _ h => h) (Or.inl ⟨by rfl,?_⟩) ?_ ?_
          rotate_left;(intro w';go_simp;with_reducible rfl);rotate_left;(simp only [Act.put,ps_,i64_w,i32_w];rfl)
          refine pure_ (i:=24) (N:=some 75) (v:=?_) (a':=?_) #[T_,T_,T_,T_,T_,T_,T_,T_,T_,T_,T_,T_,T_,T_,T_,T_,T_,T_,T_,T_,T_,T_,T_,T_,T_,F_,F_,F_] rfl rfl (any_of HT_.out (by kernel_rfl)) (fun _ _ _ h => h) (Or.inl ⟨by rfl,?_⟩) ?_ ?_
          rotate_left;(intro w';go_simp;with_reducible rfl);rotate_left;(simp only [Act.put,ps_,i64_w,i32_w];rfl)
          refine one_ (i:=25) (N:=some 12) #[T_,T_,T_,T_,T_,T_,T_,T_,T_,T_,T_,T_,T_,T_,T_,T_,T_,T_,T_,T_,T_,T_,T_,T_,T_,T_,F_,F_] rfl rfl (one_of HT_.out (by kernel_rfl)) (by decide) (fun K hK => ?_)
          refine box_step ?hg (N:=12) ?hd (cs:=#[.int .u64 0,.int .u64 0,.slice none 0 0]) (t:=31) ?hr ?_;(case hd => rfl);(case hg => rfl);(case hr => first|(go_simp;done)|(go_simp;rfl))
          intro gb192 hg w33 hbox hb
          have n0_:=am_ (Kd.R_below (by (with_reducible repeat (first|apply ra_|apply rn_|apply rd_));exact HO_176002.out) hb)
          have n1_:=am_ (Kd.R_below (by (with_reducible repeat (first|apply ra_|apply rn_|apply rd_));exact HO_182002.out) hb)
          have n2_:=am_ (Kd.R_below (by (with_reducible repeat (first|apply ra_|apply rn_|apply rd_));exact HO190.out) hb)
          have n3_:=am_ (blk_below (g:=gb175) (o:=.cells #[.int .u64 x176000_2,.int .u64 x176001_2,.slice Ao30 x176002_2.length co30] 31 (0,0)) (by (with_reducible repeat (first|refine kn_ ?_ _|refine kd_ ?_|refine ka_ ?_ _));exact BK175.out) hb)
          have n4_:=am_ (blk_below (g:=gb181) (o:=.cells #[.int .u64 x182000_2,.int .u64 x182001_2,u182002] 35 (0,0)) (by (with_reducible repeat (first|refine kn_ ?_ _|refine kd_ ?_|refine ka_ ?_ _));exact BK181.out) hb)
          have n5_:=am_ (below_step (by repeat (first|(with_reducible first|exact HB.out|apply ba_|apply pn_|apply pd_|refine bs_ ?_ GE175.out|refine bs_ ?_ GE181.out)|exact HB.out)) hb)
          have n6_:=am_ (hbox)
          have n7_:=am_ ((by rw [hg];exact (below_size (by repeat (first|(with_reducible first|exact HB.out|apply ba_|apply pn_|apply pd_|refine bs_ ?_ GE175.out|refine bs_ ?_ GE181.out)|exact HB.out))) : w.heap.size ≤ gb192))
          have n8_:=am_ ((by rw [hg];exact (below_size (by repeat (first|(with_reducible first|exact HB.out|apply ba_|apply pn_|apply pd_|refine bs_ ?_ GE175.out|refine bs_ ?_ GE181.out)|exact HB.out))) : w.heap.size ≤ gb192))
          have n9_:=am_ ((by rw [hg];exact Nat.ne_of_lt (blk_lt (g:=gb175) (o:=.cells #[.int .u64 x176000_2,.int .u64 x176001_2,.slice Ao30 x176002_2.length co30] 31 (0,0)) (by (with_reducible repeat (first|refine kn_ ?_ _|refine kd_ ?_|refine ka_ ?_ _));exact BK175.out)) : gb175 ≠ gb192))
          have n10_:=am_ ((by rw [hg];exact Nat.ne_of_gt (blk_lt (g:=gb175) (o:=.cells #[.int .u64 x176000_2,.int .u64 x176001_2,.slice Ao30 x176002_2.length co30] 31 (0,0)) (by (with_reducible repeat (first|refine kn_ ?_ _|refine kd_ ?_|refine ka_ ?_ _));exact BK175.out)) : gb192 ≠ gb175))
          have n11_:=am_ ((by rw [hg];exact Nat.ne_of_lt (blk_lt (g:=gb181) (o:=.cells #[.int .u64 x182000_2,.int .u64 x182001_2,u182002] 35 (0,0)) (by (with_reducible repeat (first|refine kn_ ?_ _|refine kd_ ?_|refine ka_ ?_ _));exact BK181.out)) : gb181 ≠ gb192))
          have n12_:=am_ ((by rw [hg];exact Nat.ne_of_gt (blk_lt (g:=gb181) (o:=.cells #[.int .u64 x182000_2,.int .u64 x182001_2,u182002] 35 (0,0)) (by (with_reducible repeat (first|refine kn_ ?_ _|refine kd_ ?_|refine ka_ ?_ _));exact BK181.out)) : gb192 ≠ gb181))
          clear HO_176002
          clear HO_182002
          clear HO190
          clear BK175
          clear BK181
          clear HB
          have HO_176002:=n0_
          have HO_182002:=n1_
          have HO190:=n2_
          have BK175:=n3_
          have BK181:=n4_
          have HB:=n5_
          have BK192:=n6_
          have GW192:=n7_
          have GE192:=n8_
          have NB175_192:=n9_
          have NB192_175:=n10_
          have NB181_192:=n11_
          have NB192_181:=n12_
          clear n0_ n1_ n2_ n3_ n4_ n5_ n6_ n7_ n8_ n9_ n10_ n11_ n12_
          clear hb hbox hg
          refine hK.out _ _ ⟨(kc_ BK175.out 0).trans rfl,(kc_ BK175.out 1).trans rfl,(kc_ BK175.out 2).trans rfl,(up_ HB.out hw182_0),(up_ HB.out hw182_1),(up_ HB.out hw182_2),(up_ HB.out hw182_3),(up_ HB.out hw183_0),(up_ HB.out hw183_1),(up_ HB.out hw183_2),(up_ HB.out hw183_3),(up_ HB.out hw184_0),(up_ HB.out hw184_1),(up_ HB.out hw184_2),(up_ HB.out hw184_3),(up_ HB.out hw185_0),(up_ HB.out hw185_1),(up_ HB.out hw185_2),(up_ HB.out hw185_3)⟩ (fun hHeld => ?_)
          clear hK K
          refine norm_ (a':=?_) ?_ ?_
          rotate_left
          ·show Act.put _ (some 12) _ = _
           simp only [Act.put,ps_,i64_w,i32_w]
           rfl
          exact norm_ (by simp only [putAll,Act.put,ps_]) (hCont (v189,gb192) _ ⟨hHeld,(by (with_reducible repeat (first|apply ra_|apply rn_|apply rd_));exact Kd.R_mono HO190.out (fun _ hk => hk.2)),(by (with_reducible repeat (first|apply ra_|apply rn_|apply rd_));exact Kd.R_mono HO_176002.out (fun _ hk => hk.2)),(by (with_reducible repeat (first|apply ra_|apply rn_|apply rd_));exact HO_182002.out),(by (with_reducible repeat (first|refine kn_ ?_ _|refine kd_ ?_|refine ka_ ?_ _));exact BK175.out),(by (with_reducible repeat (first|refine kn_ ?_ _|refine kd_ ?_|refine ka_ ?_ _));exact BK181.out),(by (with_reducible repeat (first|refine kn_ ?_ _|refine kd_ ?_|refine ka_ ?_ _));exact BK192.out),GW192.out,GE192.out,NB175_192.out,NB192_175.out,NB181_192.out,NB192_181.out,(by repeat (first|(with_reducible first|exact HB.out|apply ba_|apply pn_|apply pd_|refine bs_ ?_ GE175.out|refine bs_ ?_ GE181.out|refine bs_ ?_ GE192.out)|exact HB.out))⟩)
         ·skip
          refine box_step ?hg (N:=12) ?hd (cs:=#[.int .u64 0,.int .u64 0,.slice none 0 0]) (t:=31) ?hr ?_;(case hd => rfl);(case hg => rfl);(case hr => first|(go_simp;done)|(go_simp;rfl))
          intro gb192 hg w32 hbox hb
          have n0_:=am_ (Kd.R_below (by (with_reducible repeat (first|apply ra_|apply rn_|apply rd_));exact HO_176002.out) hb)
          have n1_:=am_ (Kd.R_below (by (with_reducible repeat (first|apply ra_|apply rn_|apply rd_));exact HO_182002.out) hb)
          have n2_:=am_ (blk_below (g:=gb175) (o:=.cells #[.int .u64 x176000_2,.int .u64 x176001_2,.slice Ao30 x176002_2.length co30] 31 (0,0)) (by (with_reducible repeat (first|refine kn_ ?_ _|refine kd_ ?_|refine ka_ ?_ _));exact BK175.out) hb)
          have n3_:=am_ (blk_below (g:=gb181) (o:=.cells #[.int .u64 x182000_2,.int .u64 x182001_2,u182002] 35 (0,0)) (by (with_reducible repeat (first|refine kn_ ?_ _|refine kd_ ?_|refine ka_ ?_ _));exact BK181.out) hb)
          have n4_:=am_ (below_step (by repeat (first|(with_reducible first|exact HB.out|apply ba_|apply pn_|apply pd_|refine bs_ ?_ GE175.out|refine bs_ ?_ GE181.out)|exact HB.out)) hb)
          have n5_:=am_ (hbox)
          have n6_:=am_ ((by rw [hg];exact (below_size (by repeat (first|(with_reducible first|exact HB.out|apply ba_|apply pn_|apply pd_|refine bs_ ?_ GE175.out|refine bs_ ?_ GE181.out)|exact HB.out))) : w.heap.size ≤ gb192))
          have n7_:=am_ ((by rw [hg];exact (below_size (by repeat (first|(with_reducible first|exact HB.out|apply ba_|apply pn_|apply pd_|refine bs_ ?_ GE175.out|refine bs_ ?_ GE181.out)|exact HB.out))) : w.heap.size ≤ gb192))
          have n8_:=am_ ((by rw [hg];exact Nat.ne_of_lt (blk_lt (g:=gb175) (o:=.cells #[.int .u64 x176000_2,.int .u64 x176001_2,.slice Ao30 x176002_2.length co30] 31 (0,0)) (by (with_reducible repeat (first|refine kn_ ?_ _|refine kd_ ?_|refine ka_ ?_ _));exact BK175.out)) : gb175 ≠ gb192))
          have n9_:=am_ ((by rw [hg];exact Nat.ne_of_gt (blk_lt (g:=gb175) (o:=.cells #[.int .u64 x176000_2,.int .u64 x176001_2,.slice Ao30 x176002_2.length co30] 31 (0,0)) (by (with_reducible repeat (first|refine kn_ ?_ _|refine kd_ ?_|refine ka_ ?_ _));exact BK175.out)) : gb192 ≠ gb175))
          have n10_:=am_ ((by rw [hg];exact Nat.ne_of_lt (blk_lt (g:=gb181) (o:=.cells #[.int .u64 x182000_2,.int .u64 x182001_2,u182002] 35 (0,0)) (by (with_reducible repeat (first|refine kn_ ?_ _|refine kd_ ?_|refine ka_ ?_ _));exact BK181.out)) : gb181 ≠ gb192))
          have n11_:=am_ ((by rw [hg];exact Nat.ne_of_gt (blk_lt (g:=gb181) (o:=.cells #[.int .u64 x182000_2,.int .u64 x182001_2,u182002] 35 (0,0)) (by (with_reducible repeat (first|refine kn_ ?_ _|refine kd_ ?_|refine ka_ ?_ _));exact BK181.out)) : gb192 ≠ gb181))
          clear HO_176002
          clear HO_182002
          clear BK175
          clear BK181
          clear HB
          have HO_176002:=n0_
          have HO_182002:=n1_
          have BK175:=n2_
          have BK181:=n3_
          have HB:=n4_
          have BK192:=n5_
          have GW192:=n6_
          have GE192:=n7_
          have NB175_192:=n8_
          have NB192_175:=n9_
          have NB181_192:=n10_
          have NB192_181:=n11_
          clear n0_ n1_ n2_ n3_ n4_ n5_ n6_ n7_ n8_ n9_ n10_ n11_
          clear hb hbox hg
          refine hK.out _ _ ⟨(kc_ BK175.out 0).trans rfl,(kc_ BK175.out 1).trans rfl,(kc_ BK175.out 2).trans rfl,(up_ HB.out hw182_0),(up_ HB.out hw182_1),(up_ HB.out hw182_2),(up_ HB.out hw182_3),(up_ HB.out hw183_0),(up_ HB.out hw183_1),(up_ HB.out hw183_2),(up_ HB.out hw183_3),(up_ HB.out hw184_0),(up_ HB.out hw184_1),(up_ HB.out hw184_2),(up_ HB.out hw184_3),(up_ HB.out hw185_0),(up_ HB.out hw185_1),(up_ HB.out hw185_2),(up_ HB.out hw185_3)⟩ (fun hHeld => ?_)
          clear hK K
          refine norm_ (a':=?_) ?_ ?_
          rotate_left
          ·show Act.put _ (some 12) _ = _
           simp only [Act.put,ps_,i64_w,i32_w]
           rfl
          refine one_ (i:=21) (N:=some 73) #[T_,T_,T_,T_,T_,T_,T_,T_,T_,T_,T_,T_,T_,T_,T_,T_,T_,T_,T_,T_,T_,T_,F_,F_,F_,T_,F_,F_] rfl rfl (one_of HT_.out (by kernel_rfl)) (by decide) (fun K hK => ?_)
          refine goes_ Try.func17 (by kernel_rfl) rfl #[.agg #[.int .u64 x176000_2,.int .u64 x176001_2,.slice Ao30 x176002_2.length co30],.int .i64 ((rd_T40 l1 x11_2).f0),.int .u64 ((rd_T40 l1 x11_2).f1),.string ((rd_T40 l1 x11_2).f2),.string ((rd_T40 l1 x11_2).f3)] (by rfl) rfl rfl (by (try simp only [List.map_toArray,List.map_cons,List.map_nil]);first|done|rfl|(simp only [List.length_drop,List.length_take];rfl)) ?_
          with_reducible refine (ideal_Seal.calls k2 x176000_2 x176001_2 _ _ x176002_2 ((rd_T40 l1 x11_2).f0) ((rd_T40 l1 x11_2).f1) ((rd_T40 l1 x11_2).f2) ((rd_T40 l1 x11_2).f3) t186 t187 t188 t191 _ ?side1 ?side2 A27.out).mono ?_
          (case side1 => repeat (first|exact (Kd.R_reads' HO_176002.out).2.2|(with_reducible refine Kd.C_alloc ?_ _)|(with_reducible refine Kd.C_drewN ?_ _)|(with_reducible refine Kd.C_drew ?_)))
          (case side2 => exact (Kd.R_reads' HO_176002.out).2.1)
          rintro e w33 ⟨v189,rfl,ho0,hb⟩
          refine ⟨_,rfl,?_⟩
          have n0_:=am_ (Kd.R_elder' (by (with_reducible repeat (first|apply ra_|apply rn_|apply rd_));exact HO_176002.out) (Kd.R_base ho0) hb)
          have n1_:=am_ (Kd.R_below (by (with_reducible repeat (first|apply ra_|apply rn_|apply rd_));exact HO_182002.out) hb)
          have n2_:=am_ (Kd.R_lower (Kd.R_new' ho0 (Kd.R_lt (by (with_reducible repeat (first|apply ra_|apply rn_|apply rd_));exact HO_176002.out))) (below_size (by repeat (first|(with_reducible first|exact HB.out|apply ba_|apply pn_|apply pd_|refine bs_ ?_ GE175.out|refine bs_ ?_ GE181.out|refine bs_ ?_ GE192.out)|exact HB.out))))
          have n3_:=am_ (blk_below (g:=gb175) (o:=.cells #[.int .u64 x176000_2,.int .u64 x176001_2,.slice Ao30 x176002_2.length co30] 31 (0,0)) (by (with_reducible repeat (first|refine kn_ ?_ _|refine kd_ ?_|refine ka_ ?_ _));exact BK175.out) hb)
          have n4_:=am_ (blk_below (g:=gb181) (o:=.cells #[.int .u64 x182000_2,.int .u64 x182001_2,u182002] 35 (0,0)) (by (with_reducible repeat (first|refine kn_ ?_ _|refine kd_ ?_|refine ka_ ?_ _));exact BK181.out) hb)
          have n5_:=am_ (blk_below (g:=gb192) (o:=.cells #[.int .u64 0,.int .u64 0,.slice none 0 0] 31 (0,0)) (by (with_reducible repeat (first|refine kn_ ?_ _|refine kd_ ?_|refine ka_ ?_ _));exact BK192.out) hb)
          have n6_:=am_ (below_step (by repeat (first|(with_reducible first|exact HB.out|apply ba_|apply pn_|apply pd_|refine bs_ ?_ GE175.out|refine bs_ ?_ GE181.out|refine bs_ ?_ GE192.out)|exact HB.out)) hb)
          clear HO_176002
          clear HO_182002
          clear BK175
          clear BK181
          clear BK192
          clear HB
          have HO_176002:=n0_
          have HO_182002:=n1_
          have HO190:=n2_
          have BK175:=n3_
          have BK181:=n4_
          have BK192:=n5_
          have HB:=n6_
          clear n0_ n1_ n2_ n3_ n4_ n5_ n6_
          (try clear hb)
          (try clear hb2)
          (try clear hk)
          (try clear hi)
          (try clear ho0)
          refine hK.out _ _ ⟨(kc_ BK175.out 0).trans rfl,(kc_ BK175.out 1).trans rfl,(kc_ BK175.out 2).trans rfl,(up_ HB.out hw182_0),(up_ HB.out hw182_1),(up_ HB.out hw182_2),(up_ HB.out hw182_3),(up_ HB.out hw183_0),(up_ HB.out hw183_1),(up_ HB.out hw183_2),(up_ HB.out hw183_3),(up_ HB.out hw184_0),(up_ HB.out hw184_1),(up_ HB.out hw184_2),(up_ HB.out hw184_3),(up_ HB.out hw185_0),(up_ HB.out hw185_1),(up_ HB.out hw185_2),(up_ HB.out hw185_3)⟩ (fun hHeld => ?_)
          clear hK K
          refine norm_ (a':=?_) ?_ ?_
          rotate_left
          ·show Act.put _ (some 73) _ = _
           simp only [Act.put,ps_,i64_w,i32_w]
           rfl
          refine pure_ (i:=22) (N:=some 51) (v:=?_) (a':=?_) #[T_,T_,T_,T_,T_,T_,T_,T_,T_,T_,T_,T_,T_,T_,T_,T_,T_,T_,T_,T_,T_,T_,T_,F_,F_,T_,F_,F_] rfl rfl (any_of HT_.out (by kernel_rfl)) (fun _ _ _ h => h) (Or.inl ⟨by rfl,?_⟩) ?_ ?_
          rotate_left;(intro w';go_simp;with_reducible rfl);rotate_left;(simp only [Act.put,ps_,i64_w,i32_w];rfl)
          refine pure_ (i:=23) (N:=some 74) (v:=?_) (a':=?_) #[T_,T_,T_,T_,T_,T_,T_,T_,T_,T_,T_,T_,T_,T_,T_,T_,T_,T_,T_,T_,T_,T_,T_,T_,F_,T_,F_,F_] rfl rfl (any_of HT_.out (by kernel_rfl)) (fun _ _ _ h => h) (Or.inl ⟨by rfl,?_⟩) ?_ ?_
          rotate_left;(intro w';go_simp;with_reducible rfl);rotate_left;(simp only [Act.put,ps_,i64_w,i32_w];rfl)
          refine pure_ (i:=24) (N:=some 75) (v:=?_) (a':=?_) #[T_,T_,T_,T_,T_,T_,T_,T_,T_,T_,T_,T_,T_,T_,T_,T_,T_,T_,T_,T_,T_,T_,T_,T_,T_,T_,F_,F_] rfl rfl (any_of HT_.out (by kernel_rfl)) (fun _ _ _ h => h) (Or.inl ⟨by rfl,?_⟩) ?_ ?_
          rotate_left;(intro w';go_simp;with_reducible rfl);rotate_left;(simp only [Act.put,ps_,i64_w,i32_w];rfl)
          exact norm_ (by simp only [putAll,Act.put,ps_]) (hCont (v189,gb192) _ ⟨hHeld,(by (with_reducible repeat (first|apply ra_|apply rn_|apply rd_));exact Kd.R_mono HO190.out (fun _ hk => hk.2)),(by (with_reducible repeat (first|apply ra_|apply rn_|apply rd_));exact Kd.R_mono HO_176002.out (fun _ hk => hk.2)),(by (with_reducible repeat (first|apply ra_|apply rn_|apply rd_));exact HO_182002.out),(by (with_reducible repeat (first|refine kn_ ?_ _|refine kd_ ?_|refine ka_ ?_ _));exact BK175.out),(by (with_reducible repeat (first|refine kn_ ?_ _|refine kd_ ?_|refine ka_ ?_ _));exact BK181.out),(by (with_reducible repeat (first|refine kn_ ?_ _|refine kd_ ?_|refine ka_ ?_ _));exact BK192.out),GW192.out,GE192.out,NB175_192.out,NB192_175.out,NB181_192.out,NB192_181.out,(by repeat (first|(with_reducible first|exact HB.out|apply ba_|apply pn_|apply pd_|refine bs_ ?_ GE175.out|refine bs_ ?_ GE181.out|refine bs_ ?_ GE192.out)|exact HB.out))⟩)
        rintro ⟨v189,gb192⟩ w34 ⟨hS_,h0_,h1_,h2_,h3_,h4_,h5_,h6_,h7_,h8_,h9_,h10_,h11_,h12_⟩
        have n0_ : Aside0 (Kd.R k73 73 w34 w.heap.size (fun k_ => some k_ ≠ (.slice Ao30 x176002_2.length co30 : Value).ownBlock) v189 t188):=⟨h0_⟩
        have n1_ : Aside0 (Kd.R k73 73 w34 w.heap.size (fun k_ => some k_ ≠ (v189 : Value).ownBlock) (.slice Ao30 x176002_2.length co30) x176002_2):=⟨h1_⟩
        have n2_ : Aside0 (Kd.R k74 74 w34 w.heap.size (fun _ => True) u182002 x182002_2):=⟨h2_⟩
        have n3_ : Aside0 (w34.heap[gb175]? = some (.cells #[.int .u64 x176000_2,.int .u64 x176001_2,.slice Ao30 x176002_2.length co30] 31 (0,0))):=⟨h3_⟩
        have n4_ : Aside0 (w34.heap[gb181]? = some (.cells #[.int .u64 x182000_2,.int .u64 x182001_2,u182002] 35 (0,0))):=⟨h4_⟩
        have n5_ : Aside0 (w34.heap[gb192]? = some (.cells #[.int .u64 0,.int .u64 0,.slice none 0 0] 31 (0,0))):=⟨h5_⟩
        have n6_ : Aside0 (w.heap.size ≤ gb192):=⟨h6_⟩
        have n7_ : Aside0 (w.heap.size ≤ gb192):=⟨h7_⟩
        have n8_ : Aside0 (gb175 ≠ gb192):=⟨h8_⟩
        have n9_ : Aside0 (gb192 ≠ gb175):=⟨h9_⟩
        have n10_ : Aside0 (gb181 ≠ gb192):=⟨h10_⟩
        have n11_ : Aside0 (gb192 ≠ gb181):=⟨h11_⟩
        have n12_ : Aside0 (Below w.heap.size w w34):=⟨h12_⟩
        clear HO_176002
        clear HO_182002
        clear BK175
        clear BK181
        clear HB
        clear h0_ h1_ h2_ h3_ h4_ h5_ h6_ h7_ h8_ h9_ h10_ h11_ h12_
        have HO190:=n0_
        have HO_176002:=n1_
        have HO_182002:=n2_
        have BK175:=n3_
        have BK181:=n4_
        have BK192:=n5_
        have GW192:=n6_
        have GE192:=n7_
        have NB175_192:=n8_
        have NB192_175:=n9_
        have NB181_192:=n10_
        have NB192_181:=n11_
        have HB:=n12_
        clear n0_ n1_ n2_ n3_ n4_ n5_ n6_ n7_ n8_ n9_ n10_ n11_ n12_
        have hHeld : w34.cell? ⟨gb175,0,none⟩ = some (.int .u64 x176000_2) ∧ w34.cell? ⟨gb175,1,none⟩ = some (.int .u64 x176001_2) ∧ w34.cell? ⟨gb175,2,none⟩ = some (.slice Ao30 x176002_2.length co30) ∧ w34.cell? (ad182.add ((x11_2).toNat * 4)) = some (.int .i64 ((rd_T40 l1 x11_2).f0)) ∧ w34.cell? ⟨(ad182.add ((x11_2).toNat * 4)).block,(ad182.add ((x11_2).toNat * 4)).off + 1,none⟩ = some (.int .u64 ((rd_T40 l1 x11_2).f1)) ∧ w34.cell? ⟨(ad182.add ((x11_2).toNat * 4)).block,(ad182.add ((x11_2).toNat * 4)).off + 2,none⟩ = some (.string ((rd_T40 l1 x11_2).f2)) ∧ w34.cell? ⟨(ad182.add ((x11_2).toNat * 4)).block,(ad182.add ((x11_2).toNat * 4)).off + 3,none⟩ = some (.string ((rd_T40 l1 x11_2).f3)) ∧ w34.cell? (ad182.add ((x11_2).toNat * 4)) = some (.int .i64 ((rd_T40 l1 x11_2).f0)) ∧ w34.cell? ⟨(ad182.add ((x11_2).toNat * 4)).block,(ad182.add ((x11_2).toNat * 4)).off + 1,none⟩ = some (.int .u64 ((rd_T40 l1 x11_2).f1)) ∧ w34.cell? ⟨(ad182.add ((x11_2).toNat * 4)).block,(ad182.add ((x11_2).toNat * 4)).off + 2,none⟩ = some (.string ((rd_T40 l1 x11_2).f2)) ∧ w34.cell? ⟨(ad182.add ((x11_2).toNat * 4)).block,(ad182.add ((x11_2).toNat * 4)).off + 3,none⟩ = some (.string ((rd_T40 l1 x11_2).f3)) ∧ w34.cell? (ad182.add ((x11_2).toNat * 4)) = some (.int .i64 ((rd_T40 l1 x11_2).f0)) ∧ w34.cell? ⟨(ad182.add ((x11_2).toNat * 4)).block,(ad182.add ((x11_2).toNat * 4)).off + 1,none⟩ = some (.int .u64 ((rd_T40 l1 x11_2).f1)) ∧ w34.cell? ⟨(ad182.add ((x11_2).toNat * 4)).block,(ad182.add ((x11_2).toNat * 4)).off + 2,none⟩ = some (.string ((rd_T40 l1 x11_2).f2)) ∧ w34.cell? ⟨(ad182.add ((x11_2).toNat * 4)).block,(ad182.add ((x11_2).toNat * 4)).off + 3,none⟩ = some (.string ((rd_T40 l1 x11_2).f3)) ∧ w34.cell? (ad182.add ((x11_2).toNat * 4)) = some (.int .i64 ((rd_T40 l1 x11_2).f0)) ∧ w34.cell? ⟨(ad182.add ((x11_2).toNat * 4)).block,(ad182.add ((x11_2).toNat * 4)).off + 1,none⟩ = some (.int .u64 ((rd_T40 l1 x11_2).f1)) ∧ w34.cell? ⟨(ad182.add ((x11_2).toNat * 4)).block,(ad182.add ((x11_2).toNat * 4)).off + 2,none⟩ = some (.string ((rd_T40 l1 x11_2).f2)) ∧ w34.cell? ⟨(ad182.add ((x11_2).toNat * 4)).block,(ad182.add ((x11_2).toNat * 4)).off + 3,none⟩ = some (.string ((rd_T40 l1 x11_2).f3)):=hS_
        obtain ⟨Ao37,co37,eo37⟩:=Kd.R_slice HO190.out
        (first|subst eo37|(injection eo37 with f1_ f2_ f3_;have f4_:=f1_.symm;have f5_:=f3_.symm;clear f1_ f2_ f3_;subst f4_;subst f5_))
        refine norm_ (a':=?_) ?_ ?_
        rotate_left
        ·simp only [putAll,Act.put,ps_]
         rfl
        refine one_ (i:=26) (N:=none) #[T_,T_,T_,T_,T_,T_,T_,T_,T_,T_,T_,T_,T_,T_,T_,T_,T_,T_,T_,T_,T_,T_,T_,T_,T_,T_,T_,F_] rfl rfl (one_of HT_.out (by kernel_rfl)) (by decide) (fun K hK => ?_)
        have hs35 : w34.cell? ⟨gb192,0,none⟩ = some (.int .u64 0):=(kc_ BK192.out 0).trans rfl
        have hfs35:=blk_frozen BK192.out 0
        have hns35_0:=NB175_192.out
        have hns35_1:=NB181_192.out
        have hms35_0:=NB192_175.out
        have hms35_1:=NB192_181.out
        have hs36 : w34.cell? ⟨gb192,1,none⟩ = some (.int .u64 0):=(kc_ BK192.out 1).trans rfl
        have hfs36:=blk_frozen BK192.out 1
        have hns36_0:=NB175_192.out
        have hns36_1:=NB181_192.out
        have hms36_0:=NB192_175.out
        have hms36_1:=NB192_181.out
        have hs38 : w34.cell? ⟨gb192,2,none⟩ = some (.slice none 0 0):=(kc_ BK192.out 2).trans rfl
        have hfs38:=blk_frozen BK192.out 2
        have hns38_0:=NB175_192.out
        have hns38_1:=NB181_192.out
        have hms38_0:=NB192_175.out
        have hms38_1:=NB192_181.out
        refine skip_ (w1:=?_) (by rfl) rfl ?_ ?_
        rotate_left
        ·go_simp
         rfl
        refine hK.out _ _ ⟨((cell_far (p:=⟨gb192,_,none⟩) NB175_192.out _).trans (((cell_far (p:=⟨gb192,_,none⟩) NB175_192.out _).trans (((cell_far (p:=⟨gb192,_,none⟩) NB175_192.out _).trans (hHeld.1)))))),((cell_far (p:=⟨gb192,_,none⟩) NB175_192.out _).trans (((cell_far (p:=⟨gb192,_,none⟩) NB175_192.out _).trans (((cell_far (p:=⟨gb192,_,none⟩) NB175_192.out _).trans (hHeld.2.1)))))),((cell_far (p:=⟨gb192,_,none⟩) NB175_192.out _).trans (((cell_far (p:=⟨gb192,_,none⟩) NB175_192.out _).trans (((cell_far (p:=⟨gb192,_,none⟩) NB175_192.out _).trans (hHeld.2.2.1)))))),((far_ hw182_0 GW192.out _).trans (((far_ hw182_0 GW192.out _).trans (((far_ hw182_0 GW192.out _).trans (hHeld.2.2.2.1)))))),((far_ hw182_1 GW192.out _).trans (((far_ hw182_1 GW192.out _).trans (((far_ hw182_1 GW192.out _).trans (hHeld.2.2.2.2.1)))))),((far_ hw182_2 GW192.out _).trans (((far_ hw182_2 GW192.out _).trans (((far_ hw182_2 GW192.out _).trans (hHeld.2.2.2.2.2.1)))))),((far_ hw182_3 GW192.out _).trans (((far_ hw182_3 GW192.out _).trans (((far_ hw182_3 GW192.out _).trans (hHeld.2.2.2.2.2.2.1)))))),((far_ hw183_0 GW192.out _).trans (((far_ hw183_0 GW192.out _).trans (((far_ hw183_0 GW192.out _).trans (hHeld.2.2.2.2.2.2.2.1)))))),((far_ hw183_1 GW192.out _).trans (((far_ hw183_1 GW192.out _).trans (((far_ hw183_1 GW192.out _).trans (hHeld.2.2.2.2.2.2.2.2.1)))))),((far_ hw183_2 GW192.out _).trans (((far_ hw183_2 GW192.out _).trans (((far_ hw183_2 GW192.out _).trans (hHeld.2.2.2.2.2.2.2.2.2.1)))))),((far_ hw183_3 GW192.out _).trans (((far_ hw183_3 GW192.out _).trans (((far_ hw183_3 GW192.out _).trans (hHeld.2.2.2.2.2.2.2.2.2.2.1)))))),((far_ hw184_0 GW192.out _).trans (((far_ hw184_0 GW192.out _).trans (((far_ hw184_0 GW192.out _).trans (hHeld.2.2.2.2.2.2.2.2.2.2.2.1)))))),((far_ hw184_1 GW192.out _).trans (((far_ hw184_1 GW192.out _).trans (((far_ hw184_1 GW192.out _).trans (hHeld.2.2.2.2.2.2.2.2.2.2.2.2.1)))))),((far_ hw184_2 GW192.out _).trans (((far_ hw184_2 GW192.out _).trans (((far_ hw184_2 GW192.out _).trans (hHeld.2.2.2.2.2.2.2.2.2.2.2.2.2.1)))))),((far_ hw184_3 GW192.out _).trans (((far_ hw184_3 GW192.out _).trans (((far_ hw184_3 GW192.out _).trans (hHeld.2.2.2.2.2.2.2.2.2.2.2.2.2.2.1)))))),((far_ hw185_0 GW192.out _).trans (((far_ hw185_0 GW192.out _).trans (((far_ hw185_0 GW192.out _).trans (hHeld.2.2.2.2.2.2.2.2.2.2.2.2.2.2.2.1)))))),((far_ hw185_1 GW192.out _).trans (((far_ hw185_1 GW192.out _).trans (((far_ hw185_1 GW192.out _).trans (hHeld.2.2.2.2.2.2.2.2.2.2.2.2.2.2.2.2.1)))))),((far_ hw185_2 GW192.out _).trans (((far_ hw185_2 GW192.out _).trans (((far_ hw185_2 GW192.out _).trans (hHeld.2.2.2.2.2.2.2.2.2.2.2.2.2.2.2.2.2.1)))))),((far_ hw185_3 GW192.out _).trans (((far_ hw185_3 GW192.out _).trans (((far_ hw185_3 GW192.out _).trans (hHeld.2.2.2.2.2.2.2.2.2.2.2.2.2.2.2.2.2.2))))))⟩ (fun hHeld => ?_)
        clear hK K
        refine pure_ (i:=27) (N:=some 13) (v:=?_) (a':=?_) #[T_,T_,T_,T_,T_,T_,T_,T_,T_,T_,T_,T_,T_,T_,T_,T_,T_,T_,T_,T_,T_,T_,T_,T_,T_,T_,T_,T_] rfl rfl (any_of HT_.out (by kernel_rfl)) (fun _ _ _ h => h) (Or.inl ⟨by rfl,?_⟩) ?_ ?_
        rotate_left;(intro w';go_simp;with_reducible rfl);rotate_left;(simp only [Act.put,ps_,i64_w,i32_w];rfl)
        refine done_ (done_of HT_.out (by kernel_rfl)) ?_
        obtain ⟨Ao39,co39,eo39⟩:=Kd.R_slice HO_182002.out
        subst eo39
        try go_wp2
        have n0_ : Aside0 (Kd.R k73 73 (((w34.setCell ⟨gb192,0,none⟩ (.int .u64 t186)).setCell ⟨gb192,1,none⟩ (.int .u64 t187)).setCell ⟨gb192,2,none⟩ (.slice Ao37 t188.length co37)) w.heap.size (fun k_ => some k_ ≠ (.slice Ao37 t188.length co37 : Value).ownBlock) (.slice Ao30 x176002_2.length co30) x176002_2):=⟨by (with_reducible repeat (first|apply ra_|apply rn_|apply rd_));exact Kd.R_mono (Kd.R_far (p:=⟨gb192,2,none⟩) (Kd.R_far (p:=⟨gb192,1,none⟩) (Kd.R_far (p:=⟨gb192,0,none⟩) (Kd.R_types HO_176002.out BK192.out (by decide)) (fun _ hk => hk.2) (.int .u64 t186)) (fun _ hk => hk.2) (.int .u64 t187)) (fun _ hk => hk.2) (.slice Ao37 t188.length co37)) (fun _ hk => hk.1)⟩
        have n1_ : Aside0 (Kd.R k74 74 (((w34.setCell ⟨gb192,0,none⟩ (.int .u64 t186)).setCell ⟨gb192,1,none⟩ (.int .u64 t187)).setCell ⟨gb192,2,none⟩ (.slice Ao37 t188.length co37)) w.heap.size (fun _ => True) (.slice Ao39 x182002_2.length co39) x182002_2):=⟨by (with_reducible repeat (first|apply ra_|apply rn_|apply rd_));exact Kd.R_mono (Kd.R_far (p:=⟨gb192,2,none⟩) (Kd.R_far (p:=⟨gb192,1,none⟩) (Kd.R_far (p:=⟨gb192,0,none⟩) (Kd.R_types HO_182002.out BK192.out (by decide)) (fun _ hk => hk.2) (.int .u64 t186)) (fun _ hk => hk.2) (.int .u64 t187)) (fun _ hk => hk.2) (.slice Ao37 t188.length co37)) (fun _ hk => trivial)⟩
        have n2_ : Aside0 (Kd.R k73 73 (((w34.setCell ⟨gb192,0,none⟩ (.int .u64 t186)).setCell ⟨gb192,1,none⟩ (.int .u64 t187)).setCell ⟨gb192,2,none⟩ (.slice Ao37 t188.length co37)) w.heap.size (fun k_ => some k_ ≠ (.slice Ao30 x176002_2.length co30 : Value).ownBlock) (.slice Ao37 t188.length co37) t188):=⟨by (with_reducible repeat (first|apply ra_|apply rn_|apply rd_));exact Kd.R_mono (Kd.R_far (p:=⟨gb192,2,none⟩) (Kd.R_far (p:=⟨gb192,1,none⟩) (Kd.R_far (p:=⟨gb192,0,none⟩) (Kd.R_types HO190.out BK192.out (by decide)) (fun _ hk => hk.2) (.int .u64 t186)) (fun _ hk => hk.2) (.int .u64 t187)) (fun _ hk => hk.2) (.slice Ao37 t188.length co37)) (fun _ hk => hk.1)⟩
        have n3_ : Aside0 ((((w34.setCell ⟨gb192,0,none⟩ (.int .u64 t186)).setCell ⟨gb192,1,none⟩ (.int .u64 t187)).setCell ⟨gb192,2,none⟩ (.slice Ao37 t188.length co37)).heap[gb175]? = some (.cells #[.int .u64 x176000_2,.int .u64 x176001_2,.slice Ao30 x176002_2.length co30] 31 (0,0))):=⟨by (with_reducible repeat (first|refine kn_ ?_ _|refine kd_ ?_|refine ka_ ?_ _));refine blk_far ?_ NB175_192.out _;(with_reducible repeat (first|refine kn_ ?_ _|refine kd_ ?_|refine ka_ ?_ _));refine blk_far ?_ NB175_192.out _;(with_reducible repeat (first|refine kn_ ?_ _|refine kd_ ?_|refine ka_ ?_ _));refine blk_far ?_ NB175_192.out _;(with_reducible repeat (first|refine kn_ ?_ _|refine kd_ ?_|refine ka_ ?_ _));exact BK175.out⟩
        have n4_ : Aside0 ((((w34.setCell ⟨gb192,0,none⟩ (.int .u64 t186)).setCell ⟨gb192,1,none⟩ (.int .u64 t187)).setCell ⟨gb192,2,none⟩ (.slice Ao37 t188.length co37)).heap[gb181]? = some (.cells #[.int .u64 x182000_2,.int .u64 x182001_2,.slice Ao39 x182002_2.length co39] 35 (0,0))):=⟨by (with_reducible repeat (first|refine kn_ ?_ _|refine kd_ ?_|refine ka_ ?_ _));refine blk_far ?_ NB181_192.out _;(with_reducible repeat (first|refine kn_ ?_ _|refine kd_ ?_|refine ka_ ?_ _));refine blk_far ?_ NB181_192.out _;(with_reducible repeat (first|refine kn_ ?_ _|refine kd_ ?_|refine ka_ ?_ _));refine blk_far ?_ NB181_192.out _;(with_reducible repeat (first|refine kn_ ?_ _|refine kd_ ?_|refine ka_ ?_ _));exact BK181.out⟩
        have n5_ : Aside0 ((((w34.setCell ⟨gb192,0,none⟩ (.int .u64 t186)).setCell ⟨gb192,1,none⟩ (.int .u64 t187)).setCell ⟨gb192,2,none⟩ (.slice Ao37 t188.length co37)).heap[gb192]? = some (.cells #[.int .u64 t186,.int .u64 t187,.slice Ao37 t188.length co37] 31 (0,0))):=⟨by (with_reducible repeat (first|refine kn_ ?_ _|refine kd_ ?_|refine ka_ ?_ _));refine blk_put (cs:=#[.int .u64 t186,.int .u64 t187,.slice none 0 0]) ?_ 2 _ rfl;(with_reducible repeat (first|refine kn_ ?_ _|refine kd_ ?_|refine ka_ ?_ _));refine blk_put (cs:=#[.int .u64 t186,.int .u64 0,.slice none 0 0]) ?_ 1 _ rfl;(with_reducible repeat (first|refine kn_ ?_ _|refine kd_ ?_|refine ka_ ?_ _));refine blk_put (cs:=#[.int .u64 0,.int .u64 0,.slice none 0 0]) ?_ 0 _ rfl;(with_reducible repeat (first|refine kn_ ?_ _|refine kd_ ?_|refine ka_ ?_ _));exact BK192.out⟩
        have n6_ : Aside0 (Below w.heap.size w (((w34.setCell ⟨gb192,0,none⟩ (.int .u64 t186)).setCell ⟨gb192,1,none⟩ (.int .u64 t187)).setCell ⟨gb192,2,none⟩ (.slice Ao37 t188.length co37))):=⟨by repeat (first|(with_reducible first|exact HB.out|apply ba_|apply pn_|apply pd_|refine bs_ ?_ GE175.out|refine bs_ ?_ GE181.out|refine bs_ ?_ GE192.out)|exact HB.out)⟩
        (try clear HO_176002)
        (try clear HO_182002)
        (try clear HO190)
        (try clear BK175)
        (try clear BK181)
        (try clear BK192)
        (try clear HB)
        generalize (((w34.setCell ⟨gb192,0,none⟩ (.int .u64 t186)).setCell ⟨gb192,1,none⟩ (.int .u64 t187)).setCell ⟨gb192,2,none⟩ (.slice Ao37 t188.length co37)) = w40 at n0_ n1_ n2_ n3_ n4_ n5_ n6_ ⊢
        have HO_176002:=n0_
        have HO_182002:=n1_
        have HO190:=n2_
        have BK175:=n3_
        have BK181:=n4_
        have BK192:=n5_
        have HB:=n6_
        clear n0_ n1_ n2_ n3_ n4_ n5_ n6_
        have n0_:=am_ (rd_ HO_176002.out)
        have n1_:=am_ (rd_ HO_182002.out)
        have n2_:=am_ (rd_ HO190.out)
        have n3_:=am_ (kd_ BK175.out)
        have n4_:=am_ (kd_ BK181.out)
        have n5_:=am_ (kd_ BK192.out)
        have n6_:=am_ (pd_ HB.out)
        clear HO_176002
        clear HO_182002
        clear HO190
        clear BK175
        clear BK181
        clear BK192
        clear HB
        have HO_176002:=n0_
        have HO_182002:=n1_
        have HO190:=n2_
        have BK175:=n3_
        have BK181:=n4_
        have BK192:=n5_
        have HB:=n6_
        clear n0_ n1_ n2_ n3_ n4_ n5_ n6_
        have p193 : 0 ≤ (x11_2 : Int):=of_decide_eq_true (by first|(with_reducible assumption)|assumption)
        have q193 : x11_2 < (l1.length : Int):=of_decide_eq_true (by first|(with_reducible assumption)|assumption)
        obtain ⟨ad193,e193,hx193_0,hx193_1,hx193_2,hx193_3⟩:=at_T40 HR1.out x11_2 p193 q193
        have hw193_3:=hx193_3
        have hw193_2:=hx193_2
        have hw193_1:=hx193_1
        have hw193_0:=hx193_0
        obtain rfl : ad182 = ad193:=(by injection e193)
        replace hx193_0:=(HB.out.cell (World.block_lt_of_cell? w _ hx193_0)).trans hx193_0
        replace hx193_1:=(HB.out.cell (World.block_lt_of_cell? w _ hx193_1)).trans hx193_1
        replace hx193_2:=(HB.out.cell (World.block_lt_of_cell? w _ hx193_2)).trans hx193_2
        replace hx193_3:=(HB.out.cell (World.block_lt_of_cell? w _ hx193_3)).trans hx193_3
        replace p193:=eq_true p193
        replace q193:=eq_true q193
        have p194 : 0 ≤ (x11_2 : Int):=of_decide_eq_true (by first|(with_reducible assumption)|assumption)
        have q194 : x11_2 < (l1.length : Int):=of_decide_eq_true (by first|(with_reducible assumption)|assumption)
        obtain ⟨ad194,e194,hx194_0,hx194_1,hx194_2,hx194_3⟩:=at_T40 HR1.out x11_2 p194 q194
        have hw194_3:=hx194_3
        have hw194_2:=hx194_2
        have hw194_1:=hx194_1
        have hw194_0:=hx194_0
        obtain rfl : ad182 = ad194:=(by injection e194)
        replace hx194_0:=(HB.out.cell (World.block_lt_of_cell? w _ hx194_0)).trans hx194_0
        replace hx194_1:=(HB.out.cell (World.block_lt_of_cell? w _ hx194_1)).trans hx194_1
        replace hx194_2:=(HB.out.cell (World.block_lt_of_cell? w _ hx194_2)).trans hx194_2
        replace hx194_3:=(HB.out.cell (World.block_lt_of_cell? w _ hx194_3)).trans hx194_3
        replace p194:=eq_true p194
        replace q194:=eq_true q194
        have p195 : 0 ≤ (x11_2 : Int):=of_decide_eq_true (by first|(with_reducible assumption)|assumption)
        have q195 : x11_2 < (l1.length : Int):=of_decide_eq_true (by first|(with_reducible assumption)|assumption)
        obtain ⟨ad195,e195,hx195_0,hx195_1,hx195_2,hx195_3⟩:=at_T40 HR1.out x11_2 p195 q195
        have hw195_3:=hx195_3
        have hw195_2:=hx195_2
        have hw195_1:=hx195_1
        have hw195_0:=hx195_0
        obtain rfl : ad182 = ad195:=(by injection e195)
        replace hx195_0:=(HB.out.cell (World.block_lt_of_cell? w _ hx195_0)).trans hx195_0
        replace hx195_1:=(HB.out.cell (World.block_lt_of_cell? w _ hx195_1)).trans hx195_1
        replace hx195_2:=(HB.out.cell (World.block_lt_of_cell? w _ hx195_2)).trans hx195_2
        replace hx195_3:=(HB.out.cell (World.block_lt_of_cell? w _ hx195_3)).trans hx195_3
        replace p195:=eq_true p195
        replace q195:=eq_true q195
        have p196 : 0 ≤ (x11_2 : Int):=of_decide_eq_true (by first|(with_reducible assumption)|assumption)
        have q196 : x11_2 < (l1.length : Int):=of_decide_eq_true (by first|(with_reducible assumption)|assumption)
        obtain ⟨ad196,e196,hx196_0,hx196_1,hx196_2,hx196_3⟩:=at_T40 HR1.out x11_2 p196 q196
        have hw196_3:=hx196_3
        have hw196_2:=hx196_2
        have hw196_1:=hx196_1
        have hw196_0:=hx196_0
        obtain rfl : ad182 = ad196:=(by injection e196)
        replace hx196_0:=(HB.out.cell (World.block_lt_of_cell? w _ hx196_0)).trans hx196_0
        replace hx196_1:=(HB.out.cell (World.block_lt_of_cell? w _ hx196_1)).trans hx196_1
        replace hx196_2:=(HB.out.cell (World.block_lt_of_cell? w _ hx196_2)).trans hx196_2
        replace hx196_3:=(HB.out.cell (World.block_lt_of_cell? w _ hx196_3)).trans hx196_3
        replace p196:=eq_true p196
        replace q196:=eq_true q196
        refine start_ (n:=28) (S:=fun w' => w'.cell? ⟨gb181,0,none⟩ = some (.int .u64 x182000_2) ∧ w'.cell? ⟨gb181,1,none⟩ = some (.int .u64 x182001_2) ∧ w'.cell? ⟨gb181,2,none⟩ = some (.slice Ao39 x182002_2.length co39) ∧ w'.cell? (ad182.add ((x11_2).toNat * 4)) = some (.int .i64 ((rd_T40 l1 x11_2).f0)) ∧ w'.cell? ⟨(ad182.add ((x11_2).toNat * 4)).block,(ad182.add ((x11_2).toNat * 4)).off + 1,none⟩ = some (.int .u64 ((rd_T40 l1 x11_2).f1)) ∧ w'.cell? ⟨(ad182.add ((x11_2).toNat * 4)).block,(ad182.add ((x11_2).toNat * 4)).off + 2,none⟩ = some (.string ((rd_T40 l1 x11_2).f2)) ∧ w'.cell? ⟨(ad182.add ((x11_2).toNat * 4)).block,(ad182.add ((x11_2).toNat * 4)).off + 3,none⟩ = some (.string ((rd_T40 l1 x11_2).f3)) ∧ w'.cell? (ad182.add ((x11_2).toNat * 4)) = some (.int .i64 ((rd_T40 l1 x11_2).f0)) ∧ w'.cell? ⟨(ad182.add ((x11_2).toNat * 4)).block,(ad182.add ((x11_2).toNat * 4)).off + 1,none⟩ = some (.int .u64 ((rd_T40 l1 x11_2).f1)) ∧ w'.cell? ⟨(ad182.add ((x11_2).toNat * 4)).block,(ad182.add ((x11_2).toNat * 4)).off + 2,none⟩ = some (.string ((rd_T40 l1 x11_2).f2)) ∧ w'.cell? ⟨(ad182.add ((x11_2).toNat * 4)).block,(ad182.add ((x11_2).toNat * 4)).off + 3,none⟩ = some (.string ((rd_T40 l1 x11_2).f3)) ∧ w'.cell? (ad182.add ((x11_2).toNat * 4)) = some (.int .i64 ((rd_T40 l1 x11_2).f0)) ∧ w'.cell? ⟨(ad182.add ((x11_2).toNat * 4)).block,(ad182.add ((x11_2).toNat * 4)).off + 1,none⟩ = some (.int .u64 ((rd_T40 l1 x11_2).f1)) ∧ w'.cell? ⟨(ad182.add ((x11_2).toNat * 4)).block,(ad182.add ((x11_2).toNat * 4)).off + 2,none⟩ = some (.string ((rd_T40 l1 x11_2).f2)) ∧ w'.cell? ⟨(ad182.add ((x11_2).toNat * 4)).block,(ad182.add ((x11_2).toNat * 4)).off + 3,none⟩ = some (.string ((rd_T40 l1 x11_2).f3)) ∧ w'.cell? (ad182.add ((x11_2).toNat * 4)) = some (.int .i64 ((rd_T40 l1 x11_2).f0)) ∧ w'.cell? ⟨(ad182.add ((x11_2).toNat * 4)).block,(ad182.add ((x11_2).toNat * 4)).off + 1,none⟩ = some (.int .u64 ((rd_T40 l1 x11_2).f1)) ∧ w'.cell? ⟨(ad182.add ((x11_2).toNat * 4)).block,(ad182.add ((x11_2).toNat * 4)).off + 2,none⟩ = some (.string ((rd_T40 l1 x11_2).f2)) ∧ w'.cell? ⟨(ad182.add ((x11_2).toNat * 4)).block,(ad182.add ((x11_2).toNat * 4)).off + 3,none⟩ = some (.string ((rd_T40 l1 x11_2).f3))) (ds:=[]) #[F_,F_,F_,F_,F_,F_,F_,F_,F_,F_,F_,F_,F_,F_,F_,F_,F_,F_,F_,F_,F_,F_,F_,F_,F_,F_,F_,F_] (by kernel_rfl) rfl rfl ⟨(kc_ BK181.out 0).trans rfl,(kc_ BK181.out 1).trans rfl,(kc_ BK181.out 2).trans rfl,(up_ HB.out hw193_0),(up_ HB.out hw193_1),(up_ HB.out hw193_2),(up_ HB.out hw193_3),(up_ HB.out hw194_0),(up_ HB.out hw194_1),(up_ HB.out hw194_2),(up_ HB.out hw194_3),(up_ HB.out hw195_0),(up_ HB.out hw195_1),(up_ HB.out hw195_2),(up_ HB.out hw195_3),(up_ HB.out hw196_0),(up_ HB.out hw196_1),(up_ HB.out hw196_2),(up_ HB.out hw196_3)⟩ (fun hHeld => ?_);refine with_tabW dominolaw10_IdealSeals.tab9 dominolaw10_IdealSeals.bits9 (fun HT_ HW_ => ?_)
        generalize w40.drew = w41 at HO_176002 HO_182002 HO190 BK175 BK181 BK192 HB hx193_0 hx193_1 hx193_2 hx193_3 hx194_0 hx194_1 hx194_2 hx194_3 hx195_0 hx195_1 hx195_2 hx195_3 hx196_0 hx196_1 hx196_2 hx196_3 hHeld ⊢
        refine pure_ (i:=1) (N:=some 78) (v:=?_) (a':=?_) #[F_,T_,F_,F_,F_,F_,F_,F_,F_,F_,F_,F_,F_,F_,F_,F_,F_,F_,F_,F_,F_,F_,F_,F_,F_,F_,F_,F_] rfl rfl (any_of HT_.out (by kernel_rfl)) (fun _ _ _ h => h) (Or.inl ⟨by rfl,?_⟩) ?_ ?_
        rotate_left;(intro w';go_simp;with_reducible rfl);rotate_left;(simp only [Act.put,ps_,i64_w,i32_w];rfl)
        refine pure_ (i:=2) (N:=some 79) (v:=?_) (a':=?_) #[F_,T_,T_,F_,F_,F_,F_,F_,F_,F_,F_,F_,F_,F_,F_,F_,F_,F_,F_,F_,F_,F_,F_,F_,F_,F_,F_,F_] rfl rfl (any_of HT_.out (by kernel_rfl)) (fun _ _ _ h => h) (Or.inl ⟨by rfl,?_⟩) ?_ ?_
        rotate_left;(intro w';go_simp;with_reducible rfl);rotate_left;(simp only [Act.put,ps_,i64_w,i32_w];rfl)
        refine pure_ (i:=3) (N:=some 80) (v:=?_) (a':=?_) #[F_,T_,T_,T_,F_,F_,F_,F_,F_,F_,F_,F_,F_,F_,F_,F_,F_,F_,F_,F_,F_,F_,F_,F_,F_,F_,F_,F_] rfl rfl (any_of HT_.out (by kernel_rfl)) (fun _ _ _ h => h) (Or.inl ⟨by rfl,?_⟩) ?_ ?_
        rotate_left;(intro w';go_simp;with_reducible rfl);rotate_left;(simp only [Act.put,ps_,i64_w,i32_w];rfl)
        refine pure_ (i:=4) (N:=some 81) (v:=?_) (a':=?_) #[F_,T_,T_,T_,T_,F_,F_,F_,F_,F_,F_,F_,F_,F_,F_,F_,F_,F_,F_,F_,F_,F_,F_,F_,F_,F_,F_,F_] rfl rfl (any_of HT_.out (by kernel_rfl)) (fun _ _ _ h => h) (Or.inl ⟨by rfl,?_⟩) ?_ ?_
        rotate_left;(intro w';go_simp;with_reducible rfl);rotate_left;(simp only [Act.put,ps_,i64_w,i32_w];rfl)
        refine pure_ (i:=6) (N:=some 83) (v:=?_) (a':=?_) #[F_,T_,T_,T_,T_,F_,T_,F_,F_,F_,F_,F_,F_,F_,F_,F_,F_,F_,F_,F_,F_,F_,F_,F_,F_,F_,F_,F_] rfl rfl (any_of HT_.out (by kernel_rfl)) (fun _ _ _ h => h) (Or.inl ⟨by rfl,?_⟩) ?_ ?_
        rotate_left;(intro w';go_simp;with_reducible rfl);rotate_left;(simp only [Act.put,ps_,i64_w,i32_w];rfl)
        refine pure_ (i:=7) (N:=some 84) (v:=?_) (a':=?_) #[F_,T_,T_,T_,T_,F_,T_,T_,F_,F_,F_,F_,F_,F_,F_,F_,F_,F_,F_,F_,F_,F_,F_,F_,F_,F_,F_,F_] rfl rfl (any_of HT_.out (by kernel_rfl)) (fun _ _ _ h => h) (Or.inl ⟨by rfl,?_⟩) ?_ ?_
        rotate_left;(intro w';go_simp;with_reducible rfl);rotate_left;(simp only [Act.put,ps_,i64_w,i32_w];rfl)
        refine pure_ (i:=8) (N:=some 85) (v:=?_) (a':=?_) #[F_,T_,T_,T_,T_,F_,T_,T_,T_,F_,F_,F_,F_,F_,F_,F_,F_,F_,F_,F_,F_,F_,F_,F_,F_,F_,F_,F_] rfl rfl (any_of HT_.out (by kernel_rfl)) (fun _ _ _ h => h) (Or.inl ⟨by rfl,?_⟩) ?_ ?_
        rotate_left;(intro w';go_simp;with_reducible rfl);rotate_left;(simp only [Act.put,ps_,i64_w,i32_w];rfl)
        refine pure_ (i:=9) (N:=some 86) (v:=?_) (a':=?_) #[F_,T_,T_,T_,T_,F_,T_,T_,T_,T_,F_,F_,F_,F_,F_,F_,F_,F_,F_,F_,F_,F_,F_,F_,F_,F_,F_,F_] rfl rfl (any_of HT_.out (by kernel_rfl)) (fun _ _ _ h => h) (Or.inl ⟨by rfl,?_⟩) ?_ ?_
        rotate_left;(intro w';go_simp;with_reducible rfl);rotate_left;(simp only [Act.put,ps_,i64_w,i32_w];rfl)
        refine pure_ (i:=11) (N:=some 88) (v:=?_) (a':=?_) #[F_,T_,T_,T_,T_,F_,T_,T_,T_,T_,F_,T_,F_,F_,F_,F_,F_,F_,F_,F_,F_,F_,F_,F_,F_,F_,F_,F_] rfl rfl (any_of HT_.out (by kernel_rfl)) (fun _ _ _ h => h) (Or.inl ⟨by rfl,?_⟩) ?_ ?_
        rotate_left;(intro w';go_simp;with_reducible rfl);rotate_left;(simp only [Act.put,ps_,i64_w,i32_w];rfl)
        refine pure_ (i:=12) (N:=some 89) (v:=?_) (a':=?_) #[F_,T_,T_,T_,T_,F_,T_,T_,T_,T_,F_,T_,T_,F_,F_,F_,F_,F_,F_,F_,F_,F_,F_,F_,F_,F_,F_,F_] rfl rfl (any_of HT_.out (by kernel_rfl)) (fun _ _ _ h => h) (Or.inl ⟨by rfl,?_⟩) ?_ ?_
        rotate_left;(intro w';go_simp;with_reducible rfl);rotate_left;(simp only [Act.put,ps_,i64_w,i32_w];rfl)
        refine pure_ (i:=13) (N:=some 90) (v:=?_) (a':=?_) #[F_,T_,T_,T_,T_,F_,T_,T_,T_,T_,F_,T_,T_,T_,F_,F_,F_,F_,F_,F_,F_,F_,F_,F_,F_,F_,F_,F_] rfl rfl (any_of HT_.out (by kernel_rfl)) (fun _ _ _ h => h) (Or.inl ⟨by rfl,?_⟩) ?_ ?_
        rotate_left;(intro w';go_simp;with_reducible rfl);rotate_left;(simp only [Act.put,ps_,i64_w,i32_w];rfl)
        refine pure_ (i:=14) (N:=some 91) (v:=?_) (a':=?_) #[F_,T_,T_,T_,T_,F_,T_,T_,T_,T_,F_,T_,T_,T_,T_,F_,F_,F_,F_,F_,F_,F_,F_,F_,F_,F_,F_,F_] rfl rfl (any_of HT_.out (by kernel_rfl)) (fun _ _ _ h => h) (Or.inl ⟨by rfl,?_⟩) ?_ ?_
        rotate_left;(intro w';go_simp;with_reducible rfl);rotate_left;(simp only [Act.put,ps_,i64_w,i32_w];rfl)
        refine pure_ (i:=16) (N:=some 93) (v:=?_) (a':=?_) #[F_,T_,T_,T_,T_,F_,T_,T_,T_,T_,F_,T_,T_,T_,T_,F_,T_,F_,F_,F_,F_,F_,F_,F_,F_,F_,F_,F_] rfl rfl (any_of HT_.out (by kernel_rfl)) (fun _ _ _ h => h) (Or.inl ⟨by rfl,?_⟩) ?_ ?_
        rotate_left;(intro w';go_simp;with_reducible rfl);rotate_left;(simp only [Act.put,ps_,i64_w,i32_w];rfl)
        refine pure_ (i:=17) (N:=some 94) (v:=?_) (a':=?_) #[F_,T_,T_,T_,T_,F_,T_,T_,T_,T_,F_,T_,T_,T_,T_,F_,T_,T_,F_,F_,F_,F_,F_,F_,F_,F_,F_,F_] rfl rfl (any_of HT_.out (by kernel_rfl)) (fun _ _ _ h => h) (Or.inl ⟨by rfl,?_⟩) ?_ ?_
        rotate_left;(intro w';go_simp;with_reducible rfl);rotate_left;(simp only [Act.put,ps_,i64_w,i32_w];rfl)
        refine pure_ (i:=18) (N:=some 95) (v:=?_) (a':=?_) #[F_,T_,T_,T_,T_,F_,T_,T_,T_,T_,F_,T_,T_,T_,T_,F_,T_,T_,T_,F_,F_,F_,F_,F_,F_,F_,F_,F_] rfl rfl (any_of HT_.out (by kernel_rfl)) (fun _ _ _ h => h) (Or.inl ⟨by rfl,?_⟩) ?_ ?_
        rotate_left;(intro w';go_simp;with_reducible rfl);rotate_left;(simp only [Act.put,ps_,i64_w,i32_w];rfl)
        refine pure_ (i:=19) (N:=some 96) (v:=?_) (a':=?_) #[F_,T_,T_,T_,T_,F_,T_,T_,T_,T_,F_,T_,T_,T_,T_,F_,T_,T_,T_,T_,F_,F_,F_,F_,F_,F_,F_,F_] rfl rfl (any_of HT_.out (by kernel_rfl)) (fun _ _ _ h => h) (Or.inl ⟨by rfl,?_⟩) ?_ ?_
        rotate_left;(intro w';go_simp;with_reducible rfl);rotate_left;(simp only [Act.put,ps_,i64_w,i32_w];rfl)
        refine take_ (i:=0) (N:=some 77) (v:=?_) (a':=?_) #[T_,T_,T_,T_,T_,F_,T_,T_,T_,T_,F_,T_,T_,T_,T_,F_,T_,T_,T_,T_,F_,F_,F_,F_,F_,F_,F_,F_] rfl rfl (take_ofW HT_.out HW_.out (by kernel_rfl)) (fun _ _ _ h => h) (Or.inl ⟨by rfl,?_⟩) hHeld ?_ ?_
        rotate_left
        ·rintro w' ⟨s0,s1,s2,s3,s4,s5,s6,s7,s8,s9,s10,s11,s12,s13,s14,s15,s16,s17,s18⟩
         go_simp
         with_reducible rfl
        rotate_left
        ·simp only [Act.put,ps_,i64_w,i32_w]
         rfl
        refine take_ (i:=5) (N:=some 82) (v:=?_) (a':=?_) #[T_,T_,T_,T_,T_,T_,T_,T_,T_,T_,F_,T_,T_,T_,T_,F_,T_,T_,T_,T_,F_,F_,F_,F_,F_,F_,F_,F_] rfl rfl (take_ofW HT_.out HW_.out (by kernel_rfl)) (fun _ _ _ h => h) (Or.inl ⟨by rfl,?_⟩) hHeld ?_ ?_
        rotate_left
        ·rintro w' ⟨s0,s1,s2,s3,s4,s5,s6,s7,s8,s9,s10,s11,s12,s13,s14,s15,s16,s17,s18⟩
         go_simp
         with_reducible rfl
        rotate_left
        ·simp only [Act.put,ps_,i64_w,i32_w]
         rfl
        refine take_ (i:=10) (N:=some 87) (v:=?_) (a':=?_) #[T_,T_,T_,T_,T_,T_,T_,T_,T_,T_,T_,T_,T_,T_,T_,F_,T_,T_,T_,T_,F_,F_,F_,F_,F_,F_,F_,F_] rfl rfl (take_ofW HT_.out HW_.out (by kernel_rfl)) (fun _ _ _ h => h) (Or.inl ⟨by rfl,?_⟩) hHeld ?_ ?_
        rotate_left
        ·rintro w' ⟨s0,s1,s2,s3,s4,s5,s6,s7,s8,s9,s10,s11,s12,s13,s14,s15,s16,s17,s18⟩
         go_simp
         with_reducible rfl
        rotate_left
        ·simp only [Act.put,ps_,i64_w,i32_w]
         rfl
        refine take_ (i:=15) (N:=some 92) (v:=?_) (a':=?_) #[T_,T_,T_,T_,T_,T_,T_,T_,T_,T_,T_,T_,T_,T_,T_,T_,T_,T_,T_,T_,F_,F_,F_,F_,F_,F_,F_,F_] rfl rfl (take_ofW HT_.out HW_.out (by kernel_rfl)) (fun _ _ _ h => h) (Or.inl ⟨by rfl,?_⟩) hHeld ?_ ?_
        rotate_left
        ·rintro w' ⟨s0,s1,s2,s3,s4,s5,s6,s7,s8,s9,s10,s11,s12,s13,s14,s15,s16,s17,s18⟩
         go_simp
         with_reducible rfl
        rotate_left
        ·simp only [Act.put,ps_,i64_w,i32_w]
         rfl
        refine take_ (i:=20) (N:=some 97) (v:=?_) (a':=?_) #[T_,T_,T_,T_,T_,T_,T_,T_,T_,T_,T_,T_,T_,T_,T_,T_,T_,T_,T_,T_,T_,F_,F_,F_,F_,F_,F_,F_] rfl rfl (take_ofW HT_.out HW_.out (by kernel_rfl)) (fun _ _ _ h => h) (Or.inl ⟨by rfl,?_⟩) hHeld ?_ ?_
        rotate_left
        ·rintro w' ⟨s0,s1,s2,s3,s4,s5,s6,s7,s8,s9,s10,s11,s12,s13,s14,s15,s16,s17,s18⟩
         go_simp
         with_reducible rfl
        rotate_left
        ·simp only [Act.put,ps_,i64_w,i32_w]
         rfl
        refine join_ (σ:=Value × Nat) 2 #[T_,T_,T_,T_,T_,T_,T_,T_,T_,T_,T_,T_,T_,T_,T_,T_,T_,T_,T_,T_,T_,T_,T_,T_,T_,T_,F_,F_] (fun s_ => [(98,.tuple #[.agg #[.int .u64 t197,.int .u64 t198,s_.1],.string t202]),(14,.pointer (some ⟨s_.2,0,none⟩)),(76,.tuple #[.agg #[.int .u64 t197,.int .u64 t198,s_.1],.string t202]),(99,.agg #[.int .u64 t197,.int .u64 t198,s_.1]),(100,.string t202)]) (fun s_ w' => (w'.cell? ⟨gb181,0,none⟩ = some (.int .u64 x182000_2) ∧ w'.cell? ⟨gb181,1,none⟩ = some (.int .u64 x182001_2) ∧ w'.cell? ⟨gb181,2,none⟩ = some (.slice Ao39 x182002_2.length co39) ∧ w'.cell? (ad182.add ((x11_2).toNat * 4)) = some (.int .i64 ((rd_T40 l1 x11_2).f0)) ∧ w'.cell? ⟨(ad182.add ((x11_2).toNat * 4)).block,(ad182.add ((x11_2).toNat * 4)).off + 1,none⟩ = some (.int .u64 ((rd_T40 l1 x11_2).f1)) ∧ w'.cell? ⟨(ad182.add ((x11_2).toNat * 4)).block,(ad182.add ((x11_2).toNat * 4)).off + 2,none⟩ = some (.string ((rd_T40 l1 x11_2).f2)) ∧ w'.cell? ⟨(ad182.add ((x11_2).toNat * 4)).block,(ad182.add ((x11_2).toNat * 4)).off + 3,none⟩ = some (.string ((rd_T40 l1 x11_2).f3)) ∧ w'.cell? (ad182.add ((x11_2).toNat * 4)) = some (.int .i64 ((rd_T40 l1 x11_2).f0)) ∧ w'.cell? ⟨(ad182.add ((x11_2).toNat * 4)).block,(ad182.add ((x11_2).toNat * 4)).off + 1,none⟩ = some (.int .u64 ((rd_T40 l1 x11_2).f1)) ∧ w'.cell? ⟨(ad182.add ((x11_2).toNat * 4)).block,(ad182.add ((x11_2).toNat * 4)).off + 2,none⟩ = some (.string ((rd_T40 l1 x11_2).f2)) ∧ w'.cell? ⟨(ad182.add ((x11_2).toNat * 4)).block,(ad182.add ((x11_2).toNat * 4)).off + 3,none⟩ = some (.string ((rd_T40 l1 x11_2).f3)) ∧ w'.cell? (ad182.add ((x11_2).toNat * 4)) = some (.int .i64 ((rd_T40 l1 x11_2).f0)) ∧ w'.cell? ⟨(ad182.add ((x11_2).toNat * 4)).block,(ad182.add ((x11_2).toNat * 4)).off + 1,none⟩ = some (.int .u64 ((rd_T40 l1 x11_2).f1)) ∧ w'.cell? ⟨(ad182.add ((x11_2).toNat * 4)).block,(ad182.add ((x11_2).toNat * 4)).off + 2,none⟩ = some (.string ((rd_T40 l1 x11_2).f2)) ∧ w'.cell? ⟨(ad182.add ((x11_2).toNat * 4)).block,(ad182.add ((x11_2).toNat * 4)).off + 3,none⟩ = some (.string ((rd_T40 l1 x11_2).f3)) ∧ w'.cell? (ad182.add ((x11_2).toNat * 4)) = some (.int .i64 ((rd_T40 l1 x11_2).f0)) ∧ w'.cell? ⟨(ad182.add ((x11_2).toNat * 4)).block,(ad182.add ((x11_2).toNat * 4)).off + 1,none⟩ = some (.int .u64 ((rd_T40 l1 x11_2).f1)) ∧ w'.cell? ⟨(ad182.add ((x11_2).toNat * 4)).block,(ad182.add ((x11_2).toNat * 4)).off + 2,none⟩ = some (.string ((rd_T40 l1 x11_2).f2)) ∧ w'.cell? ⟨(ad182.add ((x11_2).toNat * 4)).block,(ad182.add ((x11_2).toNat * 4)).off + 3,none⟩ = some (.string ((rd_T40 l1 x11_2).f3))) ∧ (Kd.R k73 73 w' w.heap.size (fun k_ => some k_ ≠ (.slice Ao30 x176002_2.length co30 : Value).ownBlock) (.slice Ao37 t188.length co37) t188) ∧ (Kd.R k74 74 w' w.heap.size (fun k_ => some k_ ≠ (.slice Ao39 x182002_2.length co39 : Value).ownBlock) s_.1 t199) ∧ (Kd.R k73 73 w' w.heap.size (fun k_ => some k_ ≠ (.slice Ao37 t188.length co37 : Value).ownBlock) (.slice Ao30 x176002_2.length co30) x176002_2) ∧ (Kd.R k74 74 w' w.heap.size (fun k_ => some k_ ≠ (s_.1 : Value).ownBlock) (.slice Ao39 x182002_2.length co39) x182002_2) ∧ (w'.heap[gb175]? = some (.cells #[.int .u64 x176000_2,.int .u64 x176001_2,.slice Ao30 x176002_2.length co30] 31 (0,0))) ∧ (w'.heap[gb181]? = some (.cells #[.int .u64 x182000_2,.int .u64 x182001_2,.slice Ao39 x182002_2.length co39] 35 (0,0))) ∧ (w'.heap[gb192]? = some (.cells #[.int .u64 t186,.int .u64 t187,.slice Ao37 t188.length co37] 31 (0,0))) ∧ (w'.heap[s_.2]? = some (.cells #[.int .u64 0,.int .u64 0,.slice none 0 0] 35 (0,0))) ∧ (w.heap.size ≤ s_.2) ∧ (w.heap.size ≤ s_.2) ∧ (gb175 ≠ s_.2) ∧ (s_.2 ≠ gb175) ∧ (gb181 ≠ s_.2) ∧ (s_.2 ≠ gb181) ∧ (gb192 ≠ s_.2) ∧ (s_.2 ≠ gb192) ∧ (Below w.heap.size w w')) ?_ ?_
        rotate_left
        ·intro hCont
         refine two_ (i:=21) (j:=25) (Ni:=some 98) (Nj:=some 14) #[T_,T_,T_,T_,T_,T_,T_,T_,T_,T_,T_,T_,T_,T_,T_,T_,T_,T_,T_,T_,T_,T_,F_,F_,F_,F_,F_,F_] #[T_,T_,T_,T_,T_,T_,T_,T_,T_,T_,T_,T_,T_,T_,T_,T_,T_,T_,T_,T_,T_,F_,F_,F_,F_,T_,F_,F_] rfl rfl rfl rfl (two_of HT_.out (by kernel_rfl)) (by decide) (by decide) (fun K hK => ?_) (fun K hK => ?_)
         ·skip
          refine goes_ Try.func18 (by kernel_rfl) rfl #[.agg #[.int .u64 x182000_2,.int .u64 x182001_2,.slice Ao39 x182002_2.length co39],.int .i64 ((rd_T40 l1 x11_2).f0),.int .u64 ((rd_T40 l1 x11_2).f1),.string ((rd_T40 l1 x11_2).f2),.string ((rd_T40 l1 x11_2).f3)] (by rfl) rfl rfl (by (try simp only [List.map_toArray,List.map_cons,List.map_nil]);first|done|rfl|(simp only [List.length_drop,List.length_take];rfl)) ?_
          with_reducible refine (dominoref10_Seal.calls k2 x182000_2 x182001_2 _ _ x182002_2 ((rd_T40 l1 x11_2).f0) ((rd_T40 l1 x11_2).f1) ((rd_T40 l1 x11_2).f2) ((rd_T40 l1 x11_2).f3) t197 t198 t199 t202 _ ?side1 ?side2 A28.out).mono ?_
          (case side1 => repeat (first|exact (Kd.R_reads' HO_182002.out).2.2|(with_reducible refine Kd.C_alloc ?_ _)|(with_reducible refine Kd.C_drewN ?_ _)|(with_reducible refine Kd.C_drew ?_)))
          (case side2 => exact (Kd.R_reads' HO_182002.out).2.1)
          rintro e w42 ⟨v200,rfl,ho0,hb⟩
          refine ⟨_,rfl,?_⟩
          have n0_:=am_ (Kd.R_below (by (with_reducible repeat (first|apply ra_|apply rn_|apply rd_));exact HO_176002.out) hb)
          have n1_:=am_ (Kd.R_elder' (by (with_reducible repeat (first|apply ra_|apply rn_|apply rd_));exact HO_182002.out) (Kd.R_base ho0) hb)
          have n2_:=am_ (Kd.R_below (by (with_reducible repeat (first|apply ra_|apply rn_|apply rd_));exact HO190.out) hb)
          have n3_:=am_ (Kd.R_lower (Kd.R_new' ho0 (Kd.R_lt (by (with_reducible repeat (first|apply ra_|apply rn_|apply rd_));exact HO_182002.out))) (below_size (by repeat (first|(with_reducible first|exact HB.out|apply ba_|apply pn_|apply pd_|refine bs_ ?_ GE175.out|refine bs_ ?_ GE181.out|refine bs_ ?_ GE192.out)|exact HB.out))))
          have n4_:=am_ (blk_below (g:=gb175) (o:=.cells #[.int .u64 x176000_2,.int .u64 x176001_2,.slice Ao30 x176002_2.length co30] 31 (0,0)) (by (with_reducible repeat (first|refine kn_ ?_ _|refine kd_ ?_|refine ka_ ?_ _));exact BK175.out) hb)
          have n5_:=am_ (blk_below (g:=gb181) (o:=.cells #[.int .u64 x182000_2,.int .u64 x182001_2,.slice Ao39 x182002_2.length co39] 35 (0,0)) (by (with_reducible repeat (first|refine kn_ ?_ _|refine kd_ ?_|refine ka_ ?_ _));exact BK181.out) hb)
          have n6_:=am_ (blk_below (g:=gb192) (o:=.cells #[.int .u64 t186,.int .u64 t187,.slice Ao37 t188.length co37] 31 (0,0)) (by (with_reducible repeat (first|refine kn_ ?_ _|refine kd_ ?_|refine ka_ ?_ _));exact BK192.out) hb)
          have n7_:=am_ (below_step (by repeat (first|(with_reducible first|exact HB.out|apply ba_|apply pn_|apply pd_|refine bs_ ?_ GE175.out|refine bs_ ?_ GE181.out|refine bs_ ?_ GE192.out)|exact HB.out)) hb)
          clear HO_176002
          clear HO_182002
          clear HO190
          clear BK175
          clear BK181
          clear BK192
          clear HB
          have HO_176002:=n0_
          have HO_182002:=n1_
          have HO190:=n2_
          have HO201:=n3_
          have BK175:=n4_
          have BK181:=n5_
          have BK192:=n6_
          have HB:=n7_
          clear n0_ n1_ n2_ n3_ n4_ n5_ n6_ n7_
          (try clear hb)
          (try clear hb2)
          (try clear hk)
          (try clear hi)
          (try clear ho0)
          refine hK.out _ _ ⟨(kc_ BK181.out 0).trans rfl,(kc_ BK181.out 1).trans rfl,(kc_ BK181.out 2).trans rfl,(up_ HB.out hw193_0),(up_ HB.out hw193_1),(up_ HB.out hw193_2),(up_ HB.out hw193_3),(up_ HB.out hw194_0),(up_ HB.out hw194_1),(up_ HB.out hw194_2),(up_ HB.out hw194_3),(up_ HB.out hw195_0),(up_ HB.out hw195_1),(up_ HB.out hw195_2),(up_ HB.out hw195_3),(up_ HB.out hw196_0),(up_ HB.out hw196_1),(up_ HB.out hw196_2),(up_ HB.out hw196_3)⟩ (fun hHeld => ?_)
          clear hK K
          refine norm_ (a':=?_) ?_ ?_
          rotate_left
          ·show Act.put _ (some 98) _ = _
           simp only [Act.put,ps_,i64_w,i32_w]
           rfl
          refine pure_ (i:=22) (N:=some 76) (v:=?_) (a':=?_) #[T_,T_,T_,T_,T_,T_,T_,T_,T_,T_,T_,T_,T_,T_,T_,T_,T_,T_,T_,T_,T_,T_,T_,F_,F_,F_,F_,F_] rfl rfl (any_of HT_.out (by kernel_rfl)) (fun _ _ _ h => h) (Or.inl ⟨by rfl,?_⟩) ?_ ?_
          rotate_left;(intro w';go_simp;with_reducible rfl);rotate_left;(simp only [Act.put,ps_,i64_w,i32_w];rfl)
          refine pure_ (i:=23) (N:=some 99) (v:=?_) (a':=?_) #[T_,T_,T_,T_,T_,T_,T_,T_,T_,T_,T_,T_,T_,T_,T_,T_,T_,T_,T_,T_,T_,T_,T_,T_,F_,F_,F_,F_] rfl rfl (any_of HT_.out (by kernel_rfl)) (fun _ _ _ h => h) (Or.inl ⟨by rfl,?_⟩) ?_ ?_
          rotate_left;(intro w';go_simp;with_reducible rfl);rotate_left;(simp only [Act.put,ps_,i64_w,i32_w];rfl)
          refine pure_ (i:=24) (N:=some 100) (v:=?_) (a':=?_) #[T_,T_,T_,T_,T_,T_,T_,T_,T_,T_,T_,T_,T_,T_,T_,T_,T_,T_,T_,T_,T_,T_,T_,T_,T_,F_,F_,F_] rfl rfl (any_of HT_.out (by kernel_rfl)) (fun _ _ _ h => h) (Or.inl ⟨by rfl,?_⟩) ?_ ?_
          rotate_left;(intro w';go_simp;with_reducible rfl);rotate_left;(simp only [Act.put,ps_,i64_w,i32_w];rfl)
          refine one_ (i:=25) (N:=some 14) #[T_,T_,T_,T_,T_,T_,T_,T_,T_,T_,T_,T_,T_,T_,T_,T_,T_,T_,T_,T_,T_,T_,T_,T_,T_,T_,F_,F_] rfl rfl (one_of HT_.out (by kernel_rfl)) (by decide) (fun K hK => ?_)
          refine box_step ?hg (N:=14) ?hd (cs:=#[.int .u64 0,.int .u64 0,.slice none 0 0]) (t:=35) ?hr ?_;(case hd => rfl);(case hg => rfl);(case hr => first|(go_simp;done)|(go_simp;rfl))
          intro gb203 hg w43 hbox hb
          have n0_:=am_ (Kd.R_below (by (with_reducible repeat (first|apply ra_|apply rn_|apply rd_));exact HO_176002.out) hb)
          have n1_:=am_ (Kd.R_below (by (with_reducible repeat (first|apply ra_|apply rn_|apply rd_));exact HO_182002.out) hb)
          have n2_:=am_ (Kd.R_below (by (with_reducible repeat (first|apply ra_|apply rn_|apply rd_));exact HO190.out) hb)
          have n3_:=am_ (Kd.R_below (by (with_reducible repeat (first|apply ra_|apply rn_|apply rd_));exact HO201.out) hb)
          have n4_:=am_ (blk_below (g:=gb175) (o:=.cells #[.int .u64 x176000_2,.int .u64 x176001_2,.slice Ao30 x176002_2.length co30] 31 (0,0)) (by (with_reducible repeat (first|refine kn_ ?_ _|refine kd_ ?_|refine ka_ ?_ _));exact BK175.out) hb)
          have n5_:=am_ (blk_below (g:=gb181) (o:=.cells #[.int .u64 x182000_2,.int .u64 x182001_2,.slice Ao39 x182002_2.length co39] 35 (0,0)) (by (with_reducible repeat (first|refine kn_ ?_ _|refine kd_ ?_|refine ka_ ?_ _));exact BK181.out) hb)
          have n6_:=am_ (blk_below (g:=gb192) (o:=.cells #[.int .u64 t186,.int .u64 t187,.slice Ao37 t188.length co37] 31 (0,0)) (by (with_reducible repeat (first|refine kn_ ?_ _|refine kd_ ?_|refine ka_ ?_ _));exact BK192.out) hb)
          have n7_:=am_ (below_step (by repeat (first|(with_reducible first|exact HB.out|apply ba_|apply pn_|apply pd_|refine bs_ ?_ GE175.out|refine bs_ ?_ GE181.out|refine bs_ ?_ GE192.out)|exact HB.out)) hb)
          have n8_:=am_ (hbox)
          have n9_:=am_ ((by rw [hg];exact (below_size (by repeat (first|(with_reducible first|exact HB.out|apply ba_|apply pn_|apply pd_|refine bs_ ?_ GE175.out|refine bs_ ?_ GE181.out|refine bs_ ?_ GE192.out)|exact HB.out))) : w.heap.size ≤ gb203))
          have n10_:=am_ ((by rw [hg];exact (below_size (by repeat (first|(with_reducible first|exact HB.out|apply ba_|apply pn_|apply pd_|refine bs_ ?_ GE175.out|refine bs_ ?_ GE181.out|refine bs_ ?_ GE192.out)|exact HB.out))) : w.heap.size ≤ gb203))
          have n11_:=am_ ((by rw [hg];exact Nat.ne_of_lt (blk_lt (g:=gb175) (o:=.cells #[.int .u64 x176000_2,.int .u64 x176001_2,.slice Ao30 x176002_2.length co30] 31 (0,0)) (by (with_reducible repeat (first|refine kn_ ?_ _|refine kd_ ?_|refine ka_ ?_ _));exact BK175.out)) : gb175 ≠ gb203))
          have n12_:=am_ ((by rw [hg];exact Nat.ne_of_gt (blk_lt (g:=gb175) (o:=.cells #[.int .u64 x176000_2,.int .u64 x176001_2,.slice Ao30 x176002_2.length co30] 31 (0,0)) (by (with_reducible repeat (first|refine kn_ ?_ _|refine kd_ ?_|refine ka_ ?_ _));exact BK175.out)) : gb203 ≠ gb175))
          have n13_:=am_ ((by rw [hg];exact Nat.ne_of_lt (blk_lt (g:=gb181) (o:=.cells #[.int .u64 x182000_2,.int .u64 x182001_2,.slice Ao39 x182002_2.length co39] 35 (0,0)) (by (with_reducible repeat (first|refine kn_ ?_ _|refine kd_ ?_|refine ka_ ?_ _));exact BK181.out)) : gb181 ≠ gb203))
          have n14_:=am_ ((by rw [hg];exact Nat.ne_of_gt (blk_lt (g:=gb181) (o:=.cells #[.int .u64 x182000_2,.int .u64 x182001_2,.slice Ao39 x182002_2.length co39] 35 (0,0)) (by (with_reducible repeat (first|refine kn_ ?_ _|refine kd_ ?_|refine ka_ ?_ _));exact BK181.out)) : gb203 ≠ gb181))
          have n15_:=am_ ((by rw [hg];exact Nat.ne_of_lt (blk_lt (g:=gb192) (o:=.cells #[.int .u64 t186,.int .u64 t187,.slice Ao37 t188.length co37] 31 (0,0)) (by (with_reducible repeat (first|refine kn_ ?_ _|refine kd_ ?_|refine ka_ ?_ _));exact BK192.out)) : gb192 ≠ gb203))
          have n16_:=am_ ((by rw [hg];exact Nat.ne_of_gt (blk_lt (g:=gb192) (o:=.cells #[.int .u64 t186,.int .u64 t187,.slice Ao37 t188.length co37] 31 (0,0)) (by (with_reducible repeat (first|refine kn_ ?_ _|refine kd_ ?_|refine ka_ ?_ _));exact BK192.out)) : gb203 ≠ gb192))
          clear HO_176002
          clear HO_182002
          clear HO190
          clear HO201
          clear BK175
          clear BK181
          clear BK192
          clear HB
          have HO_176002:=n0_
          have HO_182002:=n1_
          have HO190:=n2_
          have HO201:=n3_
          have BK175:=n4_
          have BK181:=n5_
          have BK192:=n6_
          have HB:=n7_
          have BK203:=n8_
          have GW203:=n9_
          have GE203:=n10_
          have NB175_203:=n11_
          have NB203_175:=n12_
          have NB181_203:=n13_
          have NB203_181:=n14_
          have NB192_203:=n15_
          have NB203_192:=n16_
          clear n0_ n1_ n2_ n3_ n4_ n5_ n6_ n7_ n8_ n9_ n10_ n11_ n12_ n13_ n14_ n15_ n16_
          clear hb hbox hg
          refine hK.out _ _ ⟨(kc_ BK181.out 0).trans rfl,(kc_ BK181.out 1).trans rfl,(kc_ BK181.out 2).trans rfl,(up_ HB.out hw193_0),(up_ HB.out hw193_1),(up_ HB.out hw193_2),(up_ HB.out hw193_3),(up_ HB.out hw194_0),(up_ HB.out hw194_1),(up_ HB.out hw194_2),(up_ HB.out hw194_3),(up_ HB.out hw195_0),(up_ HB.out hw195_1),(up_ HB.out hw195_2),(up_ HB.out hw195_3),(up_ HB.out hw196_0),(up_ HB.out hw196_1),(up_ HB.out hw196_2),(up_ HB.out hw196_3)⟩ (fun hHeld => ?_)
          clear hK K
          refine norm_ (a':=?_) ?_ ?_
          rotate_left
          ·show Act.put _ (some 14) _ = _
           simp only [Act.put,ps_,i64_w,i32_w]
           rfl
          exact norm_ (by simp only [putAll,Act.put,ps_]) (hCont (v200,gb203) _ ⟨hHeld,(by (with_reducible repeat (first|apply ra_|apply rn_|apply rd_));exact HO190.out),(by (with_reducible repeat (first|apply ra_|apply rn_|apply rd_));exact Kd.R_mono HO201.out (fun _ hk => hk.2)),(by (with_reducible repeat (first|apply ra_|apply rn_|apply rd_));exact HO_176002.out),(by (with_reducible repeat (first|apply ra_|apply rn_|apply rd_));exact Kd.R_mono HO_182002.out (fun _ hk => hk.2)),(by (with_reducible repeat (first|refine kn_ ?_ _|refine kd_ ?_|refine ka_ ?_ _));exact BK175.out),(by (with_reducible repeat (first|refine kn_ ?_ _|refine kd_ ?_|refine ka_ ?_ _));exact BK181.out),(by (with_reducible repeat (first|refine kn_ ?_ _|refine kd_ ?_|refine ka_ ?_ _));exact BK192.out),(by (with_reducible repeat (first|refine kn_ ?_ _|refine kd_ ?_|refine ka_ ?_ _));exact BK203.out),GW203.out,GE203.out,NB175_203.out,NB203_175.out,NB181_203.out,NB203_181.out,NB192_203.out,NB203_192.out,(by repeat (first|(with_reducible first|exact HB.out|apply ba_|apply pn_|apply pd_|refine bs_ ?_ GE175.out|refine bs_ ?_ GE181.out|refine bs_ ?_ GE192.out|refine bs_ ?_ GE203.out)|exact HB.out))⟩)
         ·skip
          refine box_step ?hg (N:=14) ?hd (cs:=#[.int .u64 0,.int .u64 0,.slice none 0 0]) (t:=35) ?hr ?_;(case hd => rfl);(case hg => rfl);(case hr => first|(go_simp;done)|(go_simp;rfl))
          intro gb203 hg w42 hbox hb
          have n0_:=am_ (Kd.R_below (by (with_reducible repeat (first|apply ra_|apply rn_|apply rd_));exact HO_176002.out) hb)
          have n1_:=am_ (Kd.R_below (by (with_reducible repeat (first|apply ra_|apply rn_|apply rd_));exact HO_182002.out) hb)
          have n2_:=am_ (Kd.R_below (by (with_reducible repeat (first|apply ra_|apply rn_|apply rd_));exact HO190.out) hb)
          have n3_:=am_ (blk_below (g:=gb175) (o:=.cells #[.int .u64 x176000_2,.int .u64 x176001_2,.slice Ao30 x176002_2.length co30] 31 (0,0)) (by (with_reducible repeat (first|refine kn_ ?_ _|refine kd_ ?_|refine ka_ ?_ _));exact BK175.out) hb)
          have n4_:=am_ (blk_below (g:=gb181) (o:=.cells #[.int .u64 x182000_2,.int .u64 x182001_2,.slice Ao39 x182002_2.length co39] 35 (0,0)) (by (with_reducible repeat (first|refine kn_ ?_ _|refine kd_ ?_|refine ka_ ?_ _));exact BK181.out) hb)
          have n5_:=am_ (blk_below (g:=gb192) (o:=.cells #[.int .u64 t186,.int .u64 t187,.slice Ao37 t188.length co37] 31 (0,0)) (by (with_reducible repeat (first|refine kn_ ?_ _|refine kd_ ?_|refine ka_ ?_ _));exact BK192.out) hb)
          have n6_:=am_ (below_step (by repeat (first|(with_reducible first|exact HB.out|apply ba_|apply pn_|apply pd_|refine bs_ ?_ GE175.out|refine bs_ ?_ GE181.out|refine bs_ ?_ GE192.out)|exact HB.out)) hb)
          have n7_:=am_ (hbox)
          have n8_:=am_ ((by rw [hg];exact (below_size (by repeat (first|(with_reducible first|exact HB.out|apply ba_|apply pn_|apply pd_|refine bs_ ?_ GE175.out|refine bs_ ?_ GE181.out|refine bs_ ?_ GE192.out)|exact HB.out))) : w.heap.size ≤ gb203))
          have n9_:=am_ ((by rw [hg];exact (below_size (by repeat (first|(with_reducible first|exact HB.out|apply ba_|apply pn_|apply pd_|refine bs_ ?_ GE175.out|refine bs_ ?_ GE181.out|refine bs_ ?_ GE192.out)|exact HB.out))) : w.heap.size ≤ gb203))
          have n10_:=am_ ((by rw [hg];exact Nat.ne_of_lt (blk_lt (g:=gb175) (o:=.cells #[.int .u64 x176000_2,.int .u64 x176001_2,.slice Ao30 x176002_2.length co30] 31 (0,0)) (by (with_reducible repeat (first|refine kn_ ?_ _|refine kd_ ?_|refine ka_ ?_ _));exact BK175.out)) : gb175 ≠ gb203))
          have n11_:=am_ ((by rw [hg];exact Nat.ne_of_gt (blk_lt (g:=gb175) (o:=.cells #[.int .u64 x176000_2,.int .u64 x176001_2,.slice Ao30 x176002_2.length co30] 31 (0,0)) (by (with_reducible repeat (first|refine kn_ ?_ _|refine kd_ ?_|refine ka_ ?_ _));exact BK175.out)) : gb203 ≠ gb175))
          have n12_:=am_ ((by rw [hg];exact Nat.ne_of_lt (blk_lt (g:=gb181) (o:=.cells #[.int .u64 x182000_2,.int .u64 x182001_2,.slice Ao39 x182002_2.length co39] 35 (0,0)) (by (with_reducible repeat (first|refine kn_ ?_ _|refine kd_ ?_|refine ka_ ?_ _));exact BK181.out)) : gb181 ≠ gb203))
          have n13_:=am_ ((by rw [hg];exact Nat.ne_of_gt (blk_lt (g:=gb181) (o:=.cells #[.int .u64 x182000_2,.int .u64 x182001_2,.slice Ao39 x182002_2.length co39] 35 (0,0)) (by (with_reducible repeat (first|refine kn_ ?_ _|refine kd_ ?_|refine ka_ ?_ _));exact BK181.out)) : gb203 ≠ gb181))
          have n14_:=am_ ((by rw [hg];exact Nat.ne_of_lt (blk_lt (g:=gb192) (o:=.cells #[.int .u64 t186,.int .u64 t187,.slice Ao37 t188.length co37] 31 (0,0)) (by (with_reducible repeat (first|refine kn_ ?_ _|refine kd_ ?_|refine ka_ ?_ _));exact BK192.out)) : gb192 ≠ gb203))
          have n15_:=am_ ((by rw [hg];exact Nat.ne_of_gt (blk_lt (g:=gb192) (o:=.cells #[.int .u64 t186,.int .u64 t187,.slice Ao37 t188.length co37] 31 (0,0)) (by (with_reducible repeat (first|refine kn_ ?_ _|refine kd_ ?_|refine ka_ ?_ _));exact BK192.out)) : gb203 ≠ gb192))
          clear HO_176002
          clear HO_182002
          clear HO190
          clear BK175
          clear BK181
          clear BK192
          clear HB
          have HO_176002:=n0_
          have HO_182002:=n1_
          have HO190:=n2_
          have BK175:=n3_
          have BK181:=n4_
          have BK192:=n5_
          have HB:=n6_
          have BK203:=n7_
          have GW203:=n8_
          have GE203:=n9_
          have NB175_203:=n10_
          have NB203_175:=n11_
          have NB181_203:=n12_
          have NB203_181:=n13_
          have NB192_203:=n14_
          have NB203_192:=n15_
          clear n0_ n1_ n2_ n3_ n4_ n5_ n6_ n7_ n8_ n9_ n10_ n11_ n12_ n13_ n14_ n15_
          clear hb hbox hg
          refine hK.out _ _ ⟨(kc_ BK181.out 0).trans rfl,(kc_ BK181.out 1).trans rfl,(kc_ BK181.out 2).trans rfl,(up_ HB.out hw193_0),(up_ HB.out hw193_1),(up_ HB.out hw193_2),(up_ HB.out hw193_3),(up_ HB.out hw194_0),(up_ HB.out hw194_1),(up_ HB.out hw194_2),(up_ HB.out hw194_3),(up_ HB.out hw195_0),(up_ HB.out hw195_1),(up_ HB.out hw195_2),(up_ HB.out hw195_3),(up_ HB.out hw196_0),(up_ HB.out hw196_1),(up_ HB.out hw196_2),(up_ HB.out hw196_3)⟩ (fun hHeld => ?_)
          clear hK K
          refine norm_ (a':=?_) ?_ ?_
          rotate_left
          ·show Act.put _ (some 14) _ = _
           simp only [Act.put,ps_,i64_w,i32_w]
           rfl
          refine one_ (i:=21) (N:=some 98) #[T_,T_,T_,T_,T_,T_,T_,T_,T_,T_,T_,T_,T_,T_,T_,T_,T_,T_,T_,T_,T_,T_,F_,F_,F_,T_,F_,F_] rfl rfl (one_of HT_.out (by kernel_rfl)) (by decide) (fun K hK => ?_)
          refine goes_ Try.func18 (by kernel_rfl) rfl #[.agg #[.int .u64 x182000_2,.int .u64 x182001_2,.slice Ao39 x182002_2.length co39],.int .i64 ((rd_T40 l1 x11_2).f0),.int .u64 ((rd_T40 l1 x11_2).f1),.string ((rd_T40 l1 x11_2).f2),.string ((rd_T40 l1 x11_2).f3)] (by rfl) rfl rfl (by (try simp only [List.map_toArray,List.map_cons,List.map_nil]);first|done|rfl|(simp only [List.length_drop,List.length_take];rfl)) ?_
          with_reducible refine (dominoref10_Seal.calls k2 x182000_2 x182001_2 _ _ x182002_2 ((rd_T40 l1 x11_2).f0) ((rd_T40 l1 x11_2).f1) ((rd_T40 l1 x11_2).f2) ((rd_T40 l1 x11_2).f3) t197 t198 t199 t202 _ ?side1 ?side2 A28.out).mono ?_
          (case side1 => repeat (first|exact (Kd.R_reads' HO_182002.out).2.2|(with_reducible refine Kd.C_alloc ?_ _)|(with_reducible refine Kd.C_drewN ?_ _)|(with_reducible refine Kd.C_drew ?_)))
          (case side2 => exact (Kd.R_reads' HO_182002.out).2.1)
          rintro e w43 ⟨v200,rfl,ho0,hb⟩
          refine ⟨_,rfl,?_⟩
          have n0_:=am_ (Kd.R_below (by (with_reducible repeat (first|apply ra_|apply rn_|apply rd_));exact HO_176002.out) hb)
          have n1_:=am_ (Kd.R_elder' (by (with_reducible repeat (first|apply ra_|apply rn_|apply rd_));exact HO_182002.out) (Kd.R_base ho0) hb)
          have n2_:=am_ (Kd.R_below (by (with_reducible repeat (first|apply ra_|apply rn_|apply rd_));exact HO190.out) hb)
          have n3_:=am_ (Kd.R_lower (Kd.R_new' ho0 (Kd.R_lt (by (with_reducible repeat (first|apply ra_|apply rn_|apply rd_));exact HO_182002.out))) (below_size (by repeat (first|(with_reducible first|exact HB.out|apply ba_|apply pn_|apply pd_|refine bs_ ?_ GE175.out|refine bs_ ?_ GE181.out|refine bs_ ?_ GE192.out|refine bs_ ?_ GE203.out)|exact HB.out))))
          have n4_:=am_ (blk_below (g:=gb175) (o:=.cells #[.int .u64 x176000_2,.int .u64 x176001_2,.slice Ao30 x176002_2.length co30] 31 (0,0)) (by (with_reducible repeat (first|refine kn_ ?_ _|refine kd_ ?_|refine ka_ ?_ _));exact BK175.out) hb)
          have n5_:=am_ (blk_below (g:=gb181) (o:=.cells #[.int .u64 x182000_2,.int .u64 x182001_2,.slice Ao39 x182002_2.length co39] 35 (0,0)) (by (with_reducible repeat (first|refine kn_ ?_ _|refine kd_ ?_|refine ka_ ?_ _));exact BK181.out) hb)
          have n6_:=am_ (blk_below (g:=gb192) (o:=.cells #[.int .u64 t186,.int .u64 t187,.slice Ao37 t188.length co37] 31 (0,0)) (by (with_reducible repeat (first|refine kn_ ?_ _|refine kd_ ?_|refine ka_ ?_ _));exact BK192.out) hb)
          have n7_:=am_ (blk_below (g:=gb203) (o:=.cells #[.int .u64 0,.int .u64 0,.slice none 0 0] 35 (0,0)) (by (with_reducible repeat (first|refine kn_ ?_ _|refine kd_ ?_|refine ka_ ?_ _));exact BK203.out) hb)
          have n8_:=am_ (below_step (by repeat (first|(with_reducible first|exact HB.out|apply ba_|apply pn_|apply pd_|refine bs_ ?_ GE175.out|refine bs_ ?_ GE181.out|refine bs_ ?_ GE192.out|refine bs_ ?_ GE203.out)|exact HB.out)) hb)
          clear HO_176002
          clear HO_182002
          clear HO190
          clear BK175
          clear BK181
          clear BK192
          clear BK203
          clear HB
          have HO_176002:=n0_
          have HO_182002:=n1_
          have HO190:=n2_
          have HO201:=n3_
          have BK175:=n4_
          have BK181:=n5_
          have BK192:=n6_
          have BK203:=n7_
          have HB:=n8_
          clear n0_ n1_ n2_ n3_ n4_ n5_ n6_ n7_ n8_
          (try clear hb)
          (try clear hb2)
          (try clear hk)
          (try clear hi)
          (try clear ho0)
          refine hK.out _ _ ⟨(kc_ BK181.out 0).trans rfl,(kc_ BK181.out 1).trans rfl,(kc_ BK181.out 2).trans rfl,(up_ HB.out hw193_0),(up_ HB.out hw193_1),(up_ HB.out hw193_2),(up_ HB.out hw193_3),(up_ HB.out hw194_0),(up_ HB.out hw194_1),(up_ HB.out hw194_2),(up_ HB.out hw194_3),(up_ HB.out hw195_0),(up_ HB.out hw195_1),(up_ HB.out hw195_2),(up_ HB.out hw195_3),(up_ HB.out hw196_0),(up_ HB.out hw196_1),(up_ HB.out hw196_2),(up_ HB.out hw196_3)⟩ (fun hHeld => ?_)
          clear hK K
          refine norm_ (a':=?_) ?_ ?_
          rotate_left
          ·show Act.put _ (some 98) _ = _
           simp only [Act.put,ps_,i64_w,i32_w]
           rfl
          refine pure_ (i:=22) (N:=some 76) (v:=?_) (a':=?_) #[T_,T_,T_,T_,T_,T_,T_,T_,T_,T_,T_,T_,T_,T_,T_,T_,T_,T_,T_,T_,T_,T_,T_,F_,F_,T_,F_,F_] rfl rfl (any_of HT_.out (by kernel_rfl)) (fun _ _ _ h => h) (Or.inl ⟨by rfl,?_⟩) ?_ ?_
          rotate_left;(intro w';go_simp;with_reducible rfl);rotate_left;(simp only [Act.put,ps_,i64_w,i32_w];rfl)
          refine pure_ (i:=23) (N:=some 99) (v:=?_) (a':=?_) #[T_,T_,T_,T_,T_,T_,T_,T_,T_,T_,T_,T_,T_,T_,T_,T_,T_,T_,T_,T_,T_,T_,T_,T_,F_,T_,F_,F_] rfl rfl (any_of HT_.out (by kernel_rfl)) (fun _ _ _ h => h) (Or.inl ⟨by rfl,?_⟩) ?_ ?_
          rotate_left;(intro w';go_simp;with_reducible rfl);rotate_left;(simp only [Act.put,ps_,i64_w,i32_w];rfl)
          refine pure_ (i:=24) (N:=some 100) (v:=?_) (a':=?_) #[T_,T_,T_,T_,T_,T_,T_,T_,T_,T_,T_,T_,T_,T_,T_,T_,T_,T_,T_,T_,T_,T_,T_,T_,T_,T_,F_,F_] rfl rfl (any_of HT_.out (by kernel_rfl)) (fun _ _ _ h => h) (Or.inl ⟨by rfl,?_⟩) ?_ ?_
          rotate_left;(intro w';go_simp;with_reducible rfl);rotate_left;(simp only [Act.put,ps_,i64_w,i32_w];rfl)
          exact norm_ (by simp only [putAll,Act.put,ps_]) (hCont (v200,gb203) _ ⟨hHeld,(by (with_reducible repeat (first|apply ra_|apply rn_|apply rd_));exact HO190.out),(by (with_reducible repeat (first|apply ra_|apply rn_|apply rd_));exact Kd.R_mono HO201.out (fun _ hk => hk.2)),(by (with_reducible repeat (first|apply ra_|apply rn_|apply rd_));exact HO_176002.out),(by (with_reducible repeat (first|apply ra_|apply rn_|apply rd_));exact Kd.R_mono HO_182002.out (fun _ hk => hk.2)),(by (with_reducible repeat (first|refine kn_ ?_ _|refine kd_ ?_|refine ka_ ?_ _));exact BK175.out),(by (with_reducible repeat (first|refine kn_ ?_ _|refine kd_ ?_|refine ka_ ?_ _));exact BK181.out),(by (with_reducible repeat (first|refine kn_ ?_ _|refine kd_ ?_|refine ka_ ?_ _));exact BK192.out),(by (with_reducible repeat (first|refine kn_ ?_ _|refine kd_ ?_|refine ka_ ?_ _));exact BK203.out),GW203.out,GE203.out,NB175_203.out,NB203_175.out,NB181_203.out,NB203_181.out,NB192_203.out,NB203_192.out,(by repeat (first|(with_reducible first|exact HB.out|apply ba_|apply pn_|apply pd_|refine bs_ ?_ GE175.out|refine bs_ ?_ GE181.out|refine bs_ ?_ GE192.out|refine bs_ ?_ GE203.out)|exact HB.out))⟩)
        rintro ⟨v200,gb203⟩ w44 ⟨hS_,h0_,h1_,h2_,h3_,h4_,h5_,h6_,h7_,h8_,h9_,h10_,h11_,h12_,h13_,h14_,h15_,h16_⟩
        have n0_ : Aside0 (Kd.R k73 73 w44 w.heap.size (fun k_ => some k_ ≠ (.slice Ao30 x176002_2.length co30 : Value).ownBlock) (.slice Ao37 t188.length co37) t188):=⟨h0_⟩
        have n1_ : Aside0 (Kd.R k74 74 w44 w.heap.size (fun k_ => some k_ ≠ (.slice Ao39 x182002_2.length co39 : Value).ownBlock) v200 t199):=⟨h1_⟩
        have n2_ : Aside0 (Kd.R k73 73 w44 w.heap.size (fun k_ => some k_ ≠ (.slice Ao37 t188.length co37 : Value).ownBlock) (.slice Ao30 x176002_2.length co30) x176002_2):=⟨h2_⟩
        have n3_ : Aside0 (Kd.R k74 74 w44 w.heap.size (fun k_ => some k_ ≠ (v200 : Value).ownBlock) (.slice Ao39 x182002_2.length co39) x182002_2):=⟨h3_⟩
        have n4_ : Aside0 (w44.heap[gb175]? = some (.cells #[.int .u64 x176000_2,.int .u64 x176001_2,.slice Ao30 x176002_2.length co30] 31 (0,0))):=⟨h4_⟩
        have n5_ : Aside0 (w44.heap[gb181]? = some (.cells #[.int .u64 x182000_2,.int .u64 x182001_2,.slice Ao39 x182002_2.length co39] 35 (0,0))):=⟨h5_⟩
        have n6_ : Aside0 (w44.heap[gb192]? = some (.cells #[.int .u64 t186,.int .u64 t187,.slice Ao37 t188.length co37] 31 (0,0))):=⟨h6_⟩
        have n7_ : Aside0 (w44.heap[gb203]? = some (.cells #[.int .u64 0,.int .u64 0,.slice none 0 0] 35 (0,0))):=⟨h7_⟩
        have n8_ : Aside0 (w.heap.size ≤ gb203):=⟨h8_⟩
        have n9_ : Aside0 (w.heap.size ≤ gb203):=⟨h9_⟩
        have n10_ : Aside0 (gb175 ≠ gb203):=⟨h10_⟩
        have n11_ : Aside0 (gb203 ≠ gb175):=⟨h11_⟩
        have n12_ : Aside0 (gb181 ≠ gb203):=⟨h12_⟩
        have n13_ : Aside0 (gb203 ≠ gb181):=⟨h13_⟩
        have n14_ : Aside0 (gb192 ≠ gb203):=⟨h14_⟩
        have n15_ : Aside0 (gb203 ≠ gb192):=⟨h15_⟩
        have n16_ : Aside0 (Below w.heap.size w w44):=⟨h16_⟩
        clear HO_176002
        clear HO_182002
        clear HO190
        clear BK175
        clear BK181
        clear BK192
        clear HB
        clear h0_ h1_ h2_ h3_ h4_ h5_ h6_ h7_ h8_ h9_ h10_ h11_ h12_ h13_ h14_ h15_ h16_
        have HO190:=n0_
        have HO201:=n1_
        have HO_176002:=n2_
        have HO_182002:=n3_
        have BK175:=n4_
        have BK181:=n5_
        have BK192:=n6_
        have BK203:=n7_
        have GW203:=n8_
        have GE203:=n9_
        have NB175_203:=n10_
        have NB203_175:=n11_
        have NB181_203:=n12_
        have NB203_181:=n13_
        have NB192_203:=n14_
        have NB203_192:=n15_
        have HB:=n16_
        clear n0_ n1_ n2_ n3_ n4_ n5_ n6_ n7_ n8_ n9_ n10_ n11_ n12_ n13_ n14_ n15_ n16_
        have hHeld : w44.cell? ⟨gb181,0,none⟩ = some (.int .u64 x182000_2) ∧ w44.cell? ⟨gb181,1,none⟩ = some (.int .u64 x182001_2) ∧ w44.cell? ⟨gb181,2,none⟩ = some (.slice Ao39 x182002_2.length co39) ∧ w44.cell? (ad182.add ((x11_2).toNat * 4)) = some (.int .i64 ((rd_T40 l1 x11_2).f0)) ∧ w44.cell? ⟨(ad182.add ((x11_2).toNat * 4)).block,(ad182.add ((x11_2).toNat * 4)).off + 1,none⟩ = some (.int .u64 ((rd_T40 l1 x11_2).f1)) ∧ w44.cell? ⟨(ad182.add ((x11_2).toNat * 4)).block,(ad182.add ((x11_2).toNat * 4)).off + 2,none⟩ = some (.string ((rd_T40 l1 x11_2).f2)) ∧ w44.cell? ⟨(ad182.add ((x11_2).toNat * 4)).block,(ad182.add ((x11_2).toNat * 4)).off + 3,none⟩ = some (.string ((rd_T40 l1 x11_2).f3)) ∧ w44.cell? (ad182.add ((x11_2).toNat * 4)) = some (.int .i64 ((rd_T40 l1 x11_2).f0)) ∧ w44.cell? ⟨(ad182.add ((x11_2).toNat * 4)).block,(ad182.add ((x11_2).toNat * 4)).off + 1,none⟩ = some (.int .u64 ((rd_T40 l1 x11_2).f1)) ∧ w44.cell? ⟨(ad182.add ((x11_2).toNat * 4)).block,(ad182.add ((x11_2).toNat * 4)).off + 2,none⟩ = some (.string ((rd_T40 l1 x11_2).f2)) ∧ w44.cell? ⟨(ad182.add ((x11_2).toNat * 4)).block,(ad182.add ((x11_2).toNat * 4)).off + 3,none⟩ = some (.string ((rd_T40 l1 x11_2).f3)) ∧ w44.cell? (ad182.add ((x11_2).toNat * 4)) = some (.int .i64 ((rd_T40 l1 x11_2).f0)) ∧ w44.cell? ⟨(ad182.add ((x11_2).toNat * 4)).block,(ad182.add ((x11_2).toNat * 4)).off + 1,none⟩ = some (.int .u64 ((rd_T40 l1 x11_2).f1)) ∧ w44.cell? ⟨(ad182.add ((x11_2).toNat * 4)).block,(ad182.add ((x11_2).toNat * 4)).off + 2,none⟩ = some (.string ((rd_T40 l1 x11_2).f2)) ∧ w44.cell? ⟨(ad182.add ((x11_2).toNat * 4)).block,(ad182.add ((x11_2).toNat * 4)).off + 3,none⟩ = some (.string ((rd_T40 l1 x11_2).f3)) ∧ w44.cell? (ad182.add ((x11_2).toNat * 4)) = some (.int .i64 ((rd_T40 l1 x11_2).f0)) ∧ w44.cell? ⟨(ad182.add ((x11_2).toNat * 4)).block,(ad182.add ((x11_2).toNat * 4)).off + 1,none⟩ = some (.int .u64 ((rd_T40 l1 x11_2).f1)) ∧ w44.cell? ⟨(ad182.add ((x11_2).toNat * 4)).block,(ad182.add ((x11_2).toNat * 4)).off + 2,none⟩ = some (.string ((rd_T40 l1 x11_2).f2)) ∧ w44.cell? ⟨(ad182.add ((x11_2).toNat * 4)).block,(ad182.add ((x11_2).toNat * 4)).off + 3,none⟩ = some (.string ((rd_T40 l1 x11_2).f3)):=hS_
        obtain ⟨Ao47,co47,eo47⟩:=Kd.R_slice HO201.out
        (first|subst eo47|(injection eo47 with f1_ f2_ f3_;have f4_:=f1_.symm;have f5_:=f3_.symm;clear f1_ f2_ f3_;subst f4_;subst f5_))
        refine norm_ (a':=?_) ?_ ?_
        rotate_left
        ·simp only [putAll,Act.put,ps_]
         rfl
        refine one_ (i:=26) (N:=none) #[T_,T_,T_,T_,T_,T_,T_,T_,T_,T_,T_,T_,T_,T_,T_,T_,T_,T_,T_,T_,T_,T_,T_,T_,T_,T_,T_,F_] rfl rfl (one_of HT_.out (by kernel_rfl)) (by decide) (fun K hK => ?_)
        have hs45 : w44.cell? ⟨gb203,0,none⟩ = some (.int .u64 0):=(kc_ BK203.out 0).trans rfl
        have hfs45:=blk_frozen BK203.out 0
        have hns45_0:=NB175_203.out
        have hns45_1:=NB181_203.out
        have hns45_2:=NB192_203.out
        have hms45_0:=NB203_175.out
        have hms45_1:=NB203_181.out
        have hms45_2:=NB203_192.out
        have hs46 : w44.cell? ⟨gb203,1,none⟩ = some (.int .u64 0):=(kc_ BK203.out 1).trans rfl
        have hfs46:=blk_frozen BK203.out 1
        have hns46_0:=NB175_203.out
        have hns46_1:=NB181_203.out
        have hns46_2:=NB192_203.out
        have hms46_0:=NB203_175.out
        have hms46_1:=NB203_181.out
        have hms46_2:=NB203_192.out
        have hs48 : w44.cell? ⟨gb203,2,none⟩ = some (.slice none 0 0):=(kc_ BK203.out 2).trans rfl
        have hfs48:=blk_frozen BK203.out 2
        have hns48_0:=NB175_203.out
        have hns48_1:=NB181_203.out
        have hns48_2:=NB192_203.out
        have hms48_0:=NB203_175.out
        have hms48_1:=NB203_181.out
        have hms48_2:=NB203_192.out
        refine skip_ (w1:=?_) (by rfl) rfl ?_ ?_
        rotate_left
        ·go_simp
         rfl
        refine hK.out _ _ ⟨((cell_far (p:=⟨gb203,_,none⟩) NB181_203.out _).trans (((cell_far (p:=⟨gb203,_,none⟩) NB181_203.out _).trans (((cell_far (p:=⟨gb203,_,none⟩) NB181_203.out _).trans (hHeld.1)))))),((cell_far (p:=⟨gb203,_,none⟩) NB181_203.out _).trans (((cell_far (p:=⟨gb203,_,none⟩) NB181_203.out _).trans (((cell_far (p:=⟨gb203,_,none⟩) NB181_203.out _).trans (hHeld.2.1)))))),((cell_far (p:=⟨gb203,_,none⟩) NB181_203.out _).trans (((cell_far (p:=⟨gb203,_,none⟩) NB181_203.out _).trans (((cell_far (p:=⟨gb203,_,none⟩) NB181_203.out _).trans (hHeld.2.2.1)))))),((far_ hw193_0 GW203.out _).trans (((far_ hw193_0 GW203.out _).trans (((far_ hw193_0 GW203.out _).trans (hHeld.2.2.2.1)))))),((far_ hw193_1 GW203.out _).trans (((far_ hw193_1 GW203.out _).trans (((far_ hw193_1 GW203.out _).trans (hHeld.2.2.2.2.1)))))),((far_ hw193_2 GW203.out _).trans (((far_ hw193_2 GW203.out _).trans (((far_ hw193_2 GW203.out _).trans (hHeld.2.2.2.2.2.1)))))),((far_ hw193_3 GW203.out _).trans (((far_ hw193_3 GW203.out _).trans (((far_ hw193_3 GW203.out _).trans (hHeld.2.2.2.2.2.2.1)))))),((far_ hw194_0 GW203.out _).trans (((far_ hw194_0 GW203.out _).trans (((far_ hw194_0 GW203.out _).trans (hHeld.2.2.2.2.2.2.2.1)))))),((far_ hw194_1 GW203.out _).trans (((far_ hw194_1 GW203.out _).trans (((far_ hw194_1 GW203.out _).trans (hHeld.2.2.2.2.2.2.2.2.1)))))),((far_ hw194_2 GW203.out _).trans (((far_ hw194_2 GW203.out _).trans (((far_ hw194_2 GW203.out _).trans (hHeld.2.2.2.2.2.2.2.2.2.1)))))),((far_ hw194_3 GW203.out _).trans (((far_ hw194_3 GW203.out _).trans (((far_ hw194_3 GW203.out _).trans (hHeld.2.2.2.2.2.2.2.2.2.2.1)))))),((far_ hw195_0 GW203.out _).trans (((far_ hw195_0 GW203.out _).trans (((far_ hw195_0 GW203.out _).trans (hHeld.2.2.2.2.2.2.2.2.2.2.2.1)))))),((far_ hw195_1 GW203.out _).trans (((far_ hw195_1 GW203.out _).trans (((far_ hw195_1 GW203.out _).trans (hHeld.2.2.2.2.2.2.2.2.2.2.2.2.1)))))),((far_ hw195_2 GW203.out _).trans (((far_ hw195_2 GW203.out _).trans (((far_ hw195_2 GW203.out _).trans (hHeld.2.2.2.2.2.2.2.2.2.2.2.2.2.1)))))),((far_ hw195_3 GW203.out _).trans (((far_ hw195_3 GW203.out _).trans (((far_ hw195_3 GW203.out _).trans (hHeld.2.2.2.2.2.2.2.2.2.2.2.2.2.2.1)))))),((far_ hw196_0 GW203.out _).trans (((far_ hw196_0 GW203.out _).trans (((far_ hw196_0 GW203.out _).trans (hHeld.2.2.2.2.2.2.2.2.2.2.2.2.2.2.2.1)))))),((far_ hw196_1 GW203.out _).trans (((far_ hw196_1 GW203.out _).trans (((far_ hw196_1 GW203.out _).trans (hHeld.2.2.2.2.2.2.2.2.2.2.2.2.2.2.2.2.1)))))),((far_ hw196_2 GW203.out _).trans (((far_ hw196_2 GW203.out _).trans (((far_ hw196_2 GW203.out _).trans (hHeld.2.2.2.2.2.2.2.2.2.2.2.2.2.2.2.2.2.1)))))),((far_ hw196_3 GW203.out _).trans (((far_ hw196_3 GW203.out _).trans (((far_ hw196_3 GW203.out _).trans (hHeld.2.2.2.2.2.2.2.2.2.2.2.2.2.2.2.2.2.2))))))⟩ (fun hHeld => ?_)
        clear hK K
        refine pure_ (i:=27) (N:=some 15) (v:=?_) (a':=?_) #[T_,T_,T_,T_,T_,T_,T_,T_,T_,T_,T_,T_,T_,T_,T_,T_,T_,T_,T_,T_,T_,T_,T_,T_,T_,T_,T_,T_] rfl rfl (any_of HT_.out (by kernel_rfl)) (fun _ _ _ h => h) (Or.inl ⟨by rfl,?_⟩) ?_ ?_
        rotate_left;(intro w';go_simp;with_reducible rfl);rotate_left;(simp only [Act.put,ps_,i64_w,i32_w];rfl)
        refine done_ (done_of HT_.out (by kernel_rfl)) ?_
        have hnb49:=NB192_175.out
        have hnc49:=NB175_192.out
        have hnb50:=NB192_181.out
        have hnc50:=NB181_192.out
        have hnb51:=NB192_203.out
        have hnc51:=NB203_192.out
        have hcz52_0 : w44.cell? ⟨gb192,0,none⟩ = some (.int .u64 t186):=(kc_ BK192.out 0).trans rfl
        have hcz52_1 : w44.cell? ⟨gb192,1,none⟩ = some (.int .u64 t187):=(kc_ BK192.out 1).trans rfl
        have hcz52_2 : w44.cell? ⟨gb192,2,none⟩ = some (.slice Ao37 t188.length co37):=(kc_ BK192.out 2).trans rfl
        have hfz52_0:=blk_frozen BK192.out 0
        have hfz52_1:=blk_frozen BK192.out 1
        have hfz52_2:=blk_frozen BK192.out 2
        have hnb53:=NB175_181.out
        have hnc53:=NB181_175.out
        have hnb54:=NB175_203.out
        have hnc54:=NB203_175.out
        have hcz55_0 : w44.cell? ⟨gb175,0,none⟩ = some (.int .u64 x176000_2):=(kc_ BK175.out 0).trans rfl
        have hcz55_1 : w44.cell? ⟨gb175,1,none⟩ = some (.int .u64 x176001_2):=(kc_ BK175.out 1).trans rfl
        have hcz55_2 : w44.cell? ⟨gb175,2,none⟩ = some (.slice Ao30 x176002_2.length co30):=(kc_ BK175.out 2).trans rfl
        have hfz55_0:=blk_frozen BK175.out 0
        have hfz55_1:=blk_frozen BK175.out 1
        have hfz55_2:=blk_frozen BK175.out 2
        have hnb56:=NB203_181.out
        have hnc56:=NB181_203.out
        have hcz57_0 : w44.cell? ⟨gb203,0,none⟩ = some (.int .u64 0):=(kc_ BK203.out 0).trans rfl
        have hcz57_1 : w44.cell? ⟨gb203,1,none⟩ = some (.int .u64 0):=(kc_ BK203.out 1).trans rfl
        have hcz57_2 : w44.cell? ⟨gb203,2,none⟩ = some (.slice none 0 0):=(kc_ BK203.out 2).trans rfl
        have hfz57_0:=blk_frozen BK203.out 0
        have hfz57_1:=blk_frozen BK203.out 1
        have hfz57_2:=blk_frozen BK203.out 2
        have hcz58_0 : w44.cell? ⟨gb181,0,none⟩ = some (.int .u64 x182000_2):=(kc_ BK181.out 0).trans rfl
        have hcz58_1 : w44.cell? ⟨gb181,1,none⟩ = some (.int .u64 x182001_2):=(kc_ BK181.out 1).trans rfl
        have hcz58_2 : w44.cell? ⟨gb181,2,none⟩ = some (.slice Ao39 x182002_2.length co39):=(kc_ BK181.out 2).trans rfl
        have hfz58_0:=blk_frozen BK181.out 0
        have hfz58_1:=blk_frozen BK181.out 1
        have hfz58_2:=blk_frozen BK181.out 2
        go_upto_region 12 with (fail)
        go_cut [119] (fun v119 wc => ∃ (kq : Nat) (x119_28 : Bool),v119 = .bool x119_28 ∧ Aside0 (dominolaw10_IdealSeals.j2 kq l1 a2 a3 x11_2 t191 x119_28 t186 t187 t188 t197 t198 t199 = some r) ∧ Aside0 (kq ≤ k2) ∧ Aside0 (Kd.R k73 73 wc w.heap.size (fun _ => True) (.slice Ao37 t188.length co37) t188) ∧ Aside0 (Kd.R k74 74 wc w.heap.size (fun _ => True) (.slice Ao47 t199.length co47) t199) ∧ Aside0 (Kd.R k73 73 wc w.heap.size (fun _ => True) (.slice Ao37 t188.length co37) t188) ∧ Aside0 (Kd.R k74 74 wc w.heap.size (fun _ => True) (.slice Ao47 t199.length co47) t199) ∧ Aside0 (wc.heap[gb175]? = some (.cells #[.int .u64 t186,.int .u64 t187,(.slice Ao37 t188.length co37)] 31 (0,0))) ∧ Aside0 (wc.heap[gb181]? = some (.cells #[.int .u64 t197,.int .u64 t198,(.slice Ao47 t199.length co47)] 35 (0,0))) ∧ Aside0 (wc.heap[gb192]? = some (.cells #[.int .u64 t186,.int .u64 t187,(.slice Ao37 t188.length co37)] 31 (0,0))) ∧ Aside0 (wc.heap[gb203]? = some (.cells #[.int .u64 t197,.int .u64 t198,(.slice Ao47 t199.length co47)] 35 (0,0))) ∧ Aside0 (Below w.heap.size w wc))
        case first =>
         have H:=HC29.out
         clear HC29
         by_cases c59 : t191.toList = t202.toList
         ·rw [if_pos c59] at H
          have c59b0 : (t191.toList == t202.toList) = true:=beq_iff_eq.mpr c59
          have c59b1 : (t191.toList != t202.toList) = false:=bne_eq_false_iff_eq.mpr c59
          clear c59
          (first|rw [c59b0]|(simp only [i64_w,i32_w];rw [c59b0])|skip)
          replace H:=Option.bind_eq_some_iff.mp H
          obtain ⟨⟨t204,t205,t206⟩,A600,H⟩:=H
          replace H : ((dominoref10_Same.f k2 t204 t205 t206 t197 t198 t199).bind fun t209 => (if t209 = true then ((ideal_Cid.f t191).bind fun t210 => ((dominoref10_Cid.f t202).bind fun t211 => (dominolaw10_IdealSeals.j2 k2 l1 a2 a3 x11_2 t191 (t210.toList != t211.toList) t186 t187 t188 t197 t198 t199))) else (dominolaw10_IdealSeals.j2 k2 l1 a2 a3 x11_2 t191 true t186 t187 t188 t197 t198 t199))) = some r:=H
          have A60:=am_ A600
          clear A600
          replace H:=Option.bind_eq_some_iff.mp H
          obtain ⟨t209,A610,H⟩:=H
          replace H : (if t209 = true then ((ideal_Cid.f t191).bind fun t210 => ((dominoref10_Cid.f t202).bind fun t211 => (dominolaw10_IdealSeals.j2 k2 l1 a2 a3 x11_2 t191 (t210.toList != t211.toList) t186 t187 t188 t197 t198 t199))) else (dominolaw10_IdealSeals.j2 k2 l1 a2 a3 x11_2 t191 true t186 t187 t188 t197 t198 t199)) = some r:=H
          have A61:=am_ A610
          clear A610
          by_cases c62 : t209 = true
          ·subst c62
           have H1 : ((ideal_Cid.f t191).bind fun t210 => ((dominoref10_Cid.f t202).bind fun t211 => (dominolaw10_IdealSeals.j2 k2 l1 a2 a3 x11_2 t191 (t210.toList != t211.toList) t186 t187 t188 t197 t198 t199))) = some r:=by rw [if_pos rfl] at H;exact H
           clear H
           have H:=H1
           clear H1
           replace H:=Option.bind_eq_some_iff.mp H
           obtain ⟨t210,A630,H⟩:=H
           replace H : ((dominoref10_Cid.f t202).bind fun t211 => (dominolaw10_IdealSeals.j2 k2 l1 a2 a3 x11_2 t191 (t210.toList != t211.toList) t186 t187 t188 t197 t198 t199)) = some r:=H
           have A63:=am_ A630
           clear A630
           replace H:=Option.bind_eq_some_iff.mp H
           obtain ⟨t211,A640,H⟩:=H
           replace H : (dominolaw10_IdealSeals.j2 k2 l1 a2 a3 x11_2 t191 (t210.toList != t211.toList) t186 t187 t188 t197 t198 t199) = some r:=H
           have A64:=am_ A640
           clear A640
           have H':=am_ H
           clear H
           try go_wp2
           have n0_ : Aside0 (Kd.R k73 73 (((((((((w44.setCell ⟨gb203,0,none⟩ (.int .u64 t197)).setCell ⟨gb203,1,none⟩ (.int .u64 t198)).setCell ⟨gb203,2,none⟩ (.slice Ao47 t199.length co47)).setCell ⟨gb175,0,none⟩ (.int .u64 t186)).setCell ⟨gb175,1,none⟩ (.int .u64 t187)).setCell ⟨gb175,2,none⟩ (.slice Ao37 t188.length co37)).setCell ⟨gb181,0,none⟩ (.int .u64 t197)).setCell ⟨gb181,1,none⟩ (.int .u64 t198)).setCell ⟨gb181,2,none⟩ (.slice Ao47 t199.length co47)) w.heap.size (fun k_ => some k_ ≠ (.slice Ao37 t188.length co37 : Value).ownBlock) (.slice Ao30 x176002_2.length co30) x176002_2):=⟨by (with_reducible repeat (first|apply ra_|apply rn_|apply rd_));exact Kd.R_mono (Kd.R_far (p:=⟨gb181,2,none⟩) (Kd.R_far (p:=⟨gb181,1,none⟩) (Kd.R_far (p:=⟨gb181,0,none⟩) (Kd.R_far (p:=⟨gb175,2,none⟩) (Kd.R_far (p:=⟨gb175,1,none⟩) (Kd.R_far (p:=⟨gb175,0,none⟩) (Kd.R_far (p:=⟨gb203,2,none⟩) (Kd.R_far (p:=⟨gb203,1,none⟩) (Kd.R_far (p:=⟨gb203,0,none⟩) (Kd.R_types (Kd.R_types (Kd.R_types HO_176002.out BK203.out (by decide)) BK175.out (by decide)) BK181.out (by decide)) (fun _ hk => hk.1.1.2) (.int .u64 t197)) (fun _ hk => hk.1.1.2) (.int .u64 t198)) (fun _ hk => hk.1.1.2) (.slice Ao47 t199.length co47)) (fun _ hk => hk.1.2) (.int .u64 t186)) (fun _ hk => hk.1.2) (.int .u64 t187)) (fun _ hk => hk.1.2) (.slice Ao37 t188.length co37)) (fun _ hk => hk.2) (.int .u64 t197)) (fun _ hk => hk.2) (.int .u64 t198)) (fun _ hk => hk.2) (.slice Ao47 t199.length co47)) (fun _ hk => hk.1.1.1)⟩
           have n1_ : Aside0 (Kd.R k74 74 (((((((((w44.setCell ⟨gb203,0,none⟩ (.int .u64 t197)).setCell ⟨gb203,1,none⟩ (.int .u64 t198)).setCell ⟨gb203,2,none⟩ (.slice Ao47 t199.length co47)).setCell ⟨gb175,0,none⟩ (.int .u64 t186)).setCell ⟨gb175,1,none⟩ (.int .u64 t187)).setCell ⟨gb175,2,none⟩ (.slice Ao37 t188.length co37)).setCell ⟨gb181,0,none⟩ (.int .u64 t197)).setCell ⟨gb181,1,none⟩ (.int .u64 t198)).setCell ⟨gb181,2,none⟩ (.slice Ao47 t199.length co47)) w.heap.size (fun k_ => some k_ ≠ (.slice Ao47 t199.length co47 : Value).ownBlock) (.slice Ao39 x182002_2.length co39) x182002_2):=⟨by (with_reducible repeat (first|apply ra_|apply rn_|apply rd_));exact Kd.R_mono (Kd.R_far (p:=⟨gb181,2,none⟩) (Kd.R_far (p:=⟨gb181,1,none⟩) (Kd.R_far (p:=⟨gb181,0,none⟩) (Kd.R_far (p:=⟨gb175,2,none⟩) (Kd.R_far (p:=⟨gb175,1,none⟩) (Kd.R_far (p:=⟨gb175,0,none⟩) (Kd.R_far (p:=⟨gb203,2,none⟩) (Kd.R_far (p:=⟨gb203,1,none⟩) (Kd.R_far (p:=⟨gb203,0,none⟩) (Kd.R_types (Kd.R_types (Kd.R_types HO_182002.out BK203.out (by decide)) BK175.out (by decide)) BK181.out (by decide)) (fun _ hk => hk.1.1.2) (.int .u64 t197)) (fun _ hk => hk.1.1.2) (.int .u64 t198)) (fun _ hk => hk.1.1.2) (.slice Ao47 t199.length co47)) (fun _ hk => hk.1.2) (.int .u64 t186)) (fun _ hk => hk.1.2) (.int .u64 t187)) (fun _ hk => hk.1.2) (.slice Ao37 t188.length co37)) (fun _ hk => hk.2) (.int .u64 t197)) (fun _ hk => hk.2) (.int .u64 t198)) (fun _ hk => hk.2) (.slice Ao47 t199.length co47)) (fun _ hk => hk.1.1.1)⟩
           have n2_ : Aside0 (Kd.R k73 73 (((((((((w44.setCell ⟨gb203,0,none⟩ (.int .u64 t197)).setCell ⟨gb203,1,none⟩ (.int .u64 t198)).setCell ⟨gb203,2,none⟩ (.slice Ao47 t199.length co47)).setCell ⟨gb175,0,none⟩ (.int .u64 t186)).setCell ⟨gb175,1,none⟩ (.int .u64 t187)).setCell ⟨gb175,2,none⟩ (.slice Ao37 t188.length co37)).setCell ⟨gb181,0,none⟩ (.int .u64 t197)).setCell ⟨gb181,1,none⟩ (.int .u64 t198)).setCell ⟨gb181,2,none⟩ (.slice Ao47 t199.length co47)) w.heap.size (fun k_ => some k_ ≠ (.slice Ao30 x176002_2.length co30 : Value).ownBlock) (.slice Ao37 t188.length co37) t188):=⟨by (with_reducible repeat (first|apply ra_|apply rn_|apply rd_));exact Kd.R_mono (Kd.R_far (p:=⟨gb181,2,none⟩) (Kd.R_far (p:=⟨gb181,1,none⟩) (Kd.R_far (p:=⟨gb181,0,none⟩) (Kd.R_far (p:=⟨gb175,2,none⟩) (Kd.R_far (p:=⟨gb175,1,none⟩) (Kd.R_far (p:=⟨gb175,0,none⟩) (Kd.R_far (p:=⟨gb203,2,none⟩) (Kd.R_far (p:=⟨gb203,1,none⟩) (Kd.R_far (p:=⟨gb203,0,none⟩) (Kd.R_types (Kd.R_types (Kd.R_types HO190.out BK203.out (by decide)) BK175.out (by decide)) BK181.out (by decide)) (fun _ hk => hk.1.1.2) (.int .u64 t197)) (fun _ hk => hk.1.1.2) (.int .u64 t198)) (fun _ hk => hk.1.1.2) (.slice Ao47 t199.length co47)) (fun _ hk => hk.1.2) (.int .u64 t186)) (fun _ hk => hk.1.2) (.int .u64 t187)) (fun _ hk => hk.1.2) (.slice Ao37 t188.length co37)) (fun _ hk => hk.2) (.int .u64 t197)) (fun _ hk => hk.2) (.int .u64 t198)) (fun _ hk => hk.2) (.slice Ao47 t199.length co47)) (fun _ hk => hk.1.1.1)⟩
           have n3_ : Aside0 (Kd.R k74 74 (((((((((w44.setCell ⟨gb203,0,none⟩ (.int .u64 t197)).setCell ⟨gb203,1,none⟩ (.int .u64 t198)).setCell ⟨gb203,2,none⟩ (.slice Ao47 t199.length co47)).setCell ⟨gb175,0,none⟩ (.int .u64 t186)).setCell ⟨gb175,1,none⟩ (.int .u64 t187)).setCell ⟨gb175,2,none⟩ (.slice Ao37 t188.length co37)).setCell ⟨gb181,0,none⟩ (.int .u64 t197)).setCell ⟨gb181,1,none⟩ (.int .u64 t198)).setCell ⟨gb181,2,none⟩ (.slice Ao47 t199.length co47)) w.heap.size (fun k_ => some k_ ≠ (.slice Ao39 x182002_2.length co39 : Value).ownBlock) (.slice Ao47 t199.length co47) t199):=⟨by (with_reducible repeat (first|apply ra_|apply rn_|apply rd_));exact Kd.R_mono (Kd.R_far (p:=⟨gb181,2,none⟩) (Kd.R_far (p:=⟨gb181,1,none⟩) (Kd.R_far (p:=⟨gb181,0,none⟩) (Kd.R_far (p:=⟨gb175,2,none⟩) (Kd.R_far (p:=⟨gb175,1,none⟩) (Kd.R_far (p:=⟨gb175,0,none⟩) (Kd.R_far (p:=⟨gb203,2,none⟩) (Kd.R_far (p:=⟨gb203,1,none⟩) (Kd.R_far (p:=⟨gb203,0,none⟩) (Kd.R_types (Kd.R_types (Kd.R_types HO201.out BK203.out (by decide)) BK175.out (by decide)) BK181.out (by decide)) (fun _ hk => hk.1.1.2) (.int .u64 t197)) (fun _ hk => hk.1.1.2) (.int .u64 t198)) (fun _ hk => hk.1.1.2) (.slice Ao47 t199.length co47)) (fun _ hk => hk.1.2) (.int .u64 t186)) (fun _ hk => hk.1.2) (.int .u64 t187)) (fun _ hk => hk.1.2) (.slice Ao37 t188.length co37)) (fun _ hk => hk.2) (.int .u64 t197)) (fun _ hk => hk.2) (.int .u64 t198)) (fun _ hk => hk.2) (.slice Ao47 t199.length co47)) (fun _ hk => hk.1.1.1)⟩
           have n4_ : Aside0 ((((((((((w44.setCell ⟨gb203,0,none⟩ (.int .u64 t197)).setCell ⟨gb203,1,none⟩ (.int .u64 t198)).setCell ⟨gb203,2,none⟩ (.slice Ao47 t199.length co47)).setCell ⟨gb175,0,none⟩ (.int .u64 t186)).setCell ⟨gb175,1,none⟩ (.int .u64 t187)).setCell ⟨gb175,2,none⟩ (.slice Ao37 t188.length co37)).setCell ⟨gb181,0,none⟩ (.int .u64 t197)).setCell ⟨gb181,1,none⟩ (.int .u64 t198)).setCell ⟨gb181,2,none⟩ (.slice Ao47 t199.length co47)).heap[gb175]? = some (.cells #[.int .u64 t186,.int .u64 t187,.slice Ao37 t188.length co37] 31 (0,0))):=⟨by (with_reducible repeat (first|refine kn_ ?_ _|refine kd_ ?_|refine ka_ ?_ _));refine blk_far ?_ NB175_181.out _;(with_reducible repeat (first|refine kn_ ?_ _|refine kd_ ?_|refine ka_ ?_ _));refine blk_far ?_ NB175_181.out _;(with_reducible repeat (first|refine kn_ ?_ _|refine kd_ ?_|refine ka_ ?_ _));refine blk_far ?_ NB175_181.out _;(with_reducible repeat (first|refine kn_ ?_ _|refine kd_ ?_|refine ka_ ?_ _));refine blk_put (cs:=#[.int .u64 t186,.int .u64 t187,.slice Ao30 x176002_2.length co30]) ?_ 2 _ rfl;(with_reducible repeat (first|refine kn_ ?_ _|refine kd_ ?_|refine ka_ ?_ _));refine blk_put (cs:=#[.int .u64 t186,.int .u64 x176001_2,.slice Ao30 x176002_2.length co30]) ?_ 1 _ rfl;(with_reducible repeat (first|refine kn_ ?_ _|refine kd_ ?_|refine ka_ ?_ _));refine blk_put (cs:=#[.int .u64 x176000_2,.int .u64 x176001_2,.slice Ao30 x176002_2.length co30]) ?_ 0 _ rfl;(with_reducible repeat (first|refine kn_ ?_ _|refine kd_ ?_|refine ka_ ?_ _));refine blk_far ?_ NB175_203.out _;(with_reducible repeat (first|refine kn_ ?_ _|refine kd_ ?_|refine ka_ ?_ _));refine blk_far ?_ NB175_203.out _;(with_reducible repeat (first|refine kn_ ?_ _|refine kd_ ?_|refine ka_ ?_ _));refine blk_far ?_ NB175_203.out _;(with_reducible repeat (first|refine kn_ ?_ _|refine kd_ ?_|refine ka_ ?_ _));exact BK175.out⟩
           have n5_ : Aside0 ((((((((((w44.setCell ⟨gb203,0,none⟩ (.int .u64 t197)).setCell ⟨gb203,1,none⟩ (.int .u64 t198)).setCell ⟨gb203,2,none⟩ (.slice Ao47 t199.length co47)).setCell ⟨gb175,0,none⟩ (.int .u64 t186)).setCell ⟨gb175,1,none⟩ (.int .u64 t187)).setCell ⟨gb175,2,none⟩ (.slice Ao37 t188.length co37)).setCell ⟨gb181,0,none⟩ (.int .u64 t197)).setCell ⟨gb181,1,none⟩ (.int .u64 t198)).setCell ⟨gb181,2,none⟩ (.slice Ao47 t199.length co47)).heap[gb181]? = some (.cells #[.int .u64 t197,.int .u64 t198,.slice Ao47 t199.length co47] 35 (0,0))):=⟨by (with_reducible repeat (first|refine kn_ ?_ _|refine kd_ ?_|refine ka_ ?_ _));refine blk_put (cs:=#[.int .u64 t197,.int .u64 t198,.slice Ao39 x182002_2.length co39]) ?_ 2 _ rfl;(with_reducible repeat (first|refine kn_ ?_ _|refine kd_ ?_|refine ka_ ?_ _));refine blk_put (cs:=#[.int .u64 t197,.int .u64 x182001_2,.slice Ao39 x182002_2.length co39]) ?_ 1 _ rfl;(with_reducible repeat (first|refine kn_ ?_ _|refine kd_ ?_|refine ka_ ?_ _));refine blk_put (cs:=#[.int .u64 x182000_2,.int .u64 x182001_2,.slice Ao39 x182002_2.length co39]) ?_ 0 _ rfl;(with_reducible repeat (first|refine kn_ ?_ _|refine kd_ ?_|refine ka_ ?_ _));refine blk_far ?_ NB181_175.out _;(with_reducible repeat (first|refine kn_ ?_ _|refine kd_ ?_|refine ka_ ?_ _));refine blk_far ?_ NB181_175.out _;(with_reducible repeat (first|refine kn_ ?_ _|refine kd_ ?_|refine ka_ ?_ _));refine blk_far ?_ NB181_175.out _;(with_reducible repeat (first|refine kn_ ?_ _|refine kd_ ?_|refine ka_ ?_ _));refine blk_far ?_ NB181_203.out _;(with_reducible repeat (first|refine kn_ ?_ _|refine kd_ ?_|refine ka_ ?_ _));refine blk_far ?_ NB181_203.out _;(with_reducible repeat (first|refine kn_ ?_ _|refine kd_ ?_|refine ka_ ?_ _));refine blk_far ?_ NB181_203.out _;(with_reducible repeat (first|refine kn_ ?_ _|refine kd_ ?_|refine ka_ ?_ _));exact BK181.out⟩
           have n6_ : Aside0 ((((((((((w44.setCell ⟨gb203,0,none⟩ (.int .u64 t197)).setCell ⟨gb203,1,none⟩ (.int .u64 t198)).setCell ⟨gb203,2,none⟩ (.slice Ao47 t199.length co47)).setCell ⟨gb175,0,none⟩ (.int .u64 t186)).setCell ⟨gb175,1,none⟩ (.int .u64 t187)).setCell ⟨gb175,2,none⟩ (.slice Ao37 t188.length co37)).setCell ⟨gb181,0,none⟩ (.int .u64 t197)).setCell ⟨gb181,1,none⟩ (.int .u64 t198)).setCell ⟨gb181,2,none⟩ (.slice Ao47 t199.length co47)).heap[gb192]? = some (.cells #[.int .u64 t186,.int .u64 t187,.slice Ao37 t188.length co37] 31 (0,0))):=⟨by (with_reducible repeat (first|refine kn_ ?_ _|refine kd_ ?_|refine ka_ ?_ _));refine blk_far ?_ NB192_181.out _;(with_reducible repeat (first|refine kn_ ?_ _|refine kd_ ?_|refine ka_ ?_ _));refine blk_far ?_ NB192_181.out _;(with_reducible repeat (first|refine kn_ ?_ _|refine kd_ ?_|refine ka_ ?_ _));refine blk_far ?_ NB192_181.out _;(with_reducible repeat (first|refine kn_ ?_ _|refine kd_ ?_|refine ka_ ?_ _));refine blk_far ?_ NB192_175.out _;(with_reducible repeat (first|refine kn_ ?_ _|refine kd_ ?_|refine ka_ ?_ _));refine blk_far ?_ NB192_175.out _;(with_reducible repeat (first|refine kn_ ?_ _|refine kd_ ?_|refine ka_ ?_ _));refine blk_far ?_ NB192_175.out _;(with_reducible repeat (first|refine kn_ ?_ _|refine kd_ ?_|refine ka_ ?_ _));refine blk_far ?_ NB192_203.out _;(with_reducible repeat (first|refine kn_ ?_ _|refine kd_ ?_|refine ka_ ?_ _));refine blk_far ?_ NB192_203.out _;(with_reducible repeat (first|refine kn_ ?_ _|refine kd_ ?_|refine ka_ ?_ _));refine blk_far ?_ NB192_203.out _;(with_reducible repeat (first|refine kn_ ?_ _|refine kd_ ?_|refine ka_ ?_ _));exact BK192.out⟩
           have n7_ : Aside0 ((((((((((w44.setCell ⟨gb203,0,none⟩ (.int .u64 t197)).setCell ⟨gb203,1,none⟩ (.int .u64 t198)).setCell ⟨gb203,2,none⟩ (.slice Ao47 t199.length co47)).setCell ⟨gb175,0,none⟩ (.int .u64 t186)).setCell ⟨gb175,1,none⟩ (.int .u64 t187)).setCell ⟨gb175,2,none⟩ (.slice Ao37 t188.length co37)).setCell ⟨gb181,0,none⟩ (.int .u64 t197)).setCell ⟨gb181,1,none⟩ (.int .u64 t198)).setCell ⟨gb181,2,none⟩ (.slice Ao47 t199.length co47)).heap[gb203]? = some (.cells #[.int .u64 t197,.int .u64 t198,.slice Ao47 t199.length co47] 35 (0,0))):=⟨by (with_reducible repeat (first|refine kn_ ?_ _|refine kd_ ?_|refine ka_ ?_ _));refine blk_far ?_ NB203_181.out _;(with_reducible repeat (first|refine kn_ ?_ _|refine kd_ ?_|refine ka_ ?_ _));refine blk_far ?_ NB203_181.out _;(with_reducible repeat (first|refine kn_ ?_ _|refine kd_ ?_|refine ka_ ?_ _));refine blk_far ?_ NB203_181.out _;(with_reducible repeat (first|refine kn_ ?_ _|refine kd_ ?_|refine ka_ ?_ _));refine blk_far ?_ NB203_175.out _;(with_reducible repeat (first|refine kn_ ?_ _|refine kd_ ?_|refine ka_ ?_ _));refine blk_far ?_ NB203_175.out _;(with_reducible repeat (first|refine kn_ ?_ _|refine kd_ ?_|refine ka_ ?_ _));refine blk_far ?_ NB203_175.out _;(with_reducible repeat (first|refine kn_ ?_ _|refine kd_ ?_|refine ka_ ?_ _));refine blk_put (cs:=#[.int .u64 t197,.int .u64 t198,.slice none 0 0]) ?_ 2 _ rfl;(with_reducible repeat (first|refine kn_ ?_ _|refine kd_ ?_|refine ka_ ?_ _));refine blk_put (cs:=#[.int .u64 t197,.int .u64 0,.slice none 0 0]) ?_ 1 _ rfl;(with_reducible repeat (first|refine kn_ ?_ _|refine kd_ ?_|refine ka_ ?_ _));refine blk_put (cs:=#[.int .u64 0,.int .u64 0,.slice none 0 0]) ?_ 0 _ rfl;(with_reducible repeat (first|refine kn_ ?_ _|refine kd_ ?_|refine ka_ ?_ _));exact BK203.out⟩
           have n8_ : Aside0 (Below w.heap.size w (((((((((w44.setCell ⟨gb203,0,none⟩ (.int .u64 t197)).setCell ⟨gb203,1,none⟩ (.int .u64 t198)).setCell ⟨gb203,2,none⟩ (.slice Ao47 t199.length co47)).setCell ⟨gb175,0,none⟩ (.int .u64 t186)).setCell ⟨gb175,1,none⟩ (.int .u64 t187)).setCell ⟨gb175,2,none⟩ (.slice Ao37 t188.length co37)).setCell ⟨gb181,0,none⟩ (.int .u64 t197)).setCell ⟨gb181,1,none⟩ (.int .u64 t198)).setCell ⟨gb181,2,none⟩ (.slice Ao47 t199.length co47))):=⟨by repeat (first|(with_reducible first|exact HB.out|apply ba_|apply pn_|apply pd_|refine bs_ ?_ GE175.out|refine bs_ ?_ GE181.out|refine bs_ ?_ GE192.out|refine bs_ ?_ GE203.out)|exact HB.out)⟩
           (try clear HO_176002)
           (try clear HO_182002)
           (try clear HO190)
           (try clear HO201)
           (try clear BK175)
           (try clear BK181)
           (try clear BK192)
           (try clear BK203)
           (try clear HB)
           generalize (((((((((w44.setCell ⟨gb203,0,none⟩ (.int .u64 t197)).setCell ⟨gb203,1,none⟩ (.int .u64 t198)).setCell ⟨gb203,2,none⟩ (.slice Ao47 t199.length co47)).setCell ⟨gb175,0,none⟩ (.int .u64 t186)).setCell ⟨gb175,1,none⟩ (.int .u64 t187)).setCell ⟨gb175,2,none⟩ (.slice Ao37 t188.length co37)).setCell ⟨gb181,0,none⟩ (.int .u64 t197)).setCell ⟨gb181,1,none⟩ (.int .u64 t198)).setCell ⟨gb181,2,none⟩ (.slice Ao47 t199.length co47)) = w65 at n0_ n1_ n2_ n3_ n4_ n5_ n6_ n7_ n8_ ⊢
           have HO_176002:=n0_
           have HO_182002:=n1_
           have HO190:=n2_
           have HO201:=n3_
           have BK175:=n4_
           have BK181:=n5_
           have BK192:=n6_
           have BK203:=n7_
           have HB:=n8_
           clear n0_ n1_ n2_ n3_ n4_ n5_ n6_ n7_ n8_
           have n0_:=am_ (rd_ HO_176002.out)
           have n1_:=am_ (rd_ HO_182002.out)
           have n2_:=am_ (rd_ HO190.out)
           have n3_:=am_ (rd_ HO201.out)
           have n4_:=am_ (kd_ BK175.out)
           have n5_:=am_ (kd_ BK181.out)
           have n6_:=am_ (kd_ BK192.out)
           have n7_:=am_ (kd_ BK203.out)
           have n8_:=am_ (pd_ HB.out)
           clear HO_176002
           clear HO_182002
           clear HO190
           clear HO201
           clear BK175
           clear BK181
           clear BK192
           clear BK203
           clear HB
           have HO_176002:=n0_
           have HO_182002:=n1_
           have HO190:=n2_
           have HO201:=n3_
           have BK175:=n4_
           have BK181:=n5_
           have BK192:=n6_
           have BK203:=n7_
           have HB:=n8_
           clear n0_ n1_ n2_ n3_ n4_ n5_ n6_ n7_ n8_
           refine start_ (n:=17) (S:=fun w' => w'.cell? ⟨gb175,0,none⟩ = some (.int .u64 t186) ∧ w'.cell? ⟨gb175,1,none⟩ = some (.int .u64 t187) ∧ w'.cell? ⟨gb175,2,none⟩ = some (.slice Ao37 t188.length co37) ∧ w'.cell? ⟨gb181,0,none⟩ = some (.int .u64 t197) ∧ w'.cell? ⟨gb181,1,none⟩ = some (.int .u64 t198) ∧ w'.cell? ⟨gb181,2,none⟩ = some (.slice Ao47 t199.length co47)) (ds:=[]) #[F_,F_,F_,F_,F_,F_,F_,F_,F_,F_,F_,F_,F_,F_,F_,F_,F_] (by kernel_rfl) rfl rfl ⟨(kc_ BK175.out 0).trans rfl,(kc_ BK175.out 1).trans rfl,(kc_ BK175.out 2).trans rfl,(kc_ BK181.out 0).trans rfl,(kc_ BK181.out 1).trans rfl,(kc_ BK181.out 2).trans rfl⟩ (fun hHeld => ?_);refine with_tabW dominolaw10_IdealSeals.tab12 dominolaw10_IdealSeals.bits12 (fun HT_ HW_ => ?_)
           generalize w65.drew = w66 at HO_176002 HO_182002 HO190 HO201 BK175 BK181 BK192 BK203 HB hHeld ⊢
           refine pure_ (i:=0) (N:=some 103) (v:=?_) (a':=?_) #[T_,F_,F_,F_,F_,F_,F_,F_,F_,F_,F_,F_,F_,F_,F_,F_,F_] rfl rfl (any_of HT_.out (by kernel_rfl)) (fun _ _ _ h => h) (Or.inl ⟨by rfl,?_⟩) ?_ ?_
           rotate_left;(intro w';go_simp;with_reducible rfl);rotate_left;(simp only [Act.put,ps_,i64_w,i32_w];rfl)
           refine pure_ (i:=1) (N:=some 104) (v:=?_) (a':=?_) #[T_,T_,F_,F_,F_,F_,F_,F_,F_,F_,F_,F_,F_,F_,F_,F_,F_] rfl rfl (any_of HT_.out (by kernel_rfl)) (fun _ _ _ h => h) (Or.inl ⟨by rfl,?_⟩) ?_ ?_
           rotate_left;(intro w';go_simp;with_reducible rfl);rotate_left;(simp only [Act.put,ps_,i64_w,i32_w];rfl)
           refine pure_ (i:=2) (N:=some 105) (v:=?_) (a':=?_) #[T_,T_,T_,F_,F_,F_,F_,F_,F_,F_,F_,F_,F_,F_,F_,F_,F_] rfl rfl (any_of HT_.out (by kernel_rfl)) (fun _ _ _ h => h) (Or.inl ⟨by rfl,?_⟩) ?_ ?_
           rotate_left;(intro w';go_simp;with_reducible rfl);rotate_left;(simp only [Act.put,ps_,i64_w,i32_w];rfl)
           refine pure_ (i:=3) (N:=some 106) (v:=?_) (a':=?_) #[T_,T_,T_,T_,F_,F_,F_,F_,F_,F_,F_,F_,F_,F_,F_,F_,F_] rfl rfl (any_of HT_.out (by kernel_rfl)) (fun _ _ _ h => h) (Or.inl ⟨by rfl,?_⟩) ?_ ?_
           rotate_left;(intro w';go_simp;with_reducible rfl);rotate_left;(simp only [Act.put,ps_,i64_w,i32_w];rfl)
           refine take_ (i:=4) (N:=some 107) (v:=?_) (a':=?_) #[T_,T_,T_,T_,T_,F_,F_,F_,F_,F_,F_,F_,F_,F_,F_,F_,F_] rfl rfl (take_ofW HT_.out HW_.out (by kernel_rfl)) (fun _ _ _ h => h) (Or.inl ⟨by rfl,?_⟩) hHeld ?_ ?_
           rotate_left
           ·rintro w' ⟨s0,s1,s2,s3,s4,s5⟩
            go_simp
            with_reducible rfl
           rotate_left
           ·simp only [Act.put,ps_,i64_w,i32_w]
            rfl
           refine take_ (i:=6) (N:=some 109) (v:=?_) (a':=?_) #[T_,T_,T_,T_,T_,F_,T_,F_,F_,F_,F_,F_,F_,F_,F_,F_,F_] rfl rfl (take_ofW HT_.out HW_.out (by kernel_rfl)) (fun _ _ _ h => h) (Or.inl ⟨by rfl,?_⟩) hHeld ?_ ?_
           rotate_left
           ·rintro w' ⟨s0,s1,s2,s3,s4,s5⟩
            go_simp
            with_reducible rfl
           rotate_left
           ·simp only [Act.put,ps_,i64_w,i32_w]
            rfl
           refine one_ (i:=5) (N:=some 108) #[T_,T_,T_,T_,T_,T_,T_,F_,F_,F_,F_,F_,F_,F_,F_,F_,F_] rfl rfl (one_of HT_.out (by kernel_rfl)) (by decide) (fun K hK => ?_)
           refine goes_ Try.func20 (by kernel_rfl) rfl #[.agg #[.int .u64 t186,.int .u64 t187,.slice Ao37 t188.length co37]] (by rfl) rfl rfl (by (try simp only [List.map_toArray,List.map_cons,List.map_nil]);first|done|rfl|(simp only [List.length_drop,List.length_take];rfl)) ?_
           with_reducible refine (dominolaw10_its.calls k2 t186 t187 _ _ t188 t204 t205 t206 _ ?side1 ?side2 A60.out).mono ?_
           (case side1 => repeat (first|exact (Kd.R_reads' HO190.out).2.2|(with_reducible refine Kd.C_alloc ?_ _)|(with_reducible refine Kd.C_drewN ?_ _)|(with_reducible refine Kd.C_drew ?_)))
           (case side2 => exact (Kd.R_reads' HO190.out).2.1)
           rintro e w67 ⟨v207,rfl,ho0,hb⟩
           refine ⟨_,rfl,?_⟩
           have n0_:=am_ (Kd.R_below (by (with_reducible repeat (first|apply ra_|apply rn_|apply rd_));exact HO_176002.out) hb)
           have n1_:=am_ (Kd.R_elder' (by (with_reducible repeat (first|apply ra_|apply rn_|apply rd_));exact HO_182002.out) (Kd.R_base ho0) hb)
           have n2_:=am_ (Kd.R_below (by (with_reducible repeat (first|apply ra_|apply rn_|apply rd_));exact HO190.out) hb)
           have n3_:=am_ (Kd.R_elder' (by (with_reducible repeat (first|apply ra_|apply rn_|apply rd_));exact HO201.out) (Kd.R_base ho0) hb)
           have n4_:=am_ (Kd.R_lower (Kd.R_new' (Kd.R_new' ho0 (Kd.R_lt (by (with_reducible repeat (first|apply ra_|apply rn_|apply rd_));exact HO_182002.out))) (Kd.R_lt (by (with_reducible repeat (first|apply ra_|apply rn_|apply rd_));exact HO201.out))) (below_size (by repeat (first|(with_reducible first|exact HB.out|apply ba_|apply pn_|apply pd_|refine bs_ ?_ GE175.out|refine bs_ ?_ GE181.out|refine bs_ ?_ GE192.out|refine bs_ ?_ GE203.out)|exact HB.out))))
           have n5_:=am_ (blk_below (g:=gb175) (o:=.cells #[.int .u64 t186,.int .u64 t187,.slice Ao37 t188.length co37] 31 (0,0)) (by (with_reducible repeat (first|refine kn_ ?_ _|refine kd_ ?_|refine ka_ ?_ _));exact BK175.out) hb)
           have n6_:=am_ (blk_below (g:=gb181) (o:=.cells #[.int .u64 t197,.int .u64 t198,.slice Ao47 t199.length co47] 35 (0,0)) (by (with_reducible repeat (first|refine kn_ ?_ _|refine kd_ ?_|refine ka_ ?_ _));exact BK181.out) hb)
           have n7_:=am_ (blk_below (g:=gb192) (o:=.cells #[.int .u64 t186,.int .u64 t187,.slice Ao37 t188.length co37] 31 (0,0)) (by (with_reducible repeat (first|refine kn_ ?_ _|refine kd_ ?_|refine ka_ ?_ _));exact BK192.out) hb)
           have n8_:=am_ (blk_below (g:=gb203) (o:=.cells #[.int .u64 t197,.int .u64 t198,.slice Ao47 t199.length co47] 35 (0,0)) (by (with_reducible repeat (first|refine kn_ ?_ _|refine kd_ ?_|refine ka_ ?_ _));exact BK203.out) hb)
           have n9_:=am_ (below_step (by repeat (first|(with_reducible first|exact HB.out|apply ba_|apply pn_|apply pd_|refine bs_ ?_ GE175.out|refine bs_ ?_ GE181.out|refine bs_ ?_ GE192.out|refine bs_ ?_ GE203.out)|exact HB.out)) hb)
           clear HO_176002
           clear HO_182002
           clear HO190
           clear HO201
           clear BK175
           clear BK181
           clear BK192
           clear BK203
           clear HB
           have HO_176002:=n0_
           have HO_182002:=n1_
           have HO190:=n2_
           have HO201:=n3_
           have HO208:=n4_
           have BK175:=n5_
           have BK181:=n6_
           have BK192:=n7_
           have BK203:=n8_
           have HB:=n9_
           clear n0_ n1_ n2_ n3_ n4_ n5_ n6_ n7_ n8_ n9_
           (try clear hb)
           (try clear hb2)
           (try clear hk)
           (try clear hi)
           (try clear ho0)
           obtain ⟨Ao68,co68,eo68⟩:=Kd.R_slice HO208.out
           (first|subst eo68|(injection eo68 with f1_ f2_ f3_;have f4_:=f1_.symm;have f5_:=f3_.symm;clear f1_ f2_ f3_;subst f4_;subst f5_))
           refine hK.out _ _ ⟨(kc_ BK175.out 0).trans rfl,(kc_ BK175.out 1).trans rfl,(kc_ BK175.out 2).trans rfl,(kc_ BK181.out 0).trans rfl,(kc_ BK181.out 1).trans rfl,(kc_ BK181.out 2).trans rfl⟩ (fun hHeld => ?_)
           clear hK K
           refine norm_ (a':=?_) ?_ ?_
           rotate_left
           ·show Act.put _ (some 108) _ = _
            simp only [Act.put,ps_,i64_w,i32_w]
            rfl
           refine one_ (i:=7) (N:=some 110) #[T_,T_,T_,T_,T_,T_,T_,T_,F_,F_,F_,F_,F_,F_,F_,F_,F_] rfl rfl (one_of HT_.out (by kernel_rfl)) (by decide) (fun K hK => ?_)
           refine goes_ Try.func19 (by kernel_rfl) rfl #[.agg #[.int .u64 t204,.int .u64 t205,.slice Ao68 t206.length co68],.agg #[.int .u64 t197,.int .u64 t198,.slice Ao47 t199.length co47]] (by rfl) rfl rfl (by (try simp only [List.map_toArray,List.map_cons,List.map_nil]);first|done|rfl|(simp only [List.length_drop,List.length_take];rfl)) ?_
           with_reducible refine (dominoref10_Same.calls k2 t204 t205 _ _ t206 t197 t198 _ _ t199 true _ ?side1 ?side2 ?side3 ?side4 A61.out).mono ?_
           (case side1 => repeat (first|exact (Kd.R_reads' HO208.out).2.2|(with_reducible refine Kd.C_alloc ?_ _)|(with_reducible refine Kd.C_drewN ?_ _)|(with_reducible refine Kd.C_drew ?_)))
           (case side2 => exact (Kd.R_reads' HO208.out).2.1)
           (case side3 => repeat (first|exact (Kd.R_reads' HO201.out).2.2|(with_reducible refine Kd.C_alloc ?_ _)|(with_reducible refine Kd.C_drewN ?_ _)|(with_reducible refine Kd.C_drew ?_)))
           (case side4 => exact (Kd.R_reads' HO201.out).2.1)
           rintro e w69 ⟨rfl,hb⟩
           refine ⟨_,rfl,?_⟩
           have n0_:=am_ (Kd.R_below (by (with_reducible repeat (first|apply ra_|apply rn_|apply rd_));exact HO_176002.out) hb)
           have n1_:=am_ (Kd.R_below (by (with_reducible repeat (first|apply ra_|apply rn_|apply rd_));exact HO_182002.out) hb)
           have n2_:=am_ (Kd.R_below (by (with_reducible repeat (first|apply ra_|apply rn_|apply rd_));exact HO190.out) hb)
           have n3_:=am_ (Kd.R_below (by (with_reducible repeat (first|apply ra_|apply rn_|apply rd_));exact HO201.out) hb)
           have n4_:=am_ (Kd.R_below (by (with_reducible repeat (first|apply ra_|apply rn_|apply rd_));exact HO208.out) hb)
           have n5_:=am_ (blk_below (g:=gb175) (o:=.cells #[.int .u64 t186,.int .u64 t187,.slice Ao37 t188.length co37] 31 (0,0)) (by (with_reducible repeat (first|refine kn_ ?_ _|refine kd_ ?_|refine ka_ ?_ _));exact BK175.out) hb)
           have n6_:=am_ (blk_below (g:=gb181) (o:=.cells #[.int .u64 t197,.int .u64 t198,.slice Ao47 t199.length co47] 35 (0,0)) (by (with_reducible repeat (first|refine kn_ ?_ _|refine kd_ ?_|refine ka_ ?_ _));exact BK181.out) hb)
           have n7_:=am_ (blk_below (g:=gb192) (o:=.cells #[.int .u64 t186,.int .u64 t187,.slice Ao37 t188.length co37] 31 (0,0)) (by (with_reducible repeat (first|refine kn_ ?_ _|refine kd_ ?_|refine ka_ ?_ _));exact BK192.out) hb)
           have n8_:=am_ (blk_below (g:=gb203) (o:=.cells #[.int .u64 t197,.int .u64 t198,.slice Ao47 t199.length co47] 35 (0,0)) (by (with_reducible repeat (first|refine kn_ ?_ _|refine kd_ ?_|refine ka_ ?_ _));exact BK203.out) hb)
           have n9_:=am_ (below_step (by repeat (first|(with_reducible first|exact HB.out|apply ba_|apply pn_|apply pd_|refine bs_ ?_ GE175.out|refine bs_ ?_ GE181.out|refine bs_ ?_ GE192.out|refine bs_ ?_ GE203.out)|exact HB.out)) hb)
           clear HO_176002
           clear HO_182002
           clear HO190
           clear HO201
           clear HO208
           clear BK175
           clear BK181
           clear BK192
           clear BK203
           clear HB
           have HO_176002:=n0_
           have HO_182002:=n1_
           have HO190:=n2_
           have HO201:=n3_
           have HO208:=n4_
           have BK175:=n5_
           have BK181:=n6_
           have BK192:=n7_
           have BK203:=n8_
           have HB:=n9_
           clear n0_ n1_ n2_ n3_ n4_ n5_ n6_ n7_ n8_ n9_
           (try clear hb)
           (try clear hb2)
           (try clear hk)
           (try clear hi)
           refine hK.out _ _ ⟨(kc_ BK175.out 0).trans rfl,(kc_ BK175.out 1).trans rfl,(kc_ BK175.out 2).trans rfl,(kc_ BK181.out 0).trans rfl,(kc_ BK181.out 1).trans rfl,(kc_ BK181.out 2).trans rfl⟩ (fun hHeld => ?_)
           clear hK K
           refine norm_ (a':=?_) ?_ ?_
           rotate_left
           ·show Act.put _ (some 110) _ = _
            simp only [Act.put,ps_,i64_w,i32_w]
            rfl
           refine pure_ (i:=8) (N:=some 111) (v:=?_) (a':=?_) #[T_,T_,T_,T_,T_,T_,T_,T_,T_,F_,F_,F_,F_,F_,F_,F_,F_] rfl rfl (any_of HT_.out (by kernel_rfl)) (fun _ _ _ h => h) (Or.inl ⟨by rfl,?_⟩) ?_ ?_
           rotate_left;(intro w';go_simp;with_reducible rfl);rotate_left;(simp only [Act.put,ps_,i64_w,i32_w];rfl)
           refine pure_ (i:=9) (N:=some 112) (v:=?_) (a':=?_) #[T_,T_,T_,T_,T_,T_,T_,T_,T_,T_,F_,F_,F_,F_,F_,F_,F_] rfl rfl (any_of HT_.out (by kernel_rfl)) (fun _ _ _ h => h) (Or.inl ⟨by rfl,?_⟩) ?_ ?_
           rotate_left;(intro w';go_simp;with_reducible rfl);rotate_left;(simp only [Act.put,ps_,i64_w,i32_w];rfl)
           refine pure_ (i:=10) (N:=some 113) (v:=?_) (a':=?_) #[T_,T_,T_,T_,T_,T_,T_,T_,T_,T_,T_,F_,F_,F_,F_,F_,F_] rfl rfl (any_of HT_.out (by kernel_rfl)) (fun _ _ _ h => h) (Or.inl ⟨by rfl,?_⟩) ?_ ?_
           rotate_left;(intro w';go_simp;with_reducible rfl);rotate_left;(simp only [Act.put,ps_,i64_w,i32_w];rfl)
           refine pure_ (i:=11) (N:=some 114) (v:=?_) (a':=?_) #[T_,T_,T_,T_,T_,T_,T_,T_,T_,T_,T_,T_,F_,F_,F_,F_,F_] rfl rfl (any_of HT_.out (by kernel_rfl)) (fun _ _ _ h => h) (Or.inl ⟨by rfl,?_⟩) ?_ ?_
           rotate_left;(intro w';go_simp;with_reducible rfl);rotate_left;(simp only [Act.put,ps_,i64_w,i32_w];rfl)
           refine pure_ (i:=13) (N:=some 116) (v:=?_) (a':=?_) #[T_,T_,T_,T_,T_,T_,T_,T_,T_,T_,T_,T_,F_,T_,F_,F_,F_] rfl rfl (any_of HT_.out (by kernel_rfl)) (fun _ _ _ h => h) (Or.inl ⟨by rfl,?_⟩) ?_ ?_
           rotate_left;(intro w';go_simp;with_reducible rfl);rotate_left;(simp only [Act.put,ps_,i64_w,i32_w];rfl)
           refine one_ (i:=12) (N:=some 115) #[T_,T_,T_,T_,T_,T_,T_,T_,T_,T_,T_,T_,T_,T_,F_,F_,F_] rfl rfl (one_of HT_.out (by kernel_rfl)) (by decide) (fun K hK => ?_)
           refine goes_ Try.func21 (by kernel_rfl) rfl #[.string t191] (by rfl) rfl rfl (by (try simp only [List.map_toArray,List.map_cons,List.map_nil]);first|done|rfl|(simp only [List.length_drop,List.length_take];rfl)) ?_
           with_reducible refine (ideal_Cid.calls t191 t210 _ A63.out).mono ?_
           rintro e w' ⟨rfl,⟨nd,rfl⟩⟩
           refine ⟨_,rfl,?_⟩
           refine hK.out _ _ ⟨(kc_ BK175.out 0).trans rfl,(kc_ BK175.out 1).trans rfl,(kc_ BK175.out 2).trans rfl,(kc_ BK181.out 0).trans rfl,(kc_ BK181.out 1).trans rfl,(kc_ BK181.out 2).trans rfl⟩ (fun hHeld => ?_)
           clear hK K
           refine norm_ (a':=?_) ?_ ?_
           rotate_left
           ·show Act.put _ (some 115) _ = _
            simp only [Act.put,ps_,i64_w,i32_w]
            rfl
           refine one_ (i:=14) (N:=some 117) #[T_,T_,T_,T_,T_,T_,T_,T_,T_,T_,T_,T_,T_,T_,T_,F_,F_] rfl rfl (one_of HT_.out (by kernel_rfl)) (by decide) (fun K hK => ?_)
           refine goes_ Try.func22 (by kernel_rfl) rfl #[.string t202] (by rfl) rfl rfl (by (try simp only [List.map_toArray,List.map_cons,List.map_nil]);first|done|rfl|(simp only [List.length_drop,List.length_take];rfl)) ?_
           with_reducible refine (dominoref10_Cid.calls t202 t211 _ A64.out).mono ?_
           rintro e w' ⟨rfl,⟨nd,rfl⟩⟩
           refine ⟨_,rfl,?_⟩
           refine hK.out _ _ ⟨(kc_ BK175.out 0).trans rfl,(kc_ BK175.out 1).trans rfl,(kc_ BK175.out 2).trans rfl,(kc_ BK181.out 0).trans rfl,(kc_ BK181.out 1).trans rfl,(kc_ BK181.out 2).trans rfl⟩ (fun hHeld => ?_)
           clear hK K
           refine norm_ (a':=?_) ?_ ?_
           rotate_left
           ·show Act.put _ (some 117) _ = _
            simp only [Act.put,ps_,i64_w,i32_w]
            rfl
           refine pure_ (i:=15) (N:=some 118) (v:=?_) (a':=?_) #[T_,T_,T_,T_,T_,T_,T_,T_,T_,T_,T_,T_,T_,T_,T_,T_,F_] rfl rfl (any_of HT_.out (by kernel_rfl)) (fun _ _ _ h => h) (Or.inl ⟨by rfl,?_⟩) ?_ ?_
           rotate_left;(intro w';go_simp;with_reducible rfl);rotate_left;(simp only [Act.put,ps_,i64_w,i32_w];rfl)
           refine pure_ (i:=16) (N:=some 119) (v:=?_) (a':=?_) #[T_,T_,T_,T_,T_,T_,T_,T_,T_,T_,T_,T_,T_,T_,T_,T_,T_] rfl rfl (any_of HT_.out (by kernel_rfl)) (fun _ _ _ h => h) (Or.inl ⟨by rfl,?_⟩) ?_ ?_
           rotate_left;(intro w';go_simp;with_reducible rfl);rotate_left;(simp only [Act.put,ps_,i64_w,i32_w];rfl)
           refine done_ (done_of HT_.out (by kernel_rfl)) ?_
           try go_wp2
           go_meet
           case rel => exact ⟨_,((t210.toList != t211.toList)),(by first|rfl|(simp;done)|(simp [*];done)),H',⟨by have:=HJ4.out;have:=HK2.out;first|omega|exact Nat.le_refl _⟩,⟨by (with_reducible repeat (first|apply ra_|apply rn_|apply rd_));exact Kd.R_mono HO190.out (fun _ hk => trivial)⟩,⟨by (with_reducible repeat (first|apply ra_|apply rn_|apply rd_));exact Kd.R_mono HO201.out (fun _ hk => trivial)⟩,⟨by (with_reducible repeat (first|apply ra_|apply rn_|apply rd_));exact Kd.R_mono HO190.out (fun _ hk => trivial)⟩,⟨by (with_reducible repeat (first|apply ra_|apply rn_|apply rd_));exact Kd.R_mono HO201.out (fun _ hk => trivial)⟩,⟨by (with_reducible repeat (first|refine kn_ ?_ _|refine kd_ ?_|refine ka_ ?_ _));exact BK175.out⟩,⟨by (with_reducible repeat (first|refine kn_ ?_ _|refine kd_ ?_|refine ka_ ?_ _));exact BK181.out⟩,⟨by (with_reducible repeat (first|refine kn_ ?_ _|refine kd_ ?_|refine ka_ ?_ _));exact BK192.out⟩,⟨by (with_reducible repeat (first|refine kn_ ?_ _|refine kd_ ?_|refine ka_ ?_ _));exact BK203.out⟩,⟨by repeat (first|(with_reducible first|exact HB.out|apply ba_|apply pn_|apply pd_|refine bs_ ?_ GE175.out|refine bs_ ?_ GE181.out|refine bs_ ?_ GE192.out|refine bs_ ?_ GE203.out)|exact HB.out)⟩⟩
          ·replace c62:=Bool.eq_false_iff.mpr c62
           subst c62
           have H1 : (dominolaw10_IdealSeals.j2 k2 l1 a2 a3 x11_2 t191 true t186 t187 t188 t197 t198 t199) = some r:=by rw [if_neg (show ¬ (false = true) by decide)] at H;exact H
           clear H
           have H:=H1
           clear H1
           have H':=am_ H
           clear H
           try go_wp2
           have n0_ : Aside0 (Kd.R k73 73 (((((((((w44.setCell ⟨gb203,0,none⟩ (.int .u64 t197)).setCell ⟨gb203,1,none⟩ (.int .u64 t198)).setCell ⟨gb203,2,none⟩ (.slice Ao47 t199.length co47)).setCell ⟨gb175,0,none⟩ (.int .u64 t186)).setCell ⟨gb175,1,none⟩ (.int .u64 t187)).setCell ⟨gb175,2,none⟩ (.slice Ao37 t188.length co37)).setCell ⟨gb181,0,none⟩ (.int .u64 t197)).setCell ⟨gb181,1,none⟩ (.int .u64 t198)).setCell ⟨gb181,2,none⟩ (.slice Ao47 t199.length co47)) w.heap.size (fun k_ => some k_ ≠ (.slice Ao37 t188.length co37 : Value).ownBlock) (.slice Ao30 x176002_2.length co30) x176002_2):=⟨by (with_reducible repeat (first|apply ra_|apply rn_|apply rd_));exact Kd.R_mono (Kd.R_far (p:=⟨gb181,2,none⟩) (Kd.R_far (p:=⟨gb181,1,none⟩) (Kd.R_far (p:=⟨gb181,0,none⟩) (Kd.R_far (p:=⟨gb175,2,none⟩) (Kd.R_far (p:=⟨gb175,1,none⟩) (Kd.R_far (p:=⟨gb175,0,none⟩) (Kd.R_far (p:=⟨gb203,2,none⟩) (Kd.R_far (p:=⟨gb203,1,none⟩) (Kd.R_far (p:=⟨gb203,0,none⟩) (Kd.R_types (Kd.R_types (Kd.R_types HO_176002.out BK203.out (by decide)) BK175.out (by decide)) BK181.out (by decide)) (fun _ hk => hk.1.1.2) (.int .u64 t197)) (fun _ hk => hk.1.1.2) (.int .u64 t198)) (fun _ hk => hk.1.1.2) (.slice Ao47 t199.length co47)) (fun _ hk => hk.1.2) (.int .u64 t186)) (fun _ hk => hk.1.2) (.int .u64 t187)) (fun _ hk => hk.1.2) (.slice Ao37 t188.length co37)) (fun _ hk => hk.2) (.int .u64 t197)) (fun _ hk => hk.2) (.int .u64 t198)) (fun _ hk => hk.2) (.slice Ao47 t199.length co47)) (fun _ hk => hk.1.1.1)⟩
           have n1_ : Aside0 (Kd.R k74 74 (((((((((w44.setCell ⟨gb203,0,none⟩ (.int .u64 t197)).setCell ⟨gb203,1,none⟩ (.int .u64 t198)).setCell ⟨gb203,2,none⟩ (.slice Ao47 t199.length co47)).setCell ⟨gb175,0,none⟩ (.int .u64 t186)).setCell ⟨gb175,1,none⟩ (.int .u64 t187)).setCell ⟨gb175,2,none⟩ (.slice Ao37 t188.length co37)).setCell ⟨gb181,0,none⟩ (.int .u64 t197)).setCell ⟨gb181,1,none⟩ (.int .u64 t198)).setCell ⟨gb181,2,none⟩ (.slice Ao47 t199.length co47)) w.heap.size (fun k_ => some k_ ≠ (.slice Ao47 t199.length co47 : Value).ownBlock) (.slice Ao39 x182002_2.length co39) x182002_2):=⟨by (with_reducible repeat (first|apply ra_|apply rn_|apply rd_));exact Kd.R_mono (Kd.R_far (p:=⟨gb181,2,none⟩) (Kd.R_far (p:=⟨gb181,1,none⟩) (Kd.R_far (p:=⟨gb181,0,none⟩) (Kd.R_far (p:=⟨gb175,2,none⟩) (Kd.R_far (p:=⟨gb175,1,none⟩) (Kd.R_far (p:=⟨gb175,0,none⟩) (Kd.R_far (p:=⟨gb203,2,none⟩) (Kd.R_far (p:=⟨gb203,1,none⟩) (Kd.R_far (p:=⟨gb203,0,none⟩) (Kd.R_types (Kd.R_types (Kd.R_types HO_182002.out BK203.out (by decide)) BK175.out (by decide)) BK181.out (by decide)) (fun _ hk => hk.1.1.2) (.int .u64 t197)) (fun _ hk => hk.1.1.2) (.int .u64 t198)) (fun _ hk => hk.1.1.2) (.slice Ao47 t199.length co47)) (fun _ hk => hk.1.2) (.int .u64 t186)) (fun _ hk => hk.1.2) (.int .u64 t187)) (fun _ hk => hk.1.2) (.slice Ao37 t188.length co37)) (fun _ hk => hk.2) (.int .u64 t197)) (fun _ hk => hk.2) (.int .u64 t198)) (fun _ hk => hk.2) (.slice Ao47 t199.length co47)) (fun _ hk => hk.1.1.1)⟩
           have n2_ : Aside0 (Kd.R k73 73 (((((((((w44.setCell ⟨gb203,0,none⟩ (.int .u64 t197)).setCell ⟨gb203,1,none⟩ (.int .u64 t198)).setCell ⟨gb203,2,none⟩ (.slice Ao47 t199.length co47)).setCell ⟨gb175,0,none⟩ (.int .u64 t186)).setCell ⟨gb175,1,none⟩ (.int .u64 t187)).setCell ⟨gb175,2,none⟩ (.slice Ao37 t188.length co37)).setCell ⟨gb181,0,none⟩ (.int .u64 t197)).setCell ⟨gb181,1,none⟩ (.int .u64 t198)).setCell ⟨gb181,2,none⟩ (.slice Ao47 t199.length co47)) w.heap.size (fun k_ => some k_ ≠ (.slice Ao30 x176002_2.length co30 : Value).ownBlock) (.slice Ao37 t188.length co37) t188):=⟨by (with_reducible repeat (first|apply ra_|apply rn_|apply rd_));exact Kd.R_mono (Kd.R_far (p:=⟨gb181,2,none⟩) (Kd.R_far (p:=⟨gb181,1,none⟩) (Kd.R_far (p:=⟨gb181,0,none⟩) (Kd.R_far (p:=⟨gb175,2,none⟩) (Kd.R_far (p:=⟨gb175,1,none⟩) (Kd.R_far (p:=⟨gb175,0,none⟩) (Kd.R_far (p:=⟨gb203,2,none⟩) (Kd.R_far (p:=⟨gb203,1,none⟩) (Kd.R_far (p:=⟨gb203,0,none⟩) (Kd.R_types (Kd.R_types (Kd.R_types HO190.out BK203.out (by decide)) BK175.out (by decide)) BK181.out (by decide)) (fun _ hk => hk.1.1.2) (.int .u64 t197)) (fun _ hk => hk.1.1.2) (.int .u64 t198)) (fun _ hk => hk.1.1.2) (.slice Ao47 t199.length co47)) (fun _ hk => hk.1.2) (.int .u64 t186)) (fun _ hk => hk.1.2) (.int .u64 t187)) (fun _ hk => hk.1.2) (.slice Ao37 t188.length co37)) (fun _ hk => hk.2) (.int .u64 t197)) (fun _ hk => hk.2) (.int .u64 t198)) (fun _ hk => hk.2) (.slice Ao47 t199.length co47)) (fun _ hk => hk.1.1.1)⟩
           have n3_ : Aside0 (Kd.R k74 74 (((((((((w44.setCell ⟨gb203,0,none⟩ (.int .u64 t197)).setCell ⟨gb203,1,none⟩ (.int .u64 t198)).setCell ⟨gb203,2,none⟩ (.slice Ao47 t199.length co47)).setCell ⟨gb175,0,none⟩ (.int .u64 t186)).setCell ⟨gb175,1,none⟩ (.int .u64 t187)).setCell ⟨gb175,2,none⟩ (.slice Ao37 t188.length co37)).setCell ⟨gb181,0,none⟩ (.int .u64 t197)).setCell ⟨gb181,1,none⟩ (.int .u64 t198)).setCell ⟨gb181,2,none⟩ (.slice Ao47 t199.length co47)) w.heap.size (fun k_ => some k_ ≠ (.slice Ao39 x182002_2.length co39 : Value).ownBlock) (.slice Ao47 t199.length co47) t199):=⟨by (with_reducible repeat (first|apply ra_|apply rn_|apply rd_));exact Kd.R_mono (Kd.R_far (p:=⟨gb181,2,none⟩) (Kd.R_far (p:=⟨gb181,1,none⟩) (Kd.R_far (p:=⟨gb181,0,none⟩) (Kd.R_far (p:=⟨gb175,2,none⟩) (Kd.R_far (p:=⟨gb175,1,none⟩) (Kd.R_far (p:=⟨gb175,0,none⟩) (Kd.R_far (p:=⟨gb203,2,none⟩) (Kd.R_far (p:=⟨gb203,1,none⟩) (Kd.R_far (p:=⟨gb203,0,none⟩) (Kd.R_types (Kd.R_types (Kd.R_types HO201.out BK203.out (by decide)) BK175.out (by decide)) BK181.out (by decide)) (fun _ hk => hk.1.1.2) (.int .u64 t197)) (fun _ hk => hk.1.1.2) (.int .u64 t198)) (fun _ hk => hk.1.1.2) (.slice Ao47 t199.length co47)) (fun _ hk => hk.1.2) (.int .u64 t186)) (fun _ hk => hk.1.2) (.int .u64 t187)) (fun _ hk => hk.1.2) (.slice Ao37 t188.length co37)) (fun _ hk => hk.2) (.int .u64 t197)) (fun _ hk => hk.2) (.int .u64 t198)) (fun _ hk => hk.2) (.slice Ao47 t199.length co47)) (fun _ hk => hk.1.1.1)⟩
           have n4_ : Aside0 ((((((((((w44.setCell ⟨gb203,0,none⟩ (.int .u64 t197)).setCell ⟨gb203,1,none⟩ (.int .u64 t198)).setCell ⟨gb203,2,none⟩ (.slice Ao47 t199.length co47)).setCell ⟨gb175,0,none⟩ (.int .u64 t186)).setCell ⟨gb175,1,none⟩ (.int .u64 t187)).setCell ⟨gb175,2,none⟩ (.slice Ao37 t188.length co37)).setCell ⟨gb181,0,none⟩ (.int .u64 t197)).setCell ⟨gb181,1,none⟩ (.int .u64 t198)).setCell ⟨gb181,2,none⟩ (.slice Ao47 t199.length co47)).heap[gb175]? = some (.cells #[.int .u64 t186,.int .u64 t187,.slice Ao37 t188.length co37] 31 (0,0))):=⟨by (with_reducible repeat (first|refine kn_ ?_ _|refine kd_ ?_|refine ka_ ?_ _));refine blk_far ?_ NB175_181.out _;(with_reducible repeat (first|refine kn_ ?_ _|refine kd_ ?_|refine ka_ ?_ _));refine blk_far ?_ NB175_181.out _;(with_reducible repeat (first|refine kn_ ?_ _|refine kd_ ?_|refine ka_ ?_ _));refine blk_far ?_ NB175_181.out _;(with_reducible repeat (first|refine kn_ ?_ _|refine kd_ ?_|refine ka_ ?_ _));refine blk_put (cs:=#[.int .u64 t186,.int .u64 t187,.slice Ao30 x176002_2.length co30]) ?_ 2 _ rfl;(with_reducible repeat (first|refine kn_ ?_ _|refine kd_ ?_|refine ka_ ?_ _));refine blk_put (cs:=#[.int .u64 t186,.int .u64 x176001_2,.slice Ao30 x176002_2.length co30]) ?_ 1 _ rfl;(with_reducible repeat (first|refine kn_ ?_ _|refine kd_ ?_|refine ka_ ?_ _));refine blk_put (cs:=#[.int .u64 x176000_2,.int .u64 x176001_2,.slice Ao30 x176002_2.length co30]) ?_ 0 _ rfl;(with_reducible repeat (first|refine kn_ ?_ _|refine kd_ ?_|refine ka_ ?_ _));refine blk_far ?_ NB175_203.out _;(with_reducible repeat (first|refine kn_ ?_ _|refine kd_ ?_|refine ka_ ?_ _));refine blk_far ?_ NB175_203.out _;(with_reducible repeat (first|refine kn_ ?_ _|refine kd_ ?_|refine ka_ ?_ _));refine blk_far ?_ NB175_203.out _;(with_reducible repeat (first|refine kn_ ?_ _|refine kd_ ?_|refine ka_ ?_ _));exact BK175.out⟩
           have n5_ : Aside0 ((((((((((w44.setCell ⟨gb203,0,none⟩ (.int .u64 t197)).setCell ⟨gb203,1,none⟩ (.int .u64 t198)).setCell ⟨gb203,2,none⟩ (.slice Ao47 t199.length co47)).setCell ⟨gb175,0,none⟩ (.int .u64 t186)).setCell ⟨gb175,1,none⟩ (.int .u64 t187)).setCell ⟨gb175,2,none⟩ (.slice Ao37 t188.length co37)).setCell ⟨gb181,0,none⟩ (.int .u64 t197)).setCell ⟨gb181,1,none⟩ (.int .u64 t198)).setCell ⟨gb181,2,none⟩ (.slice Ao47 t199.length co47)).heap[gb181]? = some (.cells #[.int .u64 t197,.int .u64 t198,.slice Ao47 t199.length co47] 35 (0,0))):=⟨by (with_reducible repeat (first|refine kn_ ?_ _|refine kd_ ?_|refine ka_ ?_ _));refine blk_put (cs:=#[.int .u64 t197,.int .u64 t198,.slice Ao39 x182002_2.length co39]) ?_ 2 _ rfl;(with_reducible repeat (first|refine kn_ ?_ _|refine kd_ ?_|refine ka_ ?_ _));refine blk_put (cs:=#[.int .u64 t197,.int .u64 x182001_2,.slice Ao39 x182002_2.length co39]) ?_ 1 _ rfl;(with_reducible repeat (first|refine kn_ ?_ _|refine kd_ ?_|refine ka_ ?_ _));refine blk_put (cs:=#[.int .u64 x182000_2,.int .u64 x182001_2,.slice Ao39 x182002_2.length co39]) ?_ 0 _ rfl;(with_reducible repeat (first|refine kn_ ?_ _|refine kd_ ?_|refine ka_ ?_ _));refine blk_far ?_ NB181_175.out _;(with_reducible repeat (first|refine kn_ ?_ _|refine kd_ ?_|refine ka_ ?_ _));refine blk_far ?_ NB181_175.out _;(with_reducible repeat (first|refine kn_ ?_ _|refine kd_ ?_|refine ka_ ?_ _));refine blk_far ?_ NB181_175.out _;(with_reducible repeat (first|refine kn_ ?_ _|refine kd_ ?_|refine ka_ ?_ _));refine blk_far ?_ NB181_203.out _;(with_reducible repeat (first|refine kn_ ?_ _|refine kd_ ?_|refine ka_ ?_ _));refine blk_far ?_ NB181_203.out _;(with_reducible repeat (first|refine kn_ ?_ _|refine kd_ ?_|refine ka_ ?_ _));refine blk_far ?_ NB181_203.out _;(with_reducible repeat (first|refine kn_ ?_ _|refine kd_ ?_|refine ka_ ?_ _));exact BK181.out⟩
           have n6_ : Aside0 ((((((((((w44.setCell ⟨gb203,0,none⟩ (.int .u64 t197)).setCell ⟨gb203,1,none⟩ (.int .u64 t198)).setCell ⟨gb203,2,none⟩ (.slice Ao47 t199.length co47)).setCell ⟨gb175,0,none⟩ (.int .u64 t186)).setCell ⟨gb175,1,none⟩ (.int .u64 t187)).setCell ⟨gb175,2,none⟩ (.slice Ao37 t188.length co37)).setCell ⟨gb181,0,none⟩ (.int .u64 t197)).setCell ⟨gb181,1,none⟩ (.int .u64 t198)).setCell ⟨gb181,2,none⟩ (.slice Ao47 t199.length co47)).heap[gb192]? = some (.cells #[.int .u64 t186,.int .u64 t187,.slice Ao37 t188.length co37] 31 (0,0))):=⟨by (with_reducible repeat (first|refine kn_ ?_ _|refine kd_ ?_|refine ka_ ?_ _));refine blk_far ?_ NB192_181.out _;(with_reducible repeat (first|refine kn_ ?_ _|refine kd_ ?_|refine ka_ ?_ _));refine blk_far ?_ NB192_181.out _;(with_reducible repeat (first|refine kn_ ?_ _|refine kd_ ?_|refine ka_ ?_ _));refine blk_far ?_ NB192_181.out _;(with_reducible repeat (first|refine kn_ ?_ _|refine kd_ ?_|refine ka_ ?_ _));refine blk_far ?_ NB192_175.out _;(with_reducible repeat (first|refine kn_ ?_ _|refine kd_ ?_|refine ka_ ?_ _));refine blk_far ?_ NB192_175.out _;(with_reducible repeat (first|refine kn_ ?_ _|refine kd_ ?_|refine ka_ ?_ _));refine blk_far ?_ NB192_175.out _;(with_reducible repeat (first|refine kn_ ?_ _|refine kd_ ?_|refine ka_ ?_ _));refine blk_far ?_ NB192_203.out _;(with_reducible repeat (first|refine kn_ ?_ _|refine kd_ ?_|refine ka_ ?_ _));refine blk_far ?_ NB192_203.out _;(with_reducible repeat (first|refine kn_ ?_ _|refine kd_ ?_|refine ka_ ?_ _));refine blk_far ?_ NB192_203.out _;(with_reducible repeat (first|refine kn_ ?_ _|refine kd_ ?_|refine ka_ ?_ _));exact BK192.out⟩
           have n7_ : Aside0 ((((((((((w44.setCell ⟨gb203,0,none⟩ (.int .u64 t197)).setCell ⟨gb203,1,none⟩ (.int .u64 t198)).setCell ⟨gb203,2,none⟩ (.slice Ao47 t199.length co47)).setCell ⟨gb175,0,none⟩ (.int .u64 t186)).setCell ⟨gb175,1,none⟩ (.int .u64 t187)).setCell ⟨gb175,2,none⟩ (.slice Ao37 t188.length co37)).setCell ⟨gb181,0,none⟩ (.int .u64 t197)).setCell ⟨gb181,1,none⟩ (.int .u64 t198)).setCell ⟨gb181,2,none⟩ (.slice Ao47 t199.length co47)).heap[gb203]? = some (.cells #[.int .u64 t197,.int .u64 t198,.slice Ao47 t199.length co47] 35 (0,0))):=⟨by (with_reducible repeat (first|refine kn_ ?_ _|refine kd_ ?_|refine ka_ ?_ _));refine blk_far ?_ NB203_181.out _;(with_reducible repeat (first|refine kn_ ?_ _|refine kd_ ?_|refine ka_ ?_ _));refine blk_far ?_ NB203_181.out _;(with_reducible repeat (first|refine kn_ ?_ _|refine kd_ ?_|refine ka_ ?_ _));refine blk_far ?_ NB203_181.out _;(with_reducible repeat (first|refine kn_ ?_ _|refine kd_ ?_|refine ka_ ?_ _));refine blk_far ?_ NB203_175.out _;(with_reducible repeat (first|refine kn_ ?_ _|refine kd_ ?_|refine ka_ ?_ _));refine blk_far ?_ NB203_175.out _;(with_reducible repeat (first|refine kn_ ?_ _|refine kd_ ?_|refine ka_ ?_ _));refine blk_far ?_ NB203_175.out _;(with_reducible repeat (first|refine kn_ ?_ _|refine kd_ ?_|refine ka_ ?_ _));refine blk_put (cs:=#[.int .u64 t197,.int .u64 t198,.slice none 0 0]) ?_ 2 _ rfl;(with_reducible repeat (first|refine kn_ ?_ _|refine kd_ ?_|refine ka_ ?_ _));refine blk_put (cs:=#[.int .u64 t197,.int .u64 0,.slice none 0 0]) ?_ 1 _ rfl;(with_reducible repeat (first|refine kn_ ?_ _|refine kd_ ?_|refine ka_ ?_ _));refine blk_put (cs:=#[.int .u64 0,.int .u64 0,.slice none 0 0]) ?_ 0 _ rfl;(with_reducible repeat (first|refine kn_ ?_ _|refine kd_ ?_|refine ka_ ?_ _));exact BK203.out⟩
           have n8_ : Aside0 (Below w.heap.size w (((((((((w44.setCell ⟨gb203,0,none⟩ (.int .u64 t197)).setCell ⟨gb203,1,none⟩ (.int .u64 t198)).setCell ⟨gb203,2,none⟩ (.slice Ao47 t199.length co47)).setCell ⟨gb175,0,none⟩ (.int .u64 t186)).setCell ⟨gb175,1,none⟩ (.int .u64 t187)).setCell ⟨gb175,2,none⟩ (.slice Ao37 t188.length co37)).setCell ⟨gb181,0,none⟩ (.int .u64 t197)).setCell ⟨gb181,1,none⟩ (.int .u64 t198)).setCell ⟨gb181,2,none⟩ (.slice Ao47 t199.length co47))):=⟨by repeat (first|(with_reducible first|exact HB.out|apply ba_|apply pn_|apply pd_|refine bs_ ?_ GE175.out|refine bs_ ?_ GE181.out|refine bs_ ?_ GE192.out|refine bs_ ?_ GE203.out)|exact HB.out)⟩
           (try clear HO_176002)
           (try clear HO_182002)
           (try clear HO190)
           (try clear HO201)
           (try clear BK175)
           (try clear BK181)
           (try clear BK192)
           (try clear BK203)
           (try clear HB)
           generalize (((((((((w44.setCell ⟨gb203,0,none⟩ (.int .u64 t197)).setCell ⟨gb203,1,none⟩ (.int .u64 t198)).setCell ⟨gb203,2,none⟩ (.slice Ao47 t199.length co47)).setCell ⟨gb175,0,none⟩ (.int .u64 t186)).setCell ⟨gb175,1,none⟩ (.int .u64 t187)).setCell ⟨gb175,2,none⟩ (.slice Ao37 t188.length co37)).setCell ⟨gb181,0,none⟩ (.int .u64 t197)).setCell ⟨gb181,1,none⟩ (.int .u64 t198)).setCell ⟨gb181,2,none⟩ (.slice Ao47 t199.length co47)) = w70 at n0_ n1_ n2_ n3_ n4_ n5_ n6_ n7_ n8_ ⊢
           have HO_176002:=n0_
           have HO_182002:=n1_
           have HO190:=n2_
           have HO201:=n3_
           have BK175:=n4_
           have BK181:=n5_
           have BK192:=n6_
           have BK203:=n7_
           have HB:=n8_
           clear n0_ n1_ n2_ n3_ n4_ n5_ n6_ n7_ n8_
           have n0_:=am_ (rd_ HO_176002.out)
           have n1_:=am_ (rd_ HO_182002.out)
           have n2_:=am_ (rd_ HO190.out)
           have n3_:=am_ (rd_ HO201.out)
           have n4_:=am_ (kd_ BK175.out)
           have n5_:=am_ (kd_ BK181.out)
           have n6_:=am_ (kd_ BK192.out)
           have n7_:=am_ (kd_ BK203.out)
           have n8_:=am_ (pd_ HB.out)
           clear HO_176002
           clear HO_182002
           clear HO190
           clear HO201
           clear BK175
           clear BK181
           clear BK192
           clear BK203
           clear HB
           have HO_176002:=n0_
           have HO_182002:=n1_
           have HO190:=n2_
           have HO201:=n3_
           have BK175:=n4_
           have BK181:=n5_
           have BK192:=n6_
           have BK203:=n7_
           have HB:=n8_
           clear n0_ n1_ n2_ n3_ n4_ n5_ n6_ n7_ n8_
           refine start_ (n:=17) (S:=fun w' => w'.cell? ⟨gb175,0,none⟩ = some (.int .u64 t186) ∧ w'.cell? ⟨gb175,1,none⟩ = some (.int .u64 t187) ∧ w'.cell? ⟨gb175,2,none⟩ = some (.slice Ao37 t188.length co37) ∧ w'.cell? ⟨gb181,0,none⟩ = some (.int .u64 t197) ∧ w'.cell? ⟨gb181,1,none⟩ = some (.int .u64 t198) ∧ w'.cell? ⟨gb181,2,none⟩ = some (.slice Ao47 t199.length co47)) (ds:=[]) #[F_,F_,F_,F_,F_,F_,F_,F_,F_,F_,F_,F_,F_,F_,F_,F_,F_] (by kernel_rfl) rfl rfl ⟨(kc_ BK175.out 0).trans rfl,(kc_ BK175.out 1).trans rfl,(kc_ BK175.out 2).trans rfl,(kc_ BK181.out 0).trans rfl,(kc_ BK181.out 1).trans rfl,(kc_ BK181.out 2).trans rfl⟩ (fun hHeld => ?_);refine with_tabW dominolaw10_IdealSeals.tab12 dominolaw10_IdealSeals.bits12 (fun HT_ HW_ => ?_)
           generalize w70.drew = w71 at HO_176002 HO_182002 HO190 HO201 BK175 BK181 BK192 BK203 HB hHeld ⊢
           refine pure_ (i:=0) (N:=some 103) (v:=?_) (a':=?_) #[T_,F_,F_,F_,F_,F_,F_,F_,F_,F_,F_,F_,F_,F_,F_,F_,F_] rfl rfl (any_of HT_.out (by kernel_rfl)) (fun _ _ _ h => h) (Or.inl ⟨by rfl,?_⟩) ?_ ?_
           rotate_left;(intro w';go_simp;with_reducible rfl);rotate_left;(simp only [Act.put,ps_,i64_w,i32_w];rfl)
           refine pure_ (i:=1) (N:=some 104) (v:=?_) (a':=?_) #[T_,T_,F_,F_,F_,F_,F_,F_,F_,F_,F_,F_,F_,F_,F_,F_,F_] rfl rfl (any_of HT_.out (by kernel_rfl)) (fun _ _ _ h => h) (Or.inl ⟨by rfl,?_⟩) ?_ ?_
           rotate_left;(intro w';go_simp;with_reducible rfl);rotate_left;(simp only [Act.put,ps_,i64_w,i32_w];rfl)
           refine pure_ (i:=2) (N:=some 105) (v:=?_) (a':=?_) #[T_,T_,T_,F_,F_,F_,F_,F_,F_,F_,F_,F_,F_,F_,F_,F_,F_] rfl rfl (any_of HT_.out (by kernel_rfl)) (fun _ _ _ h => h) (Or.inl ⟨by rfl,?_⟩) ?_ ?_
           rotate_left;(intro w';go_simp;with_reducible rfl);rotate_left;(simp only [Act.put,ps_,i64_w,i32_w];rfl)
           refine pure_ (i:=3) (N:=some 106) (v:=?_) (a':=?_) #[T_,T_,T_,T_,F_,F_,F_,F_,F_,F_,F_,F_,F_,F_,F_,F_,F_] rfl rfl (any_of HT_.out (by kernel_rfl)) (fun _ _ _ h => h) (Or.inl ⟨by rfl,?_⟩) ?_ ?_
           rotate_left;(intro w';go_simp;with_reducible rfl);rotate_left;(simp only [Act.put,ps_,i64_w,i32_w];rfl)
           refine take_ (i:=4) (N:=some 107) (v:=?_) (a':=?_) #[T_,T_,T_,T_,T_,F_,F_,F_,F_,F_,F_,F_,F_,F_,F_,F_,F_] rfl rfl (take_ofW HT_.out HW_.out (by kernel_rfl)) (fun _ _ _ h => h) (Or.inl ⟨by rfl,?_⟩) hHeld ?_ ?_
           rotate_left
           ·rintro w' ⟨s0,s1,s2,s3,s4,s5⟩
            go_simp
            with_reducible rfl
           rotate_left
           ·simp only [Act.put,ps_,i64_w,i32_w]
            rfl
           refine take_ (i:=6) (N:=some 109) (v:=?_) (a':=?_) #[T_,T_,T_,T_,T_,F_,T_,F_,F_,F_,F_,F_,F_,F_,F_,F_,F_] rfl rfl (take_ofW HT_.out HW_.out (by kernel_rfl)) (fun _ _ _ h => h) (Or.inl ⟨by rfl,?_⟩) hHeld ?_ ?_
           rotate_left
           ·rintro w' ⟨s0,s1,s2,s3,s4,s5⟩
            go_simp
            with_reducible rfl
           rotate_left
           ·simp only [Act.put,ps_,i64_w,i32_w]
            rfl
           refine one_ (i:=5) (N:=some 108) #[T_,T_,T_,T_,T_,T_,T_,F_,F_,F_,F_,F_,F_,F_,F_,F_,F_] rfl rfl (one_of HT_.out (by kernel_rfl)) (by decide) (fun K hK => ?_)
           refine goes_ Try.func20 (by kernel_rfl) rfl #[.agg #[.int .u64 t186,.int .u64 t187,.slice Ao37 t188.length co37]] (by rfl) rfl rfl (by (try simp only [List.map_toArray,List.map_cons,List.map_nil]);first|done|rfl|(simp only [List.length_drop,List.length_take];rfl)) ?_
           with_reducible refine (dominolaw10_its.calls k2 t186 t187 _ _ t188 t204 t205 t206 _ ?side1 ?side2 A60.out).mono ?_
           (case side1 => repeat (first|exact (Kd.R_reads' HO190.out).2.2|(with_reducible refine Kd.C_alloc ?_ _)|(with_reducible refine Kd.C_drewN ?_ _)|(with_reducible refine Kd.C_drew ?_)))
           (case side2 => exact (Kd.R_reads' HO190.out).2.1)
           rintro e w72 ⟨v207,rfl,ho0,hb⟩
           refine ⟨_,rfl,?_⟩
           have n0_:=am_ (Kd.R_below (by (with_reducible repeat (first|apply ra_|apply rn_|apply rd_));exact HO_176002.out) hb)
           have n1_:=am_ (Kd.R_elder' (by (with_reducible repeat (first|apply ra_|apply rn_|apply rd_));exact HO_182002.out) (Kd.R_base ho0) hb)
           have n2_:=am_ (Kd.R_below (by (with_reducible repeat (first|apply ra_|apply rn_|apply rd_));exact HO190.out) hb)
           have n3_:=am_ (Kd.R_elder' (by (with_reducible repeat (first|apply ra_|apply rn_|apply rd_));exact HO201.out) (Kd.R_base ho0) hb)
           have n4_:=am_ (Kd.R_lower (Kd.R_new' (Kd.R_new' ho0 (Kd.R_lt (by (with_reducible repeat (first|apply ra_|apply rn_|apply rd_));exact HO_182002.out))) (Kd.R_lt (by (with_reducible repeat (first|apply ra_|apply rn_|apply rd_));exact HO201.out))) (below_size (by repeat (first|(with_reducible first|exact HB.out|apply ba_|apply pn_|apply pd_|refine bs_ ?_ GE175.out|refine bs_ ?_ GE181.out|refine bs_ ?_ GE192.out|refine bs_ ?_ GE203.out)|exact HB.out))))
           have n5_:=am_ (blk_below (g:=gb175) (o:=.cells #[.int .u64 t186,.int .u64 t187,.slice Ao37 t188.length co37] 31 (0,0)) (by (with_reducible repeat (first|refine kn_ ?_ _|refine kd_ ?_|refine ka_ ?_ _));exact BK175.out) hb)
           have n6_:=am_ (blk_below (g:=gb181) (o:=.cells #[.int .u64 t197,.int .u64 t198,.slice Ao47 t199.length co47] 35 (0,0)) (by (with_reducible repeat (first|refine kn_ ?_ _|refine kd_ ?_|refine ka_ ?_ _));exact BK181.out) hb)
           have n7_:=am_ (blk_below (g:=gb192) (o:=.cells #[.int .u64 t186,.int .u64 t187,.slice Ao37 t188.length co37] 31 (0,0)) (by (with_reducible repeat (first|refine kn_ ?_ _|refine kd_ ?_|refine ka_ ?_ _));exact BK192.out) hb)
           have n8_:=am_ (blk_below (g:=gb203) (o:=.cells #[.int .u64 t197,.int .u64 t198,.slice Ao47 t199.length co47] 35 (0,0)) (by (with_reducible repeat (first|refine kn_ ?_ _|refine kd_ ?_|refine ka_ ?_ _));exact BK203.out) hb)
           have n9_:=am_ (below_step (by repeat (first|(with_reducible first|exact HB.out|apply ba_|apply pn_|apply pd_|refine bs_ ?_ GE175.out|refine bs_ ?_ GE181.out|refine bs_ ?_ GE192.out|refine bs_ ?_ GE203.out)|exact HB.out)) hb)
           clear HO_176002
           clear HO_182002
           clear HO190
           clear HO201
           clear BK175
           clear BK181
           clear BK192
           clear BK203
           clear HB
           have HO_176002:=n0_
           have HO_182002:=n1_
           have HO190:=n2_
           have HO201:=n3_
           have HO208:=n4_
           have BK175:=n5_
           have BK181:=n6_
           have BK192:=n7_
           have BK203:=n8_
           have HB:=n9_
           clear n0_ n1_ n2_ n3_ n4_ n5_ n6_ n7_ n8_ n9_
           (try clear hb)
           (try clear hb2)
           (try clear hk)
           (try clear hi)
           (try clear ho0)
           obtain ⟨Ao73,co73,eo73⟩:=Kd.R_slice HO208.out
           (first|subst eo73|(injection eo73 with f1_ f2_ f3_;have f4_:=f1_.symm;have f5_:=f3_.symm;clear f1_ f2_ f3_;subst f4_;subst f5_))
           refine hK.out _ _ ⟨(kc_ BK175.out 0).trans rfl,(kc_ BK175.out 1).trans rfl,(kc_ BK175.out 2).trans rfl,(kc_ BK181.out 0).trans rfl,(kc_ BK181.out 1).trans rfl,(kc_ BK181.out 2).trans rfl⟩ (fun hHeld => ?_)
           clear hK K
           refine norm_ (a':=?_) ?_ ?_
           rotate_left
           ·show Act.put _ (some 108) _ = _
            simp only [Act.put,ps_,i64_w,i32_w]
            rfl
           refine one_ (i:=7) (N:=some 110) #[T_,T_,T_,T_,T_,T_,T_,T_,F_,F_,F_,F_,F_,F_,F_,F_,F_] rfl rfl (one_of HT_.out (by kernel_rfl)) (by decide) (fun K hK => ?_)
           refine goes_ Try.func19 (by kernel_rfl) rfl #[.agg #[.int .u64 t204,.int .u64 t205,.slice Ao73 t206.length co73],.agg #[.int .u64 t197,.int .u64 t198,.slice Ao47 t199.length co47]] (by rfl) rfl rfl (by (try simp only [List.map_toArray,List.map_cons,List.map_nil]);first|done|rfl|(simp only [List.length_drop,List.length_take];rfl)) ?_
           with_reducible refine (dominoref10_Same.calls k2 t204 t205 _ _ t206 t197 t198 _ _ t199 false _ ?side1 ?side2 ?side3 ?side4 A61.out).mono ?_
           (case side1 => repeat (first|exact (Kd.R_reads' HO208.out).2.2|(with_reducible refine Kd.C_alloc ?_ _)|(with_reducible refine Kd.C_drewN ?_ _)|(with_reducible refine Kd.C_drew ?_)))
           (case side2 => exact (Kd.R_reads' HO208.out).2.1)
           (case side3 => repeat (first|exact (Kd.R_reads' HO201.out).2.2|(with_reducible refine Kd.C_alloc ?_ _)|(with_reducible refine Kd.C_drewN ?_ _)|(with_reducible refine Kd.C_drew ?_)))
           (case side4 => exact (Kd.R_reads' HO201.out).2.1)
           rintro e w74 ⟨rfl,hb⟩
           refine ⟨_,rfl,?_⟩
           have n0_:=am_ (Kd.R_below (by (with_reducible repeat (first|apply ra_|apply rn_|apply rd_));exact HO_176002.out) hb)
           have n1_:=am_ (Kd.R_below (by (with_reducible repeat (first|apply ra_|apply rn_|apply rd_));exact HO_182002.out) hb)
           have n2_:=am_ (Kd.R_below (by (with_reducible repeat (first|apply ra_|apply rn_|apply rd_));exact HO190.out) hb)
           have n3_:=am_ (Kd.R_below (by (with_reducible repeat (first|apply ra_|apply rn_|apply rd_));exact HO201.out) hb)
           have n4_:=am_ (Kd.R_below (by (with_reducible repeat (first|apply ra_|apply rn_|apply rd_));exact HO208.out) hb)
           have n5_:=am_ (blk_below (g:=gb175) (o:=.cells #[.int .u64 t186,.int .u64 t187,.slice Ao37 t188.length co37] 31 (0,0)) (by (with_reducible repeat (first|refine kn_ ?_ _|refine kd_ ?_|refine ka_ ?_ _));exact BK175.out) hb)
           have n6_:=am_ (blk_below (g:=gb181) (o:=.cells #[.int .u64 t197,.int .u64 t198,.slice Ao47 t199.length co47] 35 (0,0)) (by (with_reducible repeat (first|refine kn_ ?_ _|refine kd_ ?_|refine ka_ ?_ _));exact BK181.out) hb)
           have n7_:=am_ (blk_below (g:=gb192) (o:=.cells #[.int .u64 t186,.int .u64 t187,.slice Ao37 t188.length co37] 31 (0,0)) (by (with_reducible repeat (first|refine kn_ ?_ _|refine kd_ ?_|refine ka_ ?_ _));exact BK192.out) hb)
           have n8_:=am_ (blk_below (g:=gb203) (o:=.cells #[.int .u64 t197,.int .u64 t198,.slice Ao47 t199.length co47] 35 (0,0)) (by (with_reducible repeat (first|refine kn_ ?_ _|refine kd_ ?_|refine ka_ ?_ _));exact BK203.out) hb)
           have n9_:=am_ (below_step (by repeat (first|(with_reducible first|exact HB.out|apply ba_|apply pn_|apply pd_|refine bs_ ?_ GE175.out|refine bs_ ?_ GE181.out|refine bs_ ?_ GE192.out|refine bs_ ?_ GE203.out)|exact HB.out)) hb)
           clear HO_176002
           clear HO_182002
           clear HO190
           clear HO201
           clear HO208
           clear BK175
           clear BK181
           clear BK192
           clear BK203
           clear HB
           have HO_176002:=n0_
           have HO_182002:=n1_
           have HO190:=n2_
           have HO201:=n3_
           have HO208:=n4_
           have BK175:=n5_
           have BK181:=n6_
           have BK192:=n7_
           have BK203:=n8_
           have HB:=n9_
           clear n0_ n1_ n2_ n3_ n4_ n5_ n6_ n7_ n8_ n9_
           (try clear hb)
           (try clear hb2)
           (try clear hk)
           (try clear hi)
           refine hK.out _ _ ⟨(kc_ BK175.out 0).trans rfl,(kc_ BK175.out 1).trans rfl,(kc_ BK175.out 2).trans rfl,(kc_ BK181.out 0).trans rfl,(kc_ BK181.out 1).trans rfl,(kc_ BK181.out 2).trans rfl⟩ (fun hHeld => ?_)
           clear hK K
           refine norm_ (a':=?_) ?_ ?_
           rotate_left
           ·show Act.put _ (some 110) _ = _
            simp only [Act.put,ps_,i64_w,i32_w]
            rfl
           refine pure_ (i:=8) (N:=some 111) (v:=?_) (a':=?_) #[T_,T_,T_,T_,T_,T_,T_,T_,T_,F_,F_,F_,F_,F_,F_,F_,F_] rfl rfl (any_of HT_.out (by kernel_rfl)) (fun _ _ _ h => h) (Or.inl ⟨by rfl,?_⟩) ?_ ?_
           rotate_left;(intro w';go_simp;with_reducible rfl);rotate_left;(simp only [Act.put,ps_,i64_w,i32_w];rfl)
           refine pure_ (i:=9) (N:=some 112) (v:=?_) (a':=?_) #[T_,T_,T_,T_,T_,T_,T_,T_,T_,T_,F_,F_,F_,F_,F_,F_,F_] rfl rfl (any_of HT_.out (by kernel_rfl)) (fun _ _ _ h => h) (Or.inl ⟨by rfl,?_⟩) ?_ ?_
           rotate_left;(intro w';go_simp;with_reducible rfl);rotate_left;(simp only [Act.put,ps_,i64_w,i32_w];rfl)
           refine pure_ (i:=10) (N:=some 113) (v:=?_) (a':=?_) #[T_,T_,T_,T_,T_,T_,T_,T_,T_,T_,T_,F_,F_,F_,F_,F_,F_] rfl rfl (any_of HT_.out (by kernel_rfl)) (fun _ _ _ h => h) (Or.inl ⟨by rfl,?_⟩) ?_ ?_
           rotate_left;(intro w';go_simp;with_reducible rfl);rotate_left;(simp only [Act.put,ps_,i64_w,i32_w];rfl)
           refine pure_ (i:=11) (N:=some 114) (v:=undef) (a':=?_) #[T_,T_,T_,T_,T_,T_,T_,T_,T_,T_,T_,T_,F_,F_,F_,F_,F_] rfl rfl (any_of HT_.out (by kernel_rfl)) (fun _ _ _ h => h) (Or.inr ⟨by rfl,rfl⟩) ?_ ?_
           rotate_left
           ·simp only [Act.put,ps_,i64_w,i32_w]
            rfl
           refine pure_ (i:=12) (N:=some 115) (v:=undef) (a':=?_) #[T_,T_,T_,T_,T_,T_,T_,T_,T_,T_,T_,T_,T_,F_,F_,F_,F_] rfl rfl (any_of HT_.out (by kernel_rfl)) (fun _ _ _ h => h) (Or.inr ⟨by rfl,rfl⟩) ?_ ?_
           rotate_left
           ·simp only [Act.put,ps_,i64_w,i32_w]
            rfl
           refine pure_ (i:=13) (N:=some 116) (v:=undef) (a':=?_) #[T_,T_,T_,T_,T_,T_,T_,T_,T_,T_,T_,T_,T_,T_,F_,F_,F_] rfl rfl (any_of HT_.out (by kernel_rfl)) (fun _ _ _ h => h) (Or.inr ⟨by rfl,rfl⟩) ?_ ?_
           rotate_left
           ·simp only [Act.put,ps_,i64_w,i32_w]
            rfl
           refine pure_ (i:=14) (N:=some 117) (v:=undef) (a':=?_) #[T_,T_,T_,T_,T_,T_,T_,T_,T_,T_,T_,T_,T_,T_,T_,F_,F_] rfl rfl (any_of HT_.out (by kernel_rfl)) (fun _ _ _ h => h) (Or.inr ⟨by rfl,rfl⟩) ?_ ?_
           rotate_left
           ·simp only [Act.put,ps_,i64_w,i32_w]
            rfl
           refine pure_ (i:=15) (N:=some 118) (v:=undef) (a':=?_) #[T_,T_,T_,T_,T_,T_,T_,T_,T_,T_,T_,T_,T_,T_,T_,T_,F_] rfl rfl (any_of HT_.out (by kernel_rfl)) (fun _ _ _ h => h) (Or.inr ⟨by rfl,rfl⟩) ?_ ?_
           rotate_left
           ·simp only [Act.put,ps_,i64_w,i32_w]
            rfl
           refine pure_ (i:=16) (N:=some 119) (v:=?_) (a':=?_) #[T_,T_,T_,T_,T_,T_,T_,T_,T_,T_,T_,T_,T_,T_,T_,T_,T_] rfl rfl (any_of HT_.out (by kernel_rfl)) (fun _ _ _ h => h) (Or.inl ⟨by rfl,?_⟩) ?_ ?_
           rotate_left;(intro w';go_simp;with_reducible rfl);rotate_left;(simp only [Act.put,ps_,i64_w,i32_w];rfl)
           refine done_ (done_of HT_.out (by kernel_rfl)) ?_
           try go_wp2
           go_meet
           case rel => exact ⟨_,(true),(by first|rfl|(simp;done)|(simp [*];done)),H',⟨by have:=HJ4.out;have:=HK2.out;first|omega|exact Nat.le_refl _⟩,⟨by (with_reducible repeat (first|apply ra_|apply rn_|apply rd_));exact Kd.R_mono HO190.out (fun _ hk => trivial)⟩,⟨by (with_reducible repeat (first|apply ra_|apply rn_|apply rd_));exact Kd.R_mono HO201.out (fun _ hk => trivial)⟩,⟨by (with_reducible repeat (first|apply ra_|apply rn_|apply rd_));exact Kd.R_mono HO190.out (fun _ hk => trivial)⟩,⟨by (with_reducible repeat (first|apply ra_|apply rn_|apply rd_));exact Kd.R_mono HO201.out (fun _ hk => trivial)⟩,⟨by (with_reducible repeat (first|refine kn_ ?_ _|refine kd_ ?_|refine ka_ ?_ _));exact BK175.out⟩,⟨by (with_reducible repeat (first|refine kn_ ?_ _|refine kd_ ?_|refine ka_ ?_ _));exact BK181.out⟩,⟨by (with_reducible repeat (first|refine kn_ ?_ _|refine kd_ ?_|refine ka_ ?_ _));exact BK192.out⟩,⟨by (with_reducible repeat (first|refine kn_ ?_ _|refine kd_ ?_|refine ka_ ?_ _));exact BK203.out⟩,⟨by repeat (first|(with_reducible first|exact HB.out|apply ba_|apply pn_|apply pd_|refine bs_ ?_ GE175.out|refine bs_ ?_ GE181.out|refine bs_ ?_ GE192.out|refine bs_ ?_ GE203.out)|exact HB.out)⟩⟩
         ·rw [if_neg c59] at H
          have c59b0 : (t191.toList == t202.toList) = false:=beq_eq_false_iff_ne.mpr c59
          have c59b1 : (t191.toList != t202.toList) = true:=bne_iff_ne.mpr c59
          (first|rw [c59b0]|(simp only [i64_w,i32_w];rw [c59b0])|skip)
          have H':=am_ H
          clear H
          try go_wp2
          have n0_ : Aside0 (Kd.R k73 73 (((((((((w44.setCell ⟨gb203,0,none⟩ (.int .u64 t197)).setCell ⟨gb203,1,none⟩ (.int .u64 t198)).setCell ⟨gb203,2,none⟩ (.slice Ao47 t199.length co47)).setCell ⟨gb175,0,none⟩ (.int .u64 t186)).setCell ⟨gb175,1,none⟩ (.int .u64 t187)).setCell ⟨gb175,2,none⟩ (.slice Ao37 t188.length co37)).setCell ⟨gb181,0,none⟩ (.int .u64 t197)).setCell ⟨gb181,1,none⟩ (.int .u64 t198)).setCell ⟨gb181,2,none⟩ (.slice Ao47 t199.length co47)) w.heap.size (fun k_ => some k_ ≠ (.slice Ao37 t188.length co37 : Value).ownBlock) (.slice Ao30 x176002_2.length co30) x176002_2):=⟨by (with_reducible repeat (first|apply ra_|apply rn_|apply rd_));exact Kd.R_mono (Kd.R_far (p:=⟨gb181,2,none⟩) (Kd.R_far (p:=⟨gb181,1,none⟩) (Kd.R_far (p:=⟨gb181,0,none⟩) (Kd.R_far (p:=⟨gb175,2,none⟩) (Kd.R_far (p:=⟨gb175,1,none⟩) (Kd.R_far (p:=⟨gb175,0,none⟩) (Kd.R_far (p:=⟨gb203,2,none⟩) (Kd.R_far (p:=⟨gb203,1,none⟩) (Kd.R_far (p:=⟨gb203,0,none⟩) (Kd.R_types (Kd.R_types (Kd.R_types HO_176002.out BK203.out (by decide)) BK175.out (by decide)) BK181.out (by decide)) (fun _ hk => hk.1.1.2) (.int .u64 t197)) (fun _ hk => hk.1.1.2) (.int .u64 t198)) (fun _ hk => hk.1.1.2) (.slice Ao47 t199.length co47)) (fun _ hk => hk.1.2) (.int .u64 t186)) (fun _ hk => hk.1.2) (.int .u64 t187)) (fun _ hk => hk.1.2) (.slice Ao37 t188.length co37)) (fun _ hk => hk.2) (.int .u64 t197)) (fun _ hk => hk.2) (.int .u64 t198)) (fun _ hk => hk.2) (.slice Ao47 t199.length co47)) (fun _ hk => hk.1.1.1)⟩
          have n1_ : Aside0 (Kd.R k74 74 (((((((((w44.setCell ⟨gb203,0,none⟩ (.int .u64 t197)).setCell ⟨gb203,1,none⟩ (.int .u64 t198)).setCell ⟨gb203,2,none⟩ (.slice Ao47 t199.length co47)).setCell ⟨gb175,0,none⟩ (.int .u64 t186)).setCell ⟨gb175,1,none⟩ (.int .u64 t187)).setCell ⟨gb175,2,none⟩ (.slice Ao37 t188.length co37)).setCell ⟨gb181,0,none⟩ (.int .u64 t197)).setCell ⟨gb181,1,none⟩ (.int .u64 t198)).setCell ⟨gb181,2,none⟩ (.slice Ao47 t199.length co47)) w.heap.size (fun k_ => some k_ ≠ (.slice Ao47 t199.length co47 : Value).ownBlock) (.slice Ao39 x182002_2.length co39) x182002_2):=⟨by (with_reducible repeat (first|apply ra_|apply rn_|apply rd_));exact Kd.R_mono (Kd.R_far (p:=⟨gb181,2,none⟩) (Kd.R_far (p:=⟨gb181,1,none⟩) (Kd.R_far (p:=⟨gb181,0,none⟩) (Kd.R_far (p:=⟨gb175,2,none⟩) (Kd.R_far (p:=⟨gb175,1,none⟩) (Kd.R_far (p:=⟨gb175,0,none⟩) (Kd.R_far (p:=⟨gb203,2,none⟩) (Kd.R_far (p:=⟨gb203,1,none⟩) (Kd.R_far (p:=⟨gb203,0,none⟩) (Kd.R_types (Kd.R_types (Kd.R_types HO_182002.out BK203.out (by decide)) BK175.out (by decide)) BK181.out (by decide)) (fun _ hk => hk.1.1.2) (.int .u64 t197)) (fun _ hk => hk.1.1.2) (.int .u64 t198)) (fun _ hk => hk.1.1.2) (.slice Ao47 t199.length co47)) (fun _ hk => hk.1.2) (.int .u64 t186)) (fun _ hk => hk.1.2) (.int .u64 t187)) (fun _ hk => hk.1.2) (.slice Ao37 t188.length co37)) (fun _ hk => hk.2) (.int .u64 t197)) (fun _ hk => hk.2) (.int .u64 t198)) (fun _ hk => hk.2) (.slice Ao47 t199.length co47)) (fun _ hk => hk.1.1.1)⟩
          have n2_ : Aside0 (Kd.R k73 73 (((((((((w44.setCell ⟨gb203,0,none⟩ (.int .u64 t197)).setCell ⟨gb203,1,none⟩ (.int .u64 t198)).setCell ⟨gb203,2,none⟩ (.slice Ao47 t199.length co47)).setCell ⟨gb175,0,none⟩ (.int .u64 t186)).setCell ⟨gb175,1,none⟩ (.int .u64 t187)).setCell ⟨gb175,2,none⟩ (.slice Ao37 t188.length co37)).setCell ⟨gb181,0,none⟩ (.int .u64 t197)).setCell ⟨gb181,1,none⟩ (.int .u64 t198)).setCell ⟨gb181,2,none⟩ (.slice Ao47 t199.length co47)) w.heap.size (fun k_ => some k_ ≠ (.slice Ao30 x176002_2.length co30 : Value).ownBlock) (.slice Ao37 t188.length co37) t188):=⟨by (with_reducible repeat (first|apply ra_|apply rn_|apply rd_));exact Kd.R_mono (Kd.R_far (p:=⟨gb181,2,none⟩) (Kd.R_far (p:=⟨gb181,1,none⟩) (Kd.R_far (p:=⟨gb181,0,none⟩) (Kd.R_far (p:=⟨gb175,2,none⟩) (Kd.R_far (p:=⟨gb175,1,none⟩) (Kd.R_far (p:=⟨gb175,0,none⟩) (Kd.R_far (p:=⟨gb203,2,none⟩) (Kd.R_far (p:=⟨gb203,1,none⟩) (Kd.R_far (p:=⟨gb203,0,none⟩) (Kd.R_types (Kd.R_types (Kd.R_types HO190.out BK203.out (by decide)) BK175.out (by decide)) BK181.out (by decide)) (fun _ hk => hk.1.1.2) (.int .u64 t197)) (fun _ hk => hk.1.1.2) (.int .u64 t198)) (fun _ hk => hk.1.1.2) (.slice Ao47 t199.length co47)) (fun _ hk => hk.1.2) (.int .u64 t186)) (fun _ hk => hk.1.2) (.int .u64 t187)) (fun _ hk => hk.1.2) (.slice Ao37 t188.length co37)) (fun _ hk => hk.2) (.int .u64 t197)) (fun _ hk => hk.2) (.int .u64 t198)) (fun _ hk => hk.2) (.slice Ao47 t199.length co47)) (fun _ hk => hk.1.1.1)⟩
          have n3_ : Aside0 (Kd.R k74 74 (((((((((w44.setCell ⟨gb203,0,none⟩ (.int .u64 t197)).setCell ⟨gb203,1,none⟩ (.int .u64 t198)).setCell ⟨gb203,2,none⟩ (.slice Ao47 t199.length co47)).setCell ⟨gb175,0,none⟩ (.int .u64 t186)).setCell ⟨gb175,1,none⟩ (.int .u64 t187)).setCell ⟨gb175,2,none⟩ (.slice Ao37 t188.length co37)).setCell ⟨gb181,0,none⟩ (.int .u64 t197)).setCell ⟨gb181,1,none⟩ (.int .u64 t198)).setCell ⟨gb181,2,none⟩ (.slice Ao47 t199.length co47)) w.heap.size (fun k_ => some k_ ≠ (.slice Ao39 x182002_2.length co39 : Value).ownBlock) (.slice Ao47 t199.length co47) t199):=⟨by (with_reducible repeat (first|apply ra_|apply rn_|apply rd_));exact Kd.R_mono (Kd.R_far (p:=⟨gb181,2,none⟩) (Kd.R_far (p:=⟨gb181,1,none⟩) (Kd.R_far (p:=⟨gb181,0,none⟩) (Kd.R_far (p:=⟨gb175,2,none⟩) (Kd.R_far (p:=⟨gb175,1,none⟩) (Kd.R_far (p:=⟨gb175,0,none⟩) (Kd.R_far (p:=⟨gb203,2,none⟩) (Kd.R_far (p:=⟨gb203,1,none⟩) (Kd.R_far (p:=⟨gb203,0,none⟩) (Kd.R_types (Kd.R_types (Kd.R_types HO201.out BK203.out (by decide)) BK175.out (by decide)) BK181.out (by decide)) (fun _ hk => hk.1.1.2) (.int .u64 t197)) (fun _ hk => hk.1.1.2) (.int .u64 t198)) (fun _ hk => hk.1.1.2) (.slice Ao47 t199.length co47)) (fun _ hk => hk.1.2) (.int .u64 t186)) (fun _ hk => hk.1.2) (.int .u64 t187)) (fun _ hk => hk.1.2) (.slice Ao37 t188.length co37)) (fun _ hk => hk.2) (.int .u64 t197)) (fun _ hk => hk.2) (.int .u64 t198)) (fun _ hk => hk.2) (.slice Ao47 t199.length co47)) (fun _ hk => hk.1.1.1)⟩
          have n4_ : Aside0 ((((((((((w44.setCell ⟨gb203,0,none⟩ (.int .u64 t197)).setCell ⟨gb203,1,none⟩ (.int .u64 t198)).setCell ⟨gb203,2,none⟩ (.slice Ao47 t199.length co47)).setCell ⟨gb175,0,none⟩ (.int .u64 t186)).setCell ⟨gb175,1,none⟩ (.int .u64 t187)).setCell ⟨gb175,2,none⟩ (.slice Ao37 t188.length co37)).setCell ⟨gb181,0,none⟩ (.int .u64 t197)).setCell ⟨gb181,1,none⟩ (.int .u64 t198)).setCell ⟨gb181,2,none⟩ (.slice Ao47 t199.length co47)).heap[gb175]? = some (.cells #[.int .u64 t186,.int .u64 t187,.slice Ao37 t188.length co37] 31 (0,0))):=⟨by (with_reducible repeat (first|refine kn_ ?_ _|refine kd_ ?_|refine ka_ ?_ _));refine blk_far ?_ NB175_181.out _;(with_reducible repeat (first|refine kn_ ?_ _|refine kd_ ?_|refine ka_ ?_ _));refine blk_far ?_ NB175_181.out _;(with_reducible repeat (first|refine kn_ ?_ _|refine kd_ ?_|refine ka_ ?_ _));refine blk_far ?_ NB175_181.out _;(with_reducible repeat (first|refine kn_ ?_ _|refine kd_ ?_|refine ka_ ?_ _));refine blk_put (cs:=#[.int .u64 t186,.int .u64 t187,.slice Ao30 x176002_2.length co30]) ?_ 2 _ rfl;(with_reducible repeat (first|refine kn_ ?_ _|refine kd_ ?_|refine ka_ ?_ _));refine blk_put (cs:=#[.int .u64 t186,.int .u64 x176001_2,.slice Ao30 x176002_2.length co30]) ?_ 1 _ rfl;(with_reducible repeat (first|refine kn_ ?_ _|refine kd_ ?_|refine ka_ ?_ _));refine blk_put (cs:=#[.int .u64 x176000_2,.int .u64 x176001_2,.slice Ao30 x176002_2.length co30]) ?_ 0 _ rfl;(with_reducible repeat (first|refine kn_ ?_ _|refine kd_ ?_|refine ka_ ?_ _));refine blk_far ?_ NB175_203.out _;(with_reducible repeat (first|refine kn_ ?_ _|refine kd_ ?_|refine ka_ ?_ _));refine blk_far ?_ NB175_203.out _;(with_reducible repeat (first|refine kn_ ?_ _|refine kd_ ?_|refine ka_ ?_ _));refine blk_far ?_ NB175_203.out _;(with_reducible repeat (first|refine kn_ ?_ _|refine kd_ ?_|refine ka_ ?_ _));exact BK175.out⟩
          have n5_ : Aside0 ((((((((((w44.setCell ⟨gb203,0,none⟩ (.int .u64 t197)).setCell ⟨gb203,1,none⟩ (.int .u64 t198)).setCell ⟨gb203,2,none⟩ (.slice Ao47 t199.length co47)).setCell ⟨gb175,0,none⟩ (.int .u64 t186)).setCell ⟨gb175,1,none⟩ (.int .u64 t187)).setCell ⟨gb175,2,none⟩ (.slice Ao37 t188.length co37)).setCell ⟨gb181,0,none⟩ (.int .u64 t197)).setCell ⟨gb181,1,none⟩ (.int .u64 t198)).setCell ⟨gb181,2,none⟩ (.slice Ao47 t199.length co47)).heap[gb181]? = some (.cells #[.int .u64 t197,.int .u64 t198,.slice Ao47 t199.length co47] 35 (0,0))):=⟨by (with_reducible repeat (first|refine kn_ ?_ _|refine kd_ ?_|refine ka_ ?_ _));refine blk_put (cs:=#[.int .u64 t197,.int .u64 t198,.slice Ao39 x182002_2.length co39]) ?_ 2 _ rfl;(with_reducible repeat (first|refine kn_ ?_ _|refine kd_ ?_|refine ka_ ?_ _));refine blk_put (cs:=#[.int .u64 t197,.int .u64 x182001_2,.slice Ao39 x182002_2.length co39]) ?_ 1 _ rfl;(with_reducible repeat (first|refine kn_ ?_ _|refine kd_ ?_|refine ka_ ?_ _));refine blk_put (cs:=#[.int .u64 x182000_2,.int .u64 x182001_2,.slice Ao39 x182002_2.length co39]) ?_ 0 _ rfl;(with_reducible repeat (first|refine kn_ ?_ _|refine kd_ ?_|refine ka_ ?_ _));refine blk_far ?_ NB181_175.out _;(with_reducible repeat (first|refine kn_ ?_ _|refine kd_ ?_|refine ka_ ?_ _));refine blk_far ?_ NB181_175.out _;(with_reducible repeat (first|refine kn_ ?_ _|refine kd_ ?_|refine ka_ ?_ _));refine blk_far ?_ NB181_175.out _;(with_reducible repeat (first|refine kn_ ?_ _|refine kd_ ?_|refine ka_ ?_ _));refine blk_far ?_ NB181_203.out _;(with_reducible repeat (first|refine kn_ ?_ _|refine kd_ ?_|refine ka_ ?_ _));refine blk_far ?_ NB181_203.out _;(with_reducible repeat (first|refine kn_ ?_ _|refine kd_ ?_|refine ka_ ?_ _));refine blk_far ?_ NB181_203.out _;(with_reducible repeat (first|refine kn_ ?_ _|refine kd_ ?_|refine ka_ ?_ _));exact BK181.out⟩
          have n6_ : Aside0 ((((((((((w44.setCell ⟨gb203,0,none⟩ (.int .u64 t197)).setCell ⟨gb203,1,none⟩ (.int .u64 t198)).setCell ⟨gb203,2,none⟩ (.slice Ao47 t199.length co47)).setCell ⟨gb175,0,none⟩ (.int .u64 t186)).setCell ⟨gb175,1,none⟩ (.int .u64 t187)).setCell ⟨gb175,2,none⟩ (.slice Ao37 t188.length co37)).setCell ⟨gb181,0,none⟩ (.int .u64 t197)).setCell ⟨gb181,1,none⟩ (.int .u64 t198)).setCell ⟨gb181,2,none⟩ (.slice Ao47 t199.length co47)).heap[gb192]? = some (.cells #[.int .u64 t186,.int .u64 t187,.slice Ao37 t188.length co37] 31 (0,0))):=⟨by (with_reducible repeat (first|refine kn_ ?_ _|refine kd_ ?_|refine ka_ ?_ _));refine blk_far ?_ NB192_181.out _;(with_reducible repeat (first|refine kn_ ?_ _|refine kd_ ?_|refine ka_ ?_ _));refine blk_far ?_ NB192_181.out _;(with_reducible repeat (first|refine kn_ ?_ _|refine kd_ ?_|refine ka_ ?_ _));refine blk_far ?_ NB192_181.out _;(with_reducible repeat (first|refine kn_ ?_ _|refine kd_ ?_|refine ka_ ?_ _));refine blk_far ?_ NB192_175.out _;(with_reducible repeat (first|refine kn_ ?_ _|refine kd_ ?_|refine ka_ ?_ _));refine blk_far ?_ NB192_175.out _;(with_reducible repeat (first|refine kn_ ?_ _|refine kd_ ?_|refine ka_ ?_ _));refine blk_far ?_ NB192_175.out _;(with_reducible repeat (first|refine kn_ ?_ _|refine kd_ ?_|refine ka_ ?_ _));refine blk_far ?_ NB192_203.out _;(with_reducible repeat (first|refine kn_ ?_ _|refine kd_ ?_|refine ka_ ?_ _));refine blk_far ?_ NB192_203.out _;(with_reducible repeat (first|refine kn_ ?_ _|refine kd_ ?_|refine ka_ ?_ _));refine blk_far ?_ NB192_203.out _;(with_reducible repeat (first|refine kn_ ?_ _|refine kd_ ?_|refine ka_ ?_ _));exact BK192.out⟩
          have n7_ : Aside0 ((((((((((w44.setCell ⟨gb203,0,none⟩ (.int .u64 t197)).setCell ⟨gb203,1,none⟩ (.int .u64 t198)).setCell ⟨gb203,2,none⟩ (.slice Ao47 t199.length co47)).setCell ⟨gb175,0,none⟩ (.int .u64 t186)).setCell ⟨gb175,1,none⟩ (.int .u64 t187)).setCell ⟨gb175,2,none⟩ (.slice Ao37 t188.length co37)).setCell ⟨gb181,0,none⟩ (.int .u64 t197)).setCell ⟨gb181,1,none⟩ (.int .u64 t198)).setCell ⟨gb181,2,none⟩ (.slice Ao47 t199.length co47)).heap[gb203]? = some (.cells #[.int .u64 t197,.int .u64 t198,.slice Ao47 t199.length co47] 35 (0,0))):=⟨by (with_reducible repeat (first|refine kn_ ?_ _|refine kd_ ?_|refine ka_ ?_ _));refine blk_far ?_ NB203_181.out _;(with_reducible repeat (first|refine kn_ ?_ _|refine kd_ ?_|refine ka_ ?_ _));refine blk_far ?_ NB203_181.out _;(with_reducible repeat (first|refine kn_ ?_ _|refine kd_ ?_|refine ka_ ?_ _));refine blk_far ?_ NB203_181.out _;(with_reducible repeat (first|refine kn_ ?_ _|refine kd_ ?_|refine ka_ ?_ _));refine blk_far ?_ NB203_175.out _;(with_reducible repeat (first|refine kn_ ?_ _|refine kd_ ?_|refine ka_ ?_ _));refine blk_far ?_ NB203_175.out _;(with_reducible repeat (first|refine kn_ ?_ _|refine kd_ ?_|refine ka_ ?_ _));refine blk_far ?_ NB203_175.out _;(with_reducible repeat (first|refine kn_ ?_ _|refine kd_ ?_|refine ka_ ?_ _));refine blk_put (cs:=#[.int .u64 t197,.int .u64 t198,.slice none 0 0]) ?_ 2 _ rfl;(with_reducible repeat (first|refine kn_ ?_ _|refine kd_ ?_|refine ka_ ?_ _));refine blk_put (cs:=#[.int .u64 t197,.int .u64 0,.slice none 0 0]) ?_ 1 _ rfl;(with_reducible repeat (first|refine kn_ ?_ _|refine kd_ ?_|refine ka_ ?_ _));refine blk_put (cs:=#[.int .u64 0,.int .u64 0,.slice none 0 0]) ?_ 0 _ rfl;(with_reducible repeat (first|refine kn_ ?_ _|refine kd_ ?_|refine ka_ ?_ _));exact BK203.out⟩
          have n8_ : Aside0 (Below w.heap.size w (((((((((w44.setCell ⟨gb203,0,none⟩ (.int .u64 t197)).setCell ⟨gb203,1,none⟩ (.int .u64 t198)).setCell ⟨gb203,2,none⟩ (.slice Ao47 t199.length co47)).setCell ⟨gb175,0,none⟩ (.int .u64 t186)).setCell ⟨gb175,1,none⟩ (.int .u64 t187)).setCell ⟨gb175,2,none⟩ (.slice Ao37 t188.length co37)).setCell ⟨gb181,0,none⟩ (.int .u64 t197)).setCell ⟨gb181,1,none⟩ (.int .u64 t198)).setCell ⟨gb181,2,none⟩ (.slice Ao47 t199.length co47))):=⟨by repeat (first|(with_reducible first|exact HB.out|apply ba_|apply pn_|apply pd_|refine bs_ ?_ GE175.out|refine bs_ ?_ GE181.out|refine bs_ ?_ GE192.out|refine bs_ ?_ GE203.out)|exact HB.out)⟩
          (try clear HO_176002)
          (try clear HO_182002)
          (try clear HO190)
          (try clear HO201)
          (try clear BK175)
          (try clear BK181)
          (try clear BK192)
          (try clear BK203)
          (try clear HB)
          generalize (((((((((w44.setCell ⟨gb203,0,none⟩ (.int .u64 t197)).setCell ⟨gb203,1,none⟩ (.int .u64 t198)).setCell ⟨gb203,2,none⟩ (.slice Ao47 t199.length co47)).setCell ⟨gb175,0,none⟩ (.int .u64 t186)).setCell ⟨gb175,1,none⟩ (.int .u64 t187)).setCell ⟨gb175,2,none⟩ (.slice Ao37 t188.length co37)).setCell ⟨gb181,0,none⟩ (.int .u64 t197)).setCell ⟨gb181,1,none⟩ (.int .u64 t198)).setCell ⟨gb181,2,none⟩ (.slice Ao47 t199.length co47)) = w75 at n0_ n1_ n2_ n3_ n4_ n5_ n6_ n7_ n8_ ⊢
          have HO_176002:=n0_
          have HO_182002:=n1_
          have HO190:=n2_
          have HO201:=n3_
          have BK175:=n4_
          have BK181:=n5_
          have BK192:=n6_
          have BK203:=n7_
          have HB:=n8_
          clear n0_ n1_ n2_ n3_ n4_ n5_ n6_ n7_ n8_
          have n0_:=am_ (rd_ HO_176002.out)
          have n1_:=am_ (rd_ HO_182002.out)
          have n2_:=am_ (rd_ HO190.out)
          have n3_:=am_ (rd_ HO201.out)
          have n4_:=am_ (kd_ BK175.out)
          have n5_:=am_ (kd_ BK181.out)
          have n6_:=am_ (kd_ BK192.out)
          have n7_:=am_ (kd_ BK203.out)
          have n8_:=am_ (pd_ HB.out)
          clear HO_176002
          clear HO_182002
          clear HO190
          clear HO201
          clear BK175
          clear BK181
          clear BK192
          clear BK203
          clear HB
          have HO_176002:=n0_
          have HO_182002:=n1_
          have HO190:=n2_
          have HO201:=n3_
          have BK175:=n4_
          have BK181:=n5_
          have BK192:=n6_
          have BK203:=n7_
          have HB:=n8_
          clear n0_ n1_ n2_ n3_ n4_ n5_ n6_ n7_ n8_
          refine start_ (n:=17) (S:=fun w' => True) (ds:=[]) #[F_,F_,F_,F_,F_,F_,F_,F_,F_,F_,F_,F_,F_,F_,F_,F_,F_] (by kernel_rfl) rfl rfl trivial (fun hHeld => ?_);refine with_tabW dominolaw10_IdealSeals.tab12 dominolaw10_IdealSeals.bits12 (fun HT_ HW_ => ?_)
          generalize w75.drew = w76 at HO_176002 HO_182002 HO190 HO201 BK175 BK181 BK192 BK203 HB hHeld ⊢
          refine pure_ (i:=0) (N:=some 103) (v:=?_) (a':=?_) #[T_,F_,F_,F_,F_,F_,F_,F_,F_,F_,F_,F_,F_,F_,F_,F_,F_] rfl rfl (any_of HT_.out (by kernel_rfl)) (fun _ _ _ h => h) (Or.inl ⟨by rfl,?_⟩) ?_ ?_
          rotate_left;(intro w';go_simp;with_reducible rfl);rotate_left;(simp only [Act.put,ps_,i64_w,i32_w];rfl)
          refine pure_ (i:=1) (N:=some 104) (v:=?_) (a':=?_) #[T_,T_,F_,F_,F_,F_,F_,F_,F_,F_,F_,F_,F_,F_,F_,F_,F_] rfl rfl (any_of HT_.out (by kernel_rfl)) (fun _ _ _ h => h) (Or.inl ⟨by rfl,?_⟩) ?_ ?_
          rotate_left;(intro w';go_simp;with_reducible rfl);rotate_left;(simp only [Act.put,ps_,i64_w,i32_w];rfl)
          refine pure_ (i:=2) (N:=some 105) (v:=?_) (a':=?_) #[T_,T_,T_,F_,F_,F_,F_,F_,F_,F_,F_,F_,F_,F_,F_,F_,F_] rfl rfl (any_of HT_.out (by kernel_rfl)) (fun _ _ _ h => h) (Or.inl ⟨by rfl,?_⟩) ?_ ?_
          rotate_left;(intro w';go_simp;with_reducible rfl);rotate_left;(simp only [Act.put,ps_,i64_w,i32_w];rfl)
          refine pure_ (i:=3) (N:=some 106) (v:=?_) (a':=?_) #[T_,T_,T_,T_,F_,F_,F_,F_,F_,F_,F_,F_,F_,F_,F_,F_,F_] rfl rfl (any_of HT_.out (by kernel_rfl)) (fun _ _ _ h => h) (Or.inl ⟨by rfl,?_⟩) ?_ ?_
          rotate_left;(intro w';go_simp;with_reducible rfl);rotate_left;(simp only [Act.put,ps_,i64_w,i32_w];rfl)
          refine pure_ (i:=4) (N:=some 107) (v:=undef) (a':=?_) #[T_,T_,T_,T_,T_,F_,F_,F_,F_,F_,F_,F_,F_,F_,F_,F_,F_] rfl rfl (any_of HT_.out (by kernel_rfl)) (fun _ _ _ h => h) (Or.inr ⟨by rfl,rfl⟩) ?_ ?_
          rotate_left
          ·simp only [Act.put,ps_,i64_w,i32_w]
           rfl
          refine pure_ (i:=5) (N:=some 108) (v:=undef) (a':=?_) #[T_,T_,T_,T_,T_,T_,F_,F_,F_,F_,F_,F_,F_,F_,F_,F_,F_] rfl rfl (any_of HT_.out (by kernel_rfl)) (fun _ _ _ h => h) (Or.inr ⟨by rfl,rfl⟩) ?_ ?_
          rotate_left
          ·simp only [Act.put,ps_,i64_w,i32_w]
           rfl
          refine pure_ (i:=6) (N:=some 109) (v:=undef) (a':=?_) #[T_,T_,T_,T_,T_,T_,T_,F_,F_,F_,F_,F_,F_,F_,F_,F_,F_] rfl rfl (any_of HT_.out (by kernel_rfl)) (fun _ _ _ h => h) (Or.inr ⟨by rfl,rfl⟩) ?_ ?_
          rotate_left
          ·simp only [Act.put,ps_,i64_w,i32_w]
           rfl
          refine pure_ (i:=7) (N:=some 110) (v:=undef) (a':=?_) #[T_,T_,T_,T_,T_,T_,T_,T_,F_,F_,F_,F_,F_,F_,F_,F_,F_] rfl rfl (any_of HT_.out (by kernel_rfl)) (fun _ _ _ h => h) (Or.inr ⟨by rfl,rfl⟩) ?_ ?_
          rotate_left
          ·simp only [Act.put,ps_,i64_w,i32_w]
           rfl
          refine pure_ (i:=8) (N:=some 111) (v:=undef) (a':=?_) #[T_,T_,T_,T_,T_,T_,T_,T_,T_,F_,F_,F_,F_,F_,F_,F_,F_] rfl rfl (any_of HT_.out (by kernel_rfl)) (fun _ _ _ h => h) (Or.inr ⟨by rfl,rfl⟩) ?_ ?_
          rotate_left
          ·simp only [Act.put,ps_,i64_w,i32_w]
           rfl
          refine pure_ (i:=9) (N:=some 112) (v:=?_) (a':=?_) #[T_,T_,T_,T_,T_,T_,T_,T_,T_,T_,F_,F_,F_,F_,F_,F_,F_] rfl rfl (any_of HT_.out (by kernel_rfl)) (fun _ _ _ h => h) (Or.inl ⟨by rfl,?_⟩) ?_ ?_
          rotate_left;(intro w';go_simp;with_reducible rfl);rotate_left;(simp only [Act.put,ps_,i64_w,i32_w];rfl)
          refine pure_ (i:=10) (N:=some 113) (v:=?_) (a':=?_) #[T_,T_,T_,T_,T_,T_,T_,T_,T_,T_,T_,F_,F_,F_,F_,F_,F_] rfl rfl (any_of HT_.out (by kernel_rfl)) (fun _ _ _ h => h) (Or.inl ⟨by rfl,?_⟩) ?_ ?_
          rotate_left;(intro w';go_simp;with_reducible rfl);rotate_left;(simp only [Act.put,ps_,i64_w,i32_w];rfl)
          refine pure_ (i:=11) (N:=some 114) (v:=undef) (a':=?_) #[T_,T_,T_,T_,T_,T_,T_,T_,T_,T_,T_,T_,F_,F_,F_,F_,F_] rfl rfl (any_of HT_.out (by kernel_rfl)) (fun _ _ _ h => h) (Or.inr ⟨by rfl,rfl⟩) ?_ ?_
          rotate_left
          ·simp only [Act.put,ps_,i64_w,i32_w]
           rfl
          refine pure_ (i:=12) (N:=some 115) (v:=undef) (a':=?_) #[T_,T_,T_,T_,T_,T_,T_,T_,T_,T_,T_,T_,T_,F_,F_,F_,F_] rfl rfl (any_of HT_.out (by kernel_rfl)) (fun _ _ _ h => h) (Or.inr ⟨by rfl,rfl⟩) ?_ ?_
          rotate_left
          ·simp only [Act.put,ps_,i64_w,i32_w]
           rfl
          refine pure_ (i:=13) (N:=some 116) (v:=undef) (a':=?_) #[T_,T_,T_,T_,T_,T_,T_,T_,T_,T_,T_,T_,T_,T_,F_,F_,F_] rfl rfl (any_of HT_.out (by kernel_rfl)) (fun _ _ _ h => h) (Or.inr ⟨by rfl,rfl⟩) ?_ ?_
          rotate_left
          ·simp only [Act.put,ps_,i64_w,i32_w]
           rfl
          refine pure_ (i:=14) (N:=some 117) (v:=undef) (a':=?_) #[T_,T_,T_,T_,T_,T_,T_,T_,T_,T_,T_,T_,T_,T_,T_,F_,F_] rfl rfl (any_of HT_.out (by kernel_rfl)) (fun _ _ _ h => h) (Or.inr ⟨by rfl,rfl⟩) ?_ ?_
          rotate_left
          ·simp only [Act.put,ps_,i64_w,i32_w]
           rfl
          refine pure_ (i:=15) (N:=some 118) (v:=undef) (a':=?_) #[T_,T_,T_,T_,T_,T_,T_,T_,T_,T_,T_,T_,T_,T_,T_,T_,F_] rfl rfl (any_of HT_.out (by kernel_rfl)) (fun _ _ _ h => h) (Or.inr ⟨by rfl,rfl⟩) ?_ ?_
          rotate_left
          ·simp only [Act.put,ps_,i64_w,i32_w]
           rfl
          refine pure_ (i:=16) (N:=some 119) (v:=?_) (a':=?_) #[T_,T_,T_,T_,T_,T_,T_,T_,T_,T_,T_,T_,T_,T_,T_,T_,T_] rfl rfl (any_of HT_.out (by kernel_rfl)) (fun _ _ _ h => h) (Or.inl ⟨by rfl,?_⟩) ?_ ?_
          rotate_left;(intro w';go_simp;with_reducible rfl);rotate_left;(simp only [Act.put,ps_,i64_w,i32_w];rfl)
          refine done_ (done_of HT_.out (by kernel_rfl)) ?_
          try go_wp2
          go_meet
          case rel => exact ⟨_,(true),(by first|rfl|(simp;done)|(simp [*];done)),H',⟨by have:=HJ4.out;have:=HK2.out;first|omega|exact Nat.le_refl _⟩,⟨by (with_reducible repeat (first|apply ra_|apply rn_|apply rd_));exact Kd.R_mono HO190.out (fun _ hk => trivial)⟩,⟨by (with_reducible repeat (first|apply ra_|apply rn_|apply rd_));exact Kd.R_mono HO201.out (fun _ hk => trivial)⟩,⟨by (with_reducible repeat (first|apply ra_|apply rn_|apply rd_));exact Kd.R_mono HO190.out (fun _ hk => trivial)⟩,⟨by (with_reducible repeat (first|apply ra_|apply rn_|apply rd_));exact Kd.R_mono HO201.out (fun _ hk => trivial)⟩,⟨by (with_reducible repeat (first|refine kn_ ?_ _|refine kd_ ?_|refine ka_ ?_ _));exact BK175.out⟩,⟨by (with_reducible repeat (first|refine kn_ ?_ _|refine kd_ ?_|refine ka_ ?_ _));exact BK181.out⟩,⟨by (with_reducible repeat (first|refine kn_ ?_ _|refine kd_ ?_|refine ka_ ?_ _));exact BK192.out⟩,⟨by (with_reducible repeat (first|refine kn_ ?_ _|refine kd_ ?_|refine ka_ ?_ _));exact BK203.out⟩,⟨by repeat (first|(with_reducible first|exact HB.out|apply ba_|apply pn_|apply pd_|refine bs_ ?_ GE175.out|refine bs_ ?_ GE181.out|refine bs_ ?_ GE192.out|refine bs_ ?_ GE203.out)|exact HB.out)⟩⟩
        case rest =>
         clear HC29
         try clear c1;try clear c2
         try clear p2;try clear c5
         try clear c6;try clear c19
         try clear c20;try clear c21
         try clear c22;try clear c59
         try clear c59b0;try clear c59b1;try clear c62
         obtain ⟨kq,x119_28,rfl,HA,HJ28,HO_176002,HO_182002,HO_193002,HO_204002,BK175,BK181,BK192,BK203,HB⟩:=hcut
         cases kq with
         | zero => exact absurd HA.out (by simp [dominolaw10_IdealSeals.j2])
         | succ kj28 =>
          have H:=HA.out
          clear HA
          simp only [dominolaw10_IdealSeals.j2] at H
          by_cases c77 : x119_28 = true
          ·subst c77
           have H1 : (some false) = some r:=by rw [if_pos rfl] at H;exact H
           clear H
           have H:=H1
           clear H1
           obtain rfl:=Option.some.inj H
           go_wp2
           go_ret
           exact ⟨by first|rfl|(simp [errW_none,errW_some] <;> rfl)|(simp [*,errW_none,errW_some] <;> rfl),by repeat (first|(with_reducible first|exact HB.out|apply ba_|apply pn_|apply pd_|refine bs_ ?_ GE175.out|refine bs_ ?_ GE181.out|refine bs_ ?_ GE192.out|refine bs_ ?_ GE203.out)|exact HB.out)⟩
          ·replace c77:=Bool.eq_false_iff.mpr c77
           subst c77
           have H1 : ((ideal_Open.f t186 t187 t188 a2 t191).bind fun bt212 => ((dominoref10_Open.f kj28 t197 t198 t199 a2 t191).bind fun bt215 => (if bt212.1 = bt215.1 then (if bt212.2.1.toList = bt215.2.1.toList then (if (bt212.2.2 != bt215.2.2) = true then (some false) else (dominolaw10_IdealSeals.l0 kj28 l1 a2 a3 (wrap64 (x11_2 + 1)) t186 t187 t188 t197 t198 t199)) else (some false)) else (some false)))) = some r:=by rw [if_neg (show ¬ (false = true) by decide)] at H;exact H
           clear H
           have H:=H1
           clear H1
           replace H:=Option.bind_eq_some_iff.mp H
           obtain ⟨⟨t212,t213,t214⟩,A780,H⟩:=H
           replace H : ((dominoref10_Open.f kj28 t197 t198 t199 a2 t191).bind fun bt215 => (if t212 = bt215.1 then (if t213.toList = bt215.2.1.toList then (if (t214 != bt215.2.2) = true then (some false) else (dominolaw10_IdealSeals.l0 kj28 l1 a2 a3 (wrap64 (x11_2 + 1)) t186 t187 t188 t197 t198 t199)) else (some false)) else (some false))) = some r:=H
           have A78:=am_ A780
           clear A780
           replace H:=Option.bind_eq_some_iff.mp H
           obtain ⟨⟨t215,t216,t217⟩,A790,H⟩:=H
           replace H : (if t212 = t215 then (if t213.toList = t216.toList then (if (t214 != t217) = true then (some false) else (dominolaw10_IdealSeals.l0 kj28 l1 a2 a3 (wrap64 (x11_2 + 1)) t186 t187 t188 t197 t198 t199)) else (some false)) else (some false)) = some r:=H
           have A79:=am_ A790
           clear A790
           by_cases c80 : t212 = t215
           ·rw [if_pos c80] at H
            have c80b0 : (t212 == t215) = true:=beq_iff_eq.mpr c80
            have c80b1 : (t212 != t215) = false:=bne_eq_false_iff_eq.mpr c80
            clear c80
            by_cases c81 : t213.toList = t216.toList
            ·rw [if_pos c81] at H
             have c81b0 : (t213.toList == t216.toList) = true:=beq_iff_eq.mpr c81
             have c81b1 : (t213.toList != t216.toList) = false:=bne_eq_false_iff_eq.mpr c81
             clear c81
             by_cases c82 : (t214 != t217) = true
             ·rw [if_pos c82] at H
              have c82b0 : (t214 != t217) = true:=c82
              (try (have c82b1 : decide (t214 = t217) = false:=by simpa using c82))
              (try (have c82b2 : (t214 == t217) = false:=by simpa using c82))
              (try (have c82b3 : ¬ (t214 = t217):=by simpa using c82))
              clear c82
              obtain rfl:=Option.some.inj H
              have hnb83:=NB175_181.out
              have hnc83:=NB181_175.out
              have hnb84:=NB175_192.out
              have hnc84:=NB192_175.out
              have hnb85:=NB175_203.out
              have hnc85:=NB203_175.out
              have hcz86_0 : wc.cell? ⟨gb175,0,none⟩ = some (.int .u64 t186):=(kc_ BK175.out 0).trans rfl
              have hcz86_1 : wc.cell? ⟨gb175,1,none⟩ = some (.int .u64 t187):=(kc_ BK175.out 1).trans rfl
              have hcz86_2 : wc.cell? ⟨gb175,2,none⟩ = some (.slice Ao37 t188.length co37):=(kc_ BK175.out 2).trans rfl
              have hfz86_0:=blk_frozen BK175.out 0
              have hfz86_1:=blk_frozen BK175.out 1
              have hfz86_2:=blk_frozen BK175.out 2
              go_wp2_with (first|((with_reducible refine gate_callee (f:=23) rfl ?_);refine goesL_ (some 124) rfl rfl Try.func23 (by kernel_rfl) rfl #[.agg #[.int .u64 t186,.int .u64 t187,.slice Ao37 t188.length co37],.int .i64 a2,.string t191] rfl (by (try simp only [List.map_toArray,List.map_cons,List.map_nil]);first|done|rfl|(simp only [List.length_drop,List.length_take];rfl)) ?_;(with_reducible refine (ideal_Open.calls t186 t187 _ _ t188 a2 t191 t212 t213 t214 _ ?side1 ?side2 A78.out).mono ?_);(case side1 => repeat (first|exact (Kd.R_reads' HO_176002.out).2.2|(with_reducible refine Kd.C_alloc ?_ _)|(with_reducible refine Kd.C_drewN ?_ _)|(with_reducible refine Kd.C_drew ?_)));(case side2 => exact (Kd.R_reads' HO_176002.out).2.1);rintro e w87 ⟨rfl,hb⟩;refine ⟨_,rfl,?_⟩;have n0_:=am_ (Kd.R_below (by (with_reducible repeat (first|apply ra_|apply rn_|apply rd_));exact HO_176002.out) hb);have n1_:=am_ (Kd.R_below (by (with_reducible repeat (first|apply ra_|apply rn_|apply rd_));exact HO_182002.out) hb);have n2_:=am_ (Kd.R_below (by (with_reducible repeat (first|apply ra_|apply rn_|apply rd_));exact HO_193002.out) hb);have n3_:=am_ (Kd.R_below (by (with_reducible repeat (first|apply ra_|apply rn_|apply rd_));exact HO_204002.out) hb);have n4_:=am_ (blk_below (g:=gb175) (o:=.cells #[.int .u64 t186,.int .u64 t187,.slice Ao37 t188.length co37] 31 (0,0)) (by (with_reducible repeat (first|refine kn_ ?_ _|refine kd_ ?_|refine ka_ ?_ _));exact BK175.out) hb);have n5_:=am_ (blk_below (g:=gb181) (o:=.cells #[.int .u64 t197,.int .u64 t198,.slice Ao47 t199.length co47] 35 (0,0)) (by (with_reducible repeat (first|refine kn_ ?_ _|refine kd_ ?_|refine ka_ ?_ _));exact BK181.out) hb);have n6_:=am_ (blk_below (g:=gb192) (o:=.cells #[.int .u64 t186,.int .u64 t187,.slice Ao37 t188.length co37] 31 (0,0)) (by (with_reducible repeat (first|refine kn_ ?_ _|refine kd_ ?_|refine ka_ ?_ _));exact BK192.out) hb);have n7_:=am_ (blk_below (g:=gb203) (o:=.cells #[.int .u64 t197,.int .u64 t198,.slice Ao47 t199.length co47] 35 (0,0)) (by (with_reducible repeat (first|refine kn_ ?_ _|refine kd_ ?_|refine ka_ ?_ _));exact BK203.out) hb);have n8_:=am_ (below_step (by repeat (first|(with_reducible first|exact HB.out|apply ba_|apply pn_|apply pd_|refine bs_ ?_ GE175.out|refine bs_ ?_ GE181.out|refine bs_ ?_ GE192.out|refine bs_ ?_ GE203.out)|exact HB.out)) hb);clear HO_176002;clear HO_182002;clear HO_193002;clear HO_204002;clear BK175;clear BK181;clear BK192;clear BK203;clear HB;have HO_176002:=n0_;have HO_182002:=n1_;have HO_193002:=n2_;have HO_204002:=n3_;have BK175:=n4_;have BK181:=n5_;have BK192:=n6_;have BK203:=n7_;have HB:=n8_;clear n0_ n1_ n2_ n3_ n4_ n5_ n6_ n7_ n8_;(try clear hb);(try clear hb2);(try clear hk);(try clear hi);have hnb88:=NB181_192.out;have hnc88:=NB192_181.out;have hnb89:=NB181_203.out;have hnc89:=NB203_181.out;have hcz90_0 : w87.cell? ⟨gb181,0,none⟩ = some (.int .u64 t197):=(kc_ BK181.out 0).trans rfl;have hcz90_1 : w87.cell? ⟨gb181,1,none⟩ = some (.int .u64 t198):=(kc_ BK181.out 1).trans rfl;have hcz90_2 : w87.cell? ⟨gb181,2,none⟩ = some (.slice Ao47 t199.length co47):=(kc_ BK181.out 2).trans rfl;have hfz90_0:=blk_frozen BK181.out 0;have hfz90_1:=blk_frozen BK181.out 1;have hfz90_2:=blk_frozen BK181.out 2)|((with_reducible refine gate_callee (f:=24) rfl ?_);refine goesL_ (some 132) rfl rfl Try.func24 (by kernel_rfl) rfl #[.agg #[.int .u64 t197,.int .u64 t198,.slice Ao47 t199.length co47],.int .i64 a2,.string t191] rfl (by (try simp only [List.map_toArray,List.map_cons,List.map_nil]);first|done|rfl|(simp only [List.length_drop,List.length_take];rfl)) ?_;(with_reducible refine (dominoref10_Open.calls kj28 t197 t198 _ _ t199 a2 t191 t215 t216 t217 _ ?side1 ?side2 A79.out).mono ?_);(case side1 => repeat (first|exact (Kd.R_reads' HO_182002.out).2.2|(with_reducible refine Kd.C_alloc ?_ _)|(with_reducible refine Kd.C_drewN ?_ _)|(with_reducible refine Kd.C_drew ?_)));(case side2 => exact (Kd.R_reads' HO_182002.out).2.1);rintro e w91 ⟨rfl,hb⟩;refine ⟨_,rfl,?_⟩;have n0_:=am_ (Kd.R_below (by (with_reducible repeat (first|apply ra_|apply rn_|apply rd_));exact HO_176002.out) hb);have n1_:=am_ (Kd.R_below (by (with_reducible repeat (first|apply ra_|apply rn_|apply rd_));exact HO_182002.out) hb);have n2_:=am_ (Kd.R_below (by (with_reducible repeat (first|apply ra_|apply rn_|apply rd_));exact HO_193002.out) hb);have n3_:=am_ (Kd.R_below (by (with_reducible repeat (first|apply ra_|apply rn_|apply rd_));exact HO_204002.out) hb);have n4_:=am_ (blk_below (g:=gb175) (o:=.cells #[.int .u64 t186,.int .u64 t187,.slice Ao37 t188.length co37] 31 (0,0)) (by (with_reducible repeat (first|refine kn_ ?_ _|refine kd_ ?_|refine ka_ ?_ _));exact BK175.out) hb);have n5_:=am_ (blk_below (g:=gb181) (o:=.cells #[.int .u64 t197,.int .u64 t198,.slice Ao47 t199.length co47] 35 (0,0)) (by (with_reducible repeat (first|refine kn_ ?_ _|refine kd_ ?_|refine ka_ ?_ _));exact BK181.out) hb);have n6_:=am_ (blk_below (g:=gb192) (o:=.cells #[.int .u64 t186,.int .u64 t187,.slice Ao37 t188.length co37] 31 (0,0)) (by (with_reducible repeat (first|refine kn_ ?_ _|refine kd_ ?_|refine ka_ ?_ _));exact BK192.out) hb);have n7_:=am_ (blk_below (g:=gb203) (o:=.cells #[.int .u64 t197,.int .u64 t198,.slice Ao47 t199.length co47] 35 (0,0)) (by (with_reducible repeat (first|refine kn_ ?_ _|refine kd_ ?_|refine ka_ ?_ _));exact BK203.out) hb);have n8_:=am_ (below_step (by repeat (first|(with_reducible first|exact HB.out|apply ba_|apply pn_|apply pd_|refine bs_ ?_ GE175.out|refine bs_ ?_ GE181.out|refine bs_ ?_ GE192.out|refine bs_ ?_ GE203.out)|exact HB.out)) hb);clear HO_176002;clear HO_182002;clear HO_193002;clear HO_204002;clear BK175;clear BK181;clear BK192;clear BK203;clear HB;have HO_176002:=n0_;have HO_182002:=n1_;have HO_193002:=n2_;have HO_204002:=n3_;have BK175:=n4_;have BK181:=n5_;have BK192:=n6_;have BK203:=n7_;have HB:=n8_;clear n0_ n1_ n2_ n3_ n4_ n5_ n6_ n7_ n8_;(try clear hb);(try clear hb2);(try clear hk);(try clear hi)))
              go_ret
              exact ⟨by first|rfl|(simp [errW_none,errW_some] <;> rfl)|(simp [*,errW_none,errW_some] <;> rfl),by repeat (first|(with_reducible first|exact HB.out|apply ba_|apply pn_|apply pd_|refine bs_ ?_ GE175.out|refine bs_ ?_ GE181.out|refine bs_ ?_ GE192.out|refine bs_ ?_ GE203.out)|exact HB.out)⟩
             ·rw [if_neg c82] at H
              have c82b0 : (t214 != t217) = false:=by simpa using c82
              (try (have c82b1 : decide (t214 = t217) = true:=by simpa using c82))
              (try (have c82b2 : (t214 == t217) = true:=by simpa using c82))
              clear c82
              have H':=am_ H
              clear H
              have hnb92:=NB175_181.out
              have hnc92:=NB181_175.out
              have hnb93:=NB175_192.out
              have hnc93:=NB192_175.out
              have hnb94:=NB175_203.out
              have hnc94:=NB203_175.out
              have hcz95_0 : wc.cell? ⟨gb175,0,none⟩ = some (.int .u64 t186):=(kc_ BK175.out 0).trans rfl
              have hcz95_1 : wc.cell? ⟨gb175,1,none⟩ = some (.int .u64 t187):=(kc_ BK175.out 1).trans rfl
              have hcz95_2 : wc.cell? ⟨gb175,2,none⟩ = some (.slice Ao37 t188.length co37):=(kc_ BK175.out 2).trans rfl
              have hfz95_0:=blk_frozen BK175.out 0
              have hfz95_1:=blk_frozen BK175.out 1
              have hfz95_2:=blk_frozen BK175.out 2
              go_wp2_with (first|((with_reducible refine gate_callee (f:=23) rfl ?_);refine goesL_ (some 124) rfl rfl Try.func23 (by kernel_rfl) rfl #[.agg #[.int .u64 t186,.int .u64 t187,.slice Ao37 t188.length co37],.int .i64 a2,.string t191] rfl (by (try simp only [List.map_toArray,List.map_cons,List.map_nil]);first|done|rfl|(simp only [List.length_drop,List.length_take];rfl)) ?_;(with_reducible refine (ideal_Open.calls t186 t187 _ _ t188 a2 t191 t212 t213 t214 _ ?side1 ?side2 A78.out).mono ?_);(case side1 => repeat (first|exact (Kd.R_reads' HO_176002.out).2.2|(with_reducible refine Kd.C_alloc ?_ _)|(with_reducible refine Kd.C_drewN ?_ _)|(with_reducible refine Kd.C_drew ?_)));(case side2 => exact (Kd.R_reads' HO_176002.out).2.1);rintro e w96 ⟨rfl,hb⟩;refine ⟨_,rfl,?_⟩;have n0_:=am_ (Kd.R_below (by (with_reducible repeat (first|apply ra_|apply rn_|apply rd_));exact HO_176002.out) hb);have n1_:=am_ (Kd.R_below (by (with_reducible repeat (first|apply ra_|apply rn_|apply rd_));exact HO_182002.out) hb);have n2_:=am_ (Kd.R_below (by (with_reducible repeat (first|apply ra_|apply rn_|apply rd_));exact HO_193002.out) hb);have n3_:=am_ (Kd.R_below (by (with_reducible repeat (first|apply ra_|apply rn_|apply rd_));exact HO_204002.out) hb);have n4_:=am_ (blk_below (g:=gb175) (o:=.cells #[.int .u64 t186,.int .u64 t187,.slice Ao37 t188.length co37] 31 (0,0)) (by (with_reducible repeat (first|refine kn_ ?_ _|refine kd_ ?_|refine ka_ ?_ _));exact BK175.out) hb);have n5_:=am_ (blk_below (g:=gb181) (o:=.cells #[.int .u64 t197,.int .u64 t198,.slice Ao47 t199.length co47] 35 (0,0)) (by (with_reducible repeat (first|refine kn_ ?_ _|refine kd_ ?_|refine ka_ ?_ _));exact BK181.out) hb);have n6_:=am_ (blk_below (g:=gb192) (o:=.cells #[.int .u64 t186,.int .u64 t187,.slice Ao37 t188.length co37] 31 (0,0)) (by (with_reducible repeat (first|refine kn_ ?_ _|refine kd_ ?_|refine ka_ ?_ _));exact BK192.out) hb);have n7_:=am_ (blk_below (g:=gb203) (o:=.cells #[.int .u64 t197,.int .u64 t198,.slice Ao47 t199.length co47] 35 (0,0)) (by (with_reducible repeat (first|refine kn_ ?_ _|refine kd_ ?_|refine ka_ ?_ _));exact BK203.out) hb);have n8_:=am_ (below_step (by repeat (first|(with_reducible first|exact HB.out|apply ba_|apply pn_|apply pd_|refine bs_ ?_ GE175.out|refine bs_ ?_ GE181.out|refine bs_ ?_ GE192.out|refine bs_ ?_ GE203.out)|exact HB.out)) hb);clear HO_176002;clear HO_182002;clear HO_193002;clear HO_204002;clear BK175;clear BK181;clear BK192;clear BK203;clear HB;have HO_176002:=n0_;have HO_182002:=n1_;have HO_193002:=n2_;have HO_204002:=n3_;have BK175:=n4_;have BK181:=n5_;have BK192:=n6_;have BK203:=n7_;have HB:=n8_;clear n0_ n1_ n2_ n3_ n4_ n5_ n6_ n7_ n8_;(try clear hb);(try clear hb2);(try clear hk);(try clear hi);have hnb97:=NB181_192.out;have hnc97:=NB192_181.out;have hnb98:=NB181_203.out;have hnc98:=NB203_181.out;have hcz99_0 : w96.cell? ⟨gb181,0,none⟩ = some (.int .u64 t197):=(kc_ BK181.out 0).trans rfl;have hcz99_1 : w96.cell? ⟨gb181,1,none⟩ = some (.int .u64 t198):=(kc_ BK181.out 1).trans rfl;have hcz99_2 : w96.cell? ⟨gb181,2,none⟩ = some (.slice Ao47 t199.length co47):=(kc_ BK181.out 2).trans rfl;have hfz99_0:=blk_frozen BK181.out 0;have hfz99_1:=blk_frozen BK181.out 1;have hfz99_2:=blk_frozen BK181.out 2)|((with_reducible refine gate_callee (f:=24) rfl ?_);refine goesL_ (some 132) rfl rfl Try.func24 (by kernel_rfl) rfl #[.agg #[.int .u64 t197,.int .u64 t198,.slice Ao47 t199.length co47],.int .i64 a2,.string t191] rfl (by (try simp only [List.map_toArray,List.map_cons,List.map_nil]);first|done|rfl|(simp only [List.length_drop,List.length_take];rfl)) ?_;(with_reducible refine (dominoref10_Open.calls kj28 t197 t198 _ _ t199 a2 t191 t215 t216 t217 _ ?side1 ?side2 A79.out).mono ?_);(case side1 => repeat (first|exact (Kd.R_reads' HO_182002.out).2.2|(with_reducible refine Kd.C_alloc ?_ _)|(with_reducible refine Kd.C_drewN ?_ _)|(with_reducible refine Kd.C_drew ?_)));(case side2 => exact (Kd.R_reads' HO_182002.out).2.1);rintro e w100 ⟨rfl,hb⟩;refine ⟨_,rfl,?_⟩;have n0_:=am_ (Kd.R_below (by (with_reducible repeat (first|apply ra_|apply rn_|apply rd_));exact HO_176002.out) hb);have n1_:=am_ (Kd.R_below (by (with_reducible repeat (first|apply ra_|apply rn_|apply rd_));exact HO_182002.out) hb);have n2_:=am_ (Kd.R_below (by (with_reducible repeat (first|apply ra_|apply rn_|apply rd_));exact HO_193002.out) hb);have n3_:=am_ (Kd.R_below (by (with_reducible repeat (first|apply ra_|apply rn_|apply rd_));exact HO_204002.out) hb);have n4_:=am_ (blk_below (g:=gb175) (o:=.cells #[.int .u64 t186,.int .u64 t187,.slice Ao37 t188.length co37] 31 (0,0)) (by (with_reducible repeat (first|refine kn_ ?_ _|refine kd_ ?_|refine ka_ ?_ _));exact BK175.out) hb);have n5_:=am_ (blk_below (g:=gb181) (o:=.cells #[.int .u64 t197,.int .u64 t198,.slice Ao47 t199.length co47] 35 (0,0)) (by (with_reducible repeat (first|refine kn_ ?_ _|refine kd_ ?_|refine ka_ ?_ _));exact BK181.out) hb);have n6_:=am_ (blk_below (g:=gb192) (o:=.cells #[.int .u64 t186,.int .u64 t187,.slice Ao37 t188.length co37] 31 (0,0)) (by (with_reducible repeat (first|refine kn_ ?_ _|refine kd_ ?_|refine ka_ ?_ _));exact BK192.out) hb);have n7_:=am_ (blk_below (g:=gb203) (o:=.cells #[.int .u64 t197,.int .u64 t198,.slice Ao47 t199.length co47] 35 (0,0)) (by (with_reducible repeat (first|refine kn_ ?_ _|refine kd_ ?_|refine ka_ ?_ _));exact BK203.out) hb);have n8_:=am_ (below_step (by repeat (first|(with_reducible first|exact HB.out|apply ba_|apply pn_|apply pd_|refine bs_ ?_ GE175.out|refine bs_ ?_ GE181.out|refine bs_ ?_ GE192.out|refine bs_ ?_ GE203.out)|exact HB.out)) hb);clear HO_176002;clear HO_182002;clear HO_193002;clear HO_204002;clear BK175;clear BK181;clear BK192;clear BK203;clear HB;have HO_176002:=n0_;have HO_182002:=n1_;have HO_193002:=n2_;have HO_204002:=n3_;have BK175:=n4_;have BK181:=n5_;have BK192:=n6_;have BK203:=n7_;have HB:=n8_;clear n0_ n1_ n2_ n3_ n4_ n5_ n6_ n7_ n8_;(try clear hb);(try clear hb2);(try clear hk);(try clear hi)))
              go_roundg kj28
              case measure => have:=HJ4.out;have:=HK2.out;have:=HJ28.out;omega
              case rel => exact ⟨(wrap64 (x11_2 + 1)),(t186),(t187),(t188),(t197),(t198),(t199),(.slice Ao37 t188.length co37),(.slice Ao47 t199.length co47),(by first|rfl|(simp;done)|(simp [*];done)),H',⟨by have:=HJ4.out;have:=HK2.out;have:=HJ28.out;omega⟩,⟨by (with_reducible repeat (first|apply ra_|apply rn_|apply rd_));exact HO_176002.out⟩,⟨by (with_reducible repeat (first|apply ra_|apply rn_|apply rd_));exact HO_182002.out⟩,⟨by (with_reducible repeat (first|refine kn_ ?_ _|refine kd_ ?_|refine ka_ ?_ _));exact BK175.out⟩,⟨by (with_reducible repeat (first|refine kn_ ?_ _|refine kd_ ?_|refine ka_ ?_ _));exact BK181.out⟩,⟨by repeat (first|(with_reducible first|exact HB.out|apply ba_|apply pn_|apply pd_|refine bs_ ?_ GE175.out|refine bs_ ?_ GE181.out|refine bs_ ?_ GE192.out|refine bs_ ?_ GE203.out)|exact HB.out)⟩⟩
            ·rw [if_neg c81] at H
             have c81b0 : (t213.toList == t216.toList) = false:=beq_eq_false_iff_ne.mpr c81
             have c81b1 : (t213.toList != t216.toList) = true:=bne_iff_ne.mpr c81
             obtain rfl:=Option.some.inj H
             have hnb101:=NB175_181.out
             have hnc101:=NB181_175.out
             have hnb102:=NB175_192.out
             have hnc102:=NB192_175.out
             have hnb103:=NB175_203.out
             have hnc103:=NB203_175.out
             have hcz104_0 : wc.cell? ⟨gb175,0,none⟩ = some (.int .u64 t186):=(kc_ BK175.out 0).trans rfl
             have hcz104_1 : wc.cell? ⟨gb175,1,none⟩ = some (.int .u64 t187):=(kc_ BK175.out 1).trans rfl
             have hcz104_2 : wc.cell? ⟨gb175,2,none⟩ = some (.slice Ao37 t188.length co37):=(kc_ BK175.out 2).trans rfl
             have hfz104_0:=blk_frozen BK175.out 0
             have hfz104_1:=blk_frozen BK175.out 1
             have hfz104_2:=blk_frozen BK175.out 2
             go_wp2_with (first|((with_reducible refine gate_callee (f:=23) rfl ?_);refine goesL_ (some 124) rfl rfl Try.func23 (by kernel_rfl) rfl #[.agg #[.int .u64 t186,.int .u64 t187,.slice Ao37 t188.length co37],.int .i64 a2,.string t191] rfl (by (try simp only [List.map_toArray,List.map_cons,List.map_nil]);first|done|rfl|(simp only [List.length_drop,List.length_take];rfl)) ?_;(with_reducible refine (ideal_Open.calls t186 t187 _ _ t188 a2 t191 t212 t213 t214 _ ?side1 ?side2 A78.out).mono ?_);(case side1 => repeat (first|exact (Kd.R_reads' HO_176002.out).2.2|(with_reducible refine Kd.C_alloc ?_ _)|(with_reducible refine Kd.C_drewN ?_ _)|(with_reducible refine Kd.C_drew ?_)));(case side2 => exact (Kd.R_reads' HO_176002.out).2.1);rintro e w105 ⟨rfl,hb⟩;refine ⟨_,rfl,?_⟩;have n0_:=am_ (Kd.R_below (by (with_reducible repeat (first|apply ra_|apply rn_|apply rd_));exact HO_176002.out) hb);have n1_:=am_ (Kd.R_below (by (with_reducible repeat (first|apply ra_|apply rn_|apply rd_));exact HO_182002.out) hb);have n2_:=am_ (Kd.R_below (by (with_reducible repeat (first|apply ra_|apply rn_|apply rd_));exact HO_193002.out) hb);have n3_:=am_ (Kd.R_below (by (with_reducible repeat (first|apply ra_|apply rn_|apply rd_));exact HO_204002.out) hb);have n4_:=am_ (blk_below (g:=gb175) (o:=.cells #[.int .u64 t186,.int .u64 t187,.slice Ao37 t188.length co37] 31 (0,0)) (by (with_reducible repeat (first|refine kn_ ?_ _|refine kd_ ?_|refine ka_ ?_ _));exact BK175.out) hb);have n5_:=am_ (blk_below (g:=gb181) (o:=.cells #[.int .u64 t197,.int .u64 t198,.slice Ao47 t199.length co47] 35 (0,0)) (by (with_reducible repeat (first|refine kn_ ?_ _|refine kd_ ?_|refine ka_ ?_ _));exact BK181.out) hb);have n6_:=am_ (blk_below (g:=gb192) (o:=.cells #[.int .u64 t186,.int .u64 t187,.slice Ao37 t188.length co37] 31 (0,0)) (by (with_reducible repeat (first|refine kn_ ?_ _|refine kd_ ?_|refine ka_ ?_ _));exact BK192.out) hb);have n7_:=am_ (blk_below (g:=gb203) (o:=.cells #[.int .u64 t197,.int .u64 t198,.slice Ao47 t199.length co47] 35 (0,0)) (by (with_reducible repeat (first|refine kn_ ?_ _|refine kd_ ?_|refine ka_ ?_ _));exact BK203.out) hb);have n8_:=am_ (below_step (by repeat (first|(with_reducible first|exact HB.out|apply ba_|apply pn_|apply pd_|refine bs_ ?_ GE175.out|refine bs_ ?_ GE181.out|refine bs_ ?_ GE192.out|refine bs_ ?_ GE203.out)|exact HB.out)) hb);clear HO_176002;clear HO_182002;clear HO_193002;clear HO_204002;clear BK175;clear BK181;clear BK192;clear BK203;clear HB;have HO_176002:=n0_;have HO_182002:=n1_;have HO_193002:=n2_;have HO_204002:=n3_;have BK175:=n4_;have BK181:=n5_;have BK192:=n6_;have BK203:=n7_;have HB:=n8_;clear n0_ n1_ n2_ n3_ n4_ n5_ n6_ n7_ n8_;(try clear hb);(try clear hb2);(try clear hk);(try clear hi);have hnb106:=NB181_192.out;have hnc106:=NB192_181.out;have hnb107:=NB181_203.out;have hnc107:=NB203_181.out;have hcz108_0 : w105.cell? ⟨gb181,0,none⟩ = some (.int .u64 t197):=(kc_ BK181.out 0).trans rfl;have hcz108_1 : w105.cell? ⟨gb181,1,none⟩ = some (.int .u64 t198):=(kc_ BK181.out 1).trans rfl;have hcz108_2 : w105.cell? ⟨gb181,2,none⟩ = some (.slice Ao47 t199.length co47):=(kc_ BK181.out 2).trans rfl;have hfz108_0:=blk_frozen BK181.out 0;have hfz108_1:=blk_frozen BK181.out 1;have hfz108_2:=blk_frozen BK181.out 2)|((with_reducible refine gate_callee (f:=24) rfl ?_);refine goesL_ (some 132) rfl rfl Try.func24 (by kernel_rfl) rfl #[.agg #[.int .u64 t197,.int .u64 t198,.slice Ao47 t199.length co47],.int .i64 a2,.string t191] rfl (by (try simp only [List.map_toArray,List.map_cons,List.map_nil]);first|done|rfl|(simp only [List.length_drop,List.length_take];rfl)) ?_;(with_reducible refine (dominoref10_Open.calls kj28 t197 t198 _ _ t199 a2 t191 t215 t216 t217 _ ?side1 ?side2 A79.out).mono ?_);(case side1 => repeat (first|exact (Kd.R_reads' HO_182002.out).2.2|(with_reducible refine Kd.C_alloc ?_ _)|(with_reducible refine Kd.C_drewN ?_ _)|(with_reducible refine Kd.C_drew ?_)));(case side2 => exact (Kd.R_reads' HO_182002.out).2.1);rintro e w109 ⟨rfl,hb⟩;refine ⟨_,rfl,?_⟩;have n0_:=am_ (Kd.R_below (by (with_reducible repeat (first|apply ra_|apply rn_|apply rd_));exact HO_176002.out) hb);have n1_:=am_ (Kd.R_below (by (with_reducible repeat (first|apply ra_|apply rn_|apply rd_));exact HO_182002.out) hb);have n2_:=am_ (Kd.R_below (by (with_reducible repeat (first|apply ra_|apply rn_|apply rd_));exact HO_193002.out) hb);have n3_:=am_ (Kd.R_below (by (with_reducible repeat (first|apply ra_|apply rn_|apply rd_));exact HO_204002.out) hb);have n4_:=am_ (blk_below (g:=gb175) (o:=.cells #[.int .u64 t186,.int .u64 t187,.slice Ao37 t188.length co37] 31 (0,0)) (by (with_reducible repeat (first|refine kn_ ?_ _|refine kd_ ?_|refine ka_ ?_ _));exact BK175.out) hb);have n5_:=am_ (blk_below (g:=gb181) (o:=.cells #[.int .u64 t197,.int .u64 t198,.slice Ao47 t199.length co47] 35 (0,0)) (by (with_reducible repeat (first|refine kn_ ?_ _|refine kd_ ?_|refine ka_ ?_ _));exact BK181.out) hb);have n6_:=am_ (blk_below (g:=gb192) (o:=.cells #[.int .u64 t186,.int .u64 t187,.slice Ao37 t188.length co37] 31 (0,0)) (by (with_reducible repeat (first|refine kn_ ?_ _|refine kd_ ?_|refine ka_ ?_ _));exact BK192.out) hb);have n7_:=am_ (blk_below (g:=gb203) (o:=.cells #[.int .u64 t197,.int .u64 t198,.slice Ao47 t199.length co47] 35 (0,0)) (by (with_reducible repeat (first|refine kn_ ?_ _|refine kd_ ?_|refine ka_ ?_ _));exact BK203.out) hb);have n8_:=am_ (below_step (by repeat (first|(with_reducible first|exact HB.out|apply ba_|apply pn_|apply pd_|refine bs_ ?_ GE175.out|refine bs_ ?_ GE181.out|refine bs_ ?_ GE192.out|refine bs_ ?_ GE203.out)|exact HB.out)) hb);clear HO_176002;clear HO_182002;clear HO_193002;clear HO_204002;clear BK175;clear BK181;clear BK192;clear BK203;clear HB;have HO_176002:=n0_;have HO_182002:=n1_;have HO_193002:=n2_;have HO_204002:=n3_;have BK175:=n4_;have BK181:=n5_;have BK192:=n6_;have BK203:=n7_;have HB:=n8_;clear n0_ n1_ n2_ n3_ n4_ n5_ n6_ n7_ n8_;(try clear hb);(try clear hb2);(try clear hk);(try clear hi)))
             go_ret
             exact ⟨by first|rfl|(simp [errW_none,errW_some] <;> rfl)|(simp [*,errW_none,errW_some] <;> rfl),by repeat (first|(with_reducible first|exact HB.out|apply ba_|apply pn_|apply pd_|refine bs_ ?_ GE175.out|refine bs_ ?_ GE181.out|refine bs_ ?_ GE192.out|refine bs_ ?_ GE203.out)|exact HB.out)⟩
           ·rw [if_neg c80] at H
            have c80b0 : (t212 == t215) = false:=beq_eq_false_iff_ne.mpr c80
            have c80b1 : (t212 != t215) = true:=bne_iff_ne.mpr c80
            obtain rfl:=Option.some.inj H
            have hnb110:=NB175_181.out
            have hnc110:=NB181_175.out
            have hnb111:=NB175_192.out
            have hnc111:=NB192_175.out
            have hnb112:=NB175_203.out
            have hnc112:=NB203_175.out
            have hcz113_0 : wc.cell? ⟨gb175,0,none⟩ = some (.int .u64 t186):=(kc_ BK175.out 0).trans rfl
            have hcz113_1 : wc.cell? ⟨gb175,1,none⟩ = some (.int .u64 t187):=(kc_ BK175.out 1).trans rfl
            have hcz113_2 : wc.cell? ⟨gb175,2,none⟩ = some (.slice Ao37 t188.length co37):=(kc_ BK175.out 2).trans rfl
            have hfz113_0:=blk_frozen BK175.out 0
            have hfz113_1:=blk_frozen BK175.out 1
            have hfz113_2:=blk_frozen BK175.out 2
            go_wp2_with (first|((with_reducible refine gate_callee (f:=23) rfl ?_);refine goesL_ (some 124) rfl rfl Try.func23 (by kernel_rfl) rfl #[.agg #[.int .u64 t186,.int .u64 t187,.slice Ao37 t188.length co37],.int .i64 a2,.string t191] rfl (by (try simp only [List.map_toArray,List.map_cons,List.map_nil]);first|done|rfl|(simp only [List.length_drop,List.length_take];rfl)) ?_;(with_reducible refine (ideal_Open.calls t186 t187 _ _ t188 a2 t191 t212 t213 t214 _ ?side1 ?side2 A78.out).mono ?_);(case side1 => repeat (first|exact (Kd.R_reads' HO_176002.out).2.2|(with_reducible refine Kd.C_alloc ?_ _)|(with_reducible refine Kd.C_drewN ?_ _)|(with_reducible refine Kd.C_drew ?_)));(case side2 => exact (Kd.R_reads' HO_176002.out).2.1);rintro e w114 ⟨rfl,hb⟩;refine ⟨_,rfl,?_⟩;have n0_:=am_ (Kd.R_below (by (with_reducible repeat (first|apply ra_|apply rn_|apply rd_));exact HO_176002.out) hb);have n1_:=am_ (Kd.R_below (by (with_reducible repeat (first|apply ra_|apply rn_|apply rd_));exact HO_182002.out) hb);have n2_:=am_ (Kd.R_below (by (with_reducible repeat (first|apply ra_|apply rn_|apply rd_));exact HO_193002.out) hb);have n3_:=am_ (Kd.R_below (by (with_reducible repeat (first|apply ra_|apply rn_|apply rd_));exact HO_204002.out) hb);have n4_:=am_ (blk_below (g:=gb175) (o:=.cells #[.int .u64 t186,.int .u64 t187,.slice Ao37 t188.length co37] 31 (0,0)) (by (with_reducible repeat (first|refine kn_ ?_ _|refine kd_ ?_|refine ka_ ?_ _));exact BK175.out) hb);have n5_:=am_ (blk_below (g:=gb181) (o:=.cells #[.int .u64 t197,.int .u64 t198,.slice Ao47 t199.length co47] 35 (0,0)) (by (with_reducible repeat (first|refine kn_ ?_ _|refine kd_ ?_|refine ka_ ?_ _));exact BK181.out) hb);have n6_:=am_ (blk_below (g:=gb192) (o:=.cells #[.int .u64 t186,.int .u64 t187,.slice Ao37 t188.length co37] 31 (0,0)) (by (with_reducible repeat (first|refine kn_ ?_ _|refine kd_ ?_|refine ka_ ?_ _));exact BK192.out) hb);have n7_:=am_ (blk_below (g:=gb203) (o:=.cells #[.int .u64 t197,.int .u64 t198,.slice Ao47 t199.length co47] 35 (0,0)) (by (with_reducible repeat (first|refine kn_ ?_ _|refine kd_ ?_|refine ka_ ?_ _));exact BK203.out) hb);have n8_:=am_ (below_step (by repeat (first|(with_reducible first|exact HB.out|apply ba_|apply pn_|apply pd_|refine bs_ ?_ GE175.out|refine bs_ ?_ GE181.out|refine bs_ ?_ GE192.out|refine bs_ ?_ GE203.out)|exact HB.out)) hb);clear HO_176002;clear HO_182002;clear HO_193002;clear HO_204002;clear BK175;clear BK181;clear BK192;clear BK203;clear HB;have HO_176002:=n0_;have HO_182002:=n1_;have HO_193002:=n2_;have HO_204002:=n3_;have BK175:=n4_;have BK181:=n5_;have BK192:=n6_;have BK203:=n7_;have HB:=n8_;clear n0_ n1_ n2_ n3_ n4_ n5_ n6_ n7_ n8_;(try clear hb);(try clear hb2);(try clear hk);(try clear hi);have hnb115:=NB181_192.out;have hnc115:=NB192_181.out;have hnb116:=NB181_203.out;have hnc116:=NB203_181.out;have hcz117_0 : w114.cell? ⟨gb181,0,none⟩ = some (.int .u64 t197):=(kc_ BK181.out 0).trans rfl;have hcz117_1 : w114.cell? ⟨gb181,1,none⟩ = some (.int .u64 t198):=(kc_ BK181.out 1).trans rfl;have hcz117_2 : w114.cell? ⟨gb181,2,none⟩ = some (.slice Ao47 t199.length co47):=(kc_ BK181.out 2).trans rfl;have hfz117_0:=blk_frozen BK181.out 0;have hfz117_1:=blk_frozen BK181.out 1;have hfz117_2:=blk_frozen BK181.out 2)|((with_reducible refine gate_callee (f:=24) rfl ?_);refine goesL_ (some 132) rfl rfl Try.func24 (by kernel_rfl) rfl #[.agg #[.int .u64 t197,.int .u64 t198,.slice Ao47 t199.length co47],.int .i64 a2,.string t191] rfl (by (try simp only [List.map_toArray,List.map_cons,List.map_nil]);first|done|rfl|(simp only [List.length_drop,List.length_take];rfl)) ?_;(with_reducible refine (dominoref10_Open.calls kj28 t197 t198 _ _ t199 a2 t191 t215 t216 t217 _ ?side1 ?side2 A79.out).mono ?_);(case side1 => repeat (first|exact (Kd.R_reads' HO_182002.out).2.2|(with_reducible refine Kd.C_alloc ?_ _)|(with_reducible refine Kd.C_drewN ?_ _)|(with_reducible refine Kd.C_drew ?_)));(case side2 => exact (Kd.R_reads' HO_182002.out).2.1);rintro e w118 ⟨rfl,hb⟩;refine ⟨_,rfl,?_⟩;have n0_:=am_ (Kd.R_below (by (with_reducible repeat (first|apply ra_|apply rn_|apply rd_));exact HO_176002.out) hb);have n1_:=am_ (Kd.R_below (by (with_reducible repeat (first|apply ra_|apply rn_|apply rd_));exact HO_182002.out) hb);have n2_:=am_ (Kd.R_below (by (with_reducible repeat (first|apply ra_|apply rn_|apply rd_));exact HO_193002.out) hb);have n3_:=am_ (Kd.R_below (by (with_reducible repeat (first|apply ra_|apply rn_|apply rd_));exact HO_204002.out) hb);have n4_:=am_ (blk_below (g:=gb175) (o:=.cells #[.int .u64 t186,.int .u64 t187,.slice Ao37 t188.length co37] 31 (0,0)) (by (with_reducible repeat (first|refine kn_ ?_ _|refine kd_ ?_|refine ka_ ?_ _));exact BK175.out) hb);have n5_:=am_ (blk_below (g:=gb181) (o:=.cells #[.int .u64 t197,.int .u64 t198,.slice Ao47 t199.length co47] 35 (0,0)) (by (with_reducible repeat (first|refine kn_ ?_ _|refine kd_ ?_|refine ka_ ?_ _));exact BK181.out) hb);have n6_:=am_ (blk_below (g:=gb192) (o:=.cells #[.int .u64 t186,.int .u64 t187,.slice Ao37 t188.length co37] 31 (0,0)) (by (with_reducible repeat (first|refine kn_ ?_ _|refine kd_ ?_|refine ka_ ?_ _));exact BK192.out) hb);have n7_:=am_ (blk_below (g:=gb203) (o:=.cells #[.int .u64 t197,.int .u64 t198,.slice Ao47 t199.length co47] 35 (0,0)) (by (with_reducible repeat (first|refine kn_ ?_ _|refine kd_ ?_|refine ka_ ?_ _));exact BK203.out) hb);have n8_:=am_ (below_step (by repeat (first|(with_reducible first|exact HB.out|apply ba_|apply pn_|apply pd_|refine bs_ ?_ GE175.out|refine bs_ ?_ GE181.out|refine bs_ ?_ GE192.out|refine bs_ ?_ GE203.out)|exact HB.out)) hb);clear HO_176002;clear HO_182002;clear HO_193002;clear HO_204002;clear BK175;clear BK181;clear BK192;clear BK203;clear HB;have HO_176002:=n0_;have HO_182002:=n1_;have HO_193002:=n2_;have HO_204002:=n3_;have BK175:=n4_;have BK181:=n5_;have BK192:=n6_;have BK203:=n7_;have HB:=n8_;clear n0_ n1_ n2_ n3_ n4_ n5_ n6_ n7_ n8_;(try clear hb);(try clear hb2);(try clear hk);(try clear hi)))
            go_ret
            exact ⟨by first|rfl|(simp [errW_none,errW_some] <;> rfl)|(simp [*,errW_none,errW_some] <;> rfl),by repeat (first|(with_reducible first|exact HB.out|apply ba_|apply pn_|apply pd_|refine bs_ ?_ GE175.out|refine bs_ ?_ GE181.out|refine bs_ ?_ GE192.out|refine bs_ ?_ GE203.out)|exact HB.out)⟩
       ·rw [if_neg c26] at H
        exact absurd H (by simp)
      ·rw [if_neg c25] at H
       have c25b0 : decide (x11_2 < (l1.length : Int)) = false:=decide_eq_false c25
       clear c25
       replace H:=Option.bind_eq_some_iff.mp H
       obtain ⟨⟨t218,t219,t220⟩,A1190,H⟩:=H
       replace H : ((dominoref10_Open.f k2 x182000_2 x182001_2 x182002_2 a2 a3).bind fun bt221 => (if t218 = bt221.1 then (if t219.toList = bt221.2.1.toList then (if (t220 == bt221.2.2) = true then ((ideal_Cid.f a3).bind fun t224 => ((dominoref10_Cid.f a3).bind fun t225 => (some (t224.toList == t225.toList)))) else (some false)) else (some false)) else (some false))) = some r:=H
       have A119:=am_ A1190
       clear A1190
       replace H:=Option.bind_eq_some_iff.mp H
       obtain ⟨⟨t221,t222,t223⟩,A1200,H⟩:=H
       replace H : (if t218 = t221 then (if t219.toList = t222.toList then (if (t220 == t223) = true then ((ideal_Cid.f a3).bind fun t224 => ((dominoref10_Cid.f a3).bind fun t225 => (some (t224.toList == t225.toList)))) else (some false)) else (some false)) else (some false)) = some r:=H
       have A120:=am_ A1200
       clear A1200
       by_cases c121 : t218 = t221
       ·rw [if_pos c121] at H
        have c121b0 : (t218 == t221) = true:=beq_iff_eq.mpr c121
        have c121b1 : (t218 != t221) = false:=bne_eq_false_iff_eq.mpr c121
        clear c121
        by_cases c122 : t219.toList = t222.toList
        ·rw [if_pos c122] at H
         have c122b0 : (t219.toList == t222.toList) = true:=beq_iff_eq.mpr c122
         have c122b1 : (t219.toList != t222.toList) = false:=bne_eq_false_iff_eq.mpr c122
         clear c122
         by_cases c123 : (t220 == t223) = true
         ·rw [if_pos c123] at H
          have c123b0 : (t220 == t223) = true:=c123
          (try (have c123b1 : decide (t220 = t223) = true:=by simpa using c123))
          (try (have c123b2 : (t220 == t223) = true:=by simpa using c123))
          clear c123
          replace H:=Option.bind_eq_some_iff.mp H
          obtain ⟨t224,A1240,H⟩:=H
          replace H : ((dominoref10_Cid.f a3).bind fun t225 => (some (t224.toList == t225.toList))) = some r:=H
          have A124:=am_ A1240
          clear A1240
          replace H:=Option.bind_eq_some_iff.mp H
          obtain ⟨t225,A1250,H⟩:=H
          replace H : (some (t224.toList == t225.toList)) = some r:=H
          have A125:=am_ A1250
          clear A1250
          obtain rfl:=Option.some.inj H
          have hnb126:=NB175_181.out
          have hnc126:=NB181_175.out
          have hcz127_0 : wr.cell? ⟨gb175,0,none⟩ = some (.int .u64 x176000_2):=(kc_ BK175.out 0).trans rfl
          have hcz127_1 : wr.cell? ⟨gb175,1,none⟩ = some (.int .u64 x176001_2):=(kc_ BK175.out 1).trans rfl
          have hcz127_2 : wr.cell? ⟨gb175,2,none⟩ = some (u176002):=(kc_ BK175.out 2).trans rfl
          have hfz127_0:=blk_frozen BK175.out 0
          have hfz127_1:=blk_frozen BK175.out 1
          have hfz127_2:=blk_frozen BK175.out 2
          obtain ⟨Ao128,co128,eo128⟩:=Kd.R_slice HO_176002.out
          subst eo128
          go_wp2_with (first|((with_reducible refine gate_callee (f:=23) rfl ?_);refine goesL_ (some 153) rfl rfl Try.func23 (by kernel_rfl) rfl #[.agg #[.int .u64 x176000_2,.int .u64 x176001_2,.slice Ao128 x176002_2.length co128],.int .i64 a2,.string a3] rfl (by (try simp only [List.map_toArray,List.map_cons,List.map_nil]);first|done|rfl|(simp only [List.length_drop,List.length_take];rfl)) ?_;(with_reducible refine (ideal_Open.calls x176000_2 x176001_2 _ _ x176002_2 a2 a3 t218 t219 t220 _ ?side1 ?side2 A119.out).mono ?_);(case side1 => repeat (first|exact (Kd.R_reads' HO_176002.out).2.2|(with_reducible refine Kd.C_alloc ?_ _)|(with_reducible refine Kd.C_drewN ?_ _)|(with_reducible refine Kd.C_drew ?_)));(case side2 => exact (Kd.R_reads' HO_176002.out).2.1);rintro e w129 ⟨rfl,hb⟩;refine ⟨_,rfl,?_⟩;have n0_:=am_ (Kd.R_below (by (with_reducible repeat (first|apply ra_|apply rn_|apply rd_));exact HO_176002.out) hb);have n1_:=am_ (Kd.R_below (by (with_reducible repeat (first|apply ra_|apply rn_|apply rd_));exact HO_182002.out) hb);have n2_:=am_ (blk_below (g:=gb175) (o:=.cells #[.int .u64 x176000_2,.int .u64 x176001_2,.slice Ao128 x176002_2.length co128] 31 (0,0)) (by (with_reducible repeat (first|refine kn_ ?_ _|refine kd_ ?_|refine ka_ ?_ _));exact BK175.out) hb);have n3_:=am_ (blk_below (g:=gb181) (o:=.cells #[.int .u64 x182000_2,.int .u64 x182001_2,u182002] 35 (0,0)) (by (with_reducible repeat (first|refine kn_ ?_ _|refine kd_ ?_|refine ka_ ?_ _));exact BK181.out) hb);have n4_:=am_ (below_step (by repeat (first|(with_reducible first|exact HB.out|apply ba_|apply pn_|apply pd_|refine bs_ ?_ GE175.out|refine bs_ ?_ GE181.out)|exact HB.out)) hb);clear HO_176002;clear HO_182002;clear BK175;clear BK181;clear HB;have HO_176002:=n0_;have HO_182002:=n1_;have BK175:=n2_;have BK181:=n3_;have HB:=n4_;clear n0_ n1_ n2_ n3_ n4_;(try clear hb);(try clear hb2);(try clear hk);(try clear hi);have hcz130_0 : w129.cell? ⟨gb181,0,none⟩ = some (.int .u64 x182000_2):=(kc_ BK181.out 0).trans rfl;have hcz130_1 : w129.cell? ⟨gb181,1,none⟩ = some (.int .u64 x182001_2):=(kc_ BK181.out 1).trans rfl;have hcz130_2 : w129.cell? ⟨gb181,2,none⟩ = some (u182002):=(kc_ BK181.out 2).trans rfl;have hfz130_0:=blk_frozen BK181.out 0;have hfz130_1:=blk_frozen BK181.out 1;have hfz130_2:=blk_frozen BK181.out 2;obtain ⟨Ao131,co131,eo131⟩:=Kd.R_slice HO_182002.out;subst eo131)|((with_reducible refine gate_callee (f:=24) rfl ?_);refine goesL_ (some 161) rfl rfl Try.func24 (by kernel_rfl) rfl #[.agg #[.int .u64 x182000_2,.int .u64 x182001_2,.slice Ao131 x182002_2.length co131],.int .i64 a2,.string a3] rfl (by (try simp only [List.map_toArray,List.map_cons,List.map_nil]);first|done|rfl|(simp only [List.length_drop,List.length_take];rfl)) ?_;(with_reducible refine (dominoref10_Open.calls k2 x182000_2 x182001_2 _ _ x182002_2 a2 a3 t221 t222 t223 _ ?side1 ?side2 A120.out).mono ?_);(case side1 => repeat (first|exact (Kd.R_reads' HO_182002.out).2.2|(with_reducible refine Kd.C_alloc ?_ _)|(with_reducible refine Kd.C_drewN ?_ _)|(with_reducible refine Kd.C_drew ?_)));(case side2 => exact (Kd.R_reads' HO_182002.out).2.1);rintro e w132 ⟨rfl,hb⟩;refine ⟨_,rfl,?_⟩;have n0_:=am_ (Kd.R_below (by (with_reducible repeat (first|apply ra_|apply rn_|apply rd_));exact HO_176002.out) hb);have n1_:=am_ (Kd.R_below (by (with_reducible repeat (first|apply ra_|apply rn_|apply rd_));exact HO_182002.out) hb);have n2_:=am_ (blk_below (g:=gb175) (o:=.cells #[.int .u64 x176000_2,.int .u64 x176001_2,.slice Ao128 x176002_2.length co128] 31 (0,0)) (by (with_reducible repeat (first|refine kn_ ?_ _|refine kd_ ?_|refine ka_ ?_ _));exact BK175.out) hb);have n3_:=am_ (blk_below (g:=gb181) (o:=.cells #[.int .u64 x182000_2,.int .u64 x182001_2,.slice Ao131 x182002_2.length co131] 35 (0,0)) (by (with_reducible repeat (first|refine kn_ ?_ _|refine kd_ ?_|refine ka_ ?_ _));exact BK181.out) hb);have n4_:=am_ (below_step (by repeat (first|(with_reducible first|exact HB.out|apply ba_|apply pn_|apply pd_|refine bs_ ?_ GE175.out|refine bs_ ?_ GE181.out)|exact HB.out)) hb);clear HO_176002;clear HO_182002;clear BK175;clear BK181;clear HB;have HO_176002:=n0_;have HO_182002:=n1_;have BK175:=n2_;have BK181:=n3_;have HB:=n4_;clear n0_ n1_ n2_ n3_ n4_;(try clear hb);(try clear hb2);(try clear hk);(try clear hi))|(go_at_call 21;(with_reducible refine (ideal_Cid.calls a3 t224 _ A124.out).mono ?_);rintro e w' ⟨rfl,⟨nd,rfl⟩⟩)|(go_at_call 22;(with_reducible refine (dominoref10_Cid.calls a3 t225 _ A125.out).mono ?_);rintro e w' ⟨rfl,⟨nd,rfl⟩⟩))
          go_ret
          exact ⟨by first|rfl|(simp [errW_none,errW_some] <;> rfl)|(simp [*,errW_none,errW_some] <;> rfl),by repeat (first|(with_reducible first|exact HB.out|apply ba_|apply pn_|apply pd_|refine bs_ ?_ GE175.out|refine bs_ ?_ GE181.out)|exact HB.out)⟩
         ·rw [if_neg c123] at H
          have c123b0 : (t220 == t223) = false:=by simpa using c123
          (try (have c123b1 : decide (t220 = t223) = false:=by simpa using c123))
          (try (have c123b2 : (t220 == t223) = false:=by simpa using c123))
          (try (have c123b3 : ¬ (t220 = t223):=by simpa using c123))
          clear c123
          obtain rfl:=Option.some.inj H
          have hnb133:=NB175_181.out
          have hnc133:=NB181_175.out
          have hcz134_0 : wr.cell? ⟨gb175,0,none⟩ = some (.int .u64 x176000_2):=(kc_ BK175.out 0).trans rfl
          have hcz134_1 : wr.cell? ⟨gb175,1,none⟩ = some (.int .u64 x176001_2):=(kc_ BK175.out 1).trans rfl
          have hcz134_2 : wr.cell? ⟨gb175,2,none⟩ = some (u176002):=(kc_ BK175.out 2).trans rfl
          have hfz134_0:=blk_frozen BK175.out 0
          have hfz134_1:=blk_frozen BK175.out 1
          have hfz134_2:=blk_frozen BK175.out 2
          obtain ⟨Ao135,co135,eo135⟩:=Kd.R_slice HO_176002.out
          subst eo135
          go_wp2_with (first|((with_reducible refine gate_callee (f:=23) rfl ?_);refine goesL_ (some 153) rfl rfl Try.func23 (by kernel_rfl) rfl #[.agg #[.int .u64 x176000_2,.int .u64 x176001_2,.slice Ao135 x176002_2.length co135],.int .i64 a2,.string a3] rfl (by (try simp only [List.map_toArray,List.map_cons,List.map_nil]);first|done|rfl|(simp only [List.length_drop,List.length_take];rfl)) ?_;(with_reducible refine (ideal_Open.calls x176000_2 x176001_2 _ _ x176002_2 a2 a3 t218 t219 t220 _ ?side1 ?side2 A119.out).mono ?_);(case side1 => repeat (first|exact (Kd.R_reads' HO_176002.out).2.2|(with_reducible refine Kd.C_alloc ?_ _)|(with_reducible refine Kd.C_drewN ?_ _)|(with_reducible refine Kd.C_drew ?_)));(case side2 => exact (Kd.R_reads' HO_176002.out).2.1);rintro e w136 ⟨rfl,hb⟩;refine ⟨_,rfl,?_⟩;have n0_:=am_ (Kd.R_below (by (with_reducible repeat (first|apply ra_|apply rn_|apply rd_));exact HO_176002.out) hb);have n1_:=am_ (Kd.R_below (by (with_reducible repeat (first|apply ra_|apply rn_|apply rd_));exact HO_182002.out) hb);have n2_:=am_ (blk_below (g:=gb175) (o:=.cells #[.int .u64 x176000_2,.int .u64 x176001_2,.slice Ao135 x176002_2.length co135] 31 (0,0)) (by (with_reducible repeat (first|refine kn_ ?_ _|refine kd_ ?_|refine ka_ ?_ _));exact BK175.out) hb);have n3_:=am_ (blk_below (g:=gb181) (o:=.cells #[.int .u64 x182000_2,.int .u64 x182001_2,u182002] 35 (0,0)) (by (with_reducible repeat (first|refine kn_ ?_ _|refine kd_ ?_|refine ka_ ?_ _));exact BK181.out) hb);have n4_:=am_ (below_step (by repeat (first|(with_reducible first|exact HB.out|apply ba_|apply pn_|apply pd_|refine bs_ ?_ GE175.out|refine bs_ ?_ GE181.out)|exact HB.out)) hb);clear HO_176002;clear HO_182002;clear BK175;clear BK181;clear HB;have HO_176002:=n0_;have HO_182002:=n1_;have BK175:=n2_;have BK181:=n3_;have HB:=n4_;clear n0_ n1_ n2_ n3_ n4_;(try clear hb);(try clear hb2);(try clear hk);(try clear hi);have hcz137_0 : w136.cell? ⟨gb181,0,none⟩ = some (.int .u64 x182000_2):=(kc_ BK181.out 0).trans rfl;have hcz137_1 : w136.cell? ⟨gb181,1,none⟩ = some (.int .u64 x182001_2):=(kc_ BK181.out 1).trans rfl;have hcz137_2 : w136.cell? ⟨gb181,2,none⟩ = some (u182002):=(kc_ BK181.out 2).trans rfl;have hfz137_0:=blk_frozen BK181.out 0;have hfz137_1:=blk_frozen BK181.out 1;have hfz137_2:=blk_frozen BK181.out 2;obtain ⟨Ao138,co138,eo138⟩:=Kd.R_slice HO_182002.out;subst eo138)|((with_reducible refine gate_callee (f:=24) rfl ?_);refine goesL_ (some 161) rfl rfl Try.func24 (by kernel_rfl) rfl #[.agg #[.int .u64 x182000_2,.int .u64 x182001_2,.slice Ao138 x182002_2.length co138],.int .i64 a2,.string a3] rfl (by (try simp only [List.map_toArray,List.map_cons,List.map_nil]);first|done|rfl|(simp only [List.length_drop,List.length_take];rfl)) ?_;(with_reducible refine (dominoref10_Open.calls k2 x182000_2 x182001_2 _ _ x182002_2 a2 a3 t221 t222 t223 _ ?side1 ?side2 A120.out).mono ?_);(case side1 => repeat (first|exact (Kd.R_reads' HO_182002.out).2.2|(with_reducible refine Kd.C_alloc ?_ _)|(with_reducible refine Kd.C_drewN ?_ _)|(with_reducible refine Kd.C_drew ?_)));(case side2 => exact (Kd.R_reads' HO_182002.out).2.1);rintro e w139 ⟨rfl,hb⟩;refine ⟨_,rfl,?_⟩;have n0_:=am_ (Kd.R_below (by (with_reducible repeat (first|apply ra_|apply rn_|apply rd_));exact HO_176002.out) hb);have n1_:=am_ (Kd.R_below (by (with_reducible repeat (first|apply ra_|apply rn_|apply rd_));exact HO_182002.out) hb);have n2_:=am_ (blk_below (g:=gb175) (o:=.cells #[.int .u64 x176000_2,.int .u64 x176001_2,.slice Ao135 x176002_2.length co135] 31 (0,0)) (by (with_reducible repeat (first|refine kn_ ?_ _|refine kd_ ?_|refine ka_ ?_ _));exact BK175.out) hb);have n3_:=am_ (blk_below (g:=gb181) (o:=.cells #[.int .u64 x182000_2,.int .u64 x182001_2,.slice Ao138 x182002_2.length co138] 35 (0,0)) (by (with_reducible repeat (first|refine kn_ ?_ _|refine kd_ ?_|refine ka_ ?_ _));exact BK181.out) hb);have n4_:=am_ (below_step (by repeat (first|(with_reducible first|exact HB.out|apply ba_|apply pn_|apply pd_|refine bs_ ?_ GE175.out|refine bs_ ?_ GE181.out)|exact HB.out)) hb);clear HO_176002;clear HO_182002;clear BK175;clear BK181;clear HB;have HO_176002:=n0_;have HO_182002:=n1_;have BK175:=n2_;have BK181:=n3_;have HB:=n4_;clear n0_ n1_ n2_ n3_ n4_;(try clear hb);(try clear hb2);(try clear hk);(try clear hi)))
          go_ret
          exact ⟨by first|rfl|(simp [errW_none,errW_some] <;> rfl)|(simp [*,errW_none,errW_some] <;> rfl),by repeat (first|(with_reducible first|exact HB.out|apply ba_|apply pn_|apply pd_|refine bs_ ?_ GE175.out|refine bs_ ?_ GE181.out)|exact HB.out)⟩
        ·rw [if_neg c122] at H
         have c122b0 : (t219.toList == t222.toList) = false:=beq_eq_false_iff_ne.mpr c122
         have c122b1 : (t219.toList != t222.toList) = true:=bne_iff_ne.mpr c122
         obtain rfl:=Option.some.inj H
         have hnb140:=NB175_181.out
         have hnc140:=NB181_175.out
         have hcz141_0 : wr.cell? ⟨gb175,0,none⟩ = some (.int .u64 x176000_2):=(kc_ BK175.out 0).trans rfl
         have hcz141_1 : wr.cell? ⟨gb175,1,none⟩ = some (.int .u64 x176001_2):=(kc_ BK175.out 1).trans rfl
         have hcz141_2 : wr.cell? ⟨gb175,2,none⟩ = some (u176002):=(kc_ BK175.out 2).trans rfl
         have hfz141_0:=blk_frozen BK175.out 0
         have hfz141_1:=blk_frozen BK175.out 1
         have hfz141_2:=blk_frozen BK175.out 2
         obtain ⟨Ao142,co142,eo142⟩:=Kd.R_slice HO_176002.out
         subst eo142
         go_wp2_with (first|((with_reducible refine gate_callee (f:=23) rfl ?_);refine goesL_ (some 153) rfl rfl Try.func23 (by kernel_rfl) rfl #[.agg #[.int .u64 x176000_2,.int .u64 x176001_2,.slice Ao142 x176002_2.length co142],.int .i64 a2,.string a3] rfl (by (try simp only [List.map_toArray,List.map_cons,List.map_nil]);first|done|rfl|(simp only [List.length_drop,List.length_take];rfl)) ?_;(with_reducible refine (ideal_Open.calls x176000_2 x176001_2 _ _ x176002_2 a2 a3 t218 t219 t220 _ ?side1 ?side2 A119.out).mono ?_);(case side1 => repeat (first|exact (Kd.R_reads' HO_176002.out).2.2|(with_reducible refine Kd.C_alloc ?_ _)|(with_reducible refine Kd.C_drewN ?_ _)|(with_reducible refine Kd.C_drew ?_)));(case side2 => exact (Kd.R_reads' HO_176002.out).2.1);rintro e w143 ⟨rfl,hb⟩;refine ⟨_,rfl,?_⟩;have n0_:=am_ (Kd.R_below (by (with_reducible repeat (first|apply ra_|apply rn_|apply rd_));exact HO_176002.out) hb);have n1_:=am_ (Kd.R_below (by (with_reducible repeat (first|apply ra_|apply rn_|apply rd_));exact HO_182002.out) hb);have n2_:=am_ (blk_below (g:=gb175) (o:=.cells #[.int .u64 x176000_2,.int .u64 x176001_2,.slice Ao142 x176002_2.length co142] 31 (0,0)) (by (with_reducible repeat (first|refine kn_ ?_ _|refine kd_ ?_|refine ka_ ?_ _));exact BK175.out) hb);have n3_:=am_ (blk_below (g:=gb181) (o:=.cells #[.int .u64 x182000_2,.int .u64 x182001_2,u182002] 35 (0,0)) (by (with_reducible repeat (first|refine kn_ ?_ _|refine kd_ ?_|refine ka_ ?_ _));exact BK181.out) hb);have n4_:=am_ (below_step (by repeat (first|(with_reducible first|exact HB.out|apply ba_|apply pn_|apply pd_|refine bs_ ?_ GE175.out|refine bs_ ?_ GE181.out)|exact HB.out)) hb);clear HO_176002;clear HO_182002;clear BK175;clear BK181;clear HB;have HO_176002:=n0_;have HO_182002:=n1_;have BK175:=n2_;have BK181:=n3_;have HB:=n4_;clear n0_ n1_ n2_ n3_ n4_;(try clear hb);(try clear hb2);(try clear hk);(try clear hi);have hcz144_0 : w143.cell? ⟨gb181,0,none⟩ = some (.int .u64 x182000_2):=(kc_ BK181.out 0).trans rfl;have hcz144_1 : w143.cell? ⟨gb181,1,none⟩ = some (.int .u64 x182001_2):=(kc_ BK181.out 1).trans rfl;have hcz144_2 : w143.cell? ⟨gb181,2,none⟩ = some (u182002):=(kc_ BK181.out 2).trans rfl;have hfz144_0:=blk_frozen BK181.out 0;have hfz144_1:=blk_frozen BK181.out 1;have hfz144_2:=blk_frozen BK181.out 2;obtain ⟨Ao145,co145,eo145⟩:=Kd.R_slice HO_182002.out;subst eo145)|((with_reducible refine gate_callee (f:=24) rfl ?_);refine goesL_ (some 161) rfl rfl Try.func24 (by kernel_rfl) rfl #[.agg #[.int .u64 x182000_2,.int .u64 x182001_2,.slice Ao145 x182002_2.length co145],.int .i64 a2,.string a3] rfl (by (try simp only [List.map_toArray,List.map_cons,List.map_nil]);first|done|rfl|(simp only [List.length_drop,List.length_take];rfl)) ?_;(with_reducible refine (dominoref10_Open.calls k2 x182000_2 x182001_2 _ _ x182002_2 a2 a3 t221 t222 t223 _ ?side1 ?side2 A120.out).mono ?_);(case side1 => repeat (first|exact (Kd.R_reads' HO_182002.out).2.2|(with_reducible refine Kd.C_alloc ?_ _)|(with_reducible refine Kd.C_drewN ?_ _)|(with_reducible refine Kd.C_drew ?_)));(case side2 => exact (Kd.R_reads' HO_182002.out).2.1);rintro e w146 ⟨rfl,hb⟩;refine ⟨_,rfl,?_⟩;have n0_:=am_ (Kd.R_below (by (with_reducible repeat (first|apply ra_|apply rn_|apply rd_));exact HO_176002.out) hb);have n1_:=am_ (Kd.R_below (by (with_reducible repeat (first|apply ra_|apply rn_|apply rd_));exact HO_182002.out) hb);have n2_:=am_ (blk_below (g:=gb175) (o:=.cells #[.int .u64 x176000_2,.int .u64 x176001_2,.slice Ao142 x176002_2.length co142] 31 (0,0)) (by (with_reducible repeat (first|refine kn_ ?_ _|refine kd_ ?_|refine ka_ ?_ _));exact BK175.out) hb);have n3_:=am_ (blk_below (g:=gb181) (o:=.cells #[.int .u64 x182000_2,.int .u64 x182001_2,.slice Ao145 x182002_2.length co145] 35 (0,0)) (by (with_reducible repeat (first|refine kn_ ?_ _|refine kd_ ?_|refine ka_ ?_ _));exact BK181.out) hb);have n4_:=am_ (below_step (by repeat (first|(with_reducible first|exact HB.out|apply ba_|apply pn_|apply pd_|refine bs_ ?_ GE175.out|refine bs_ ?_ GE181.out)|exact HB.out)) hb);clear HO_176002;clear HO_182002;clear BK175;clear BK181;clear HB;have HO_176002:=n0_;have HO_182002:=n1_;have BK175:=n2_;have BK181:=n3_;have HB:=n4_;clear n0_ n1_ n2_ n3_ n4_;(try clear hb);(try clear hb2);(try clear hk);(try clear hi)))
         go_ret
         exact ⟨by first|rfl|(simp [errW_none,errW_some] <;> rfl)|(simp [*,errW_none,errW_some] <;> rfl),by repeat (first|(with_reducible first|exact HB.out|apply ba_|apply pn_|apply pd_|refine bs_ ?_ GE175.out|refine bs_ ?_ GE181.out)|exact HB.out)⟩
       ·rw [if_neg c121] at H
        have c121b0 : (t218 == t221) = false:=beq_eq_false_iff_ne.mpr c121
        have c121b1 : (t218 != t221) = true:=bne_iff_ne.mpr c121
        obtain rfl:=Option.some.inj H
        have hnb147:=NB175_181.out
        have hnc147:=NB181_175.out
        have hcz148_0 : wr.cell? ⟨gb175,0,none⟩ = some (.int .u64 x176000_2):=(kc_ BK175.out 0).trans rfl
        have hcz148_1 : wr.cell? ⟨gb175,1,none⟩ = some (.int .u64 x176001_2):=(kc_ BK175.out 1).trans rfl
        have hcz148_2 : wr.cell? ⟨gb175,2,none⟩ = some (u176002):=(kc_ BK175.out 2).trans rfl
        have hfz148_0:=blk_frozen BK175.out 0
        have hfz148_1:=blk_frozen BK175.out 1
        have hfz148_2:=blk_frozen BK175.out 2
        obtain ⟨Ao149,co149,eo149⟩:=Kd.R_slice HO_176002.out
        subst eo149
        go_wp2_with (first|((with_reducible refine gate_callee (f:=23) rfl ?_);refine goesL_ (some 153) rfl rfl Try.func23 (by kernel_rfl) rfl #[.agg #[.int .u64 x176000_2,.int .u64 x176001_2,.slice Ao149 x176002_2.length co149],.int .i64 a2,.string a3] rfl (by (try simp only [List.map_toArray,List.map_cons,List.map_nil]);first|done|rfl|(simp only [List.length_drop,List.length_take];rfl)) ?_;(with_reducible refine (ideal_Open.calls x176000_2 x176001_2 _ _ x176002_2 a2 a3 t218 t219 t220 _ ?side1 ?side2 A119.out).mono ?_);(case side1 => repeat (first|exact (Kd.R_reads' HO_176002.out).2.2|(with_reducible refine Kd.C_alloc ?_ _)|(with_reducible refine Kd.C_drewN ?_ _)|(with_reducible refine Kd.C_drew ?_)));(case side2 => exact (Kd.R_reads' HO_176002.out).2.1);rintro e w150 ⟨rfl,hb⟩;refine ⟨_,rfl,?_⟩;have n0_:=am_ (Kd.R_below (by (with_reducible repeat (first|apply ra_|apply rn_|apply rd_));exact HO_176002.out) hb);have n1_:=am_ (Kd.R_below (by (with_reducible repeat (first|apply ra_|apply rn_|apply rd_));exact HO_182002.out) hb);have n2_:=am_ (blk_below (g:=gb175) (o:=.cells #[.int .u64 x176000_2,.int .u64 x176001_2,.slice Ao149 x176002_2.length co149] 31 (0,0)) (by (with_reducible repeat (first|refine kn_ ?_ _|refine kd_ ?_|refine ka_ ?_ _));exact BK175.out) hb);have n3_:=am_ (blk_below (g:=gb181) (o:=.cells #[.int .u64 x182000_2,.int .u64 x182001_2,u182002] 35 (0,0)) (by (with_reducible repeat (first|refine kn_ ?_ _|refine kd_ ?_|refine ka_ ?_ _));exact BK181.out) hb);have n4_:=am_ (below_step (by repeat (first|(with_reducible first|exact HB.out|apply ba_|apply pn_|apply pd_|refine bs_ ?_ GE175.out|refine bs_ ?_ GE181.out)|exact HB.out)) hb);clear HO_176002;clear HO_182002;clear BK175;clear BK181;clear HB;have HO_176002:=n0_;have HO_182002:=n1_;have BK175:=n2_;have BK181:=n3_;have HB:=n4_;clear n0_ n1_ n2_ n3_ n4_;(try clear hb);(try clear hb2);(try clear hk);(try clear hi);have hcz151_0 : w150.cell? ⟨gb181,0,none⟩ = some (.int .u64 x182000_2):=(kc_ BK181.out 0).trans rfl;have hcz151_1 : w150.cell? ⟨gb181,1,none⟩ = some (.int .u64 x182001_2):=(kc_ BK181.out 1).trans rfl;have hcz151_2 : w150.cell? ⟨gb181,2,none⟩ = some (u182002):=(kc_ BK181.out 2).trans rfl;have hfz151_0:=blk_frozen BK181.out 0;have hfz151_1:=blk_frozen BK181.out 1;have hfz151_2:=blk_frozen BK181.out 2;obtain ⟨Ao152,co152,eo152⟩:=Kd.R_slice HO_182002.out;subst eo152)|((with_reducible refine gate_callee (f:=24) rfl ?_);refine goesL_ (some 161) rfl rfl Try.func24 (by kernel_rfl) rfl #[.agg #[.int .u64 x182000_2,.int .u64 x182001_2,.slice Ao152 x182002_2.length co152],.int .i64 a2,.string a3] rfl (by (try simp only [List.map_toArray,List.map_cons,List.map_nil]);first|done|rfl|(simp only [List.length_drop,List.length_take];rfl)) ?_;(with_reducible refine (dominoref10_Open.calls k2 x182000_2 x182001_2 _ _ x182002_2 a2 a3 t221 t222 t223 _ ?side1 ?side2 A120.out).mono ?_);(case side1 => repeat (first|exact (Kd.R_reads' HO_182002.out).2.2|(with_reducible refine Kd.C_alloc ?_ _)|(with_reducible refine Kd.C_drewN ?_ _)|(with_reducible refine Kd.C_drew ?_)));(case side2 => exact (Kd.R_reads' HO_182002.out).2.1);rintro e w153 ⟨rfl,hb⟩;refine ⟨_,rfl,?_⟩;have n0_:=am_ (Kd.R_below (by (with_reducible repeat (first|apply ra_|apply rn_|apply rd_));exact HO_176002.out) hb);have n1_:=am_ (Kd.R_below (by (with_reducible repeat (first|apply ra_|apply rn_|apply rd_));exact HO_182002.out) hb);have n2_:=am_ (blk_below (g:=gb175) (o:=.cells #[.int .u64 x176000_2,.int .u64 x176001_2,.slice Ao149 x176002_2.length co149] 31 (0,0)) (by (with_reducible repeat (first|refine kn_ ?_ _|refine kd_ ?_|refine ka_ ?_ _));exact BK175.out) hb);have n3_:=am_ (blk_below (g:=gb181) (o:=.cells #[.int .u64 x182000_2,.int .u64 x182001_2,.slice Ao152 x182002_2.length co152] 35 (0,0)) (by (with_reducible repeat (first|refine kn_ ?_ _|refine kd_ ?_|refine ka_ ?_ _));exact BK181.out) hb);have n4_:=am_ (below_step (by repeat (first|(with_reducible first|exact HB.out|apply ba_|apply pn_|apply pd_|refine bs_ ?_ GE175.out|refine bs_ ?_ GE181.out)|exact HB.out)) hb);clear HO_176002;clear HO_182002;clear BK175;clear BK181;clear HB;have HO_176002:=n0_;have HO_182002:=n1_;have BK175:=n2_;have BK181:=n3_;have HB:=n4_;clear n0_ n1_ n2_ n3_ n4_;(try clear hb);(try clear hb2);(try clear hk);(try clear hi)))
        go_ret
        exact ⟨by first|rfl|(simp [errW_none,errW_some] <;> rfl)|(simp [*,errW_none,errW_some] <;> rfl),by repeat (first|(with_reducible first|exact HB.out|apply ba_|apply pn_|apply pd_|refine bs_ ?_ GE175.out|refine bs_ ?_ GE181.out)|exact HB.out)⟩

/-- THE ONE PURE STATEMENT of dominolaw10_IdealSeals: yours. -/
def dominolaw10_IdealSeals.Pure : Prop:=∀ (a0 : Int) (l1 : List (S40)) (a2 : Int) (a3 : ByteArray),(Lit.int .u64 a0).wf = true → l1.length ≤ maxLen → l1.length * 48 ≤ 140737488351232 → (∀ x ∈ l1,((Lit.int .i64 x.f0).wf = true ∧ (Lit.int .u64 x.f1).wf = true ∧ x.f2.size ≤ maxLen ∧ x.f3.size ≤ maxLen)) → (Lit.int .i64 a2).wf = true → a3.size ≤ 140737488351232 → ∃ k,dominolaw10_IdealSeals.f k a0 l1 a2 a3 = some true
theorem dominolaw10_IdealSeals.walk (P : dominolaw10_IdealSeals.Pure) (a0 : Int) (a1 : Option Addr) (cap1 : Nat) (l1 : List (S40)) (a2 : Int) (a3 : ByteArray) (w : World) (w0 : (Lit.int .u64 a0).wf = true) (hr1 : Kd.C k40 w a1 l1.length l1) (hc1 : l1.length ≤ cap1) (w1_0 : l1.length ≤ maxLen) (w1_1 : l1.length * 48 ≤ 140737488351232) (w1_2 : (∀ x ∈ l1,((Lit.int .i64 x.f0).wf = true ∧ (Lit.int .u64 x.f1).wf = true ∧ x.f2.size ≤ maxLen ∧ x.f3.size ≤ maxLen))) (w2 : (Lit.int .i64 a2).wf = true) (w3 : a3.size ≤ 140737488351232) :
  Calls Try.prog 4 #[.int .u64 a0,.slice a1 l1.length cap1,.int .i64 a2,.string a3] w fun e w' => e = .returned (.bool true) ∧ Below w.heap.size w w':=by
 obtain ⟨k,h⟩:=P a0 l1 a2 a3 w0 w1_0 w1_1 w1_2 w2 w3
 refine (dominolaw10_IdealSeals.calls k a0 a1 cap1 l1 a2 a3 true w hr1 hc1 h).mono ?_
 rintro e w' ⟨rfl,hd⟩
 exact ⟨rfl,hd⟩

end Go.Proofs.Ytoeccdhanafkpaa.PIdealSeals
