-- printed for this claim by a program of the claim (wip/tools/pp.py over the kit's print)
import Derived.Test.YtjpafikgbnloaaaDoorPHdtx0
import Derived.Test.YtjpafikgbnloaaaDoorPHdtx1
import Derived.Test.YtjpafikgbnloaaaDoorPHdtx2
import Derived.Test.YtjpafikgbnloaaaDoorPHdtx3
import Derived.Test.YtjpafikgbnloaaaDoorPHdtx4
import Derived.Test.YtjpafikgbnloaaaDoorPHdtx7
import Derived.Test.YtjpafikgbnloaaaDoorPHdtx8
import Derived.Test.YtjpafikgbnloaaaDoorPHdtx9
import Derived.Test.YtjpafikgbnloaaaDoorPHdtx11
import Derived.Test.YtjpafikgbnloaaaDoorPHdtx14
namespace Go.Proofs.YtjpafikgbnloaaaDoor.PHdt
open Go.RowKit Go.Proofs.YtjpafikgbnloaaaDoorW.PrintWords Go.Proofs.YtjpafikgbnloaaaDoorW.PrintLast Go.Proofs.YtjpafikgbnloaaaDoorW.PrintMore
attribute [local go_sem] max2_int min2_int max_two min_two max_three min_three max_four min_four   -- for this text's walks alone
set_option linter.unusedVariables false
set_option linter.unusedSimpArgs false

attribute [local go_sem] isSome_setCell_
attribute [local go_sem high] eqA25 eqA28
/-! ### dominolaw04_HeaderTells: function 3 -/
def dominolaw04_HeaderTells.j0 : Nat → ByteArray → Bool → Bool → Bool → Bool → Int → Int → ByteArray → ByteArray → ByteArray → Int → Int → Int → Option (Bool)
 | 0,_,_,_,_,_,_,_,_,_,_,_,_,_ => none
 | k + 1,x1,x31,x267000,x267001,x267002,x267003,x267004,x267005,x267006,x267007,x267008,x267009,x267010 => if x31 = true then ((dominolaw04_shown.f k).bind fun t269 => (some t269)) else ((header_Put.f k x267000 x267001 x267002 x267003 x267004 x267005 x267006 x267007 x267008 x267009 x267010).bind fun bt271 => ((dominoref04_Put.f k x267000 x267001 x267002 x267003 x267004 x267005 x267006 x267007 x267008 x267009 x267010).bind fun bt273 => ((header_Get.f k x1).bind fun bt275 => ((dominoref04_Get.f k x1).bind fun bt289 => ((header_Place.f k x1).bind fun bt303 => ((dominoref04_Place.f k x1).bind fun bt305 => ((header_May.f k x267000 x267001 x267002 x267003 x267004 x267005 x267006 x267007 x267008 x267009 x267010).bind fun t307 => ((dominoref04_May.f k x267000 x267001 x267002 x267003 x267004 x267005 x267006 x267007 x267008 x267009 x267010).bind fun t308 => (if (t307 == t308) = true then (if bt271.1.toList = bt273.1.toList then (if bt271.2 = bt273.2 then (if (bt275.1 == bt289.1 && (bt275.2.1 == bt289.2.1 && (bt275.2.2.1 == bt289.2.2.1 && (bt275.2.2.2.1 == bt289.2.2.2.1 && (bt275.2.2.2.2.1 == bt289.2.2.2.2.1 && (bt275.2.2.2.2.2.1.toList == bt289.2.2.2.2.2.1.toList && (bt275.2.2.2.2.2.2.1.toList == bt289.2.2.2.2.2.2.1.toList && (bt275.2.2.2.2.2.2.2.1.toList == bt289.2.2.2.2.2.2.2.1.toList && (bt275.2.2.2.2.2.2.2.2.1 == bt289.2.2.2.2.2.2.2.2.1 && (bt275.2.2.2.2.2.2.2.2.2.1 == bt289.2.2.2.2.2.2.2.2.2.1 && (bt275.2.2.2.2.2.2.2.2.2.2.1 == bt289.2.2.2.2.2.2.2.2.2.2.1))))))))))) = true then (if bt275.2.2.2.2.2.2.2.2.2.2.2.1.toList = bt289.2.2.2.2.2.2.2.2.2.2.2.1.toList then (if bt275.2.2.2.2.2.2.2.2.2.2.2.2 = bt289.2.2.2.2.2.2.2.2.2.2.2.2 then (if bt303.1 = bt305.1 then (some (bt303.2 == bt305.2)) else (none)) else (none)) else (none)) else (none)) else (none)) else (none)) else (none))))))))))
def dominolaw04_HeaderTells.f (k : Nat) (a0_0 : Bool) (a0_1 : Bool) (a0_2 : Bool) (a0_3 : Int) (a0_4 : Int) (a0_5 : ByteArray) (a0_6 : ByteArray) (a0_7 : ByteArray) (a0_8 : Int) (a0_9 : Int) (a0_10 : Int) (a1 : ByteArray) : Option (Bool):=(dominolaw04_bounded.f a0_0 a0_1 a0_2 a0_3 a0_4 a0_5 a0_6 a0_7 a0_8 a0_9 a0_10).bind fun t267 => (if t267 = true then (if (a1.size : Int) > 1200 then (dominolaw04_HeaderTells.j0 k a1 true a0_0 a0_1 a0_2 a0_3 a0_4 a0_5 a0_6 a0_7 a0_8 a0_9 a0_10) else ((dominolaw04_shown.f k).bind fun t268 => (dominolaw04_HeaderTells.j0 k a1 (!t268) a0_0 a0_1 a0_2 a0_3 a0_4 a0_5 a0_6 a0_7 a0_8 a0_9 a0_10))) else (dominolaw04_HeaderTells.j0 k a1 true a0_0 a0_1 a0_2 a0_3 a0_4 a0_5 a0_6 a0_7 a0_8 a0_9 a0_10))
theorem dominolaw04_HeaderTells.mono_l : ∀ k,(∀ y0 y1 y2 y3 y4 y5 y6 y7 y8 y9 y10 y11 y12,LeO (dominolaw04_HeaderTells.j0 k y0 y1 y2 y3 y4 y5 y6 y7 y8 y9 y10 y11 y12) (dominolaw04_HeaderTells.j0 (k + 1) y0 y1 y2 y3 y4 y5 y6 y7 y8 y9 y10 y11 y12))
 | 0 => fun _ _ _ _ _ _ _ _ _ _ _ _ _ r h => by simp [dominolaw04_HeaderTells.j0] at h
 | k + 1 => by
  have ih0:=dominolaw04_HeaderTells.mono_l k
  ·intro y0 y1 y2 y3 y4 y5 y6 y7 y8 y9 y10 y11 y12
   unfold dominolaw04_HeaderTells.j0
   repeat' first
   | (with_reducible exact ih0 _ _ _ _ _ _ _ _ _ _ _ _ _)
   | (with_reducible exact dominolaw04_shown.mono _)
   | (with_reducible exact dominoref04_Get.mono _ _)
   | (with_reducible exact dominoref04_May.mono _ _ _ _ _ _ _ _ _ _ _ _)
   | (with_reducible exact dominoref04_Place.mono _ _)
   | (with_reducible exact dominoref04_Put.mono _ _ _ _ _ _ _ _ _ _ _ _)
   | (with_reducible exact header_Get.mono _ _)
   | (with_reducible exact header_May.mono _ _ _ _ _ _ _ _ _ _ _ _)
   | (with_reducible exact header_Place.mono _ _)
   | (with_reducible exact header_Put.mono _ _ _ _ _ _ _ _ _ _ _ _)
   | (with_reducible exact LeO.refl _)
   | (with_reducible exact LeO.none _)
   | (with_reducible refine LeO.ite ?_ ?_)
   | (with_reducible refine LeO.bind ?_ (fun _ => ?_))
   | exact ih0 _ _ _ _ _ _ _ _ _ _ _ _ _
   | exact dominolaw04_shown.mono _
   | exact dominoref04_Get.mono _ _
   | exact dominoref04_May.mono _ _ _ _ _ _ _ _ _ _ _ _
   | exact dominoref04_Place.mono _ _
   | exact dominoref04_Put.mono _ _ _ _ _ _ _ _ _ _ _ _
   | exact header_Get.mono _ _
   | exact header_May.mono _ _ _ _ _ _ _ _ _ _ _ _
   | exact header_Place.mono _ _
   | exact header_Put.mono _ _ _ _ _ _ _ _ _ _ _ _
   | exact LeO.none _
   | refine LeO.ite ?_ ?_
   | refine LeO.bind ?_ (fun _ => ?_)
theorem dominolaw04_HeaderTells.mono : ∀ a0 a1 a2 a3 a4 a5 a6 a7 a8 a9 a10 a11 k,LeO (dominolaw04_HeaderTells.f k a0 a1 a2 a3 a4 a5 a6 a7 a8 a9 a10 a11) (dominolaw04_HeaderTells.f (k + 1) a0 a1 a2 a3 a4 a5 a6 a7 a8 a9 a10 a11):=by
 intro a0 a1 a2 a3 a4 a5 a6 a7 a8 a9 a10 a11 k
 have ih0:=dominolaw04_HeaderTells.mono_l k
 unfold dominolaw04_HeaderTells.f
 repeat' first
   | (with_reducible exact ih0 _ _ _ _ _ _ _ _ _ _ _ _ _)
   | (with_reducible exact dominolaw04_shown.mono _)
   | (with_reducible exact dominoref04_Get.mono _ _)
   | (with_reducible exact dominoref04_May.mono _ _ _ _ _ _ _ _ _ _ _ _)
   | (with_reducible exact dominoref04_Place.mono _ _)
   | (with_reducible exact dominoref04_Put.mono _ _ _ _ _ _ _ _ _ _ _ _)
   | (with_reducible exact header_Get.mono _ _)
   | (with_reducible exact header_May.mono _ _ _ _ _ _ _ _ _ _ _ _)
   | (with_reducible exact header_Place.mono _ _)
   | (with_reducible exact header_Put.mono _ _ _ _ _ _ _ _ _ _ _ _)
   | (with_reducible exact LeO.refl _)
   | (with_reducible exact LeO.none _)
   | (with_reducible refine LeO.ite ?_ ?_)
   | (with_reducible refine LeO.bind ?_ (fun _ => ?_))
   | exact ih0 _ _ _ _ _ _ _ _ _ _ _ _ _
   | exact dominolaw04_shown.mono _
   | exact dominoref04_Get.mono _ _
   | exact dominoref04_May.mono _ _ _ _ _ _ _ _ _ _ _ _
   | exact dominoref04_Place.mono _ _
   | exact dominoref04_Put.mono _ _ _ _ _ _ _ _ _ _ _ _
   | exact header_Get.mono _ _
   | exact header_May.mono _ _ _ _ _ _ _ _ _ _ _ _
   | exact header_Place.mono _ _
   | exact header_Put.mono _ _ _ _ _ _ _ _ _ _ _ _
   | exact LeO.none _
   | refine LeO.ite ?_ ?_
   | refine LeO.bind ?_ (fun _ => ?_)
def dominolaw04_HeaderTells.T10 : Bool × List (List Nat × List Nat):=(true,[([],[]),([0],[0]),([],[]),([2,1],[2]),([1,3],[1,3]),([4,3],[4]),([5],[5]),([5],[5]),([6,7,5],[5,6,7]),([5,8],[5,8]),([9,5],[9]),([10],[10]),([10],[10]),([11,12,10],[10,11,12]),([10,13],[10,13]),([14,10],[14]),([15],[15]),([15],[15]),([16,17,15],[15,16,17]),([15,18],[15,18]),([19,15],[19]),([20],[20]),([20],[20]),([21,22,20],[20,21,22]),([20,23],[20,23]),([24,20],[24]),([25],[25]),([25],[25]),([26,27,25],[25,26,27]),([25,28],[25,28]),([29,25],[29]),([30],[30]),([30],[30]),([31,32,30],[30,31,32]),([30,33],[30,33]),([34,30],[34]),([35],[35]),([35],[35]),([36,37,35],[35,36,37]),([35,38],[35,38]),([39,35,0,1,2,3,4,5,6,7,8,9,10,11,12,13,14,15,16,17,18,19,20,21,22,23,24,25,26,27,28,29,30,31,32,33,34,35,36,37,38,39],[39])])
def dominolaw04_HeaderTells.B10 : List Nat:=[0,1,0,7,15,31,63,63,255,511,1023,2047,2047,8191,16383,32767,65535,65535,262143,524287,1048575,2097151,2097151,8388607,16777215,33554431,67108863,67108863,268435455,536870911,1073741823,2147483647,2147483647,8589934591,17179869183,34359738367,68719476735,68719476735,274877906943,549755813887,1099511627775]
theorem dominolaw04_HeaderTells.tab10 : rtab .any (opsOf Tryd.f3 10) = dominolaw04_HeaderTells.T10:=by kernel_rfl
theorem dominolaw04_HeaderTells.bits10 : waitsOk dominolaw04_HeaderTells.T10.2 dominolaw04_HeaderTells.B10 = true:=by kernel_rfl
set_option maxHeartbeats 8000000 in
set_option maxRecDepth 100000 in
theorem dominolaw04_HeaderTells.calls (k : Nat) (a0_0 : Bool) (a0_1 : Bool) (a0_2 : Bool) (a0_3 : Int) (a0_4 : Int) (a0_5 : ByteArray) (a0_6 : ByteArray) (a0_7 : ByteArray) (a0_8 : Int) (a0_9 : Int) (a0_10 : Int) (a1 : ByteArray) (r : Bool) (w : World) (ht : Tab w) (h : dominolaw04_HeaderTells.f k a0_0 a0_1 a0_2 a0_3 a0_4 a0_5 a0_6 a0_7 a0_8 a0_9 a0_10 a1 = some r) :
  Calls Tryd.prog 3 #[.agg #[.bool a0_0,.bool a0_1,.bool a0_2,.int .i64 a0_3,.int .u32 a0_4,.string a0_5,.string a0_6,.string a0_7,.int .u64 a0_8,.int .i64 a0_9,.int .u64 a0_10],.string a1] w fun e w' => e = .returned (.bool r) ∧ Below w.heap.size w w':=by
 have HTab:=am_ ht
 clear ht
 have hu25:=Tryd.underlying25
 have hu28:=Tryd.underlying28
 have HB:=am_ (Below.refl w.heap.size w)
 have H : ((dominolaw04_bounded.f a0_0 a0_1 a0_2 a0_3 a0_4 a0_5 a0_6 a0_7 a0_8 a0_9 a0_10).bind fun t267 => (if t267 = true then (if (a1.size : Int) > 1200 then (dominolaw04_HeaderTells.j0 k a1 true a0_0 a0_1 a0_2 a0_3 a0_4 a0_5 a0_6 a0_7 a0_8 a0_9 a0_10) else ((dominolaw04_shown.f k).bind fun t268 => (dominolaw04_HeaderTells.j0 k a1 (!t268) a0_0 a0_1 a0_2 a0_3 a0_4 a0_5 a0_6 a0_7 a0_8 a0_9 a0_10))) else (dominolaw04_HeaderTells.j0 k a1 true a0_0 a0_1 a0_2 a0_3 a0_4 a0_5 a0_6 a0_7 a0_8 a0_9 a0_10))) = some r:=h
 clear h
 have HC3:=am_ H
 clear H
 go_enter Tryd.func3,Tryd.ntmps3
 go_upto_region 1 with (first|((with_reducible refine gate_dst (N:=2) rfl ?_);(try (refine gate_guard (by rfl) ?_;dsimp only));refine box_event ?hg (N:=2) ?hd (cs:=#[.bool a0_0,.bool a0_1,.bool a0_2,.int .i64 a0_3,.int .u32 a0_4,.string a0_5,.string a0_6,.string a0_7,.int .u64 a0_8,.int .i64 a0_9,.int .u64 a0_10]) (t:=25) ?hr ?_;(case hd => rfl);(case hg => rfl);(case hr => first|(go_simp;done)|(go_simp;rfl));intro gb266 hg w4 hbox hb;have n0_:=am_ (below_step (by repeat (first|(with_reducible first|exact HB.out|apply ba_|apply pn_|apply pd_)|exact HB.out)) hb);have n1_:=am_ (hbox);have n2_:=am_ ((by rw [hg];exact (below_size (by repeat (first|(with_reducible first|exact HB.out|apply ba_|apply pn_|apply pd_)|exact HB.out))) : w.heap.size ≤ gb266));have n3_:=am_ ((by rw [hg];exact (below_size (by repeat (first|(with_reducible first|exact HB.out|apply ba_|apply pn_|apply pd_)|exact HB.out))) : w.heap.size ≤ gb266));clear HB;have HB:=n0_;have BK266:=n1_;have GW266:=n2_;have GE266:=n3_;clear n0_ n1_ n2_ n3_;clear hb hbox hg))
 (try simp only [Act.put,ps_])
 go_cut [31] (fun v31 wc => ∃ (kq : Nat) (x31_2 : Bool),v31 = .bool x31_2 ∧ Aside0 (dominolaw04_HeaderTells.j0 kq a1 x31_2 a0_0 a0_1 a0_2 a0_3 a0_4 a0_5 a0_6 a0_7 a0_8 a0_9 a0_10 = some r) ∧ Aside0 (kq ≤ k) ∧ Aside0 (wc.heap[gb266]? = some (.cells #[.bool a0_0,.bool a0_1,.bool a0_2,.int .i64 a0_3,.int .u32 a0_4,.string a0_5,.string a0_6,.string a0_7,.int .u64 a0_8,.int .i64 a0_9,.int .u64 a0_10] 25 (0,0))) ∧ Aside0 (Below w.heap.size w wc))
 case first =>
  have H:=HC3.out
  clear HC3
  replace H:=Option.bind_eq_some_iff.mp H
  obtain ⟨t267,A50,H⟩:=H
  replace H : (if t267 = true then (if (a1.size : Int) > 1200 then (dominolaw04_HeaderTells.j0 k a1 true a0_0 a0_1 a0_2 a0_3 a0_4 a0_5 a0_6 a0_7 a0_8 a0_9 a0_10) else ((dominolaw04_shown.f k).bind fun t268 => (dominolaw04_HeaderTells.j0 k a1 (!t268) a0_0 a0_1 a0_2 a0_3 a0_4 a0_5 a0_6 a0_7 a0_8 a0_9 a0_10))) else (dominolaw04_HeaderTells.j0 k a1 true a0_0 a0_1 a0_2 a0_3 a0_4 a0_5 a0_6 a0_7 a0_8 a0_9 a0_10)) = some r:=H
  have A5:=am_ A50
  clear A50
  by_cases c6 : t267 = true
  ·subst c6
   have H1 : (if (a1.size : Int) > 1200 then (dominolaw04_HeaderTells.j0 k a1 true a0_0 a0_1 a0_2 a0_3 a0_4 a0_5 a0_6 a0_7 a0_8 a0_9 a0_10) else ((dominolaw04_shown.f k).bind fun t268 => (dominolaw04_HeaderTells.j0 k a1 (!t268) a0_0 a0_1 a0_2 a0_3 a0_4 a0_5 a0_6 a0_7 a0_8 a0_9 a0_10))) = some r:=by rw [if_pos rfl] at H;exact H
   clear H
   have H:=H1
   clear H1
   by_cases c7 : (a1.size : Int) > 1200
   ·rw [if_pos c7] at H
    have c7b0 : decide (1200 < (a1.size : Int)) = true:=decide_eq_true c7
    have c7b1 : decide (1200 < a1.size) = true:=decide_eq_true (by omega)
    clear c7
    (first|rw [c7b0]|(simp only [i64_w,i32_w];rw [c7b0])|skip)
    have H':=am_ H
    clear H
    obtain ⟨hcz8_0,hcz8_1,hcz8_2,hcz8_3,hcz8_4,hcz8_5,hcz8_6,hcz8_7,hcz8_8,hcz8_9,hcz8_10,hfz8_0,hfz8_1,hfz8_2,hfz8_3,hfz8_4,hfz8_5,hfz8_6,hfz8_7,hfz8_8,hfz8_9,hfz8_10⟩:=cs11f_ BK266.out
    go_wp2_with (first|((with_reducible refine gate_callee (f:=10) rfl ?_);refine goesL_ (some 21) rfl rfl Tryd.func10 (by kernel_rfl) rfl #[.agg #[.bool a0_0,.bool a0_1,.bool a0_2,.int .i64 a0_3,.int .u32 a0_4,.string a0_5,.string a0_6,.string a0_7,.int .u64 a0_8,.int .i64 a0_9,.int .u64 a0_10]] rfl (by (try simp only [List.map_toArray,List.map_cons,List.map_nil]);first|done|rfl|(simp only [List.length_drop,List.length_take];rfl)) ?_;(with_reducible refine (dominolaw04_bounded.calls a0_0 a0_1 a0_2 a0_3 a0_4 a0_5 a0_6 a0_7 a0_8 a0_9 a0_10 true _ A5.out).mono ?_);rintro e w9 ⟨rfl,hb⟩;refine ⟨_,rfl,?_⟩;have n0_:=am_ (blk_below (g:=gb266) (o:=.cells #[.bool a0_0,.bool a0_1,.bool a0_2,.int .i64 a0_3,.int .u32 a0_4,.string a0_5,.string a0_6,.string a0_7,.int .u64 a0_8,.int .i64 a0_9,.int .u64 a0_10] 25 (0,0)) (by (with_reducible repeat (first|refine kn_ ?_ _|refine kd_ ?_|refine ka_ ?_ _));exact BK266.out) hb);have n1_:=am_ (below_step (by repeat (first|(with_reducible first|exact HB.out|apply ba_|apply pn_|apply pd_|refine bs_ ?_ GE266.out)|exact HB.out)) hb);clear BK266;clear HB;have BK266:=n0_;have HB:=n1_;clear n0_ n1_;(try clear hb);(try clear hb2);(try clear hk);(try clear hi)))
    go_meet
    case rel => exact ⟨_,(true),(by first|rfl|(simp;done)|(simp [*];done)),H',⟨by first|omega|exact Nat.le_refl _⟩,⟨by (with_reducible repeat (first|refine kn_ ?_ _|refine kd_ ?_|refine ka_ ?_ _));exact BK266.out⟩,⟨by repeat (first|(with_reducible first|exact HB.out|apply ba_|apply pn_|apply pd_|refine bs_ ?_ GE266.out)|exact HB.out)⟩⟩
   ·rw [if_neg c7] at H
    have c7b0 : decide (1200 < (a1.size : Int)) = false:=decide_eq_false c7
    have c7b1 : decide (1200 < a1.size) = false:=decide_eq_false (by omega)
    clear c7
    (first|rw [c7b0]|(simp only [i64_w,i32_w];rw [c7b0])|skip)
    replace H:=Option.bind_eq_some_iff.mp H
    obtain ⟨t268,A100,H⟩:=H
    replace H : (dominolaw04_HeaderTells.j0 k a1 (!t268) a0_0 a0_1 a0_2 a0_3 a0_4 a0_5 a0_6 a0_7 a0_8 a0_9 a0_10) = some r:=H
    have A10:=am_ A100
    clear A100
    have H':=am_ H
    clear H
    obtain ⟨hcz11_0,hcz11_1,hcz11_2,hcz11_3,hcz11_4,hcz11_5,hcz11_6,hcz11_7,hcz11_8,hcz11_9,hcz11_10,hfz11_0,hfz11_1,hfz11_2,hfz11_3,hfz11_4,hfz11_5,hfz11_6,hfz11_7,hfz11_8,hfz11_9,hfz11_10⟩:=cs11f_ BK266.out
    go_wp2_with (first|((with_reducible refine gate_callee (f:=10) rfl ?_);refine goesL_ (some 21) rfl rfl Tryd.func10 (by kernel_rfl) rfl #[.agg #[.bool a0_0,.bool a0_1,.bool a0_2,.int .i64 a0_3,.int .u32 a0_4,.string a0_5,.string a0_6,.string a0_7,.int .u64 a0_8,.int .i64 a0_9,.int .u64 a0_10]] rfl (by (try simp only [List.map_toArray,List.map_cons,List.map_nil]);first|done|rfl|(simp only [List.length_drop,List.length_take];rfl)) ?_;(with_reducible refine (dominolaw04_bounded.calls a0_0 a0_1 a0_2 a0_3 a0_4 a0_5 a0_6 a0_7 a0_8 a0_9 a0_10 true _ A5.out).mono ?_);rintro e w12 ⟨rfl,hb⟩;refine ⟨_,rfl,?_⟩;have n0_:=am_ (blk_below (g:=gb266) (o:=.cells #[.bool a0_0,.bool a0_1,.bool a0_2,.int .i64 a0_3,.int .u32 a0_4,.string a0_5,.string a0_6,.string a0_7,.int .u64 a0_8,.int .i64 a0_9,.int .u64 a0_10] 25 (0,0)) (by (with_reducible repeat (first|refine kn_ ?_ _|refine kd_ ?_|refine ka_ ?_ _));exact BK266.out) hb);have n1_:=am_ (below_step (by repeat (first|(with_reducible first|exact HB.out|apply ba_|apply pn_|apply pd_|refine bs_ ?_ GE266.out)|exact HB.out)) hb);clear BK266;clear HB;have BK266:=n0_;have HB:=n1_;clear n0_ n1_;(try clear hb);(try clear hb2);(try clear hk);(try clear hi))|(go_at_call 11;(with_reducible refine (dominolaw04_shown.calls k  t268 _ (by first|exact HTab.out|exact tab_below HTab.out HB.out|exact (tab_below HTab.out (by repeat (first|(with_reducible first|exact HB.out|apply ba_|apply pn_|apply pd_|refine bs_ ?_ GE266.out)|exact HB.out)))|exact tab_below HTab.out (by repeat (first|exact HB.out|exact Below.refl _ _|apply ba_|apply pn_|apply pd_|refine bs_ ?_ GE266.out|refine bs_ ?_ GE270.out|refine bs_ ?_ GE288.out|refine bs_ ?_ GE302.out))) A10.out).mono ?_);rintro e w13 ⟨rfl,hb⟩;have n0_:=am_ (blk_below (g:=gb266) (o:=.cells #[.bool a0_0,.bool a0_1,.bool a0_2,.int .i64 a0_3,.int .u32 a0_4,.string a0_5,.string a0_6,.string a0_7,.int .u64 a0_8,.int .i64 a0_9,.int .u64 a0_10] 25 (0,0)) (by (with_reducible repeat (first|refine kn_ ?_ _|refine kd_ ?_|refine ka_ ?_ _));exact BK266.out) hb);have n1_:=am_ (below_step (by repeat (first|(with_reducible first|exact HB.out|apply ba_|apply pn_|apply pd_|refine bs_ ?_ GE266.out)|exact HB.out)) hb);clear BK266;clear HB;have BK266:=n0_;have HB:=n1_;clear n0_ n1_;(try clear hb);(try clear hb2);(try clear hk);(try clear hi)))
    go_meet
    case rel => exact ⟨_,(!t268),(by first|rfl|(simp;done)|(simp [*];done)),H',⟨by first|omega|exact Nat.le_refl _⟩,⟨by (with_reducible repeat (first|refine kn_ ?_ _|refine kd_ ?_|refine ka_ ?_ _));exact BK266.out⟩,⟨by repeat (first|(with_reducible first|exact HB.out|apply ba_|apply pn_|apply pd_|refine bs_ ?_ GE266.out)|exact HB.out)⟩⟩
  ·replace c6:=Bool.eq_false_iff.mpr c6
   subst c6
   have H1 : (dominolaw04_HeaderTells.j0 k a1 true a0_0 a0_1 a0_2 a0_3 a0_4 a0_5 a0_6 a0_7 a0_8 a0_9 a0_10) = some r:=by rw [if_neg (show ¬ (false = true) by decide)] at H;exact H
   clear H
   have H:=H1
   clear H1
   have H':=am_ H
   clear H
   obtain ⟨hcz14_0,hcz14_1,hcz14_2,hcz14_3,hcz14_4,hcz14_5,hcz14_6,hcz14_7,hcz14_8,hcz14_9,hcz14_10,hfz14_0,hfz14_1,hfz14_2,hfz14_3,hfz14_4,hfz14_5,hfz14_6,hfz14_7,hfz14_8,hfz14_9,hfz14_10⟩:=cs11f_ BK266.out
   go_wp2_with (first|((with_reducible refine gate_callee (f:=10) rfl ?_);refine goesL_ (some 21) rfl rfl Tryd.func10 (by kernel_rfl) rfl #[.agg #[.bool a0_0,.bool a0_1,.bool a0_2,.int .i64 a0_3,.int .u32 a0_4,.string a0_5,.string a0_6,.string a0_7,.int .u64 a0_8,.int .i64 a0_9,.int .u64 a0_10]] rfl (by (try simp only [List.map_toArray,List.map_cons,List.map_nil]);first|done|rfl|(simp only [List.length_drop,List.length_take];rfl)) ?_;(with_reducible refine (dominolaw04_bounded.calls a0_0 a0_1 a0_2 a0_3 a0_4 a0_5 a0_6 a0_7 a0_8 a0_9 a0_10 false _ A5.out).mono ?_);rintro e w15 ⟨rfl,hb⟩;refine ⟨_,rfl,?_⟩;have n0_:=am_ (blk_below (g:=gb266) (o:=.cells #[.bool a0_0,.bool a0_1,.bool a0_2,.int .i64 a0_3,.int .u32 a0_4,.string a0_5,.string a0_6,.string a0_7,.int .u64 a0_8,.int .i64 a0_9,.int .u64 a0_10] 25 (0,0)) (by (with_reducible repeat (first|refine kn_ ?_ _|refine kd_ ?_|refine ka_ ?_ _));exact BK266.out) hb);have n1_:=am_ (below_step (by repeat (first|(with_reducible first|exact HB.out|apply ba_|apply pn_|apply pd_|refine bs_ ?_ GE266.out)|exact HB.out)) hb);clear BK266;clear HB;have BK266:=n0_;have HB:=n1_;clear n0_ n1_;(try clear hb);(try clear hb2);(try clear hk);(try clear hi)))
   go_meet
   case rel => exact ⟨_,(true),(by first|rfl|(simp;done)|(simp [*];done)),H',⟨by first|omega|exact Nat.le_refl _⟩,⟨by (with_reducible repeat (first|refine kn_ ?_ _|refine kd_ ?_|refine ka_ ?_ _));exact BK266.out⟩,⟨by repeat (first|(with_reducible first|exact HB.out|apply ba_|apply pn_|apply pd_|refine bs_ ?_ GE266.out)|exact HB.out)⟩⟩
 case rest =>
  clear HC3
  try clear c1;try clear p2
  try clear c3;try clear c6
  try clear c7;try clear c7b0
  try clear c7b1;try clear c10
  try clear hcz11_0;try clear hcz11_1
  try clear hcz11_10;try clear hcz11_2
  try clear hcz11_3;try clear hcz11_4
  try clear hcz11_5;try clear hcz11_6
  try clear hcz11_7;try clear hcz11_8
  try clear hcz11_9;try clear hcz14_0
  try clear hcz14_1;try clear hcz14_10
  try clear hcz14_2;try clear hcz14_3
  try clear hcz14_4;try clear hcz14_5
  try clear hcz14_6;try clear hcz14_7
  try clear hcz14_8;try clear hcz14_9
  try clear hcz8_0;try clear hcz8_1
  try clear hcz8_10;try clear hcz8_2
  try clear hcz8_3;try clear hcz8_4
  try clear hcz8_5;try clear hcz8_6
  try clear hcz8_7;try clear hcz8_8
  try clear hcz8_9;try clear hfz11_0
  try clear hfz11_1;try clear hfz11_10
  try clear hfz11_2;try clear hfz11_3
  try clear hfz11_4;try clear hfz11_5
  try clear hfz11_6;try clear hfz11_7
  try clear hfz11_8;try clear hfz11_9
  try clear hfz14_0;try clear hfz14_1
  try clear hfz14_10;try clear hfz14_2
  try clear hfz14_3;try clear hfz14_4
  try clear hfz14_5;try clear hfz14_6
  try clear hfz14_7;try clear hfz14_8
  try clear hfz14_9;try clear hfz8_0
  try clear hfz8_1;try clear hfz8_10
  try clear hfz8_2;try clear hfz8_3
  try clear hfz8_4;try clear hfz8_5
  try clear hfz8_6;try clear hfz8_7
  try clear hfz8_8;try clear hfz8_9
  obtain ⟨kq,x31_2,rfl,HA,HJ2,BK266,HB⟩:=hcut
  cases kq with
  | zero => exact absurd HA.out (by simp [dominolaw04_HeaderTells.j0])
  | succ kj2 =>
   have H:=HA.out
   clear HA
   simp only [dominolaw04_HeaderTells.j0] at H
   by_cases c16 : x31_2 = true
   ·subst c16
    have H1 : ((dominolaw04_shown.f kj2).bind fun t269 => (some t269)) = some r:=by rw [if_pos rfl] at H;exact H
    clear H
    have H:=H1
    clear H1
    replace H:=Option.bind_eq_some_iff.mp H
    obtain ⟨t269,A170,H⟩:=H
    replace H : (some t269) = some r:=H
    have A17:=am_ A170
    clear A170
    obtain rfl:=Option.some.inj H
    go_wp2_with (first|((with_reducible refine gate_callee (f:=11) rfl ?_);refine goesL_ (some 32) rfl rfl Tryd.func11 (by kernel_rfl) rfl #[] rfl (by (try simp only [List.map_toArray,List.map_cons,List.map_nil]);first|done|rfl|(simp only [List.length_drop,List.length_take];rfl)) ?_;(with_reducible refine (dominolaw04_shown.calls kj2  t269 _ (by first|exact HTab.out|exact tab_below HTab.out HB.out|exact (tab_below HTab.out (by repeat (first|(with_reducible first|exact HB.out|apply ba_|apply pn_|apply pd_|refine bs_ ?_ GE266.out)|exact HB.out)))|exact tab_below HTab.out (by repeat (first|exact HB.out|exact Below.refl _ _|apply ba_|apply pn_|apply pd_|refine bs_ ?_ GE266.out|refine bs_ ?_ GE270.out|refine bs_ ?_ GE288.out|refine bs_ ?_ GE302.out))) A17.out).mono ?_);rintro e w18 ⟨rfl,hb⟩;refine ⟨_,rfl,?_⟩;have n0_:=am_ (blk_below (g:=gb266) (o:=.cells #[.bool a0_0,.bool a0_1,.bool a0_2,.int .i64 a0_3,.int .u32 a0_4,.string a0_5,.string a0_6,.string a0_7,.int .u64 a0_8,.int .i64 a0_9,.int .u64 a0_10] 25 (0,0)) (by (with_reducible repeat (first|refine kn_ ?_ _|refine kd_ ?_|refine ka_ ?_ _));exact BK266.out) hb);have n1_:=am_ (below_step (by repeat (first|(with_reducible first|exact HB.out|apply ba_|apply pn_|apply pd_|refine bs_ ?_ GE266.out)|exact HB.out)) hb);clear BK266;clear HB;have BK266:=n0_;have HB:=n1_;clear n0_ n1_;(try clear hb);(try clear hb2);(try clear hk);(try clear hi)))
    go_ret
    exact ⟨by first|rfl|(simp [errW_none,errW_some] <;> rfl)|(simp [*,errW_none,errW_some] <;> rfl),by repeat (first|(with_reducible first|exact HB.out|apply ba_|apply pn_|apply pd_|refine bs_ ?_ GE266.out)|exact HB.out)⟩
   ·replace c16:=Bool.eq_false_iff.mpr c16
    subst c16
    have H1 : ((header_Put.f kj2 a0_0 a0_1 a0_2 a0_3 a0_4 a0_5 a0_6 a0_7 a0_8 a0_9 a0_10).bind fun bt271 => ((dominoref04_Put.f kj2 a0_0 a0_1 a0_2 a0_3 a0_4 a0_5 a0_6 a0_7 a0_8 a0_9 a0_10).bind fun bt273 => ((header_Get.f kj2 a1).bind fun bt275 => ((dominoref04_Get.f kj2 a1).bind fun bt289 => ((header_Place.f kj2 a1).bind fun bt303 => ((dominoref04_Place.f kj2 a1).bind fun bt305 => ((header_May.f kj2 a0_0 a0_1 a0_2 a0_3 a0_4 a0_5 a0_6 a0_7 a0_8 a0_9 a0_10).bind fun t307 => ((dominoref04_May.f kj2 a0_0 a0_1 a0_2 a0_3 a0_4 a0_5 a0_6 a0_7 a0_8 a0_9 a0_10).bind fun t308 => (if (t307 == t308) = true then (if bt271.1.toList = bt273.1.toList then (if bt271.2 = bt273.2 then (if (bt275.1 == bt289.1 && (bt275.2.1 == bt289.2.1 && (bt275.2.2.1 == bt289.2.2.1 && (bt275.2.2.2.1 == bt289.2.2.2.1 && (bt275.2.2.2.2.1 == bt289.2.2.2.2.1 && (bt275.2.2.2.2.2.1.toList == bt289.2.2.2.2.2.1.toList && (bt275.2.2.2.2.2.2.1.toList == bt289.2.2.2.2.2.2.1.toList && (bt275.2.2.2.2.2.2.2.1.toList == bt289.2.2.2.2.2.2.2.1.toList && (bt275.2.2.2.2.2.2.2.2.1 == bt289.2.2.2.2.2.2.2.2.1 && (bt275.2.2.2.2.2.2.2.2.2.1 == bt289.2.2.2.2.2.2.2.2.2.1 && (bt275.2.2.2.2.2.2.2.2.2.2.1 == bt289.2.2.2.2.2.2.2.2.2.2.1))))))))))) = true then (if bt275.2.2.2.2.2.2.2.2.2.2.2.1.toList = bt289.2.2.2.2.2.2.2.2.2.2.2.1.toList then (if bt275.2.2.2.2.2.2.2.2.2.2.2.2 = bt289.2.2.2.2.2.2.2.2.2.2.2.2 then (if bt303.1 = bt305.1 then (some (bt303.2 == bt305.2)) else (none)) else (none)) else (none)) else (none)) else (none)) else (none)) else (none)))))))))) = some r:=by rw [if_neg (show ¬ (false = true) by decide)] at H;exact H
    clear H
    have H:=H1
    clear H1
    replace H:=Option.bind_eq_some_iff.mp H
    obtain ⟨⟨t271,t272⟩,A190,H⟩:=H
    replace H : ((dominoref04_Put.f kj2 a0_0 a0_1 a0_2 a0_3 a0_4 a0_5 a0_6 a0_7 a0_8 a0_9 a0_10).bind fun bt273 => ((header_Get.f kj2 a1).bind fun bt275 => ((dominoref04_Get.f kj2 a1).bind fun bt289 => ((header_Place.f kj2 a1).bind fun bt303 => ((dominoref04_Place.f kj2 a1).bind fun bt305 => ((header_May.f kj2 a0_0 a0_1 a0_2 a0_3 a0_4 a0_5 a0_6 a0_7 a0_8 a0_9 a0_10).bind fun t307 => ((dominoref04_May.f kj2 a0_0 a0_1 a0_2 a0_3 a0_4 a0_5 a0_6 a0_7 a0_8 a0_9 a0_10).bind fun t308 => (if (t307 == t308) = true then (if t271.toList = bt273.1.toList then (if t272 = bt273.2 then (if (bt275.1 == bt289.1 && (bt275.2.1 == bt289.2.1 && (bt275.2.2.1 == bt289.2.2.1 && (bt275.2.2.2.1 == bt289.2.2.2.1 && (bt275.2.2.2.2.1 == bt289.2.2.2.2.1 && (bt275.2.2.2.2.2.1.toList == bt289.2.2.2.2.2.1.toList && (bt275.2.2.2.2.2.2.1.toList == bt289.2.2.2.2.2.2.1.toList && (bt275.2.2.2.2.2.2.2.1.toList == bt289.2.2.2.2.2.2.2.1.toList && (bt275.2.2.2.2.2.2.2.2.1 == bt289.2.2.2.2.2.2.2.2.1 && (bt275.2.2.2.2.2.2.2.2.2.1 == bt289.2.2.2.2.2.2.2.2.2.1 && (bt275.2.2.2.2.2.2.2.2.2.2.1 == bt289.2.2.2.2.2.2.2.2.2.2.1))))))))))) = true then (if bt275.2.2.2.2.2.2.2.2.2.2.2.1.toList = bt289.2.2.2.2.2.2.2.2.2.2.2.1.toList then (if bt275.2.2.2.2.2.2.2.2.2.2.2.2 = bt289.2.2.2.2.2.2.2.2.2.2.2.2 then (if bt303.1 = bt305.1 then (some (bt303.2 == bt305.2)) else (none)) else (none)) else (none)) else (none)) else (none)) else (none)) else (none))))))))) = some r:=H
    have A19:=am_ A190
    clear A190
    replace H:=Option.bind_eq_some_iff.mp H
    obtain ⟨⟨t273,t274⟩,A200,H⟩:=H
    replace H : ((header_Get.f kj2 a1).bind fun bt275 => ((dominoref04_Get.f kj2 a1).bind fun bt289 => ((header_Place.f kj2 a1).bind fun bt303 => ((dominoref04_Place.f kj2 a1).bind fun bt305 => ((header_May.f kj2 a0_0 a0_1 a0_2 a0_3 a0_4 a0_5 a0_6 a0_7 a0_8 a0_9 a0_10).bind fun t307 => ((dominoref04_May.f kj2 a0_0 a0_1 a0_2 a0_3 a0_4 a0_5 a0_6 a0_7 a0_8 a0_9 a0_10).bind fun t308 => (if (t307 == t308) = true then (if t271.toList = t273.toList then (if t272 = t274 then (if (bt275.1 == bt289.1 && (bt275.2.1 == bt289.2.1 && (bt275.2.2.1 == bt289.2.2.1 && (bt275.2.2.2.1 == bt289.2.2.2.1 && (bt275.2.2.2.2.1 == bt289.2.2.2.2.1 && (bt275.2.2.2.2.2.1.toList == bt289.2.2.2.2.2.1.toList && (bt275.2.2.2.2.2.2.1.toList == bt289.2.2.2.2.2.2.1.toList && (bt275.2.2.2.2.2.2.2.1.toList == bt289.2.2.2.2.2.2.2.1.toList && (bt275.2.2.2.2.2.2.2.2.1 == bt289.2.2.2.2.2.2.2.2.1 && (bt275.2.2.2.2.2.2.2.2.2.1 == bt289.2.2.2.2.2.2.2.2.2.1 && (bt275.2.2.2.2.2.2.2.2.2.2.1 == bt289.2.2.2.2.2.2.2.2.2.2.1))))))))))) = true then (if bt275.2.2.2.2.2.2.2.2.2.2.2.1.toList = bt289.2.2.2.2.2.2.2.2.2.2.2.1.toList then (if bt275.2.2.2.2.2.2.2.2.2.2.2.2 = bt289.2.2.2.2.2.2.2.2.2.2.2.2 then (if bt303.1 = bt305.1 then (some (bt303.2 == bt305.2)) else (none)) else (none)) else (none)) else (none)) else (none)) else (none)) else (none)))))))) = some r:=H
    have A20:=am_ A200
    clear A200
    replace H:=Option.bind_eq_some_iff.mp H
    obtain ⟨⟨t275,t276,t277,t278,t279,t280,t281,t282,t283,t284,t285,t286,t287⟩,A210,H⟩:=H
    replace H : ((dominoref04_Get.f kj2 a1).bind fun bt289 => ((header_Place.f kj2 a1).bind fun bt303 => ((dominoref04_Place.f kj2 a1).bind fun bt305 => ((header_May.f kj2 a0_0 a0_1 a0_2 a0_3 a0_4 a0_5 a0_6 a0_7 a0_8 a0_9 a0_10).bind fun t307 => ((dominoref04_May.f kj2 a0_0 a0_1 a0_2 a0_3 a0_4 a0_5 a0_6 a0_7 a0_8 a0_9 a0_10).bind fun t308 => (if (t307 == t308) = true then (if t271.toList = t273.toList then (if t272 = t274 then (if (t275 == bt289.1 && (t276 == bt289.2.1 && (t277 == bt289.2.2.1 && (t278 == bt289.2.2.2.1 && (t279 == bt289.2.2.2.2.1 && (t280.toList == bt289.2.2.2.2.2.1.toList && (t281.toList == bt289.2.2.2.2.2.2.1.toList && (t282.toList == bt289.2.2.2.2.2.2.2.1.toList && (t283 == bt289.2.2.2.2.2.2.2.2.1 && (t284 == bt289.2.2.2.2.2.2.2.2.2.1 && (t285 == bt289.2.2.2.2.2.2.2.2.2.2.1))))))))))) = true then (if t286.toList = bt289.2.2.2.2.2.2.2.2.2.2.2.1.toList then (if t287 = bt289.2.2.2.2.2.2.2.2.2.2.2.2 then (if bt303.1 = bt305.1 then (some (bt303.2 == bt305.2)) else (none)) else (none)) else (none)) else (none)) else (none)) else (none)) else (none))))))) = some r:=H
    have A21:=am_ A210
    clear A210
    replace H:=Option.bind_eq_some_iff.mp H
    obtain ⟨⟨t289,t290,t291,t292,t293,t294,t295,t296,t297,t298,t299,t300,t301⟩,A220,H⟩:=H
    replace H : ((header_Place.f kj2 a1).bind fun bt303 => ((dominoref04_Place.f kj2 a1).bind fun bt305 => ((header_May.f kj2 a0_0 a0_1 a0_2 a0_3 a0_4 a0_5 a0_6 a0_7 a0_8 a0_9 a0_10).bind fun t307 => ((dominoref04_May.f kj2 a0_0 a0_1 a0_2 a0_3 a0_4 a0_5 a0_6 a0_7 a0_8 a0_9 a0_10).bind fun t308 => (if (t307 == t308) = true then (if t271.toList = t273.toList then (if t272 = t274 then (if (t275 == t289 && (t276 == t290 && (t277 == t291 && (t278 == t292 && (t279 == t293 && (t280.toList == t294.toList && (t281.toList == t295.toList && (t282.toList == t296.toList && (t283 == t297 && (t284 == t298 && (t285 == t299))))))))))) = true then (if t286.toList = t300.toList then (if t287 = t301 then (if bt303.1 = bt305.1 then (some (bt303.2 == bt305.2)) else (none)) else (none)) else (none)) else (none)) else (none)) else (none)) else (none)))))) = some r:=H
    have A22:=am_ A220
    clear A220
    replace H:=Option.bind_eq_some_iff.mp H
    obtain ⟨⟨t303,t304⟩,A230,H⟩:=H
    replace H : ((dominoref04_Place.f kj2 a1).bind fun bt305 => ((header_May.f kj2 a0_0 a0_1 a0_2 a0_3 a0_4 a0_5 a0_6 a0_7 a0_8 a0_9 a0_10).bind fun t307 => ((dominoref04_May.f kj2 a0_0 a0_1 a0_2 a0_3 a0_4 a0_5 a0_6 a0_7 a0_8 a0_9 a0_10).bind fun t308 => (if (t307 == t308) = true then (if t271.toList = t273.toList then (if t272 = t274 then (if (t275 == t289 && (t276 == t290 && (t277 == t291 && (t278 == t292 && (t279 == t293 && (t280.toList == t294.toList && (t281.toList == t295.toList && (t282.toList == t296.toList && (t283 == t297 && (t284 == t298 && (t285 == t299))))))))))) = true then (if t286.toList = t300.toList then (if t287 = t301 then (if t303 = bt305.1 then (some (t304 == bt305.2)) else (none)) else (none)) else (none)) else (none)) else (none)) else (none)) else (none))))) = some r:=H
    have A23:=am_ A230
    clear A230
    replace H:=Option.bind_eq_some_iff.mp H
    obtain ⟨⟨t305,t306⟩,A240,H⟩:=H
    replace H : ((header_May.f kj2 a0_0 a0_1 a0_2 a0_3 a0_4 a0_5 a0_6 a0_7 a0_8 a0_9 a0_10).bind fun t307 => ((dominoref04_May.f kj2 a0_0 a0_1 a0_2 a0_3 a0_4 a0_5 a0_6 a0_7 a0_8 a0_9 a0_10).bind fun t308 => (if (t307 == t308) = true then (if t271.toList = t273.toList then (if t272 = t274 then (if (t275 == t289 && (t276 == t290 && (t277 == t291 && (t278 == t292 && (t279 == t293 && (t280.toList == t294.toList && (t281.toList == t295.toList && (t282.toList == t296.toList && (t283 == t297 && (t284 == t298 && (t285 == t299))))))))))) = true then (if t286.toList = t300.toList then (if t287 = t301 then (if t303 = t305 then (some (t304 == t306)) else (none)) else (none)) else (none)) else (none)) else (none)) else (none)) else (none)))) = some r:=H
    have A24:=am_ A240
    clear A240
    replace H:=Option.bind_eq_some_iff.mp H
    obtain ⟨t307,A250,H⟩:=H
    replace H : ((dominoref04_May.f kj2 a0_0 a0_1 a0_2 a0_3 a0_4 a0_5 a0_6 a0_7 a0_8 a0_9 a0_10).bind fun t308 => (if (t307 == t308) = true then (if t271.toList = t273.toList then (if t272 = t274 then (if (t275 == t289 && (t276 == t290 && (t277 == t291 && (t278 == t292 && (t279 == t293 && (t280.toList == t294.toList && (t281.toList == t295.toList && (t282.toList == t296.toList && (t283 == t297 && (t284 == t298 && (t285 == t299))))))))))) = true then (if t286.toList = t300.toList then (if t287 = t301 then (if t303 = t305 then (some (t304 == t306)) else (none)) else (none)) else (none)) else (none)) else (none)) else (none)) else (none))) = some r:=H
    have A25:=am_ A250
    clear A250
    replace H:=Option.bind_eq_some_iff.mp H
    obtain ⟨t308,A260,H⟩:=H
    replace H : (if (t307 == t308) = true then (if t271.toList = t273.toList then (if t272 = t274 then (if (t275 == t289 && (t276 == t290 && (t277 == t291 && (t278 == t292 && (t279 == t293 && (t280.toList == t294.toList && (t281.toList == t295.toList && (t282.toList == t296.toList && (t283 == t297 && (t284 == t298 && (t285 == t299))))))))))) = true then (if t286.toList = t300.toList then (if t287 = t301 then (if t303 = t305 then (some (t304 == t306)) else (none)) else (none)) else (none)) else (none)) else (none)) else (none)) else (none)) = some r:=H
    have A26:=am_ A260
    clear A260
    by_cases c27 : (t307 == t308) = true
    ·rw [if_pos c27] at H
     have c27b0 : (t307 == t308) = true:=c27
     (try (have c27b1 : decide (t307 = t308) = true:=by simpa using c27))
     (try (have c27b2 : (t307 == t308) = true:=by simpa using c27))
     clear c27
     by_cases c28 : t271.toList = t273.toList
     ·rw [if_pos c28] at H
      have c28b0 : (t271.toList == t273.toList) = true:=beq_iff_eq.mpr c28
      have c28b1 : (t271.toList != t273.toList) = false:=bne_eq_false_iff_eq.mpr c28
      clear c28
      by_cases c29 : t272 = t274
      ·rw [if_pos c29] at H
       have c29b0 : (t272 == t274) = true:=beq_iff_eq.mpr c29
       have c29b1 : (t272 != t274) = false:=bne_eq_false_iff_eq.mpr c29
       clear c29
       by_cases c30 : (t275 == t289 && (t276 == t290 && (t277 == t291 && (t278 == t292 && (t279 == t293 && (t280.toList == t294.toList && (t281.toList == t295.toList && (t282.toList == t296.toList && (t283 == t297 && (t284 == t298 && (t285 == t299))))))))))) = true
       ·rw [if_pos c30] at H
        have c30b0 : (t275 == t289 && (t276 == t290 && (t277 == t291 && (t278 == t292 && (t279 == t293 && (t280.toList == t294.toList && (t281.toList == t295.toList && (t282.toList == t296.toList && (t283 == t297 && (t284 == t298 && (t285 == t299))))))))))) = true:=c30
        have c30q:=c30
        simp only [Bool.not_false,Bool.not_true,Bool.true_and,Bool.and_eq_true,Bool.or_eq_false_iff,Bool.not_eq_eq_eq_not,beq_iff_eq] at c30q
        replace c30q:=eq_true c30q
        (try (have c30b1 : decide (t275 = t289 && (t276 == t290 && (t277 == t291 && (t278 == t292 && (t279 == t293 && (t280.toList == t294.toList && (t281.toList == t295.toList && (t282.toList == t296.toList && (t283 == t297 && (t284 == t298 && (t285 == t299))))))))))) = true:=by simpa using c30))
        (try (have c30b2 : (t275 == t289 && (t276 == t290 && (t277 == t291 && (t278 == t292 && (t279 == t293 && (t280.toList == t294.toList && (t281.toList == t295.toList && (t282.toList == t296.toList && (t283 == t297 && (t284 == t298 && (t285 == t299))))))))))) = true:=by simpa using c30))
        clear c30
        by_cases c31 : t286.toList = t300.toList
        ·rw [if_pos c31] at H
         have c31b0 : (t286.toList == t300.toList) = true:=beq_iff_eq.mpr c31
         have c31b1 : (t286.toList != t300.toList) = false:=bne_eq_false_iff_eq.mpr c31
         clear c31
         by_cases c32 : t287 = t301
         ·rw [if_pos c32] at H
          have c32b0 : (t287 == t301) = true:=beq_iff_eq.mpr c32
          have c32b1 : (t287 != t301) = false:=bne_eq_false_iff_eq.mpr c32
          clear c32
          by_cases c33 : t303 = t305
          ·rw [if_pos c33] at H
           have c33b0 : (t303 == t305) = true:=beq_iff_eq.mpr c33
           have c33b1 : (t303 != t305) = false:=bne_eq_false_iff_eq.mpr c33
           clear c33
           obtain rfl:=Option.some.inj H
           obtain ⟨hcz34_0,hcz34_1,hcz34_2,hcz34_3,hcz34_4,hcz34_5,hcz34_6,hcz34_7,hcz34_8,hcz34_9,hcz34_10,hfz34_0,hfz34_1,hfz34_2,hfz34_3,hfz34_4,hfz34_5,hfz34_6,hfz34_7,hfz34_8,hfz34_9,hfz34_10⟩:=cs11f_ BK266.out
           try go_wp2_with (first|((with_reducible refine gate_dst (N:=5) rfl ?_);(try (refine gate_guard (by rfl) ?_;dsimp only));refine box_event ?hg (N:=5) ?hd (cs:=#[.bool false,.bool false,.bool false,.int .i64 0,.int .u32 0,.string (⟨#[]⟩ : ByteArray),.string (⟨#[]⟩ : ByteArray),.string (⟨#[]⟩ : ByteArray),.int .u64 0,.int .i64 0,.int .u64 0]) (t:=28) ?hr ?_;(case hd => rfl);(case hg => rfl);(case hr => first|(go_simp;done)|(go_simp;rfl));intro gb270 hg w35 hbox hb;have n0_:=am_ (blk_below (g:=gb266) (o:=.cells #[.bool a0_0,.bool a0_1,.bool a0_2,.int .i64 a0_3,.int .u32 a0_4,.string a0_5,.string a0_6,.string a0_7,.int .u64 a0_8,.int .i64 a0_9,.int .u64 a0_10] 25 (0,0)) (by (with_reducible repeat (first|refine kn_ ?_ _|refine kd_ ?_|refine ka_ ?_ _));exact BK266.out) hb);have n1_:=am_ (below_step (by repeat (first|(with_reducible first|exact HB.out|apply ba_|apply pn_|apply pd_|refine bs_ ?_ GE266.out)|exact HB.out)) hb);have n2_:=am_ (hbox);have n3_:=am_ ((by rw [hg];exact (below_size (by repeat (first|(with_reducible first|exact HB.out|apply ba_|apply pn_|apply pd_|refine bs_ ?_ GE266.out)|exact HB.out))) : w.heap.size ≤ gb270));have n4_:=am_ ((by rw [hg];exact (below_size (by repeat (first|(with_reducible first|exact HB.out|apply ba_|apply pn_|apply pd_|refine bs_ ?_ GE266.out)|exact HB.out))) : w.heap.size ≤ gb270));have n5_:=am_ ((by rw [hg];exact Nat.ne_of_lt (blk_lt (g:=gb266) (o:=.cells #[.bool a0_0,.bool a0_1,.bool a0_2,.int .i64 a0_3,.int .u32 a0_4,.string a0_5,.string a0_6,.string a0_7,.int .u64 a0_8,.int .i64 a0_9,.int .u64 a0_10] 25 (0,0)) (by (with_reducible repeat (first|refine kn_ ?_ _|refine kd_ ?_|refine ka_ ?_ _));exact BK266.out)) : gb266 ≠ gb270));have n6_:=am_ ((by rw [hg];exact Nat.ne_of_gt (blk_lt (g:=gb266) (o:=.cells #[.bool a0_0,.bool a0_1,.bool a0_2,.int .i64 a0_3,.int .u32 a0_4,.string a0_5,.string a0_6,.string a0_7,.int .u64 a0_8,.int .i64 a0_9,.int .u64 a0_10] 25 (0,0)) (by (with_reducible repeat (first|refine kn_ ?_ _|refine kd_ ?_|refine ka_ ?_ _));exact BK266.out)) : gb270 ≠ gb266));clear BK266;clear HB;have BK266:=n0_;have HB:=n1_;have BK270:=n2_;have GW270:=n3_;have GE270:=n4_;have NB266_270:=n5_;have NB270_266:=n6_;clear n0_ n1_ n2_ n3_ n4_ n5_ n6_;clear hb hbox hg;have hnb36:=NB270_266.out;have hnc36:=NB266_270.out;obtain ⟨hcz37_0,hcz37_1,hcz37_2,hcz37_3,hcz37_4,hcz37_5,hcz37_6,hcz37_7,hcz37_8,hcz37_9,hcz37_10,hfz37_0,hfz37_1,hfz37_2,hfz37_3,hfz37_4,hfz37_5,hfz37_6,hfz37_7,hfz37_8,hfz37_9,hfz37_10⟩:=cs11f_ BK270.out;obtain ⟨hcz38_0,hcz38_1,hcz38_2,hcz38_3,hcz38_4,hcz38_5,hcz38_6,hcz38_7,hcz38_8,hcz38_9,hcz38_10,hfz38_0,hfz38_1,hfz38_2,hfz38_3,hfz38_4,hfz38_5,hfz38_6,hfz38_7,hfz38_8,hfz38_9,hfz38_10⟩:=cs11f_ BK266.out;skip)|((with_reducible refine gate_callee (f:=12) rfl ?_);refine goesL_ (some 36) rfl rfl Tryd.func12 (by kernel_rfl) rfl #[.agg #[.bool a0_0,.bool a0_1,.bool a0_2,.int .i64 a0_3,.int .u32 a0_4,.string a0_5,.string a0_6,.string a0_7,.int .u64 a0_8,.int .i64 a0_9,.int .u64 a0_10]] rfl (by (try simp only [List.map_toArray,List.map_cons,List.map_nil]);first|done|rfl|(simp only [List.length_drop,List.length_take];rfl)) ?_;(with_reducible refine (header_Put.calls kj2 a0_0 a0_1 a0_2 a0_3 a0_4 a0_5 a0_6 a0_7 a0_8 a0_9 a0_10 t271 t272 _ (by first|exact HTab.out|exact tab_below HTab.out HB.out|exact tab_below HTab.out (by repeat (first|exact HB.out|exact Below.refl _ _|apply ba_|apply pn_|apply pd_|refine bs_ ?_ GE266.out|refine bs_ ?_ GE270.out|refine bs_ ?_ GE288.out|refine bs_ ?_ GE302.out))) A19.out).mono ?_);rintro e w39 ⟨rfl,hb⟩;refine ⟨_,rfl,?_⟩;have n0_:=am_ (blk_below (g:=gb266) (o:=.cells #[.bool a0_0,.bool a0_1,.bool a0_2,.int .i64 a0_3,.int .u32 a0_4,.string a0_5,.string a0_6,.string a0_7,.int .u64 a0_8,.int .i64 a0_9,.int .u64 a0_10] 25 (0,0)) (by (with_reducible repeat (first|refine kn_ ?_ _|refine kd_ ?_|refine ka_ ?_ _));refine blk_far ?_ NB266_270.out _;(with_reducible repeat (first|refine kn_ ?_ _|refine kd_ ?_|refine ka_ ?_ _));refine blk_far ?_ NB266_270.out _;(with_reducible repeat (first|refine kn_ ?_ _|refine kd_ ?_|refine ka_ ?_ _));refine blk_far ?_ NB266_270.out _;(with_reducible repeat (first|refine kn_ ?_ _|refine kd_ ?_|refine ka_ ?_ _));refine blk_far ?_ NB266_270.out _;(with_reducible repeat (first|refine kn_ ?_ _|refine kd_ ?_|refine ka_ ?_ _));refine blk_far ?_ NB266_270.out _;(with_reducible repeat (first|refine kn_ ?_ _|refine kd_ ?_|refine ka_ ?_ _));refine blk_far ?_ NB266_270.out _;(with_reducible repeat (first|refine kn_ ?_ _|refine kd_ ?_|refine ka_ ?_ _));refine blk_far ?_ NB266_270.out _;(with_reducible repeat (first|refine kn_ ?_ _|refine kd_ ?_|refine ka_ ?_ _));refine blk_far ?_ NB266_270.out _;(with_reducible repeat (first|refine kn_ ?_ _|refine kd_ ?_|refine ka_ ?_ _));refine blk_far ?_ NB266_270.out _;(with_reducible repeat (first|refine kn_ ?_ _|refine kd_ ?_|refine ka_ ?_ _));refine blk_far ?_ NB266_270.out _;(with_reducible repeat (first|refine kn_ ?_ _|refine kd_ ?_|refine ka_ ?_ _));refine blk_far ?_ NB266_270.out _;(with_reducible repeat (first|refine kn_ ?_ _|refine kd_ ?_|refine ka_ ?_ _));exact BK266.out) hb);have n1_:=am_ (blk_below (g:=gb270) (o:=.cells #[.bool a0_0,.bool a0_1,.bool a0_2,.int .i64 a0_3,.int .u32 a0_4,.string a0_5,.string a0_6,.string a0_7,.int .u64 a0_8,.int .i64 a0_9,.int .u64 a0_10] 28 (0,0)) (by (with_reducible repeat (first|refine kn_ ?_ _|refine kd_ ?_|refine ka_ ?_ _));refine blk_put (cs:=#[.bool a0_0,.bool a0_1,.bool a0_2,.int .i64 a0_3,.int .u32 a0_4,.string a0_5,.string a0_6,.string a0_7,.int .u64 a0_8,.int .i64 a0_9,.int .u64 0]) ?_ 10 _ rfl;(with_reducible repeat (first|refine kn_ ?_ _|refine kd_ ?_|refine ka_ ?_ _));refine blk_put (cs:=#[.bool a0_0,.bool a0_1,.bool a0_2,.int .i64 a0_3,.int .u32 a0_4,.string a0_5,.string a0_6,.string a0_7,.int .u64 a0_8,.int .i64 0,.int .u64 0]) ?_ 9 _ rfl;(with_reducible repeat (first|refine kn_ ?_ _|refine kd_ ?_|refine ka_ ?_ _));refine blk_put (cs:=#[.bool a0_0,.bool a0_1,.bool a0_2,.int .i64 a0_3,.int .u32 a0_4,.string a0_5,.string a0_6,.string a0_7,.int .u64 0,.int .i64 0,.int .u64 0]) ?_ 8 _ rfl;(with_reducible repeat (first|refine kn_ ?_ _|refine kd_ ?_|refine ka_ ?_ _));refine blk_put (cs:=#[.bool a0_0,.bool a0_1,.bool a0_2,.int .i64 a0_3,.int .u32 a0_4,.string a0_5,.string a0_6,.string (⟨#[]⟩ : ByteArray),.int .u64 0,.int .i64 0,.int .u64 0]) ?_ 7 _ rfl;(with_reducible repeat (first|refine kn_ ?_ _|refine kd_ ?_|refine ka_ ?_ _));refine blk_put (cs:=#[.bool a0_0,.bool a0_1,.bool a0_2,.int .i64 a0_3,.int .u32 a0_4,.string a0_5,.string (⟨#[]⟩ : ByteArray),.string (⟨#[]⟩ : ByteArray),.int .u64 0,.int .i64 0,.int .u64 0]) ?_ 6 _ rfl;(with_reducible repeat (first|refine kn_ ?_ _|refine kd_ ?_|refine ka_ ?_ _));refine blk_put (cs:=#[.bool a0_0,.bool a0_1,.bool a0_2,.int .i64 a0_3,.int .u32 a0_4,.string (⟨#[]⟩ : ByteArray),.string (⟨#[]⟩ : ByteArray),.string (⟨#[]⟩ : ByteArray),.int .u64 0,.int .i64 0,.int .u64 0]) ?_ 5 _ rfl;(with_reducible repeat (first|refine kn_ ?_ _|refine kd_ ?_|refine ka_ ?_ _));refine blk_put (cs:=#[.bool a0_0,.bool a0_1,.bool a0_2,.int .i64 a0_3,.int .u32 0,.string (⟨#[]⟩ : ByteArray),.string (⟨#[]⟩ : ByteArray),.string (⟨#[]⟩ : ByteArray),.int .u64 0,.int .i64 0,.int .u64 0]) ?_ 4 _ rfl;(with_reducible repeat (first|refine kn_ ?_ _|refine kd_ ?_|refine ka_ ?_ _));refine blk_put (cs:=#[.bool a0_0,.bool a0_1,.bool a0_2,.int .i64 0,.int .u32 0,.string (⟨#[]⟩ : ByteArray),.string (⟨#[]⟩ : ByteArray),.string (⟨#[]⟩ : ByteArray),.int .u64 0,.int .i64 0,.int .u64 0]) ?_ 3 _ rfl;(with_reducible repeat (first|refine kn_ ?_ _|refine kd_ ?_|refine ka_ ?_ _));refine blk_put (cs:=#[.bool a0_0,.bool a0_1,.bool false,.int .i64 0,.int .u32 0,.string (⟨#[]⟩ : ByteArray),.string (⟨#[]⟩ : ByteArray),.string (⟨#[]⟩ : ByteArray),.int .u64 0,.int .i64 0,.int .u64 0]) ?_ 2 _ rfl;(with_reducible repeat (first|refine kn_ ?_ _|refine kd_ ?_|refine ka_ ?_ _));refine blk_put (cs:=#[.bool a0_0,.bool false,.bool false,.int .i64 0,.int .u32 0,.string (⟨#[]⟩ : ByteArray),.string (⟨#[]⟩ : ByteArray),.string (⟨#[]⟩ : ByteArray),.int .u64 0,.int .i64 0,.int .u64 0]) ?_ 1 _ rfl;(with_reducible repeat (first|refine kn_ ?_ _|refine kd_ ?_|refine ka_ ?_ _));refine blk_put (cs:=#[.bool false,.bool false,.bool false,.int .i64 0,.int .u32 0,.string (⟨#[]⟩ : ByteArray),.string (⟨#[]⟩ : ByteArray),.string (⟨#[]⟩ : ByteArray),.int .u64 0,.int .i64 0,.int .u64 0]) ?_ 0 _ rfl;(with_reducible repeat (first|refine kn_ ?_ _|refine kd_ ?_|refine ka_ ?_ _));exact BK270.out) hb);have n2_:=am_ (below_step (by repeat (first|(with_reducible first|exact HB.out|apply ba_|apply pn_|apply pd_|refine bs_ ?_ GE266.out|refine bs_ ?_ GE270.out)|exact HB.out)) hb);clear BK266;clear BK270;clear HB;have BK266:=n0_;have BK270:=n1_;have HB:=n2_;clear n0_ n1_ n2_;(try clear hb);(try clear hb2);(try clear hk);(try clear hi);obtain ⟨hcz40_0,hcz40_1,hcz40_2,hcz40_3,hcz40_4,hcz40_5,hcz40_6,hcz40_7,hcz40_8,hcz40_9,hcz40_10,hfz40_0,hfz40_1,hfz40_2,hfz40_3,hfz40_4,hfz40_5,hfz40_6,hfz40_7,hfz40_8,hfz40_9,hfz40_10⟩:=cs11f_ BK270.out;skip)|((with_reducible refine gate_callee (f:=13) rfl ?_);refine goesL_ (some 41) rfl rfl Tryd.func13 (by kernel_rfl) rfl #[.agg #[.bool a0_0,.bool a0_1,.bool a0_2,.int .i64 a0_3,.int .u32 a0_4,.string a0_5,.string a0_6,.string a0_7,.int .u64 a0_8,.int .i64 a0_9,.int .u64 a0_10]] rfl (by (try simp only [List.map_toArray,List.map_cons,List.map_nil]);first|done|rfl|(simp only [List.length_drop,List.length_take];rfl)) ?_;(with_reducible refine (dominoref04_Put.calls kj2 a0_0 a0_1 a0_2 a0_3 a0_4 a0_5 a0_6 a0_7 a0_8 a0_9 a0_10 t273 t274 _ A20.out).mono ?_);rintro e w41 ⟨rfl,hb⟩;refine ⟨_,rfl,?_⟩;have n0_:=am_ (blk_below (g:=gb266) (o:=.cells #[.bool a0_0,.bool a0_1,.bool a0_2,.int .i64 a0_3,.int .u32 a0_4,.string a0_5,.string a0_6,.string a0_7,.int .u64 a0_8,.int .i64 a0_9,.int .u64 a0_10] 25 (0,0)) (by (with_reducible repeat (first|refine kn_ ?_ _|refine kd_ ?_|refine ka_ ?_ _));exact BK266.out) hb);have n1_:=am_ (blk_below (g:=gb270) (o:=.cells #[.bool a0_0,.bool a0_1,.bool a0_2,.int .i64 a0_3,.int .u32 a0_4,.string a0_5,.string a0_6,.string a0_7,.int .u64 a0_8,.int .i64 a0_9,.int .u64 a0_10] 28 (0,0)) (by (with_reducible repeat (first|refine kn_ ?_ _|refine kd_ ?_|refine ka_ ?_ _));exact BK270.out) hb);have n2_:=am_ (below_step (by repeat (first|(with_reducible first|exact HB.out|apply ba_|apply pn_|apply pd_|refine bs_ ?_ GE266.out|refine bs_ ?_ GE270.out)|exact HB.out)) hb);clear BK266;clear BK270;clear HB;have BK266:=n0_;have BK270:=n1_;have HB:=n2_;clear n0_ n1_ n2_;(try clear hb);(try clear hb2);(try clear hk);(try clear hi))|((with_reducible refine gate_callee (f:=14) rfl ?_);refine goesL_ (some 46) rfl rfl Tryd.func14 (by kernel_rfl) rfl #[.string a1] rfl (by (try simp only [List.map_toArray,List.map_cons,List.map_nil]);first|done|rfl|(simp only [List.length_drop,List.length_take];rfl)) ?_;(with_reducible refine (header_Get.calls kj2 a1 t275 t276 t277 t278 t279 t280 t281 t282 t283 t284 t285 t286 t287 _ A21.out).mono ?_);rintro e w42 ⟨rfl,hb⟩;refine ⟨_,rfl,?_⟩;have n0_:=am_ (blk_below (g:=gb266) (o:=.cells #[.bool a0_0,.bool a0_1,.bool a0_2,.int .i64 a0_3,.int .u32 a0_4,.string a0_5,.string a0_6,.string a0_7,.int .u64 a0_8,.int .i64 a0_9,.int .u64 a0_10] 25 (0,0)) (by (with_reducible repeat (first|refine kn_ ?_ _|refine kd_ ?_|refine ka_ ?_ _));exact BK266.out) hb);have n1_:=am_ (blk_below (g:=gb270) (o:=.cells #[.bool a0_0,.bool a0_1,.bool a0_2,.int .i64 a0_3,.int .u32 a0_4,.string a0_5,.string a0_6,.string a0_7,.int .u64 a0_8,.int .i64 a0_9,.int .u64 a0_10] 28 (0,0)) (by (with_reducible repeat (first|refine kn_ ?_ _|refine kd_ ?_|refine ka_ ?_ _));exact BK270.out) hb);have n2_:=am_ (below_step (by repeat (first|(with_reducible first|exact HB.out|apply ba_|apply pn_|apply pd_|refine bs_ ?_ GE266.out|refine bs_ ?_ GE270.out)|exact HB.out)) hb);clear BK266;clear BK270;clear HB;have BK266:=n0_;have BK270:=n1_;have HB:=n2_;clear n0_ n1_ n2_;(try clear hb);(try clear hb2);(try clear hk);(try clear hi))|((with_reducible refine gate_dst (N:=10) rfl ?_);(try (refine gate_guard (by rfl) ?_;dsimp only));refine box_event ?hg (N:=10) ?hd (cs:=#[.bool false,.bool false,.bool false,.int .i64 0,.int .u32 0,.string (⟨#[]⟩ : ByteArray),.string (⟨#[]⟩ : ByteArray),.string (⟨#[]⟩ : ByteArray),.int .u64 0,.int .i64 0,.int .u64 0]) (t:=25) ?hr ?_;(case hd => rfl);(case hg => rfl);(case hr => first|(go_simp;done)|(go_simp;rfl));intro gb288 hg w43 hbox hb;have n0_:=am_ (blk_below (g:=gb266) (o:=.cells #[.bool a0_0,.bool a0_1,.bool a0_2,.int .i64 a0_3,.int .u32 a0_4,.string a0_5,.string a0_6,.string a0_7,.int .u64 a0_8,.int .i64 a0_9,.int .u64 a0_10] 25 (0,0)) (by (with_reducible repeat (first|refine kn_ ?_ _|refine kd_ ?_|refine ka_ ?_ _));exact BK266.out) hb);have n1_:=am_ (blk_below (g:=gb270) (o:=.cells #[.bool a0_0,.bool a0_1,.bool a0_2,.int .i64 a0_3,.int .u32 a0_4,.string a0_5,.string a0_6,.string a0_7,.int .u64 a0_8,.int .i64 a0_9,.int .u64 a0_10] 28 (0,0)) (by (with_reducible repeat (first|refine kn_ ?_ _|refine kd_ ?_|refine ka_ ?_ _));exact BK270.out) hb);have n2_:=am_ (below_step (by repeat (first|(with_reducible first|exact HB.out|apply ba_|apply pn_|apply pd_|refine bs_ ?_ GE266.out|refine bs_ ?_ GE270.out)|exact HB.out)) hb);have n3_:=am_ (hbox);have n4_:=am_ ((by rw [hg];exact (below_size (by repeat (first|(with_reducible first|exact HB.out|apply ba_|apply pn_|apply pd_|refine bs_ ?_ GE266.out|refine bs_ ?_ GE270.out)|exact HB.out))) : w.heap.size ≤ gb288));have n5_:=am_ ((by rw [hg];exact (below_size (by repeat (first|(with_reducible first|exact HB.out|apply ba_|apply pn_|apply pd_|refine bs_ ?_ GE266.out|refine bs_ ?_ GE270.out)|exact HB.out))) : w.heap.size ≤ gb288));have n6_:=am_ ((by rw [hg];exact Nat.ne_of_lt (blk_lt (g:=gb266) (o:=.cells #[.bool a0_0,.bool a0_1,.bool a0_2,.int .i64 a0_3,.int .u32 a0_4,.string a0_5,.string a0_6,.string a0_7,.int .u64 a0_8,.int .i64 a0_9,.int .u64 a0_10] 25 (0,0)) (by (with_reducible repeat (first|refine kn_ ?_ _|refine kd_ ?_|refine ka_ ?_ _));exact BK266.out)) : gb266 ≠ gb288));have n7_:=am_ ((by rw [hg];exact Nat.ne_of_gt (blk_lt (g:=gb266) (o:=.cells #[.bool a0_0,.bool a0_1,.bool a0_2,.int .i64 a0_3,.int .u32 a0_4,.string a0_5,.string a0_6,.string a0_7,.int .u64 a0_8,.int .i64 a0_9,.int .u64 a0_10] 25 (0,0)) (by (with_reducible repeat (first|refine kn_ ?_ _|refine kd_ ?_|refine ka_ ?_ _));exact BK266.out)) : gb288 ≠ gb266));have n8_:=am_ ((by rw [hg];exact Nat.ne_of_lt (blk_lt (g:=gb270) (o:=.cells #[.bool a0_0,.bool a0_1,.bool a0_2,.int .i64 a0_3,.int .u32 a0_4,.string a0_5,.string a0_6,.string a0_7,.int .u64 a0_8,.int .i64 a0_9,.int .u64 a0_10] 28 (0,0)) (by (with_reducible repeat (first|refine kn_ ?_ _|refine kd_ ?_|refine ka_ ?_ _));exact BK270.out)) : gb270 ≠ gb288));have n9_:=am_ ((by rw [hg];exact Nat.ne_of_gt (blk_lt (g:=gb270) (o:=.cells #[.bool a0_0,.bool a0_1,.bool a0_2,.int .i64 a0_3,.int .u32 a0_4,.string a0_5,.string a0_6,.string a0_7,.int .u64 a0_8,.int .i64 a0_9,.int .u64 a0_10] 28 (0,0)) (by (with_reducible repeat (first|refine kn_ ?_ _|refine kd_ ?_|refine ka_ ?_ _));exact BK270.out)) : gb288 ≠ gb270));clear BK266;clear BK270;clear HB;have BK266:=n0_;have BK270:=n1_;have HB:=n2_;have BK288:=n3_;have GW288:=n4_;have GE288:=n5_;have NB266_288:=n6_;have NB288_266:=n7_;have NB270_288:=n8_;have NB288_270:=n9_;clear n0_ n1_ n2_ n3_ n4_ n5_ n6_ n7_ n8_ n9_;clear hb hbox hg;have hnb44:=NB288_266.out;have hnc44:=NB266_288.out;have hnb45:=NB288_270.out;have hnc45:=NB270_288.out;obtain ⟨hcz46_0,hcz46_1,hcz46_2,hcz46_3,hcz46_4,hcz46_5,hcz46_6,hcz46_7,hcz46_8,hcz46_9,hcz46_10,hfz46_0,hfz46_1,hfz46_2,hfz46_3,hfz46_4,hfz46_5,hfz46_6,hfz46_7,hfz46_8,hfz46_9,hfz46_10⟩:=cs11f_ BK288.out;skip)|((with_reducible refine gate_callee (f:=15) rfl ?_);refine goesL_ (some 52) rfl rfl Tryd.func15 (by kernel_rfl) rfl #[.string a1] rfl (by (try simp only [List.map_toArray,List.map_cons,List.map_nil]);first|done|rfl|(simp only [List.length_drop,List.length_take];rfl)) ?_;(with_reducible refine (dominoref04_Get.calls kj2 a1 t289 t290 t291 t292 t293 t294 t295 t296 t297 t298 t299 t300 t301 _ A22.out).mono ?_);rintro e w47 ⟨rfl,hb⟩;refine ⟨_,rfl,?_⟩;have n0_:=am_ (blk_below (g:=gb266) (o:=.cells #[.bool a0_0,.bool a0_1,.bool a0_2,.int .i64 a0_3,.int .u32 a0_4,.string a0_5,.string a0_6,.string a0_7,.int .u64 a0_8,.int .i64 a0_9,.int .u64 a0_10] 25 (0,0)) (by (with_reducible repeat (first|refine kn_ ?_ _|refine kd_ ?_|refine ka_ ?_ _));refine blk_far ?_ NB266_288.out _;(with_reducible repeat (first|refine kn_ ?_ _|refine kd_ ?_|refine ka_ ?_ _));refine blk_far ?_ NB266_288.out _;(with_reducible repeat (first|refine kn_ ?_ _|refine kd_ ?_|refine ka_ ?_ _));refine blk_far ?_ NB266_288.out _;(with_reducible repeat (first|refine kn_ ?_ _|refine kd_ ?_|refine ka_ ?_ _));refine blk_far ?_ NB266_288.out _;(with_reducible repeat (first|refine kn_ ?_ _|refine kd_ ?_|refine ka_ ?_ _));refine blk_far ?_ NB266_288.out _;(with_reducible repeat (first|refine kn_ ?_ _|refine kd_ ?_|refine ka_ ?_ _));refine blk_far ?_ NB266_288.out _;(with_reducible repeat (first|refine kn_ ?_ _|refine kd_ ?_|refine ka_ ?_ _));refine blk_far ?_ NB266_288.out _;(with_reducible repeat (first|refine kn_ ?_ _|refine kd_ ?_|refine ka_ ?_ _));refine blk_far ?_ NB266_288.out _;(with_reducible repeat (first|refine kn_ ?_ _|refine kd_ ?_|refine ka_ ?_ _));refine blk_far ?_ NB266_288.out _;(with_reducible repeat (first|refine kn_ ?_ _|refine kd_ ?_|refine ka_ ?_ _));refine blk_far ?_ NB266_288.out _;(with_reducible repeat (first|refine kn_ ?_ _|refine kd_ ?_|refine ka_ ?_ _));refine blk_far ?_ NB266_288.out _;(with_reducible repeat (first|refine kn_ ?_ _|refine kd_ ?_|refine ka_ ?_ _));exact BK266.out) hb);have n1_:=am_ (blk_below (g:=gb270) (o:=.cells #[.bool a0_0,.bool a0_1,.bool a0_2,.int .i64 a0_3,.int .u32 a0_4,.string a0_5,.string a0_6,.string a0_7,.int .u64 a0_8,.int .i64 a0_9,.int .u64 a0_10] 28 (0,0)) (by (with_reducible repeat (first|refine kn_ ?_ _|refine kd_ ?_|refine ka_ ?_ _));refine blk_far ?_ NB270_288.out _;(with_reducible repeat (first|refine kn_ ?_ _|refine kd_ ?_|refine ka_ ?_ _));refine blk_far ?_ NB270_288.out _;(with_reducible repeat (first|refine kn_ ?_ _|refine kd_ ?_|refine ka_ ?_ _));refine blk_far ?_ NB270_288.out _;(with_reducible repeat (first|refine kn_ ?_ _|refine kd_ ?_|refine ka_ ?_ _));refine blk_far ?_ NB270_288.out _;(with_reducible repeat (first|refine kn_ ?_ _|refine kd_ ?_|refine ka_ ?_ _));refine blk_far ?_ NB270_288.out _;(with_reducible repeat (first|refine kn_ ?_ _|refine kd_ ?_|refine ka_ ?_ _));refine blk_far ?_ NB270_288.out _;(with_reducible repeat (first|refine kn_ ?_ _|refine kd_ ?_|refine ka_ ?_ _));refine blk_far ?_ NB270_288.out _;(with_reducible repeat (first|refine kn_ ?_ _|refine kd_ ?_|refine ka_ ?_ _));refine blk_far ?_ NB270_288.out _;(with_reducible repeat (first|refine kn_ ?_ _|refine kd_ ?_|refine ka_ ?_ _));refine blk_far ?_ NB270_288.out _;(with_reducible repeat (first|refine kn_ ?_ _|refine kd_ ?_|refine ka_ ?_ _));refine blk_far ?_ NB270_288.out _;(with_reducible repeat (first|refine kn_ ?_ _|refine kd_ ?_|refine ka_ ?_ _));refine blk_far ?_ NB270_288.out _;(with_reducible repeat (first|refine kn_ ?_ _|refine kd_ ?_|refine ka_ ?_ _));exact BK270.out) hb);have n2_:=am_ (blk_below (g:=gb288) (o:=.cells #[.bool t275,.bool t276,.bool t277,.int .i64 t278,.int .u32 t279,.string t280,.string t281,.string t282,.int .u64 t283,.int .i64 t284,.int .u64 t285] 25 (0,0)) (by (with_reducible repeat (first|refine kn_ ?_ _|refine kd_ ?_|refine ka_ ?_ _));refine blk_put (cs:=#[.bool t275,.bool t276,.bool t277,.int .i64 t278,.int .u32 t279,.string t280,.string t281,.string t282,.int .u64 t283,.int .i64 t284,.int .u64 0]) ?_ 10 _ rfl;(with_reducible repeat (first|refine kn_ ?_ _|refine kd_ ?_|refine ka_ ?_ _));refine blk_put (cs:=#[.bool t275,.bool t276,.bool t277,.int .i64 t278,.int .u32 t279,.string t280,.string t281,.string t282,.int .u64 t283,.int .i64 0,.int .u64 0]) ?_ 9 _ rfl;(with_reducible repeat (first|refine kn_ ?_ _|refine kd_ ?_|refine ka_ ?_ _));refine blk_put (cs:=#[.bool t275,.bool t276,.bool t277,.int .i64 t278,.int .u32 t279,.string t280,.string t281,.string t282,.int .u64 0,.int .i64 0,.int .u64 0]) ?_ 8 _ rfl;(with_reducible repeat (first|refine kn_ ?_ _|refine kd_ ?_|refine ka_ ?_ _));refine blk_put (cs:=#[.bool t275,.bool t276,.bool t277,.int .i64 t278,.int .u32 t279,.string t280,.string t281,.string (⟨#[]⟩ : ByteArray),.int .u64 0,.int .i64 0,.int .u64 0]) ?_ 7 _ rfl;(with_reducible repeat (first|refine kn_ ?_ _|refine kd_ ?_|refine ka_ ?_ _));refine blk_put (cs:=#[.bool t275,.bool t276,.bool t277,.int .i64 t278,.int .u32 t279,.string t280,.string (⟨#[]⟩ : ByteArray),.string (⟨#[]⟩ : ByteArray),.int .u64 0,.int .i64 0,.int .u64 0]) ?_ 6 _ rfl;(with_reducible repeat (first|refine kn_ ?_ _|refine kd_ ?_|refine ka_ ?_ _));refine blk_put (cs:=#[.bool t275,.bool t276,.bool t277,.int .i64 t278,.int .u32 t279,.string (⟨#[]⟩ : ByteArray),.string (⟨#[]⟩ : ByteArray),.string (⟨#[]⟩ : ByteArray),.int .u64 0,.int .i64 0,.int .u64 0]) ?_ 5 _ rfl;(with_reducible repeat (first|refine kn_ ?_ _|refine kd_ ?_|refine ka_ ?_ _));refine blk_put (cs:=#[.bool t275,.bool t276,.bool t277,.int .i64 t278,.int .u32 0,.string (⟨#[]⟩ : ByteArray),.string (⟨#[]⟩ : ByteArray),.string (⟨#[]⟩ : ByteArray),.int .u64 0,.int .i64 0,.int .u64 0]) ?_ 4 _ rfl;(with_reducible repeat (first|refine kn_ ?_ _|refine kd_ ?_|refine ka_ ?_ _));refine blk_put (cs:=#[.bool t275,.bool t276,.bool t277,.int .i64 0,.int .u32 0,.string (⟨#[]⟩ : ByteArray),.string (⟨#[]⟩ : ByteArray),.string (⟨#[]⟩ : ByteArray),.int .u64 0,.int .i64 0,.int .u64 0]) ?_ 3 _ rfl;(with_reducible repeat (first|refine kn_ ?_ _|refine kd_ ?_|refine ka_ ?_ _));refine blk_put (cs:=#[.bool t275,.bool t276,.bool false,.int .i64 0,.int .u32 0,.string (⟨#[]⟩ : ByteArray),.string (⟨#[]⟩ : ByteArray),.string (⟨#[]⟩ : ByteArray),.int .u64 0,.int .i64 0,.int .u64 0]) ?_ 2 _ rfl;(with_reducible repeat (first|refine kn_ ?_ _|refine kd_ ?_|refine ka_ ?_ _));refine blk_put (cs:=#[.bool t275,.bool false,.bool false,.int .i64 0,.int .u32 0,.string (⟨#[]⟩ : ByteArray),.string (⟨#[]⟩ : ByteArray),.string (⟨#[]⟩ : ByteArray),.int .u64 0,.int .i64 0,.int .u64 0]) ?_ 1 _ rfl;(with_reducible repeat (first|refine kn_ ?_ _|refine kd_ ?_|refine ka_ ?_ _));refine blk_put (cs:=#[.bool false,.bool false,.bool false,.int .i64 0,.int .u32 0,.string (⟨#[]⟩ : ByteArray),.string (⟨#[]⟩ : ByteArray),.string (⟨#[]⟩ : ByteArray),.int .u64 0,.int .i64 0,.int .u64 0]) ?_ 0 _ rfl;(with_reducible repeat (first|refine kn_ ?_ _|refine kd_ ?_|refine ka_ ?_ _));exact BK288.out) hb);have n3_:=am_ (below_step (by repeat (first|(with_reducible first|exact HB.out|apply ba_|apply pn_|apply pd_|refine bs_ ?_ GE266.out|refine bs_ ?_ GE270.out|refine bs_ ?_ GE288.out)|exact HB.out)) hb);clear BK266;clear BK270;clear BK288;clear HB;have BK266:=n0_;have BK270:=n1_;have BK288:=n2_;have HB:=n3_;clear n0_ n1_ n2_ n3_;(try clear hb);(try clear hb2);(try clear hk);(try clear hi))|((with_reducible refine gate_dst (N:=13) rfl ?_);(try (refine gate_guard (by rfl) ?_;dsimp only));refine box_event ?hg (N:=13) ?hd (cs:=#[.bool false,.bool false,.bool false,.int .i64 0,.int .u32 0,.string (⟨#[]⟩ : ByteArray),.string (⟨#[]⟩ : ByteArray),.string (⟨#[]⟩ : ByteArray),.int .u64 0,.int .i64 0,.int .u64 0]) (t:=28) ?hr ?_;(case hd => rfl);(case hg => rfl);(case hr => first|(go_simp;done)|(go_simp;rfl));intro gb302 hg w48 hbox hb;have n0_:=am_ (blk_below (g:=gb266) (o:=.cells #[.bool a0_0,.bool a0_1,.bool a0_2,.int .i64 a0_3,.int .u32 a0_4,.string a0_5,.string a0_6,.string a0_7,.int .u64 a0_8,.int .i64 a0_9,.int .u64 a0_10] 25 (0,0)) (by (with_reducible repeat (first|refine kn_ ?_ _|refine kd_ ?_|refine ka_ ?_ _));exact BK266.out) hb);have n1_:=am_ (blk_below (g:=gb270) (o:=.cells #[.bool a0_0,.bool a0_1,.bool a0_2,.int .i64 a0_3,.int .u32 a0_4,.string a0_5,.string a0_6,.string a0_7,.int .u64 a0_8,.int .i64 a0_9,.int .u64 a0_10] 28 (0,0)) (by (with_reducible repeat (first|refine kn_ ?_ _|refine kd_ ?_|refine ka_ ?_ _));exact BK270.out) hb);have n2_:=am_ (blk_below (g:=gb288) (o:=.cells #[.bool t275,.bool t276,.bool t277,.int .i64 t278,.int .u32 t279,.string t280,.string t281,.string t282,.int .u64 t283,.int .i64 t284,.int .u64 t285] 25 (0,0)) (by (with_reducible repeat (first|refine kn_ ?_ _|refine kd_ ?_|refine ka_ ?_ _));exact BK288.out) hb);have n3_:=am_ (below_step (by repeat (first|(with_reducible first|exact HB.out|apply ba_|apply pn_|apply pd_|refine bs_ ?_ GE266.out|refine bs_ ?_ GE270.out|refine bs_ ?_ GE288.out)|exact HB.out)) hb);have n4_:=am_ (hbox);have n5_:=am_ ((by rw [hg];exact (below_size (by repeat (first|(with_reducible first|exact HB.out|apply ba_|apply pn_|apply pd_|refine bs_ ?_ GE266.out|refine bs_ ?_ GE270.out|refine bs_ ?_ GE288.out)|exact HB.out))) : w.heap.size ≤ gb302));have n6_:=am_ ((by rw [hg];exact (below_size (by repeat (first|(with_reducible first|exact HB.out|apply ba_|apply pn_|apply pd_|refine bs_ ?_ GE266.out|refine bs_ ?_ GE270.out|refine bs_ ?_ GE288.out)|exact HB.out))) : w.heap.size ≤ gb302));have n7_:=am_ ((by rw [hg];exact Nat.ne_of_lt (blk_lt (g:=gb266) (o:=.cells #[.bool a0_0,.bool a0_1,.bool a0_2,.int .i64 a0_3,.int .u32 a0_4,.string a0_5,.string a0_6,.string a0_7,.int .u64 a0_8,.int .i64 a0_9,.int .u64 a0_10] 25 (0,0)) (by (with_reducible repeat (first|refine kn_ ?_ _|refine kd_ ?_|refine ka_ ?_ _));exact BK266.out)) : gb266 ≠ gb302));have n8_:=am_ ((by rw [hg];exact Nat.ne_of_gt (blk_lt (g:=gb266) (o:=.cells #[.bool a0_0,.bool a0_1,.bool a0_2,.int .i64 a0_3,.int .u32 a0_4,.string a0_5,.string a0_6,.string a0_7,.int .u64 a0_8,.int .i64 a0_9,.int .u64 a0_10] 25 (0,0)) (by (with_reducible repeat (first|refine kn_ ?_ _|refine kd_ ?_|refine ka_ ?_ _));exact BK266.out)) : gb302 ≠ gb266));have n9_:=am_ ((by rw [hg];exact Nat.ne_of_lt (blk_lt (g:=gb270) (o:=.cells #[.bool a0_0,.bool a0_1,.bool a0_2,.int .i64 a0_3,.int .u32 a0_4,.string a0_5,.string a0_6,.string a0_7,.int .u64 a0_8,.int .i64 a0_9,.int .u64 a0_10] 28 (0,0)) (by (with_reducible repeat (first|refine kn_ ?_ _|refine kd_ ?_|refine ka_ ?_ _));exact BK270.out)) : gb270 ≠ gb302));have n10_:=am_ ((by rw [hg];exact Nat.ne_of_gt (blk_lt (g:=gb270) (o:=.cells #[.bool a0_0,.bool a0_1,.bool a0_2,.int .i64 a0_3,.int .u32 a0_4,.string a0_5,.string a0_6,.string a0_7,.int .u64 a0_8,.int .i64 a0_9,.int .u64 a0_10] 28 (0,0)) (by (with_reducible repeat (first|refine kn_ ?_ _|refine kd_ ?_|refine ka_ ?_ _));exact BK270.out)) : gb302 ≠ gb270));have n11_:=am_ ((by rw [hg];exact Nat.ne_of_lt (blk_lt (g:=gb288) (o:=.cells #[.bool t275,.bool t276,.bool t277,.int .i64 t278,.int .u32 t279,.string t280,.string t281,.string t282,.int .u64 t283,.int .i64 t284,.int .u64 t285] 25 (0,0)) (by (with_reducible repeat (first|refine kn_ ?_ _|refine kd_ ?_|refine ka_ ?_ _));exact BK288.out)) : gb288 ≠ gb302));have n12_:=am_ ((by rw [hg];exact Nat.ne_of_gt (blk_lt (g:=gb288) (o:=.cells #[.bool t275,.bool t276,.bool t277,.int .i64 t278,.int .u32 t279,.string t280,.string t281,.string t282,.int .u64 t283,.int .i64 t284,.int .u64 t285] 25 (0,0)) (by (with_reducible repeat (first|refine kn_ ?_ _|refine kd_ ?_|refine ka_ ?_ _));exact BK288.out)) : gb302 ≠ gb288));clear BK266;clear BK270;clear BK288;clear HB;have BK266:=n0_;have BK270:=n1_;have BK288:=n2_;have HB:=n3_;have BK302:=n4_;have GW302:=n5_;have GE302:=n6_;have NB266_302:=n7_;have NB302_266:=n8_;have NB270_302:=n9_;have NB302_270:=n10_;have NB288_302:=n11_;have NB302_288:=n12_;clear n0_ n1_ n2_ n3_ n4_ n5_ n6_ n7_ n8_ n9_ n10_ n11_ n12_;clear hb hbox hg;have hnb49:=NB302_266.out;have hnc49:=NB266_302.out;have hnb50:=NB302_270.out;have hnc50:=NB270_302.out;have hnb51:=NB302_288.out;have hnc51:=NB288_302.out;obtain ⟨hcz52_0,hcz52_1,hcz52_2,hcz52_3,hcz52_4,hcz52_5,hcz52_6,hcz52_7,hcz52_8,hcz52_9,hcz52_10,hfz52_0,hfz52_1,hfz52_2,hfz52_3,hfz52_4,hfz52_5,hfz52_6,hfz52_7,hfz52_8,hfz52_9,hfz52_10⟩:=cs11f_ BK302.out;skip)|((with_reducible refine gate_callee (f:=16) rfl ?_);refine goesL_ (some 58) rfl rfl Tryd.func16 (by kernel_rfl) rfl #[.string a1] rfl (by (try simp only [List.map_toArray,List.map_cons,List.map_nil]);first|done|rfl|(simp only [List.length_drop,List.length_take];rfl)) ?_;(with_reducible refine (header_Place.calls kj2 a1 t303 t304 _ A23.out).mono ?_);rintro e w53 ⟨rfl,hb⟩;refine ⟨_,rfl,?_⟩;have n0_:=am_ (blk_below (g:=gb266) (o:=.cells #[.bool a0_0,.bool a0_1,.bool a0_2,.int .i64 a0_3,.int .u32 a0_4,.string a0_5,.string a0_6,.string a0_7,.int .u64 a0_8,.int .i64 a0_9,.int .u64 a0_10] 25 (0,0)) (by (with_reducible repeat (first|refine kn_ ?_ _|refine kd_ ?_|refine ka_ ?_ _));refine blk_far ?_ NB266_302.out _;(with_reducible repeat (first|refine kn_ ?_ _|refine kd_ ?_|refine ka_ ?_ _));refine blk_far ?_ NB266_302.out _;(with_reducible repeat (first|refine kn_ ?_ _|refine kd_ ?_|refine ka_ ?_ _));refine blk_far ?_ NB266_302.out _;(with_reducible repeat (first|refine kn_ ?_ _|refine kd_ ?_|refine ka_ ?_ _));refine blk_far ?_ NB266_302.out _;(with_reducible repeat (first|refine kn_ ?_ _|refine kd_ ?_|refine ka_ ?_ _));refine blk_far ?_ NB266_302.out _;(with_reducible repeat (first|refine kn_ ?_ _|refine kd_ ?_|refine ka_ ?_ _));refine blk_far ?_ NB266_302.out _;(with_reducible repeat (first|refine kn_ ?_ _|refine kd_ ?_|refine ka_ ?_ _));refine blk_far ?_ NB266_302.out _;(with_reducible repeat (first|refine kn_ ?_ _|refine kd_ ?_|refine ka_ ?_ _));refine blk_far ?_ NB266_302.out _;(with_reducible repeat (first|refine kn_ ?_ _|refine kd_ ?_|refine ka_ ?_ _));refine blk_far ?_ NB266_302.out _;(with_reducible repeat (first|refine kn_ ?_ _|refine kd_ ?_|refine ka_ ?_ _));refine blk_far ?_ NB266_302.out _;(with_reducible repeat (first|refine kn_ ?_ _|refine kd_ ?_|refine ka_ ?_ _));refine blk_far ?_ NB266_302.out _;(with_reducible repeat (first|refine kn_ ?_ _|refine kd_ ?_|refine ka_ ?_ _));exact BK266.out) hb);have n1_:=am_ (blk_below (g:=gb270) (o:=.cells #[.bool a0_0,.bool a0_1,.bool a0_2,.int .i64 a0_3,.int .u32 a0_4,.string a0_5,.string a0_6,.string a0_7,.int .u64 a0_8,.int .i64 a0_9,.int .u64 a0_10] 28 (0,0)) (by (with_reducible repeat (first|refine kn_ ?_ _|refine kd_ ?_|refine ka_ ?_ _));refine blk_far ?_ NB270_302.out _;(with_reducible repeat (first|refine kn_ ?_ _|refine kd_ ?_|refine ka_ ?_ _));refine blk_far ?_ NB270_302.out _;(with_reducible repeat (first|refine kn_ ?_ _|refine kd_ ?_|refine ka_ ?_ _));refine blk_far ?_ NB270_302.out _;(with_reducible repeat (first|refine kn_ ?_ _|refine kd_ ?_|refine ka_ ?_ _));refine blk_far ?_ NB270_302.out _;(with_reducible repeat (first|refine kn_ ?_ _|refine kd_ ?_|refine ka_ ?_ _));refine blk_far ?_ NB270_302.out _;(with_reducible repeat (first|refine kn_ ?_ _|refine kd_ ?_|refine ka_ ?_ _));refine blk_far ?_ NB270_302.out _;(with_reducible repeat (first|refine kn_ ?_ _|refine kd_ ?_|refine ka_ ?_ _));refine blk_far ?_ NB270_302.out _;(with_reducible repeat (first|refine kn_ ?_ _|refine kd_ ?_|refine ka_ ?_ _));refine blk_far ?_ NB270_302.out _;(with_reducible repeat (first|refine kn_ ?_ _|refine kd_ ?_|refine ka_ ?_ _));refine blk_far ?_ NB270_302.out _;(with_reducible repeat (first|refine kn_ ?_ _|refine kd_ ?_|refine ka_ ?_ _));refine blk_far ?_ NB270_302.out _;(with_reducible repeat (first|refine kn_ ?_ _|refine kd_ ?_|refine ka_ ?_ _));refine blk_far ?_ NB270_302.out _;(with_reducible repeat (first|refine kn_ ?_ _|refine kd_ ?_|refine ka_ ?_ _));exact BK270.out) hb);have n2_:=am_ (blk_below (g:=gb288) (o:=.cells #[.bool t275,.bool t276,.bool t277,.int .i64 t278,.int .u32 t279,.string t280,.string t281,.string t282,.int .u64 t283,.int .i64 t284,.int .u64 t285] 25 (0,0)) (by (with_reducible repeat (first|refine kn_ ?_ _|refine kd_ ?_|refine ka_ ?_ _));refine blk_far ?_ NB288_302.out _;(with_reducible repeat (first|refine kn_ ?_ _|refine kd_ ?_|refine ka_ ?_ _));refine blk_far ?_ NB288_302.out _;(with_reducible repeat (first|refine kn_ ?_ _|refine kd_ ?_|refine ka_ ?_ _));refine blk_far ?_ NB288_302.out _;(with_reducible repeat (first|refine kn_ ?_ _|refine kd_ ?_|refine ka_ ?_ _));refine blk_far ?_ NB288_302.out _;(with_reducible repeat (first|refine kn_ ?_ _|refine kd_ ?_|refine ka_ ?_ _));refine blk_far ?_ NB288_302.out _;(with_reducible repeat (first|refine kn_ ?_ _|refine kd_ ?_|refine ka_ ?_ _));refine blk_far ?_ NB288_302.out _;(with_reducible repeat (first|refine kn_ ?_ _|refine kd_ ?_|refine ka_ ?_ _));refine blk_far ?_ NB288_302.out _;(with_reducible repeat (first|refine kn_ ?_ _|refine kd_ ?_|refine ka_ ?_ _));refine blk_far ?_ NB288_302.out _;(with_reducible repeat (first|refine kn_ ?_ _|refine kd_ ?_|refine ka_ ?_ _));refine blk_far ?_ NB288_302.out _;(with_reducible repeat (first|refine kn_ ?_ _|refine kd_ ?_|refine ka_ ?_ _));refine blk_far ?_ NB288_302.out _;(with_reducible repeat (first|refine kn_ ?_ _|refine kd_ ?_|refine ka_ ?_ _));refine blk_far ?_ NB288_302.out _;(with_reducible repeat (first|refine kn_ ?_ _|refine kd_ ?_|refine ka_ ?_ _));exact BK288.out) hb);have n3_:=am_ (blk_below (g:=gb302) (o:=.cells #[.bool t289,.bool t290,.bool t291,.int .i64 t292,.int .u32 t293,.string t294,.string t295,.string t296,.int .u64 t297,.int .i64 t298,.int .u64 t299] 28 (0,0)) (by (with_reducible repeat (first|refine kn_ ?_ _|refine kd_ ?_|refine ka_ ?_ _));refine blk_put (cs:=#[.bool t289,.bool t290,.bool t291,.int .i64 t292,.int .u32 t293,.string t294,.string t295,.string t296,.int .u64 t297,.int .i64 t298,.int .u64 0]) ?_ 10 _ rfl;(with_reducible repeat (first|refine kn_ ?_ _|refine kd_ ?_|refine ka_ ?_ _));refine blk_put (cs:=#[.bool t289,.bool t290,.bool t291,.int .i64 t292,.int .u32 t293,.string t294,.string t295,.string t296,.int .u64 t297,.int .i64 0,.int .u64 0]) ?_ 9 _ rfl;(with_reducible repeat (first|refine kn_ ?_ _|refine kd_ ?_|refine ka_ ?_ _));refine blk_put (cs:=#[.bool t289,.bool t290,.bool t291,.int .i64 t292,.int .u32 t293,.string t294,.string t295,.string t296,.int .u64 0,.int .i64 0,.int .u64 0]) ?_ 8 _ rfl;(with_reducible repeat (first|refine kn_ ?_ _|refine kd_ ?_|refine ka_ ?_ _));refine blk_put (cs:=#[.bool t289,.bool t290,.bool t291,.int .i64 t292,.int .u32 t293,.string t294,.string t295,.string (⟨#[]⟩ : ByteArray),.int .u64 0,.int .i64 0,.int .u64 0]) ?_ 7 _ rfl;(with_reducible repeat (first|refine kn_ ?_ _|refine kd_ ?_|refine ka_ ?_ _));refine blk_put (cs:=#[.bool t289,.bool t290,.bool t291,.int .i64 t292,.int .u32 t293,.string t294,.string (⟨#[]⟩ : ByteArray),.string (⟨#[]⟩ : ByteArray),.int .u64 0,.int .i64 0,.int .u64 0]) ?_ 6 _ rfl;(with_reducible repeat (first|refine kn_ ?_ _|refine kd_ ?_|refine ka_ ?_ _));refine blk_put (cs:=#[.bool t289,.bool t290,.bool t291,.int .i64 t292,.int .u32 t293,.string (⟨#[]⟩ : ByteArray),.string (⟨#[]⟩ : ByteArray),.string (⟨#[]⟩ : ByteArray),.int .u64 0,.int .i64 0,.int .u64 0]) ?_ 5 _ rfl;(with_reducible repeat (first|refine kn_ ?_ _|refine kd_ ?_|refine ka_ ?_ _));refine blk_put (cs:=#[.bool t289,.bool t290,.bool t291,.int .i64 t292,.int .u32 0,.string (⟨#[]⟩ : ByteArray),.string (⟨#[]⟩ : ByteArray),.string (⟨#[]⟩ : ByteArray),.int .u64 0,.int .i64 0,.int .u64 0]) ?_ 4 _ rfl;(with_reducible repeat (first|refine kn_ ?_ _|refine kd_ ?_|refine ka_ ?_ _));refine blk_put (cs:=#[.bool t289,.bool t290,.bool t291,.int .i64 0,.int .u32 0,.string (⟨#[]⟩ : ByteArray),.string (⟨#[]⟩ : ByteArray),.string (⟨#[]⟩ : ByteArray),.int .u64 0,.int .i64 0,.int .u64 0]) ?_ 3 _ rfl;(with_reducible repeat (first|refine kn_ ?_ _|refine kd_ ?_|refine ka_ ?_ _));refine blk_put (cs:=#[.bool t289,.bool t290,.bool false,.int .i64 0,.int .u32 0,.string (⟨#[]⟩ : ByteArray),.string (⟨#[]⟩ : ByteArray),.string (⟨#[]⟩ : ByteArray),.int .u64 0,.int .i64 0,.int .u64 0]) ?_ 2 _ rfl;(with_reducible repeat (first|refine kn_ ?_ _|refine kd_ ?_|refine ka_ ?_ _));refine blk_put (cs:=#[.bool t289,.bool false,.bool false,.int .i64 0,.int .u32 0,.string (⟨#[]⟩ : ByteArray),.string (⟨#[]⟩ : ByteArray),.string (⟨#[]⟩ : ByteArray),.int .u64 0,.int .i64 0,.int .u64 0]) ?_ 1 _ rfl;(with_reducible repeat (first|refine kn_ ?_ _|refine kd_ ?_|refine ka_ ?_ _));refine blk_put (cs:=#[.bool false,.bool false,.bool false,.int .i64 0,.int .u32 0,.string (⟨#[]⟩ : ByteArray),.string (⟨#[]⟩ : ByteArray),.string (⟨#[]⟩ : ByteArray),.int .u64 0,.int .i64 0,.int .u64 0]) ?_ 0 _ rfl;(with_reducible repeat (first|refine kn_ ?_ _|refine kd_ ?_|refine ka_ ?_ _));exact BK302.out) hb);have n4_:=am_ (below_step (by repeat (first|(with_reducible first|exact HB.out|apply ba_|apply pn_|apply pd_|refine bs_ ?_ GE266.out|refine bs_ ?_ GE270.out|refine bs_ ?_ GE288.out|refine bs_ ?_ GE302.out)|exact HB.out)) hb);clear BK266;clear BK270;clear BK288;clear BK302;clear HB;have BK266:=n0_;have BK270:=n1_;have BK288:=n2_;have BK302:=n3_;have HB:=n4_;clear n0_ n1_ n2_ n3_ n4_;(try clear hb);(try clear hb2);(try clear hk);(try clear hi))|((with_reducible refine gate_callee (f:=17) rfl ?_);refine goesL_ (some 63) rfl rfl Tryd.func17 (by kernel_rfl) rfl #[.string a1] rfl (by (try simp only [List.map_toArray,List.map_cons,List.map_nil]);first|done|rfl|(simp only [List.length_drop,List.length_take];rfl)) ?_;(with_reducible refine (dominoref04_Place.calls kj2 a1 t305 t306 _ A24.out).mono ?_);rintro e w54 ⟨rfl,hb⟩;refine ⟨_,rfl,?_⟩;have n0_:=am_ (blk_below (g:=gb266) (o:=.cells #[.bool a0_0,.bool a0_1,.bool a0_2,.int .i64 a0_3,.int .u32 a0_4,.string a0_5,.string a0_6,.string a0_7,.int .u64 a0_8,.int .i64 a0_9,.int .u64 a0_10] 25 (0,0)) (by (with_reducible repeat (first|refine kn_ ?_ _|refine kd_ ?_|refine ka_ ?_ _));exact BK266.out) hb);have n1_:=am_ (blk_below (g:=gb270) (o:=.cells #[.bool a0_0,.bool a0_1,.bool a0_2,.int .i64 a0_3,.int .u32 a0_4,.string a0_5,.string a0_6,.string a0_7,.int .u64 a0_8,.int .i64 a0_9,.int .u64 a0_10] 28 (0,0)) (by (with_reducible repeat (first|refine kn_ ?_ _|refine kd_ ?_|refine ka_ ?_ _));exact BK270.out) hb);have n2_:=am_ (blk_below (g:=gb288) (o:=.cells #[.bool t275,.bool t276,.bool t277,.int .i64 t278,.int .u32 t279,.string t280,.string t281,.string t282,.int .u64 t283,.int .i64 t284,.int .u64 t285] 25 (0,0)) (by (with_reducible repeat (first|refine kn_ ?_ _|refine kd_ ?_|refine ka_ ?_ _));exact BK288.out) hb);have n3_:=am_ (blk_below (g:=gb302) (o:=.cells #[.bool t289,.bool t290,.bool t291,.int .i64 t292,.int .u32 t293,.string t294,.string t295,.string t296,.int .u64 t297,.int .i64 t298,.int .u64 t299] 28 (0,0)) (by (with_reducible repeat (first|refine kn_ ?_ _|refine kd_ ?_|refine ka_ ?_ _));exact BK302.out) hb);have n4_:=am_ (below_step (by repeat (first|(with_reducible first|exact HB.out|apply ba_|apply pn_|apply pd_|refine bs_ ?_ GE266.out|refine bs_ ?_ GE270.out|refine bs_ ?_ GE288.out|refine bs_ ?_ GE302.out)|exact HB.out)) hb);clear BK266;clear BK270;clear BK288;clear BK302;clear HB;have BK266:=n0_;have BK270:=n1_;have BK288:=n2_;have BK302:=n3_;have HB:=n4_;clear n0_ n1_ n2_ n3_ n4_;(try clear hb);(try clear hb2);(try clear hk);(try clear hi)))
           have n0_:=am_ (kd_ BK266.out)
           have n1_:=am_ (kd_ BK270.out)
           have n2_:=am_ (kd_ BK288.out)
           have n3_:=am_ (kd_ BK302.out)
           have n4_:=am_ (pd_ HB.out)
           clear BK266
           clear BK270
           clear BK288
           clear BK302
           clear HB
           have BK266:=n0_
           have BK270:=n1_
           have BK288:=n2_
           have BK302:=n3_
           have HB:=n4_
           clear n0_ n1_ n2_ n3_ n4_
           refine start_ (n:=41) (S:=fun w' => w'.cell? ⟨gb266,0,none⟩ = some (.bool a0_0) ∧ w'.cell? ⟨gb266,1,none⟩ = some (.bool a0_1) ∧ w'.cell? ⟨gb266,2,none⟩ = some (.bool a0_2) ∧ w'.cell? ⟨gb266,3,none⟩ = some (.int .i64 a0_3) ∧ w'.cell? ⟨gb266,4,none⟩ = some (.int .u32 a0_4) ∧ w'.cell? ⟨gb266,5,none⟩ = some (.string a0_5) ∧ w'.cell? ⟨gb266,6,none⟩ = some (.string a0_6) ∧ w'.cell? ⟨gb266,7,none⟩ = some (.string a0_7) ∧ w'.cell? ⟨gb266,8,none⟩ = some (.int .u64 a0_8) ∧ w'.cell? ⟨gb266,9,none⟩ = some (.int .i64 a0_9) ∧ w'.cell? ⟨gb266,10,none⟩ = some (.int .u64 a0_10) ∧ w'.cell? ⟨gb270,0,none⟩ = some (.bool a0_0) ∧ w'.cell? ⟨gb270,1,none⟩ = some (.bool a0_1) ∧ w'.cell? ⟨gb270,2,none⟩ = some (.bool a0_2) ∧ w'.cell? ⟨gb270,3,none⟩ = some (.int .i64 a0_3) ∧ w'.cell? ⟨gb270,4,none⟩ = some (.int .u32 a0_4) ∧ w'.cell? ⟨gb270,5,none⟩ = some (.string a0_5) ∧ w'.cell? ⟨gb270,6,none⟩ = some (.string a0_6) ∧ w'.cell? ⟨gb270,7,none⟩ = some (.string a0_7) ∧ w'.cell? ⟨gb270,8,none⟩ = some (.int .u64 a0_8) ∧ w'.cell? ⟨gb270,9,none⟩ = some (.int .i64 a0_9) ∧ w'.cell? ⟨gb270,10,none⟩ = some (.int .u64 a0_10) ∧ w'.cell? ⟨gb288,0,none⟩ = some (.bool t275) ∧ w'.cell? ⟨gb288,1,none⟩ = some (.bool t276) ∧ w'.cell? ⟨gb288,2,none⟩ = some (.bool t277) ∧ w'.cell? ⟨gb288,3,none⟩ = some (.int .i64 t278) ∧ w'.cell? ⟨gb288,4,none⟩ = some (.int .u32 t279) ∧ w'.cell? ⟨gb288,5,none⟩ = some (.string t280) ∧ w'.cell? ⟨gb288,6,none⟩ = some (.string t281) ∧ w'.cell? ⟨gb288,7,none⟩ = some (.string t282) ∧ w'.cell? ⟨gb288,8,none⟩ = some (.int .u64 t283) ∧ w'.cell? ⟨gb288,9,none⟩ = some (.int .i64 t284) ∧ w'.cell? ⟨gb288,10,none⟩ = some (.int .u64 t285) ∧ w'.cell? ⟨gb302,0,none⟩ = some (.bool t289) ∧ w'.cell? ⟨gb302,1,none⟩ = some (.bool t290) ∧ w'.cell? ⟨gb302,2,none⟩ = some (.bool t291) ∧ w'.cell? ⟨gb302,3,none⟩ = some (.int .i64 t292) ∧ w'.cell? ⟨gb302,4,none⟩ = some (.int .u32 t293) ∧ w'.cell? ⟨gb302,5,none⟩ = some (.string t294) ∧ w'.cell? ⟨gb302,6,none⟩ = some (.string t295) ∧ w'.cell? ⟨gb302,7,none⟩ = some (.string t296) ∧ w'.cell? ⟨gb302,8,none⟩ = some (.int .u64 t297) ∧ w'.cell? ⟨gb302,9,none⟩ = some (.int .i64 t298) ∧ w'.cell? ⟨gb302,10,none⟩ = some (.int .u64 t299)) (ds:=[]) #[F_,F_,F_,F_,F_,F_,F_,F_,F_,F_,F_,F_,F_,F_,F_,F_,F_,F_,F_,F_,F_,F_,F_,F_,F_,F_,F_,F_,F_,F_,F_,F_,F_,F_,F_,F_,F_,F_,F_,F_,F_] (by kernel_rfl) rfl rfl ⟨(kc_ BK266.out 0).trans rfl,(kc_ BK266.out 1).trans rfl,(kc_ BK266.out 2).trans rfl,(kc_ BK266.out 3).trans rfl,(kc_ BK266.out 4).trans rfl,(kc_ BK266.out 5).trans rfl,(kc_ BK266.out 6).trans rfl,(kc_ BK266.out 7).trans rfl,(kc_ BK266.out 8).trans rfl,(kc_ BK266.out 9).trans rfl,(kc_ BK266.out 10).trans rfl,(kc_ BK270.out 0).trans rfl,(kc_ BK270.out 1).trans rfl,(kc_ BK270.out 2).trans rfl,(kc_ BK270.out 3).trans rfl,(kc_ BK270.out 4).trans rfl,(kc_ BK270.out 5).trans rfl,(kc_ BK270.out 6).trans rfl,(kc_ BK270.out 7).trans rfl,(kc_ BK270.out 8).trans rfl,(kc_ BK270.out 9).trans rfl,(kc_ BK270.out 10).trans rfl,(kc_ BK288.out 0).trans rfl,(kc_ BK288.out 1).trans rfl,(kc_ BK288.out 2).trans rfl,(kc_ BK288.out 3).trans rfl,(kc_ BK288.out 4).trans rfl,(kc_ BK288.out 5).trans rfl,(kc_ BK288.out 6).trans rfl,(kc_ BK288.out 7).trans rfl,(kc_ BK288.out 8).trans rfl,(kc_ BK288.out 9).trans rfl,(kc_ BK288.out 10).trans rfl,(kc_ BK302.out 0).trans rfl,(kc_ BK302.out 1).trans rfl,(kc_ BK302.out 2).trans rfl,(kc_ BK302.out 3).trans rfl,(kc_ BK302.out 4).trans rfl,(kc_ BK302.out 5).trans rfl,(kc_ BK302.out 6).trans rfl,(kc_ BK302.out 7).trans rfl,(kc_ BK302.out 8).trans rfl,(kc_ BK302.out 9).trans rfl,(kc_ BK302.out 10).trans rfl⟩ (fun hHeld => ?_);refine with_tabW dominolaw04_HeaderTells.tab10 dominolaw04_HeaderTells.bits10 (fun HT_ HW_ => ?_)
           generalize w54.drew = w55 at BK266 BK270 BK288 BK302 HB hHeld ⊢
           refine take_ (i:=0) (N:=some 66) (v:=?_) (a':=?_) #[T_,F_,F_,F_,F_,F_,F_,F_,F_,F_,F_,F_,F_,F_,F_,F_,F_,F_,F_,F_,F_,F_,F_,F_,F_,F_,F_,F_,F_,F_,F_,F_,F_,F_,F_,F_,F_,F_,F_,F_,F_] rfl rfl (take_ofW HT_.out HW_.out (by kernel_rfl)) (fun _ _ _ h => h) (Or.inl ⟨by rfl,?_⟩) hHeld ?_ ?_
           rotate_left
           ·rintro w' ⟨s0,s1,s2,s3,s4,s5,s6,s7,s8,s9,s10,s11,s12,s13,s14,s15,s16,s17,s18,s19,s20,s21,s22,s23,s24,s25,s26,s27,s28,s29,s30,s31,s32,s33,s34,s35,s36,s37,s38,s39,s40,s41,s42,s43⟩
            go_simp
            with_reducible rfl
           rotate_left
           ·simp only [Act.put,ps_,i64_w,i32_w]
            rfl
           refine take_ (i:=2) (N:=some 68) (v:=?_) (a':=?_) #[T_,F_,T_,F_,F_,F_,F_,F_,F_,F_,F_,F_,F_,F_,F_,F_,F_,F_,F_,F_,F_,F_,F_,F_,F_,F_,F_,F_,F_,F_,F_,F_,F_,F_,F_,F_,F_,F_,F_,F_,F_] rfl rfl (take_ofW HT_.out HW_.out (by kernel_rfl)) (fun _ _ _ h => h) (Or.inl ⟨by rfl,?_⟩) hHeld ?_ ?_
           rotate_left
           ·rintro w' ⟨s0,s1,s2,s3,s4,s5,s6,s7,s8,s9,s10,s11,s12,s13,s14,s15,s16,s17,s18,s19,s20,s21,s22,s23,s24,s25,s26,s27,s28,s29,s30,s31,s32,s33,s34,s35,s36,s37,s38,s39,s40,s41,s42,s43⟩
            go_simp
            with_reducible rfl
           rotate_left
           ·simp only [Act.put,ps_,i64_w,i32_w]
            rfl
           refine one_ (i:=1) (N:=some 67) #[T_,T_,T_,F_,F_,F_,F_,F_,F_,F_,F_,F_,F_,F_,F_,F_,F_,F_,F_,F_,F_,F_,F_,F_,F_,F_,F_,F_,F_,F_,F_,F_,F_,F_,F_,F_,F_,F_,F_,F_,F_] rfl rfl (one_of HT_.out (by kernel_rfl)) (by decide) (fun K hK => ?_)
           refine goes_ Tryd.func18 (by kernel_rfl) rfl #[.agg #[.bool a0_0,.bool a0_1,.bool a0_2,.int .i64 a0_3,.int .u32 a0_4,.string a0_5,.string a0_6,.string a0_7,.int .u64 a0_8,.int .i64 a0_9,.int .u64 a0_10]] (by rfl) rfl rfl (by (try simp only [List.map_toArray,List.map_cons,List.map_nil]);first|done|rfl|(simp only [List.length_drop,List.length_take];rfl)) ?_
           with_reducible refine (header_May.calls kj2 a0_0 a0_1 a0_2 a0_3 a0_4 a0_5 a0_6 a0_7 a0_8 a0_9 a0_10 t307 _ A25.out).mono ?_
           rintro e w56 ⟨rfl,hb⟩
           refine ⟨_,rfl,?_⟩
           have n0_:=am_ (blk_below (g:=gb266) (o:=.cells #[.bool a0_0,.bool a0_1,.bool a0_2,.int .i64 a0_3,.int .u32 a0_4,.string a0_5,.string a0_6,.string a0_7,.int .u64 a0_8,.int .i64 a0_9,.int .u64 a0_10] 25 (0,0)) (by (with_reducible repeat (first|refine kn_ ?_ _|refine kd_ ?_|refine ka_ ?_ _));exact BK266.out) hb)
           have n1_:=am_ (blk_below (g:=gb270) (o:=.cells #[.bool a0_0,.bool a0_1,.bool a0_2,.int .i64 a0_3,.int .u32 a0_4,.string a0_5,.string a0_6,.string a0_7,.int .u64 a0_8,.int .i64 a0_9,.int .u64 a0_10] 28 (0,0)) (by (with_reducible repeat (first|refine kn_ ?_ _|refine kd_ ?_|refine ka_ ?_ _));exact BK270.out) hb)
           have n2_:=am_ (blk_below (g:=gb288) (o:=.cells #[.bool t275,.bool t276,.bool t277,.int .i64 t278,.int .u32 t279,.string t280,.string t281,.string t282,.int .u64 t283,.int .i64 t284,.int .u64 t285] 25 (0,0)) (by (with_reducible repeat (first|refine kn_ ?_ _|refine kd_ ?_|refine ka_ ?_ _));exact BK288.out) hb)
           have n3_:=am_ (blk_below (g:=gb302) (o:=.cells #[.bool t289,.bool t290,.bool t291,.int .i64 t292,.int .u32 t293,.string t294,.string t295,.string t296,.int .u64 t297,.int .i64 t298,.int .u64 t299] 28 (0,0)) (by (with_reducible repeat (first|refine kn_ ?_ _|refine kd_ ?_|refine ka_ ?_ _));exact BK302.out) hb)
           have n4_:=am_ (below_step (by repeat (first|(with_reducible first|exact HB.out|apply ba_|apply pn_|apply pd_|refine bs_ ?_ GE266.out|refine bs_ ?_ GE270.out|refine bs_ ?_ GE288.out|refine bs_ ?_ GE302.out)|exact HB.out)) hb)
           clear BK266
           clear BK270
           clear BK288
           clear BK302
           clear HB
           have BK266:=n0_
           have BK270:=n1_
           have BK288:=n2_
           have BK302:=n3_
           have HB:=n4_
           clear n0_ n1_ n2_ n3_ n4_
           (try clear hb)
           (try clear hb2)
           (try clear hk)
           (try clear hi)
           refine hK.out _ _ ⟨(kc_ BK266.out 0).trans rfl,(kc_ BK266.out 1).trans rfl,(kc_ BK266.out 2).trans rfl,(kc_ BK266.out 3).trans rfl,(kc_ BK266.out 4).trans rfl,(kc_ BK266.out 5).trans rfl,(kc_ BK266.out 6).trans rfl,(kc_ BK266.out 7).trans rfl,(kc_ BK266.out 8).trans rfl,(kc_ BK266.out 9).trans rfl,(kc_ BK266.out 10).trans rfl,(kc_ BK270.out 0).trans rfl,(kc_ BK270.out 1).trans rfl,(kc_ BK270.out 2).trans rfl,(kc_ BK270.out 3).trans rfl,(kc_ BK270.out 4).trans rfl,(kc_ BK270.out 5).trans rfl,(kc_ BK270.out 6).trans rfl,(kc_ BK270.out 7).trans rfl,(kc_ BK270.out 8).trans rfl,(kc_ BK270.out 9).trans rfl,(kc_ BK270.out 10).trans rfl,(kc_ BK288.out 0).trans rfl,(kc_ BK288.out 1).trans rfl,(kc_ BK288.out 2).trans rfl,(kc_ BK288.out 3).trans rfl,(kc_ BK288.out 4).trans rfl,(kc_ BK288.out 5).trans rfl,(kc_ BK288.out 6).trans rfl,(kc_ BK288.out 7).trans rfl,(kc_ BK288.out 8).trans rfl,(kc_ BK288.out 9).trans rfl,(kc_ BK288.out 10).trans rfl,(kc_ BK302.out 0).trans rfl,(kc_ BK302.out 1).trans rfl,(kc_ BK302.out 2).trans rfl,(kc_ BK302.out 3).trans rfl,(kc_ BK302.out 4).trans rfl,(kc_ BK302.out 5).trans rfl,(kc_ BK302.out 6).trans rfl,(kc_ BK302.out 7).trans rfl,(kc_ BK302.out 8).trans rfl,(kc_ BK302.out 9).trans rfl,(kc_ BK302.out 10).trans rfl⟩ (fun hHeld => ?_)
           clear hK K
           refine norm_ (a':=?_) ?_ ?_
           rotate_left
           ·show Act.put _ (some 67) _ = _
            simp only [Act.put,ps_,i64_w,i32_w]
            rfl
           refine one_ (i:=3) (N:=some 69) #[T_,T_,T_,T_,F_,F_,F_,F_,F_,F_,F_,F_,F_,F_,F_,F_,F_,F_,F_,F_,F_,F_,F_,F_,F_,F_,F_,F_,F_,F_,F_,F_,F_,F_,F_,F_,F_,F_,F_,F_,F_] rfl rfl (one_of HT_.out (by kernel_rfl)) (by decide) (fun K hK => ?_)
           refine goes_ Tryd.func19 (by kernel_rfl) rfl #[.agg #[.bool a0_0,.bool a0_1,.bool a0_2,.int .i64 a0_3,.int .u32 a0_4,.string a0_5,.string a0_6,.string a0_7,.int .u64 a0_8,.int .i64 a0_9,.int .u64 a0_10]] (by rfl) rfl rfl (by (try simp only [List.map_toArray,List.map_cons,List.map_nil]);first|done|rfl|(simp only [List.length_drop,List.length_take];rfl)) ?_
           with_reducible refine (dominoref04_May.calls kj2 a0_0 a0_1 a0_2 a0_3 a0_4 a0_5 a0_6 a0_7 a0_8 a0_9 a0_10 t308 _ A26.out).mono ?_
           rintro e w57 ⟨rfl,hb⟩
           refine ⟨_,rfl,?_⟩
           have n0_:=am_ (blk_below (g:=gb266) (o:=.cells #[.bool a0_0,.bool a0_1,.bool a0_2,.int .i64 a0_3,.int .u32 a0_4,.string a0_5,.string a0_6,.string a0_7,.int .u64 a0_8,.int .i64 a0_9,.int .u64 a0_10] 25 (0,0)) (by (with_reducible repeat (first|refine kn_ ?_ _|refine kd_ ?_|refine ka_ ?_ _));exact BK266.out) hb)
           have n1_:=am_ (blk_below (g:=gb270) (o:=.cells #[.bool a0_0,.bool a0_1,.bool a0_2,.int .i64 a0_3,.int .u32 a0_4,.string a0_5,.string a0_6,.string a0_7,.int .u64 a0_8,.int .i64 a0_9,.int .u64 a0_10] 28 (0,0)) (by (with_reducible repeat (first|refine kn_ ?_ _|refine kd_ ?_|refine ka_ ?_ _));exact BK270.out) hb)
           have n2_:=am_ (blk_below (g:=gb288) (o:=.cells #[.bool t275,.bool t276,.bool t277,.int .i64 t278,.int .u32 t279,.string t280,.string t281,.string t282,.int .u64 t283,.int .i64 t284,.int .u64 t285] 25 (0,0)) (by (with_reducible repeat (first|refine kn_ ?_ _|refine kd_ ?_|refine ka_ ?_ _));exact BK288.out) hb)
           have n3_:=am_ (blk_below (g:=gb302) (o:=.cells #[.bool t289,.bool t290,.bool t291,.int .i64 t292,.int .u32 t293,.string t294,.string t295,.string t296,.int .u64 t297,.int .i64 t298,.int .u64 t299] 28 (0,0)) (by (with_reducible repeat (first|refine kn_ ?_ _|refine kd_ ?_|refine ka_ ?_ _));exact BK302.out) hb)
           have n4_:=am_ (below_step (by repeat (first|(with_reducible first|exact HB.out|apply ba_|apply pn_|apply pd_|refine bs_ ?_ GE266.out|refine bs_ ?_ GE270.out|refine bs_ ?_ GE288.out|refine bs_ ?_ GE302.out)|exact HB.out)) hb)
           clear BK266
           clear BK270
           clear BK288
           clear BK302
           clear HB
           have BK266:=n0_
           have BK270:=n1_
           have BK288:=n2_
           have BK302:=n3_
           have HB:=n4_
           clear n0_ n1_ n2_ n3_ n4_
           (try clear hb)
           (try clear hb2)
           (try clear hk)
           (try clear hi)
           refine hK.out _ _ ⟨(kc_ BK266.out 0).trans rfl,(kc_ BK266.out 1).trans rfl,(kc_ BK266.out 2).trans rfl,(kc_ BK266.out 3).trans rfl,(kc_ BK266.out 4).trans rfl,(kc_ BK266.out 5).trans rfl,(kc_ BK266.out 6).trans rfl,(kc_ BK266.out 7).trans rfl,(kc_ BK266.out 8).trans rfl,(kc_ BK266.out 9).trans rfl,(kc_ BK266.out 10).trans rfl,(kc_ BK270.out 0).trans rfl,(kc_ BK270.out 1).trans rfl,(kc_ BK270.out 2).trans rfl,(kc_ BK270.out 3).trans rfl,(kc_ BK270.out 4).trans rfl,(kc_ BK270.out 5).trans rfl,(kc_ BK270.out 6).trans rfl,(kc_ BK270.out 7).trans rfl,(kc_ BK270.out 8).trans rfl,(kc_ BK270.out 9).trans rfl,(kc_ BK270.out 10).trans rfl,(kc_ BK288.out 0).trans rfl,(kc_ BK288.out 1).trans rfl,(kc_ BK288.out 2).trans rfl,(kc_ BK288.out 3).trans rfl,(kc_ BK288.out 4).trans rfl,(kc_ BK288.out 5).trans rfl,(kc_ BK288.out 6).trans rfl,(kc_ BK288.out 7).trans rfl,(kc_ BK288.out 8).trans rfl,(kc_ BK288.out 9).trans rfl,(kc_ BK288.out 10).trans rfl,(kc_ BK302.out 0).trans rfl,(kc_ BK302.out 1).trans rfl,(kc_ BK302.out 2).trans rfl,(kc_ BK302.out 3).trans rfl,(kc_ BK302.out 4).trans rfl,(kc_ BK302.out 5).trans rfl,(kc_ BK302.out 6).trans rfl,(kc_ BK302.out 7).trans rfl,(kc_ BK302.out 8).trans rfl,(kc_ BK302.out 9).trans rfl,(kc_ BK302.out 10).trans rfl⟩ (fun hHeld => ?_)
           clear hK K
           refine norm_ (a':=?_) ?_ ?_
           rotate_left
           ·show Act.put _ (some 69) _ = _
            simp only [Act.put,ps_,i64_w,i32_w]
            rfl
           refine pure_ (i:=4) (N:=some 70) (v:=?_) (a':=?_) #[T_,T_,T_,T_,T_,F_,F_,F_,F_,F_,F_,F_,F_,F_,F_,F_,F_,F_,F_,F_,F_,F_,F_,F_,F_,F_,F_,F_,F_,F_,F_,F_,F_,F_,F_,F_,F_,F_,F_,F_,F_] rfl rfl (any_of HT_.out (by kernel_rfl)) (fun _ _ _ h => h) (Or.inl ⟨by rfl,?_⟩) ?_ ?_
           rotate_left;(intro w';go_simp;with_reducible rfl);rotate_left;(simp only [Act.put,ps_,i64_w,i32_w];rfl)
           refine pure_ (i:=5) (N:=some 71) (v:=?_) (a':=?_) #[T_,T_,T_,T_,T_,T_,F_,F_,F_,F_,F_,F_,F_,F_,F_,F_,F_,F_,F_,F_,F_,F_,F_,F_,F_,F_,F_,F_,F_,F_,F_,F_,F_,F_,F_,F_,F_,F_,F_,F_,F_] rfl rfl (any_of HT_.out (by kernel_rfl)) (fun _ _ _ h => h) (Or.inl ⟨by rfl,?_⟩) ?_ ?_
           rotate_left;(intro w';go_simp;with_reducible rfl);rotate_left;(simp only [Act.put,ps_,i64_w,i32_w];rfl)
           refine pure_ (i:=6) (N:=some 72) (v:=?_) (a':=?_) #[T_,T_,T_,T_,T_,T_,T_,F_,F_,F_,F_,F_,F_,F_,F_,F_,F_,F_,F_,F_,F_,F_,F_,F_,F_,F_,F_,F_,F_,F_,F_,F_,F_,F_,F_,F_,F_,F_,F_,F_,F_] rfl rfl (any_of HT_.out (by kernel_rfl)) (fun _ _ _ h => h) (Or.inl ⟨by rfl,?_⟩) ?_ ?_
           rotate_left;(intro w';go_simp;with_reducible rfl);rotate_left;(simp only [Act.put,ps_,i64_w,i32_w];rfl)
           refine pure_ (i:=7) (N:=some 73) (v:=?_) (a':=?_) #[T_,T_,T_,T_,T_,T_,T_,T_,F_,F_,F_,F_,F_,F_,F_,F_,F_,F_,F_,F_,F_,F_,F_,F_,F_,F_,F_,F_,F_,F_,F_,F_,F_,F_,F_,F_,F_,F_,F_,F_,F_] rfl rfl (any_of HT_.out (by kernel_rfl)) (fun _ _ _ h => h) (Or.inl ⟨by rfl,?_⟩) ?_ ?_
           rotate_left;(intro w';go_simp;with_reducible rfl);rotate_left;(simp only [Act.put,ps_,i64_w,i32_w];rfl)
           refine pure_ (i:=8) (N:=some 74) (v:=?_) (a':=?_) #[T_,T_,T_,T_,T_,T_,T_,T_,T_,F_,F_,F_,F_,F_,F_,F_,F_,F_,F_,F_,F_,F_,F_,F_,F_,F_,F_,F_,F_,F_,F_,F_,F_,F_,F_,F_,F_,F_,F_,F_,F_] rfl rfl (any_of HT_.out (by kernel_rfl)) (fun _ _ _ h => h) (Or.inl ⟨by rfl,?_⟩) ?_ ?_
           rotate_left;(intro w';go_simp;with_reducible rfl);rotate_left;(simp only [Act.put,ps_,i64_w,i32_w];rfl)
           refine pure_ (i:=9) (N:=some 75) (v:=?_) (a':=?_) #[T_,T_,T_,T_,T_,T_,T_,T_,T_,T_,F_,F_,F_,F_,F_,F_,F_,F_,F_,F_,F_,F_,F_,F_,F_,F_,F_,F_,F_,F_,F_,F_,F_,F_,F_,F_,F_,F_,F_,F_,F_] rfl rfl (any_of HT_.out (by kernel_rfl)) (fun _ _ _ h => h) (Or.inl ⟨by rfl,?_⟩) ?_ ?_
           rotate_left;(intro w';go_simp;with_reducible rfl);rotate_left;(simp only [Act.put,ps_,i64_w,i32_w];rfl)
           refine pure_ (i:=10) (N:=some 76) (v:=?_) (a':=?_) #[T_,T_,T_,T_,T_,T_,T_,T_,T_,T_,T_,F_,F_,F_,F_,F_,F_,F_,F_,F_,F_,F_,F_,F_,F_,F_,F_,F_,F_,F_,F_,F_,F_,F_,F_,F_,F_,F_,F_,F_,F_] rfl rfl (any_of HT_.out (by kernel_rfl)) (fun _ _ _ h => h) (Or.inl ⟨by rfl,?_⟩) ?_ ?_
           rotate_left;(intro w';go_simp;with_reducible rfl);rotate_left;(simp only [Act.put,ps_,i64_w,i32_w];rfl)
           refine pure_ (i:=11) (N:=some 77) (v:=?_) (a':=?_) #[T_,T_,T_,T_,T_,T_,T_,T_,T_,T_,T_,T_,F_,F_,F_,F_,F_,F_,F_,F_,F_,F_,F_,F_,F_,F_,F_,F_,F_,F_,F_,F_,F_,F_,F_,F_,F_,F_,F_,F_,F_] rfl rfl (any_of HT_.out (by kernel_rfl)) (fun _ _ _ h => h) (Or.inl ⟨by rfl,?_⟩) ?_ ?_
           rotate_left;(intro w';go_simp;with_reducible rfl);rotate_left;(simp only [Act.put,ps_,i64_w,i32_w];rfl)
           refine pure_ (i:=12) (N:=some 78) (v:=?_) (a':=?_) #[T_,T_,T_,T_,T_,T_,T_,T_,T_,T_,T_,T_,T_,F_,F_,F_,F_,F_,F_,F_,F_,F_,F_,F_,F_,F_,F_,F_,F_,F_,F_,F_,F_,F_,F_,F_,F_,F_,F_,F_,F_] rfl rfl (any_of HT_.out (by kernel_rfl)) (fun _ _ _ h => h) (Or.inl ⟨by rfl,?_⟩) ?_ ?_
           rotate_left;(intro w';go_simp;with_reducible rfl);rotate_left;(simp only [Act.put,ps_,i64_w,i32_w];rfl)
           refine pure_ (i:=13) (N:=some 79) (v:=?_) (a':=?_) #[T_,T_,T_,T_,T_,T_,T_,T_,T_,T_,T_,T_,T_,T_,F_,F_,F_,F_,F_,F_,F_,F_,F_,F_,F_,F_,F_,F_,F_,F_,F_,F_,F_,F_,F_,F_,F_,F_,F_,F_,F_] rfl rfl (any_of HT_.out (by kernel_rfl)) (fun _ _ _ h => h) (Or.inl ⟨by rfl,?_⟩) ?_ ?_
           rotate_left;(intro w';go_simp;with_reducible rfl);rotate_left;(simp only [Act.put,ps_,i64_w,i32_w];rfl)
           refine pure_ (i:=14) (N:=some 80) (v:=?_) (a':=?_) #[T_,T_,T_,T_,T_,T_,T_,T_,T_,T_,T_,T_,T_,T_,T_,F_,F_,F_,F_,F_,F_,F_,F_,F_,F_,F_,F_,F_,F_,F_,F_,F_,F_,F_,F_,F_,F_,F_,F_,F_,F_] rfl rfl (any_of HT_.out (by kernel_rfl)) (fun _ _ _ h => h) (Or.inl ⟨by rfl,?_⟩) ?_ ?_
           rotate_left;(intro w';go_simp;with_reducible rfl);rotate_left;(simp only [Act.put,ps_,i64_w,i32_w];rfl)
           refine pure_ (i:=15) (N:=some 81) (v:=?_) (a':=?_) #[T_,T_,T_,T_,T_,T_,T_,T_,T_,T_,T_,T_,T_,T_,T_,T_,F_,F_,F_,F_,F_,F_,F_,F_,F_,F_,F_,F_,F_,F_,F_,F_,F_,F_,F_,F_,F_,F_,F_,F_,F_] rfl rfl (any_of HT_.out (by kernel_rfl)) (fun _ _ _ h => h) (Or.inl ⟨by rfl,?_⟩) ?_ ?_
           rotate_left;(intro w';go_simp;with_reducible rfl);rotate_left;(simp only [Act.put,ps_,i64_w,i32_w];rfl)
           refine take_ (i:=16) (N:=some 82) (v:=?_) (a':=?_) #[T_,T_,T_,T_,T_,T_,T_,T_,T_,T_,T_,T_,T_,T_,T_,T_,T_,F_,F_,F_,F_,F_,F_,F_,F_,F_,F_,F_,F_,F_,F_,F_,F_,F_,F_,F_,F_,F_,F_,F_,F_] rfl rfl (take_ofW HT_.out HW_.out (by kernel_rfl)) (fun _ _ _ h => h) (Or.inl ⟨by rfl,?_⟩) hHeld ?_ ?_
           rotate_left
           ·rintro w' ⟨s0,s1,s2,s3,s4,s5,s6,s7,s8,s9,s10,s11,s12,s13,s14,s15,s16,s17,s18,s19,s20,s21,s22,s23,s24,s25,s26,s27,s28,s29,s30,s31,s32,s33,s34,s35,s36,s37,s38,s39,s40,s41,s42,s43⟩
            go_simp
            with_reducible rfl
           rotate_left
           ·simp only [Act.put,ps_,i64_w,i32_w]
            rfl
           refine take_ (i:=17) (N:=some 83) (v:=?_) (a':=?_) #[T_,T_,T_,T_,T_,T_,T_,T_,T_,T_,T_,T_,T_,T_,T_,T_,T_,T_,F_,F_,F_,F_,F_,F_,F_,F_,F_,F_,F_,F_,F_,F_,F_,F_,F_,F_,F_,F_,F_,F_,F_] rfl rfl (take_ofW HT_.out HW_.out (by kernel_rfl)) (fun _ _ _ h => h) (Or.inl ⟨by rfl,?_⟩) hHeld ?_ ?_
           rotate_left
           ·rintro w' ⟨s0,s1,s2,s3,s4,s5,s6,s7,s8,s9,s10,s11,s12,s13,s14,s15,s16,s17,s18,s19,s20,s21,s22,s23,s24,s25,s26,s27,s28,s29,s30,s31,s32,s33,s34,s35,s36,s37,s38,s39,s40,s41,s42,s43⟩
            go_simp
            with_reducible rfl
           rotate_left
           ·simp only [Act.put,ps_,i64_w,i32_w]
            rfl
           refine pure_ (i:=18) (N:=some 84) (v:=?_) (a':=?_) #[T_,T_,T_,T_,T_,T_,T_,T_,T_,T_,T_,T_,T_,T_,T_,T_,T_,T_,T_,F_,F_,F_,F_,F_,F_,F_,F_,F_,F_,F_,F_,F_,F_,F_,F_,F_,F_,F_,F_,F_,F_] rfl rfl (any_of HT_.out (by kernel_rfl)) (fun _ _ _ h => h) (Or.inl ⟨by rfl,?_⟩) ?_ ?_
           rotate_left;(intro w';go_simp;with_reducible rfl);rotate_left;(simp only [Act.put,ps_,i64_w,i32_w];rfl)
           refine pure_ (i:=19) (N:=some 85) (v:=?_) (a':=?_) #[T_,T_,T_,T_,T_,T_,T_,T_,T_,T_,T_,T_,T_,T_,T_,T_,T_,T_,T_,T_,F_,F_,F_,F_,F_,F_,F_,F_,F_,F_,F_,F_,F_,F_,F_,F_,F_,F_,F_,F_,F_] rfl rfl (any_of HT_.out (by kernel_rfl)) (fun _ _ _ h => h) (Or.inl ⟨by rfl,?_⟩) ?_ ?_
           rotate_left;(intro w';go_simp;with_reducible rfl);rotate_left;(simp only [Act.put,ps_,i64_w,i32_w];rfl)
           refine pure_ (i:=20) (N:=some 86) (v:=?_) (a':=?_) #[T_,T_,T_,T_,T_,T_,T_,T_,T_,T_,T_,T_,T_,T_,T_,T_,T_,T_,T_,T_,T_,F_,F_,F_,F_,F_,F_,F_,F_,F_,F_,F_,F_,F_,F_,F_,F_,F_,F_,F_,F_] rfl rfl (any_of HT_.out (by kernel_rfl)) (fun _ _ _ h => h) (Or.inl ⟨by rfl,?_⟩) ?_ ?_
           rotate_left;(intro w';go_simp;with_reducible rfl);rotate_left;(simp only [Act.put,ps_,i64_w,i32_w];rfl)
           refine pure_ (i:=21) (N:=some 87) (v:=?_) (a':=?_) #[T_,T_,T_,T_,T_,T_,T_,T_,T_,T_,T_,T_,T_,T_,T_,T_,T_,T_,T_,T_,T_,T_,F_,F_,F_,F_,F_,F_,F_,F_,F_,F_,F_,F_,F_,F_,F_,F_,F_,F_,F_] rfl rfl (any_of HT_.out (by kernel_rfl)) (fun _ _ _ h => h) (Or.inl ⟨by rfl,?_⟩) ?_ ?_
           rotate_left;(intro w';go_simp;with_reducible rfl);rotate_left;(simp only [Act.put,ps_,i64_w,i32_w];rfl)
           refine pure_ (i:=22) (N:=some 88) (v:=?_) (a':=?_) #[T_,T_,T_,T_,T_,T_,T_,T_,T_,T_,T_,T_,T_,T_,T_,T_,T_,T_,T_,T_,T_,T_,T_,F_,F_,F_,F_,F_,F_,F_,F_,F_,F_,F_,F_,F_,F_,F_,F_,F_,F_] rfl rfl (any_of HT_.out (by kernel_rfl)) (fun _ _ _ h => h) (Or.inl ⟨by rfl,?_⟩) ?_ ?_
           rotate_left;(intro w';go_simp;with_reducible rfl);rotate_left;(simp only [Act.put,ps_,i64_w,i32_w];rfl)
           refine pure_ (i:=23) (N:=some 89) (v:=?_) (a':=?_) #[T_,T_,T_,T_,T_,T_,T_,T_,T_,T_,T_,T_,T_,T_,T_,T_,T_,T_,T_,T_,T_,T_,T_,T_,F_,F_,F_,F_,F_,F_,F_,F_,F_,F_,F_,F_,F_,F_,F_,F_,F_] rfl rfl (any_of HT_.out (by kernel_rfl)) (fun _ _ _ h => h) (Or.inl ⟨by rfl,?_⟩) ?_ ?_
           rotate_left;(intro w';go_simp;with_reducible rfl);rotate_left;(simp only [Act.put,ps_,i64_w,i32_w];rfl)
           refine pure_ (i:=24) (N:=some 90) (v:=?_) (a':=?_) #[T_,T_,T_,T_,T_,T_,T_,T_,T_,T_,T_,T_,T_,T_,T_,T_,T_,T_,T_,T_,T_,T_,T_,T_,T_,F_,F_,F_,F_,F_,F_,F_,F_,F_,F_,F_,F_,F_,F_,F_,F_] rfl rfl (any_of HT_.out (by kernel_rfl)) (fun _ _ _ h => h) (Or.inl ⟨by rfl,?_⟩) ?_ ?_
           rotate_left;(intro w';go_simp;with_reducible rfl);rotate_left;(simp only [Act.put,ps_,i64_w,i32_w];rfl)
           refine pure_ (i:=25) (N:=some 91) (v:=?_) (a':=?_) #[T_,T_,T_,T_,T_,T_,T_,T_,T_,T_,T_,T_,T_,T_,T_,T_,T_,T_,T_,T_,T_,T_,T_,T_,T_,T_,F_,F_,F_,F_,F_,F_,F_,F_,F_,F_,F_,F_,F_,F_,F_] rfl rfl (any_of HT_.out (by kernel_rfl)) (fun _ _ _ h => h) (Or.inl ⟨by rfl,?_⟩) ?_ ?_
           rotate_left;(intro w';go_simp;with_reducible rfl);rotate_left;(simp only [Act.put,ps_,i64_w,i32_w];rfl)
           refine pure_ (i:=26) (N:=some 92) (v:=?_) (a':=?_) #[T_,T_,T_,T_,T_,T_,T_,T_,T_,T_,T_,T_,T_,T_,T_,T_,T_,T_,T_,T_,T_,T_,T_,T_,T_,T_,T_,F_,F_,F_,F_,F_,F_,F_,F_,F_,F_,F_,F_,F_,F_] rfl rfl (any_of HT_.out (by kernel_rfl)) (fun _ _ _ h => h) (Or.inl ⟨by rfl,?_⟩) ?_ ?_
           rotate_left;(intro w';go_simp;with_reducible rfl);rotate_left;(simp only [Act.put,ps_,i64_w,i32_w];rfl)
           refine pure_ (i:=27) (N:=some 93) (v:=?_) (a':=?_) #[T_,T_,T_,T_,T_,T_,T_,T_,T_,T_,T_,T_,T_,T_,T_,T_,T_,T_,T_,T_,T_,T_,T_,T_,T_,T_,T_,T_,F_,F_,F_,F_,F_,F_,F_,F_,F_,F_,F_,F_,F_] rfl rfl (any_of HT_.out (by kernel_rfl)) (fun _ _ _ h => h) (Or.inl ⟨by rfl,?_⟩) ?_ ?_
           rotate_left;(intro w';go_simp;with_reducible rfl);rotate_left;(simp only [Act.put,ps_,i64_w,i32_w];rfl)
           refine pure_ (i:=28) (N:=some 94) (v:=?_) (a':=?_) #[T_,T_,T_,T_,T_,T_,T_,T_,T_,T_,T_,T_,T_,T_,T_,T_,T_,T_,T_,T_,T_,T_,T_,T_,T_,T_,T_,T_,T_,F_,F_,F_,F_,F_,F_,F_,F_,F_,F_,F_,F_] rfl rfl (any_of HT_.out (by kernel_rfl)) (fun _ _ _ h => h) (Or.inl ⟨by rfl,?_⟩) ?_ ?_
           rotate_left;(intro w';go_simp;with_reducible rfl);rotate_left;(simp only [Act.put,ps_,i64_w,i32_w];rfl)
           refine pure_ (i:=29) (N:=some 95) (v:=?_) (a':=?_) #[T_,T_,T_,T_,T_,T_,T_,T_,T_,T_,T_,T_,T_,T_,T_,T_,T_,T_,T_,T_,T_,T_,T_,T_,T_,T_,T_,T_,T_,T_,F_,F_,F_,F_,F_,F_,F_,F_,F_,F_,F_] rfl rfl (any_of HT_.out (by kernel_rfl)) (fun _ _ _ h => h) (Or.inl ⟨by rfl,?_⟩) ?_ ?_
           rotate_left;(intro w';go_simp;with_reducible rfl);rotate_left;(simp only [Act.put,ps_,i64_w,i32_w];rfl)
           refine pure_ (i:=30) (N:=some 96) (v:=?_) (a':=?_) #[T_,T_,T_,T_,T_,T_,T_,T_,T_,T_,T_,T_,T_,T_,T_,T_,T_,T_,T_,T_,T_,T_,T_,T_,T_,T_,T_,T_,T_,T_,T_,F_,F_,F_,F_,F_,F_,F_,F_,F_,F_] rfl rfl (any_of HT_.out (by kernel_rfl)) (fun _ _ _ h => h) (Or.inl ⟨by rfl,?_⟩) ?_ ?_
           rotate_left;(intro w';go_simp;with_reducible rfl);rotate_left;(simp only [Act.put,ps_,i64_w,i32_w];rfl)
           refine pure_ (i:=31) (N:=some 97) (v:=?_) (a':=?_) #[T_,T_,T_,T_,T_,T_,T_,T_,T_,T_,T_,T_,T_,T_,T_,T_,T_,T_,T_,T_,T_,T_,T_,T_,T_,T_,T_,T_,T_,T_,T_,T_,F_,F_,F_,F_,F_,F_,F_,F_,F_] rfl rfl (any_of HT_.out (by kernel_rfl)) (fun _ _ _ h => h) (Or.inl ⟨by rfl,?_⟩) ?_ ?_
           rotate_left;(intro w';go_simp;with_reducible rfl);rotate_left;(simp only [Act.put,ps_,i64_w,i32_w];rfl)
           refine pure_ (i:=32) (N:=some 98) (v:=?_) (a':=?_) #[T_,T_,T_,T_,T_,T_,T_,T_,T_,T_,T_,T_,T_,T_,T_,T_,T_,T_,T_,T_,T_,T_,T_,T_,T_,T_,T_,T_,T_,T_,T_,T_,T_,F_,F_,F_,F_,F_,F_,F_,F_] rfl rfl (any_of HT_.out (by kernel_rfl)) (fun _ _ _ h => h) (Or.inl ⟨by rfl,?_⟩) ?_ ?_
           rotate_left;(intro w';go_simp;with_reducible rfl);rotate_left;(simp only [Act.put,ps_,i64_w,i32_w];rfl)
           refine pure_ (i:=33) (N:=some 99) (v:=?_) (a':=?_) #[T_,T_,T_,T_,T_,T_,T_,T_,T_,T_,T_,T_,T_,T_,T_,T_,T_,T_,T_,T_,T_,T_,T_,T_,T_,T_,T_,T_,T_,T_,T_,T_,T_,T_,F_,F_,F_,F_,F_,F_,F_] rfl rfl (any_of HT_.out (by kernel_rfl)) (fun _ _ _ h => h) (Or.inl ⟨by rfl,?_⟩) ?_ ?_
           rotate_left;(intro w';go_simp;with_reducible rfl);rotate_left;(simp only [Act.put,ps_,i64_w,i32_w];rfl)
           refine pure_ (i:=34) (N:=some 100) (v:=?_) (a':=?_) #[T_,T_,T_,T_,T_,T_,T_,T_,T_,T_,T_,T_,T_,T_,T_,T_,T_,T_,T_,T_,T_,T_,T_,T_,T_,T_,T_,T_,T_,T_,T_,T_,T_,T_,T_,F_,F_,F_,F_,F_,F_] rfl rfl (any_of HT_.out (by kernel_rfl)) (fun _ _ _ h => h) (Or.inl ⟨by rfl,?_⟩) ?_ ?_
           rotate_left;(intro w';go_simp;with_reducible rfl);rotate_left;(simp only [Act.put,ps_,i64_w,i32_w];rfl)
           refine pure_ (i:=35) (N:=some 101) (v:=?_) (a':=?_) #[T_,T_,T_,T_,T_,T_,T_,T_,T_,T_,T_,T_,T_,T_,T_,T_,T_,T_,T_,T_,T_,T_,T_,T_,T_,T_,T_,T_,T_,T_,T_,T_,T_,T_,T_,T_,F_,F_,F_,F_,F_] rfl rfl (any_of HT_.out (by kernel_rfl)) (fun _ _ _ h => h) (Or.inl ⟨by rfl,?_⟩) ?_ ?_
           rotate_left;(intro w';go_simp;with_reducible rfl);rotate_left;(simp only [Act.put,ps_,i64_w,i32_w];rfl)
           refine pure_ (i:=36) (N:=some 102) (v:=?_) (a':=?_) #[T_,T_,T_,T_,T_,T_,T_,T_,T_,T_,T_,T_,T_,T_,T_,T_,T_,T_,T_,T_,T_,T_,T_,T_,T_,T_,T_,T_,T_,T_,T_,T_,T_,T_,T_,T_,T_,F_,F_,F_,F_] rfl rfl (any_of HT_.out (by kernel_rfl)) (fun _ _ _ h => h) (Or.inl ⟨by rfl,?_⟩) ?_ ?_
           rotate_left;(intro w';go_simp;with_reducible rfl);rotate_left;(simp only [Act.put,ps_,i64_w,i32_w];rfl)
           refine pure_ (i:=37) (N:=some 103) (v:=?_) (a':=?_) #[T_,T_,T_,T_,T_,T_,T_,T_,T_,T_,T_,T_,T_,T_,T_,T_,T_,T_,T_,T_,T_,T_,T_,T_,T_,T_,T_,T_,T_,T_,T_,T_,T_,T_,T_,T_,T_,T_,F_,F_,F_] rfl rfl (any_of HT_.out (by kernel_rfl)) (fun _ _ _ h => h) (Or.inl ⟨by rfl,?_⟩) ?_ ?_
           rotate_left;(intro w';go_simp;with_reducible rfl);rotate_left;(simp only [Act.put,ps_,i64_w,i32_w];rfl)
           refine pure_ (i:=38) (N:=some 104) (v:=?_) (a':=?_) #[T_,T_,T_,T_,T_,T_,T_,T_,T_,T_,T_,T_,T_,T_,T_,T_,T_,T_,T_,T_,T_,T_,T_,T_,T_,T_,T_,T_,T_,T_,T_,T_,T_,T_,T_,T_,T_,T_,T_,F_,F_] rfl rfl (any_of HT_.out (by kernel_rfl)) (fun _ _ _ h => h) (Or.inl ⟨by rfl,?_⟩) ?_ ?_
           rotate_left;(intro w';go_simp;with_reducible rfl);rotate_left;(simp only [Act.put,ps_,i64_w,i32_w];rfl)
           refine pure_ (i:=39) (N:=some 105) (v:=?_) (a':=?_) #[T_,T_,T_,T_,T_,T_,T_,T_,T_,T_,T_,T_,T_,T_,T_,T_,T_,T_,T_,T_,T_,T_,T_,T_,T_,T_,T_,T_,T_,T_,T_,T_,T_,T_,T_,T_,T_,T_,T_,T_,F_] rfl rfl (any_of HT_.out (by kernel_rfl)) (fun _ _ _ h => h) (Or.inl ⟨by rfl,?_⟩) ?_ ?_
           rotate_left;(intro w';go_simp;with_reducible rfl);rotate_left;(simp only [Act.put,ps_,i64_w,i32_w];rfl)
           refine pure_ (i:=40) (N:=some 4) (v:=?_) (a':=?_) #[T_,T_,T_,T_,T_,T_,T_,T_,T_,T_,T_,T_,T_,T_,T_,T_,T_,T_,T_,T_,T_,T_,T_,T_,T_,T_,T_,T_,T_,T_,T_,T_,T_,T_,T_,T_,T_,T_,T_,T_,T_] rfl rfl (any_of HT_.out (by kernel_rfl)) (fun _ _ _ h => h) (Or.inl ⟨by rfl,?_⟩) ?_ ?_
           rotate_left;(intro w';go_simp;with_reducible rfl);rotate_left;(simp only [Act.put,ps_,i64_w,i32_w];rfl)
           refine done_ (done_of HT_.out (by kernel_rfl)) ?_
           try go_wp2
           go_ret
           exact ⟨by first|rfl|(have hq_:=of_eq_true c30q;simp [errW_none,errW_some,hq_,bne];done)|(have hq_:=of_eq_true c30q;simp [errW_none,errW_some,hq_,bne];rfl)|(simp [errW_none,errW_some] <;> rfl)|(simp [*,errW_none,errW_some] <;> rfl),by repeat (first|(with_reducible first|exact HB.out|apply ba_|apply pn_|apply pd_|refine bs_ ?_ GE266.out|refine bs_ ?_ GE270.out|refine bs_ ?_ GE288.out|refine bs_ ?_ GE302.out)|exact HB.out)⟩
          ·rw [if_neg c33] at H
           have c33b0 : (t303 == t305) = false:=beq_eq_false_iff_ne.mpr c33
           have c33b1 : (t303 != t305) = true:=bne_iff_ne.mpr c33
           exact absurd H (by simp)
         ·rw [if_neg c32] at H
          have c32b0 : (t287 == t301) = false:=beq_eq_false_iff_ne.mpr c32
          have c32b1 : (t287 != t301) = true:=bne_iff_ne.mpr c32
          exact absurd H (by simp)
        ·rw [if_neg c31] at H
         have c31b0 : (t286.toList == t300.toList) = false:=beq_eq_false_iff_ne.mpr c31
         have c31b1 : (t286.toList != t300.toList) = true:=bne_iff_ne.mpr c31
         exact absurd H (by simp)
       ·rw [if_neg c30] at H
        have c30b0 : (t275 == t289 && (t276 == t290 && (t277 == t291 && (t278 == t292 && (t279 == t293 && (t280.toList == t294.toList && (t281.toList == t295.toList && (t282.toList == t296.toList && (t283 == t297 && (t284 == t298 && (t285 == t299))))))))))) = false:=by simpa using c30
        have c30q:=c30
        simp only [Bool.not_false,Bool.not_true,Bool.true_and,Bool.and_eq_true,Bool.or_eq_false_iff,Bool.not_eq_eq_eq_not,beq_iff_eq] at c30q
        replace c30q:=eq_false c30q
        (try (have c30b1 : decide (t275 = t289 && (t276 == t290 && (t277 == t291 && (t278 == t292 && (t279 == t293 && (t280.toList == t294.toList && (t281.toList == t295.toList && (t282.toList == t296.toList && (t283 == t297 && (t284 == t298 && (t285 == t299))))))))))) = false:=by simpa using c30))
        (try (have c30b2 : (t275 == t289 && (t276 == t290 && (t277 == t291 && (t278 == t292 && (t279 == t293 && (t280.toList == t294.toList && (t281.toList == t295.toList && (t282.toList == t296.toList && (t283 == t297 && (t284 == t298 && (t285 == t299))))))))))) = false:=by simpa using c30))
        (try (have c30b3 : ¬ (t275 = t289 && (t276 == t290 && (t277 == t291 && (t278 == t292 && (t279 == t293 && (t280.toList == t294.toList && (t281.toList == t295.toList && (t282.toList == t296.toList && (t283 == t297 && (t284 == t298 && (t285 == t299))))))))))):=by simpa using c30))
        clear c30
        exact absurd H (by simp)
      ·rw [if_neg c29] at H
       have c29b0 : (t272 == t274) = false:=beq_eq_false_iff_ne.mpr c29
       have c29b1 : (t272 != t274) = true:=bne_iff_ne.mpr c29
       exact absurd H (by simp)
     ·rw [if_neg c28] at H
      have c28b0 : (t271.toList == t273.toList) = false:=beq_eq_false_iff_ne.mpr c28
      have c28b1 : (t271.toList != t273.toList) = true:=bne_iff_ne.mpr c28
      exact absurd H (by simp)
    ·rw [if_neg c27] at H
     have c27b0 : (t307 == t308) = false:=by simpa using c27
     (try (have c27b1 : decide (t307 = t308) = false:=by simpa using c27))
     (try (have c27b2 : (t307 == t308) = false:=by simpa using c27))
     (try (have c27b3 : ¬ (t307 = t308):=by simpa using c27))
     clear c27
     exact absurd H (by simp)

/-- THE ONE PURE STATEMENT of dominolaw04_HeaderTells: yours. -/
def dominolaw04_HeaderTells.Pure : Prop:=∀ (a0_0 : Bool) (a0_1 : Bool) (a0_2 : Bool) (a0_3 : Int) (a0_4 : Int) (a0_5 : ByteArray) (a0_6 : ByteArray) (a0_7 : ByteArray) (a0_8 : Int) (a0_9 : Int) (a0_10 : Int) (a1 : ByteArray),(Lit.int .i64 a0_3).wf = true → (Lit.int .u32 a0_4).wf = true → a0_5.size ≤ maxLen → a0_6.size ≤ maxLen → a0_7.size ≤ maxLen → (Lit.int .u64 a0_8).wf = true → (Lit.int .i64 a0_9).wf = true → (Lit.int .u64 a0_10).wf = true → a1.size ≤ 140737488351232 → ∃ k,dominolaw04_HeaderTells.f k a0_0 a0_1 a0_2 a0_3 a0_4 a0_5 a0_6 a0_7 a0_8 a0_9 a0_10 a1 = some true
theorem dominolaw04_HeaderTells.walk (P : dominolaw04_HeaderTells.Pure) (a0_0 : Bool) (a0_1 : Bool) (a0_2 : Bool) (a0_3 : Int) (a0_4 : Int) (a0_5 : ByteArray) (a0_6 : ByteArray) (a0_7 : ByteArray) (a0_8 : Int) (a0_9 : Int) (a0_10 : Int) (a1 : ByteArray) (w : World) (w0_3 : (Lit.int .i64 a0_3).wf = true) (w0_4 : (Lit.int .u32 a0_4).wf = true) (w0_5 : a0_5.size ≤ maxLen) (w0_6 : a0_6.size ≤ maxLen) (w0_7 : a0_7.size ≤ maxLen) (w0_8 : (Lit.int .u64 a0_8).wf = true) (w0_9 : (Lit.int .i64 a0_9).wf = true) (w0_10 : (Lit.int .u64 a0_10).wf = true) (w1 : a1.size ≤ 140737488351232) (ht : Tab w) :
  Calls Tryd.prog 3 #[.agg #[.bool a0_0,.bool a0_1,.bool a0_2,.int .i64 a0_3,.int .u32 a0_4,.string a0_5,.string a0_6,.string a0_7,.int .u64 a0_8,.int .i64 a0_9,.int .u64 a0_10],.string a1] w fun e w' => e = .returned (.bool true) ∧ Below w.heap.size w w':=by
 obtain ⟨k,h⟩:=P a0_0 a0_1 a0_2 a0_3 a0_4 a0_5 a0_6 a0_7 a0_8 a0_9 a0_10 a1 w0_3 w0_4 w0_5 w0_6 w0_7 w0_8 w0_9 w0_10 w1
 refine (dominolaw04_HeaderTells.calls k a0_0 a0_1 a0_2 a0_3 a0_4 a0_5 a0_6 a0_7 a0_8 a0_9 a0_10 a1 true w ht h).mono ?_
 rintro e w' ⟨rfl,hd⟩
 exact ⟨rfl,hd⟩

end Go.Proofs.YtjpafikgbnloaaaDoor.PHdt
