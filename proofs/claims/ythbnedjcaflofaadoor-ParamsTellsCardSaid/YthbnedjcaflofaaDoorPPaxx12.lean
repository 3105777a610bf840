-- printed for this claim by a program of the claim (wip/tools/pp.py over the kit's print)
import Derived.Test.YthbnedjcaflofaaDoorPPaxx0
import Derived.Test.YthbnedjcaflofaaDoorPPaxx1
import Derived.Test.YthbnedjcaflofaaDoorPPaxx2
import Derived.Test.YthbnedjcaflofaaDoorPPaxx3
import Derived.Test.YthbnedjcaflofaaDoorPPaxx4
import Derived.Test.YthbnedjcaflofaaDoorPPaxx6
import Derived.Test.YthbnedjcaflofaaDoorPPaxx7
import Derived.Test.YthbnedjcaflofaaDoorPPaxx9
import Derived.Test.YthbnedjcaflofaaDoorPPaxx11
namespace Go.Proofs.YthbnedjcaflofaaDoor.PPax
open Go.RowKit Go.Proofs.YthbnedjcaflofaaDoorW.PrintWords Go.Proofs.YthbnedjcaflofaaDoorW.PrintLast Go.Proofs.YthbnedjcaflofaaDoorW.PrintMore
attribute [local go_sem] max2_int min2_int max_two min_two max_three min_three max_four min_four   -- for this text's walks alone
set_option linter.unusedVariables false
set_option linter.unusedSimpArgs false

attribute [local go_sem] isSome_setCell_
attribute [local go_sem high] eqA24
/-! ### dominolaw05_ParamsTells: function 3 -/
def dominolaw05_ParamsTells.j0 : Nat → ByteArray → Bool → Int → Int → Int → Int → Int → Int → Int → Int → Int → Int → Int → ByteArray → Option (Bool)
 | 0,_,_,_,_,_,_,_,_,_,_,_,_,_,_ => none
 | k + 1,x1,x26,x254000,x254001,x254002,x254003,x254004,x254005,x254006,x254007,x254008,x254009,x254010,x254011 => if x26 = true then ((dominolaw05_shown.f k).bind fun t255 => (some t255)) else ((params_Put.f x254000 x254001 x254002 x254003 x254004 x254005 x254006 x254007 x254008 x254009 x254010 x254011).bind fun bt257 => ((dominoref05_Put.f k x254000 x254001 x254002 x254003 x254004 x254005 x254006 x254007 x254008 x254009 x254010 x254011).bind fun bt259 => ((params_Get.f k x1).bind fun bt261 => ((dominoref05_Get.f k x1).bind fun bt275 => ((params_Check.f x254000 x254001 x254002 x254003 x254004 x254005 x254006 x254007 x254008 x254009 x254010 x254011).bind fun t289 => ((dominoref05_Check.f k x254000 x254001 x254002 x254003 x254004 x254005 x254006 x254007 x254008 x254009 x254010 x254011).bind fun t290 => (if t289 = t290 then (if bt257.1.toList = bt259.1.toList then (if bt257.2 = bt259.2 then (if (bt261.1 == bt275.1 && (bt261.2.1 == bt275.2.1 && (bt261.2.2.1 == bt275.2.2.1 && (bt261.2.2.2.1 == bt275.2.2.2.1 && (bt261.2.2.2.2.1 == bt275.2.2.2.2.1 && (bt261.2.2.2.2.2.1 == bt275.2.2.2.2.2.1 && (bt261.2.2.2.2.2.2.1 == bt275.2.2.2.2.2.2.1 && (bt261.2.2.2.2.2.2.2.1 == bt275.2.2.2.2.2.2.2.1 && (bt261.2.2.2.2.2.2.2.2.1 == bt275.2.2.2.2.2.2.2.2.1 && (bt261.2.2.2.2.2.2.2.2.2.1 == bt275.2.2.2.2.2.2.2.2.2.1 && (bt261.2.2.2.2.2.2.2.2.2.2.1 == bt275.2.2.2.2.2.2.2.2.2.2.1 && (bt261.2.2.2.2.2.2.2.2.2.2.2.1.toList == bt275.2.2.2.2.2.2.2.2.2.2.2.1.toList)))))))))))) = true then (if bt261.2.2.2.2.2.2.2.2.2.2.2.2 = bt275.2.2.2.2.2.2.2.2.2.2.2.2 then ((params_Default.f).bind fun bt291 => ((dominoref05_Default.f).bind fun bt303 => (some (bt291.1 == bt303.1 && (bt291.2.1 == bt303.2.1 && (bt291.2.2.1 == bt303.2.2.1 && (bt291.2.2.2.1 == bt303.2.2.2.1 && (bt291.2.2.2.2.1 == bt303.2.2.2.2.1 && (bt291.2.2.2.2.2.1 == bt303.2.2.2.2.2.1 && (bt291.2.2.2.2.2.2.1 == bt303.2.2.2.2.2.2.1 && (bt291.2.2.2.2.2.2.2.1 == bt303.2.2.2.2.2.2.2.1 && (bt291.2.2.2.2.2.2.2.2.1 == bt303.2.2.2.2.2.2.2.2.1 && (bt291.2.2.2.2.2.2.2.2.2.1 == bt303.2.2.2.2.2.2.2.2.2.1 && (bt291.2.2.2.2.2.2.2.2.2.2.1 == bt303.2.2.2.2.2.2.2.2.2.2.1 && (bt291.2.2.2.2.2.2.2.2.2.2.2.toList == bt303.2.2.2.2.2.2.2.2.2.2.2.toList))))))))))))))) else (none)) else (none)) else (none)) else (none)) else (none))))))))
def dominolaw05_ParamsTells.f (k : Nat) (a0_0 : Int) (a0_1 : Int) (a0_2 : Int) (a0_3 : Int) (a0_4 : Int) (a0_5 : Int) (a0_6 : Int) (a0_7 : Int) (a0_8 : Int) (a0_9 : Int) (a0_10 : Int) (a0_11 : ByteArray) (a1 : ByteArray) : Option (Bool):=if (a0_11.size : Int) > 100 then (dominolaw05_ParamsTells.j0 k a1 true a0_0 a0_1 a0_2 a0_3 a0_4 a0_5 a0_6 a0_7 a0_8 a0_9 a0_10 a0_11) else (if (a1.size : Int) > 600 then (dominolaw05_ParamsTells.j0 k a1 true a0_0 a0_1 a0_2 a0_3 a0_4 a0_5 a0_6 a0_7 a0_8 a0_9 a0_10 a0_11) else ((dominolaw05_shown.f k).bind fun t254 => (dominolaw05_ParamsTells.j0 k a1 (!t254) a0_0 a0_1 a0_2 a0_3 a0_4 a0_5 a0_6 a0_7 a0_8 a0_9 a0_10 a0_11)))
theorem dominolaw05_ParamsTells.mono_l : ∀ k,(∀ y0 y1 y2 y3 y4 y5 y6 y7 y8 y9 y10 y11 y12 y13,LeO (dominolaw05_ParamsTells.j0 k y0 y1 y2 y3 y4 y5 y6 y7 y8 y9 y10 y11 y12 y13) (dominolaw05_ParamsTells.j0 (k + 1) y0 y1 y2 y3 y4 y5 y6 y7 y8 y9 y10 y11 y12 y13))
 | 0 => fun _ _ _ _ _ _ _ _ _ _ _ _ _ _ r h => by simp [dominolaw05_ParamsTells.j0] at h
 | k + 1 => by
  have ih0:=dominolaw05_ParamsTells.mono_l k
  ·intro y0 y1 y2 y3 y4 y5 y6 y7 y8 y9 y10 y11 y12 y13
   unfold dominolaw05_ParamsTells.j0
   repeat' first
   | (with_reducible exact ih0 _ _ _ _ _ _ _ _ _ _ _ _ _ _)
   | (with_reducible exact dominolaw05_shown.mono _)
   | (with_reducible exact dominoref05_Check.mono _ _ _ _ _ _ _ _ _ _ _ _ _)
   | (with_reducible exact dominoref05_Get.mono _ _)
   | (with_reducible exact dominoref05_Put.mono _ _ _ _ _ _ _ _ _ _ _ _ _)
   | (with_reducible exact params_Get.mono _ _)
   | (with_reducible exact LeO.refl _)
   | (with_reducible exact LeO.none _)
   | (with_reducible refine LeO.ite ?_ ?_)
   | (with_reducible refine LeO.bind ?_ (fun _ => ?_))
   | exact ih0 _ _ _ _ _ _ _ _ _ _ _ _ _ _
   | exact dominolaw05_shown.mono _
   | exact dominoref05_Check.mono _ _ _ _ _ _ _ _ _ _ _ _ _
   | exact dominoref05_Get.mono _ _
   | exact dominoref05_Put.mono _ _ _ _ _ _ _ _ _ _ _ _ _
   | exact params_Get.mono _ _
   | exact LeO.none _
   | refine LeO.ite ?_ ?_
   | refine LeO.bind ?_ (fun _ => ?_)
theorem dominolaw05_ParamsTells.mono : ∀ a0 a1 a2 a3 a4 a5 a6 a7 a8 a9 a10 a11 a12 k,LeO (dominolaw05_ParamsTells.f k a0 a1 a2 a3 a4 a5 a6 a7 a8 a9 a10 a11 a12) (dominolaw05_ParamsTells.f (k + 1) a0 a1 a2 a3 a4 a5 a6 a7 a8 a9 a10 a11 a12):=by
 intro a0 a1 a2 a3 a4 a5 a6 a7 a8 a9 a10 a11 a12 k
 have ih0:=dominolaw05_ParamsTells.mono_l k
 unfold dominolaw05_ParamsTells.f
 repeat' first
   | (with_reducible exact ih0 _ _ _ _ _ _ _ _ _ _ _ _ _ _)
   | (with_reducible exact dominolaw05_shown.mono _)
   | (with_reducible exact dominoref05_Check.mono _ _ _ _ _ _ _ _ _ _ _ _ _)
   | (with_reducible exact dominoref05_Get.mono _ _)
   | (with_reducible exact dominoref05_Put.mono _ _ _ _ _ _ _ _ _ _ _ _ _)
   | (with_reducible exact params_Get.mono _ _)
   | (with_reducible exact LeO.refl _)
   | (with_reducible exact LeO.none _)
   | (with_reducible refine LeO.ite ?_ ?_)
   | (with_reducible refine LeO.bind ?_ (fun _ => ?_))
   | exact ih0 _ _ _ _ _ _ _ _ _ _ _ _ _ _
   | exact dominolaw05_shown.mono _
   | exact dominoref05_Check.mono _ _ _ _ _ _ _ _ _ _ _ _ _
   | exact dominoref05_Get.mono _ _
   | exact dominoref05_Put.mono _ _ _ _ _ _ _ _ _ _ _ _ _
   | exact params_Get.mono _ _
   | exact LeO.none _
   | refine LeO.ite ?_ ?_
   | refine LeO.bind ?_ (fun _ => ?_)
def dominolaw05_ParamsTells.T8 : Bool × List (List Nat × List Nat):=(true,[([],[]),([0],[0]),([],[]),([2,1],[2]),([1,3],[1,3]),([4,3],[4]),([5],[5]),([5],[5]),([6,7,5],[5,6,7]),([5,8],[5,8]),([9,5],[9]),([10],[10]),([10],[10]),([11,12,10],[10,11,12]),([10,13],[10,13]),([14,10],[14]),([15],[15]),([15],[15]),([16,17,15],[15,16,17]),([15,18],[15,18]),([19,15],[19]),([20],[20]),([20],[20]),([21,22,20],[20,21,22]),([20,23],[20,23]),([24,20],[24]),([25,25],[25]),([26,25],[25]),([26,27,25],[25,26,27]),([25,28],[25,28]),([29,27,0,1,2,3,4,5,6,7,8,9,10,11,12,13,14,15,16,17,18,19,20,21,22,23,24,25,26,27,28,29],[29])])
def dominolaw05_ParamsTells.B8 : List Nat:=[0,1,0,7,15,31,63,63,255,511,1023,2047,2047,8191,16383,32767,65535,65535,262143,524287,1048575,2097151,2097151,8388607,16777215,33554431,67108863,134217727,268435455,536870911,1073741823]
theorem dominolaw05_ParamsTells.tab8 : rtab .any (opsOf Tryd.f3 8) = dominolaw05_ParamsTells.T8:=by kernel_rfl
theorem dominolaw05_ParamsTells.bits8 : waitsOk dominolaw05_ParamsTells.T8.2 dominolaw05_ParamsTells.B8 = true:=by kernel_rfl
set_option maxHeartbeats 8000000 in
set_option maxRecDepth 100000 in
theorem dominolaw05_ParamsTells.calls (k : Nat) (a0_0 : Int) (a0_1 : Int) (a0_2 : Int) (a0_3 : Int) (a0_4 : Int) (a0_5 : Int) (a0_6 : Int) (a0_7 : Int) (a0_8 : Int) (a0_9 : Int) (a0_10 : Int) (a0_11 : ByteArray) (a1 : ByteArray) (r : Bool) (w : World) (ht : Tab w) (h : dominolaw05_ParamsTells.f k a0_0 a0_1 a0_2 a0_3 a0_4 a0_5 a0_6 a0_7 a0_8 a0_9 a0_10 a0_11 a1 = some r) :
  Calls Tryd.prog 3 #[.agg #[.int .u64 a0_0,.int .u64 a0_1,.int .u64 a0_2,.int .u64 a0_3,.int .u64 a0_4,.int .u64 a0_5,.int .u64 a0_6,.int .u64 a0_7,.int .u64 a0_8,.int .u64 a0_9,.int .u64 a0_10,.string a0_11],.string a1] w fun e w' => e = .returned (.bool r) ∧ Below w.heap.size w w':=by
 have HTab:=am_ ht
 clear ht
 have hu24:=Tryd.underlying24
 have hu26:=Tryd.underlying26
 have HB:=am_ (Below.refl w.heap.size w)
 have H : (if (a0_11.size : Int) > 100 then (dominolaw05_ParamsTells.j0 k a1 true a0_0 a0_1 a0_2 a0_3 a0_4 a0_5 a0_6 a0_7 a0_8 a0_9 a0_10 a0_11) else (if (a1.size : Int) > 600 then (dominolaw05_ParamsTells.j0 k a1 true a0_0 a0_1 a0_2 a0_3 a0_4 a0_5 a0_6 a0_7 a0_8 a0_9 a0_10 a0_11) else ((dominolaw05_shown.f k).bind fun t254 => (dominolaw05_ParamsTells.j0 k a1 (!t254) a0_0 a0_1 a0_2 a0_3 a0_4 a0_5 a0_6 a0_7 a0_8 a0_9 a0_10 a0_11)))) = some r:=h
 clear h
 have HC3:=am_ H
 clear H
 go_enter Tryd.func3,Tryd.ntmps3
 go_upto_region 1 with (first|((with_reducible refine gate_dst (N:=2) rfl ?_);(try (refine gate_guard (by rfl) ?_;dsimp only));refine box_event ?hg (N:=2) ?hd (cs:=#[.int .u64 a0_0,.int .u64 a0_1,.int .u64 a0_2,.int .u64 a0_3,.int .u64 a0_4,.int .u64 a0_5,.int .u64 a0_6,.int .u64 a0_7,.int .u64 a0_8,.int .u64 a0_9,.int .u64 a0_10,.string a0_11]) (t:=24) ?hr ?_;(case hd => rfl);(case hg => rfl);(case hr => first|(go_simp;done)|(go_simp;rfl));intro gb253 hg w4 hbox hb;have n0_:=am_ (below_step (by repeat (first|(with_reducible first|exact HB.out|apply ba_|apply pn_|apply pd_)|exact HB.out)) hb);have n1_:=am_ (hbox);have n2_:=am_ ((by rw [hg];exact (below_size (by repeat (first|(with_reducible first|exact HB.out|apply ba_|apply pn_|apply pd_)|exact HB.out))) : w.heap.size ≤ gb253));have n3_:=am_ ((by rw [hg];exact (below_size (by repeat (first|(with_reducible first|exact HB.out|apply ba_|apply pn_|apply pd_)|exact HB.out))) : w.heap.size ≤ gb253));clear HB;have HB:=n0_;have BK253:=n1_;have GW253:=n2_;have GE253:=n3_;clear n0_ n1_ n2_ n3_;clear hb hbox hg))
 (try simp only [Act.put,ps_])
 go_cut [26] (fun v26 wc => ∃ (kq : Nat) (x26_2 : Bool),v26 = .bool x26_2 ∧ Aside0 (dominolaw05_ParamsTells.j0 kq a1 x26_2 a0_0 a0_1 a0_2 a0_3 a0_4 a0_5 a0_6 a0_7 a0_8 a0_9 a0_10 a0_11 = some r) ∧ Aside0 (kq ≤ k) ∧ Aside0 (wc.heap[gb253]? = some (.cells #[.int .u64 a0_0,.int .u64 a0_1,.int .u64 a0_2,.int .u64 a0_3,.int .u64 a0_4,.int .u64 a0_5,.int .u64 a0_6,.int .u64 a0_7,.int .u64 a0_8,.int .u64 a0_9,.int .u64 a0_10,.string a0_11] 24 (0,0))) ∧ Aside0 (Below w.heap.size w wc))
 case first =>
  have H:=HC3.out
  clear HC3
  by_cases c5 : (a0_11.size : Int) > 100
  ·rw [if_pos c5] at H
   have c5b0 : decide (100 < (a0_11.size : Int)) = true:=decide_eq_true c5
   have c5b1 : decide (100 < a0_11.size) = true:=decide_eq_true (by omega)
   clear c5
   (first|rw [c5b0]|(simp only [i64_w,i32_w];rw [c5b0])|skip)
   have H':=am_ H
   clear H
   have hcz6_0 : w4.cell? ⟨gb253,0,none⟩ = some (.int .u64 a0_0):=(kc_ BK253.out 0).trans rfl
   have hcz6_1 : w4.cell? ⟨gb253,1,none⟩ = some (.int .u64 a0_1):=(kc_ BK253.out 1).trans rfl
   have hcz6_2 : w4.cell? ⟨gb253,2,none⟩ = some (.int .u64 a0_2):=(kc_ BK253.out 2).trans rfl
   have hcz6_3 : w4.cell? ⟨gb253,3,none⟩ = some (.int .u64 a0_3):=(kc_ BK253.out 3).trans rfl
   have hcz6_4 : w4.cell? ⟨gb253,4,none⟩ = some (.int .u64 a0_4):=(kc_ BK253.out 4).trans rfl
   have hcz6_5 : w4.cell? ⟨gb253,5,none⟩ = some (.int .u64 a0_5):=(kc_ BK253.out 5).trans rfl
   have hcz6_6 : w4.cell? ⟨gb253,6,none⟩ = some (.int .u64 a0_6):=(kc_ BK253.out 6).trans rfl
   have hcz6_7 : w4.cell? ⟨gb253,7,none⟩ = some (.int .u64 a0_7):=(kc_ BK253.out 7).trans rfl
   have hcz6_8 : w4.cell? ⟨gb253,8,none⟩ = some (.int .u64 a0_8):=(kc_ BK253.out 8).trans rfl
   have hcz6_9 : w4.cell? ⟨gb253,9,none⟩ = some (.int .u64 a0_9):=(kc_ BK253.out 9).trans rfl
   have hcz6_10 : w4.cell? ⟨gb253,10,none⟩ = some (.int .u64 a0_10):=(kc_ BK253.out 10).trans rfl
   have hcz6_11 : w4.cell? ⟨gb253,11,none⟩ = some (.string a0_11):=(kc_ BK253.out 11).trans rfl
   have hfz6_0:=blk_frozen BK253.out 0
   have hfz6_1:=blk_frozen BK253.out 1
   have hfz6_2:=blk_frozen BK253.out 2
   have hfz6_3:=blk_frozen BK253.out 3
   have hfz6_4:=blk_frozen BK253.out 4
   have hfz6_5:=blk_frozen BK253.out 5
   have hfz6_6:=blk_frozen BK253.out 6
   have hfz6_7:=blk_frozen BK253.out 7
   have hfz6_8:=blk_frozen BK253.out 8
   have hfz6_9:=blk_frozen BK253.out 9
   have hfz6_10:=blk_frozen BK253.out 10
   have hfz6_11:=blk_frozen BK253.out 11
   go_wp2
   go_meet
   case rel => exact ⟨_,(true),(by first|rfl|(simp;done)|(simp [*];done)),H',⟨by first|omega|exact Nat.le_refl _⟩,⟨by (with_reducible repeat (first|refine kn_ ?_ _|refine kd_ ?_|refine ka_ ?_ _));exact BK253.out⟩,⟨by repeat (first|(with_reducible first|exact HB.out|apply ba_|apply pn_|apply pd_|refine bs_ ?_ GE253.out)|exact HB.out)⟩⟩
  ·rw [if_neg c5] at H
   have c5b0 : decide (100 < (a0_11.size : Int)) = false:=decide_eq_false c5
   have c5b1 : decide (100 < a0_11.size) = false:=decide_eq_false (by omega)
   clear c5
   (first|rw [c5b0]|(simp only [i64_w,i32_w];rw [c5b0])|skip)
   by_cases c7 : (a1.size : Int) > 600
   ·rw [if_pos c7] at H
    have c7b0 : decide (600 < (a1.size : Int)) = true:=decide_eq_true c7
    have c7b1 : decide (600 < a1.size) = true:=decide_eq_true (by omega)
    clear c7
    have H':=am_ H
    clear H
    have hcz8_0 : w4.cell? ⟨gb253,0,none⟩ = some (.int .u64 a0_0):=(kc_ BK253.out 0).trans rfl
    have hcz8_1 : w4.cell? ⟨gb253,1,none⟩ = some (.int .u64 a0_1):=(kc_ BK253.out 1).trans rfl
    have hcz8_2 : w4.cell? ⟨gb253,2,none⟩ = some (.int .u64 a0_2):=(kc_ BK253.out 2).trans rfl
    have hcz8_3 : w4.cell? ⟨gb253,3,none⟩ = some (.int .u64 a0_3):=(kc_ BK253.out 3).trans rfl
    have hcz8_4 : w4.cell? ⟨gb253,4,none⟩ = some (.int .u64 a0_4):=(kc_ BK253.out 4).trans rfl
    have hcz8_5 : w4.cell? ⟨gb253,5,none⟩ = some (.int .u64 a0_5):=(kc_ BK253.out 5).trans rfl
    have hcz8_6 : w4.cell? ⟨gb253,6,none⟩ = some (.int .u64 a0_6):=(kc_ BK253.out 6).trans rfl
    have hcz8_7 : w4.cell? ⟨gb253,7,none⟩ = some (.int .u64 a0_7):=(kc_ BK253.out 7).trans rfl
    have hcz8_8 : w4.cell? ⟨gb253,8,none⟩ = some (.int .u64 a0_8):=(kc_ BK253.out 8).trans rfl
    have hcz8_9 : w4.cell? ⟨gb253,9,none⟩ = some (.int .u64 a0_9):=(kc_ BK253.out 9).trans rfl
    have hcz8_10 : w4.cell? ⟨gb253,10,none⟩ = some (.int .u64 a0_10):=(kc_ BK253.out 10).trans rfl
    have hcz8_11 : w4.cell? ⟨gb253,11,none⟩ = some (.string a0_11):=(kc_ BK253.out 11).trans rfl
    have hfz8_0:=blk_frozen BK253.out 0
    have hfz8_1:=blk_frozen BK253.out 1
    have hfz8_2:=blk_frozen BK253.out 2
    have hfz8_3:=blk_frozen BK253.out 3
    have hfz8_4:=blk_frozen BK253.out 4
    have hfz8_5:=blk_frozen BK253.out 5
    have hfz8_6:=blk_frozen BK253.out 6
    have hfz8_7:=blk_frozen BK253.out 7
    have hfz8_8:=blk_frozen BK253.out 8
    have hfz8_9:=blk_frozen BK253.out 9
    have hfz8_10:=blk_frozen BK253.out 10
    have hfz8_11:=blk_frozen BK253.out 11
    go_wp2
    go_meet
    case rel => exact ⟨_,(true),(by first|rfl|(simp;done)|(simp [*];done)),H',⟨by first|omega|exact Nat.le_refl _⟩,⟨by (with_reducible repeat (first|refine kn_ ?_ _|refine kd_ ?_|refine ka_ ?_ _));exact BK253.out⟩,⟨by repeat (first|(with_reducible first|exact HB.out|apply ba_|apply pn_|apply pd_|refine bs_ ?_ GE253.out)|exact HB.out)⟩⟩
   ·rw [if_neg c7] at H
    have c7b0 : decide (600 < (a1.size : Int)) = false:=decide_eq_false c7
    have c7b1 : decide (600 < a1.size) = false:=decide_eq_false (by omega)
    clear c7
    replace H:=Option.bind_eq_some_iff.mp H
    obtain ⟨t254,A90,H⟩:=H
    replace H : (dominolaw05_ParamsTells.j0 k a1 (!t254) a0_0 a0_1 a0_2 a0_3 a0_4 a0_5 a0_6 a0_7 a0_8 a0_9 a0_10 a0_11) = some r:=H
    have A9:=am_ A90
    clear A90
    have H':=am_ H
    clear H
    have hcz10_0 : w4.cell? ⟨gb253,0,none⟩ = some (.int .u64 a0_0):=(kc_ BK253.out 0).trans rfl
    have hcz10_1 : w4.cell? ⟨gb253,1,none⟩ = some (.int .u64 a0_1):=(kc_ BK253.out 1).trans rfl
    have hcz10_2 : w4.cell? ⟨gb253,2,none⟩ = some (.int .u64 a0_2):=(kc_ BK253.out 2).trans rfl
    have hcz10_3 : w4.cell? ⟨gb253,3,none⟩ = some (.int .u64 a0_3):=(kc_ BK253.out 3).trans rfl
    have hcz10_4 : w4.cell? ⟨gb253,4,none⟩ = some (.int .u64 a0_4):=(kc_ BK253.out 4).trans rfl
    have hcz10_5 : w4.cell? ⟨gb253,5,none⟩ = some (.int .u64 a0_5):=(kc_ BK253.out 5).trans rfl
    have hcz10_6 : w4.cell? ⟨gb253,6,none⟩ = some (.int .u64 a0_6):=(kc_ BK253.out 6).trans rfl
    have hcz10_7 : w4.cell? ⟨gb253,7,none⟩ = some (.int .u64 a0_7):=(kc_ BK253.out 7).trans rfl
    have hcz10_8 : w4.cell? ⟨gb253,8,none⟩ = some (.int .u64 a0_8):=(kc_ BK253.out 8).trans rfl
    have hcz10_9 : w4.cell? ⟨gb253,9,none⟩ = some (.int .u64 a0_9):=(kc_ BK253.out 9).trans rfl
    have hcz10_10 : w4.cell? ⟨gb253,10,none⟩ = some (.int .u64 a0_10):=(kc_ BK253.out 10).trans rfl
    have hcz10_11 : w4.cell? ⟨gb253,11,none⟩ = some (.string a0_11):=(kc_ BK253.out 11).trans rfl
    have hfz10_0:=blk_frozen BK253.out 0
    have hfz10_1:=blk_frozen BK253.out 1
    have hfz10_2:=blk_frozen BK253.out 2
    have hfz10_3:=blk_frozen BK253.out 3
    have hfz10_4:=blk_frozen BK253.out 4
    have hfz10_5:=blk_frozen BK253.out 5
    have hfz10_6:=blk_frozen BK253.out 6
    have hfz10_7:=blk_frozen BK253.out 7
    have hfz10_8:=blk_frozen BK253.out 8
    have hfz10_9:=blk_frozen BK253.out 9
    have hfz10_10:=blk_frozen BK253.out 10
    have hfz10_11:=blk_frozen BK253.out 11
    go_wp2_with (first|(go_at_call 8;(with_reducible refine (dominolaw05_shown.calls k  t254 _ (by first|exact HTab.out|exact tab_below HTab.out HB.out|exact (tab_below HTab.out (by repeat (first|(with_reducible first|exact HB.out|apply ba_|apply pn_|apply pd_|refine bs_ ?_ GE253.out)|exact HB.out)))|exact tab_below HTab.out (by repeat (first|exact HB.out|exact Below.refl _ _|apply ba_|apply pn_|apply pd_|refine bs_ ?_ GE253.out|refine bs_ ?_ GE256.out|refine bs_ ?_ GE274.out|refine bs_ ?_ GE288.out))) A9.out).mono ?_);rintro e w11 ⟨rfl,hb⟩;have n0_:=am_ (blk_below (g:=gb253) (o:=.cells #[.int .u64 a0_0,.int .u64 a0_1,.int .u64 a0_2,.int .u64 a0_3,.int .u64 a0_4,.int .u64 a0_5,.int .u64 a0_6,.int .u64 a0_7,.int .u64 a0_8,.int .u64 a0_9,.int .u64 a0_10,.string a0_11] 24 (0,0)) (by (with_reducible repeat (first|refine kn_ ?_ _|refine kd_ ?_|refine ka_ ?_ _));exact BK253.out) hb);have n1_:=am_ (below_step (by repeat (first|(with_reducible first|exact HB.out|apply ba_|apply pn_|apply pd_|refine bs_ ?_ GE253.out)|exact HB.out)) hb);clear BK253;clear HB;have BK253:=n0_;have HB:=n1_;clear n0_ n1_;(try clear hb);(try clear hb2);(try clear hk);(try clear hi)))
    go_meet
    case rel => exact ⟨_,(!t254),(by first|rfl|(simp;done)|(simp [*];done)),H',⟨by first|omega|exact Nat.le_refl _⟩,⟨by (with_reducible repeat (first|refine kn_ ?_ _|refine kd_ ?_|refine ka_ ?_ _));exact BK253.out⟩,⟨by repeat (first|(with_reducible first|exact HB.out|apply ba_|apply pn_|apply pd_|refine bs_ ?_ GE253.out)|exact HB.out)⟩⟩
 case rest =>
  clear HC3
  try clear p2;try clear c3
  try clear c5;try clear c5b0
  try clear c5b1;try clear c7
  try clear c7b0;try clear c7b1
  try clear hcz10_0;try clear hcz10_1
  try clear hcz10_10;try clear hcz10_11
  try clear hcz10_2;try clear hcz10_3
  try clear hcz10_4;try clear hcz10_5
  try clear hcz10_6;try clear hcz10_7
  try clear hcz10_8;try clear hcz10_9
  try clear hcz6_0;try clear hcz6_1
  try clear hcz6_10;try clear hcz6_11
  try clear hcz6_2;try clear hcz6_3
  try clear hcz6_4;try clear hcz6_5
  try clear hcz6_6;try clear hcz6_7
  try clear hcz6_8;try clear hcz6_9
  try clear hcz8_0;try clear hcz8_1
  try clear hcz8_10;try clear hcz8_11
  try clear hcz8_2;try clear hcz8_3
  try clear hcz8_4;try clear hcz8_5
  try clear hcz8_6;try clear hcz8_7
  try clear hcz8_8;try clear hcz8_9
  try clear hfz10_0;try clear hfz10_1
  try clear hfz10_10;try clear hfz10_11
  try clear hfz10_2;try clear hfz10_3
  try clear hfz10_4;try clear hfz10_5
  try clear hfz10_6;try clear hfz10_7
  try clear hfz10_8;try clear hfz10_9
  try clear hfz6_0;try clear hfz6_1
  try clear hfz6_10;try clear hfz6_11
  try clear hfz6_2;try clear hfz6_3
  try clear hfz6_4;try clear hfz6_5
  try clear hfz6_6;try clear hfz6_7
  try clear hfz6_8;try clear hfz6_9
  try clear hfz8_0;try clear hfz8_1
  try clear hfz8_10;try clear hfz8_11
  try clear hfz8_2;try clear hfz8_3
  try clear hfz8_4;try clear hfz8_5
  try clear hfz8_6;try clear hfz8_7
  try clear hfz8_8;try clear hfz8_9
  obtain ⟨kq,x26_2,rfl,HA,HJ2,BK253,HB⟩:=hcut
  cases kq with
  | zero => exact absurd HA.out (by simp [dominolaw05_ParamsTells.j0])
  | succ kj2 =>
   have H:=HA.out
   clear HA
   simp only [dominolaw05_ParamsTells.j0] at H
   by_cases c12 : x26_2 = true
   ·subst c12
    have H1 : ((dominolaw05_shown.f kj2).bind fun t255 => (some t255)) = some r:=by rw [if_pos rfl] at H;exact H
    clear H
    have H:=H1
    clear H1
    replace H:=Option.bind_eq_some_iff.mp H
    obtain ⟨t255,A130,H⟩:=H
    replace H : (some t255) = some r:=H
    have A13:=am_ A130
    clear A130
    obtain rfl:=Option.some.inj H
    go_wp2_with (first|((with_reducible refine gate_callee (f:=8) rfl ?_);refine goesL_ (some 27) rfl rfl Tryd.func8 (by kernel_rfl) rfl #[] rfl (by (try simp only [List.map_toArray,List.map_cons,List.map_nil]);first|done|rfl|(simp only [List.length_drop,List.length_take];rfl)) ?_;(with_reducible refine (dominolaw05_shown.calls kj2  t255 _ (by first|exact HTab.out|exact tab_below HTab.out HB.out|exact (tab_below HTab.out (by repeat (first|(with_reducible first|exact HB.out|apply ba_|apply pn_|apply pd_|refine bs_ ?_ GE253.out)|exact HB.out)))|exact tab_below HTab.out (by repeat (first|exact HB.out|exact Below.refl _ _|apply ba_|apply pn_|apply pd_|refine bs_ ?_ GE253.out|refine bs_ ?_ GE256.out|refine bs_ ?_ GE274.out|refine bs_ ?_ GE288.out))) A13.out).mono ?_);rintro e w14 ⟨rfl,hb⟩;refine ⟨_,rfl,?_⟩;have n0_:=am_ (blk_below (g:=gb253) (o:=.cells #[.int .u64 a0_0,.int .u64 a0_1,.int .u64 a0_2,.int .u64 a0_3,.int .u64 a0_4,.int .u64 a0_5,.int .u64 a0_6,.int .u64 a0_7,.int .u64 a0_8,.int .u64 a0_9,.int .u64 a0_10,.string a0_11] 24 (0,0)) (by (with_reducible repeat (first|refine kn_ ?_ _|refine kd_ ?_|refine ka_ ?_ _));exact BK253.out) hb);have n1_:=am_ (below_step (by repeat (first|(with_reducible first|exact HB.out|apply ba_|apply pn_|apply pd_|refine bs_ ?_ GE253.out)|exact HB.out)) hb);clear BK253;clear HB;have BK253:=n0_;have HB:=n1_;clear n0_ n1_;(try clear hb);(try clear hb2);(try clear hk);(try clear hi)))
    go_ret
    exact ⟨by first|rfl|(simp [errW_none,errW_some] <;> rfl)|(simp [*,errW_none,errW_some] <;> rfl),by repeat (first|(with_reducible first|exact HB.out|apply ba_|apply pn_|apply pd_|refine bs_ ?_ GE253.out)|exact HB.out)⟩
   ·replace c12:=Bool.eq_false_iff.mpr c12
    subst c12
    have H1 : ((params_Put.f a0_0 a0_1 a0_2 a0_3 a0_4 a0_5 a0_6 a0_7 a0_8 a0_9 a0_10 a0_11).bind fun bt257 => ((dominoref05_Put.f kj2 a0_0 a0_1 a0_2 a0_3 a0_4 a0_5 a0_6 a0_7 a0_8 a0_9 a0_10 a0_11).bind fun bt259 => ((params_Get.f kj2 a1).bind fun bt261 => ((dominoref05_Get.f kj2 a1).bind fun bt275 => ((params_Check.f a0_0 a0_1 a0_2 a0_3 a0_4 a0_5 a0_6 a0_7 a0_8 a0_9 a0_10 a0_11).bind fun t289 => ((dominoref05_Check.f kj2 a0_0 a0_1 a0_2 a0_3 a0_4 a0_5 a0_6 a0_7 a0_8 a0_9 a0_10 a0_11).bind fun t290 => (if t289 = t290 then (if bt257.1.toList = bt259.1.toList then (if bt257.2 = bt259.2 then (if (bt261.1 == bt275.1 && (bt261.2.1 == bt275.2.1 && (bt261.2.2.1 == bt275.2.2.1 && (bt261.2.2.2.1 == bt275.2.2.2.1 && (bt261.2.2.2.2.1 == bt275.2.2.2.2.1 && (bt261.2.2.2.2.2.1 == bt275.2.2.2.2.2.1 && (bt261.2.2.2.2.2.2.1 == bt275.2.2.2.2.2.2.1 && (bt261.2.2.2.2.2.2.2.1 == bt275.2.2.2.2.2.2.2.1 && (bt261.2.2.2.2.2.2.2.2.1 == bt275.2.2.2.2.2.2.2.2.1 && (bt261.2.2.2.2.2.2.2.2.2.1 == bt275.2.2.2.2.2.2.2.2.2.1 && (bt261.2.2.2.2.2.2.2.2.2.2.1 == bt275.2.2.2.2.2.2.2.2.2.2.1 && (bt261.2.2.2.2.2.2.2.2.2.2.2.1.toList == bt275.2.2.2.2.2.2.2.2.2.2.2.1.toList)))))))))))) = true then (if bt261.2.2.2.2.2.2.2.2.2.2.2.2 = bt275.2.2.2.2.2.2.2.2.2.2.2.2 then ((params_Default.f).bind fun bt291 => ((dominoref05_Default.f).bind fun bt303 => (some (bt291.1 == bt303.1 && (bt291.2.1 == bt303.2.1 && (bt291.2.2.1 == bt303.2.2.1 && (bt291.2.2.2.1 == bt303.2.2.2.1 && (bt291.2.2.2.2.1 == bt303.2.2.2.2.1 && (bt291.2.2.2.2.2.1 == bt303.2.2.2.2.2.1 && (bt291.2.2.2.2.2.2.1 == bt303.2.2.2.2.2.2.1 && (bt291.2.2.2.2.2.2.2.1 == bt303.2.2.2.2.2.2.2.1 && (bt291.2.2.2.2.2.2.2.2.1 == bt303.2.2.2.2.2.2.2.2.1 && (bt291.2.2.2.2.2.2.2.2.2.1 == bt303.2.2.2.2.2.2.2.2.2.1 && (bt291.2.2.2.2.2.2.2.2.2.2.1 == bt303.2.2.2.2.2.2.2.2.2.2.1 && (bt291.2.2.2.2.2.2.2.2.2.2.2.toList == bt303.2.2.2.2.2.2.2.2.2.2.2.toList))))))))))))))) else (none)) else (none)) else (none)) else (none)) else (none)))))))) = some r:=by rw [if_neg (show ¬ (false = true) by decide)] at H;exact H
    clear H
    have H:=H1
    clear H1
    replace H:=Option.bind_eq_some_iff.mp H
    obtain ⟨⟨t257,t258⟩,A150,H⟩:=H
    replace H : ((dominoref05_Put.f kj2 a0_0 a0_1 a0_2 a0_3 a0_4 a0_5 a0_6 a0_7 a0_8 a0_9 a0_10 a0_11).bind fun bt259 => ((params_Get.f kj2 a1).bind fun bt261 => ((dominoref05_Get.f kj2 a1).bind fun bt275 => ((params_Check.f a0_0 a0_1 a0_2 a0_3 a0_4 a0_5 a0_6 a0_7 a0_8 a0_9 a0_10 a0_11).bind fun t289 => ((dominoref05_Check.f kj2 a0_0 a0_1 a0_2 a0_3 a0_4 a0_5 a0_6 a0_7 a0_8 a0_9 a0_10 a0_11).bind fun t290 => (if t289 = t290 then (if t257.toList = bt259.1.toList then (if t258 = bt259.2 then (if (bt261.1 == bt275.1 && (bt261.2.1 == bt275.2.1 && (bt261.2.2.1 == bt275.2.2.1 && (bt261.2.2.2.1 == bt275.2.2.2.1 && (bt261.2.2.2.2.1 == bt275.2.2.2.2.1 && (bt261.2.2.2.2.2.1 == bt275.2.2.2.2.2.1 && (bt261.2.2.2.2.2.2.1 == bt275.2.2.2.2.2.2.1 && (bt261.2.2.2.2.2.2.2.1 == bt275.2.2.2.2.2.2.2.1 && (bt261.2.2.2.2.2.2.2.2.1 == bt275.2.2.2.2.2.2.2.2.1 && (bt261.2.2.2.2.2.2.2.2.2.1 == bt275.2.2.2.2.2.2.2.2.2.1 && (bt261.2.2.2.2.2.2.2.2.2.2.1 == bt275.2.2.2.2.2.2.2.2.2.2.1 && (bt261.2.2.2.2.2.2.2.2.2.2.2.1.toList == bt275.2.2.2.2.2.2.2.2.2.2.2.1.toList)))))))))))) = true then (if bt261.2.2.2.2.2.2.2.2.2.2.2.2 = bt275.2.2.2.2.2.2.2.2.2.2.2.2 then ((params_Default.f).bind fun bt291 => ((dominoref05_Default.f).bind fun bt303 => (some (bt291.1 == bt303.1 && (bt291.2.1 == bt303.2.1 && (bt291.2.2.1 == bt303.2.2.1 && (bt291.2.2.2.1 == bt303.2.2.2.1 && (bt291.2.2.2.2.1 == bt303.2.2.2.2.1 && (bt291.2.2.2.2.2.1 == bt303.2.2.2.2.2.1 && (bt291.2.2.2.2.2.2.1 == bt303.2.2.2.2.2.2.1 && (bt291.2.2.2.2.2.2.2.1 == bt303.2.2.2.2.2.2.2.1 && (bt291.2.2.2.2.2.2.2.2.1 == bt303.2.2.2.2.2.2.2.2.1 && (bt291.2.2.2.2.2.2.2.2.2.1 == bt303.2.2.2.2.2.2.2.2.2.1 && (bt291.2.2.2.2.2.2.2.2.2.2.1 == bt303.2.2.2.2.2.2.2.2.2.2.1 && (bt291.2.2.2.2.2.2.2.2.2.2.2.toList == bt303.2.2.2.2.2.2.2.2.2.2.2.toList))))))))))))))) else (none)) else (none)) else (none)) else (none)) else (none))))))) = some r:=H
    have A15:=am_ A150
    clear A150
    replace H:=Option.bind_eq_some_iff.mp H
    obtain ⟨⟨t259,t260⟩,A160,H⟩:=H
    replace H : ((params_Get.f kj2 a1).bind fun bt261 => ((dominoref05_Get.f kj2 a1).bind fun bt275 => ((params_Check.f a0_0 a0_1 a0_2 a0_3 a0_4 a0_5 a0_6 a0_7 a0_8 a0_9 a0_10 a0_11).bind fun t289 => ((dominoref05_Check.f kj2 a0_0 a0_1 a0_2 a0_3 a0_4 a0_5 a0_6 a0_7 a0_8 a0_9 a0_10 a0_11).bind fun t290 => (if t289 = t290 then (if t257.toList = t259.toList then (if t258 = t260 then (if (bt261.1 == bt275.1 && (bt261.2.1 == bt275.2.1 && (bt261.2.2.1 == bt275.2.2.1 && (bt261.2.2.2.1 == bt275.2.2.2.1 && (bt261.2.2.2.2.1 == bt275.2.2.2.2.1 && (bt261.2.2.2.2.2.1 == bt275.2.2.2.2.2.1 && (bt261.2.2.2.2.2.2.1 == bt275.2.2.2.2.2.2.1 && (bt261.2.2.2.2.2.2.2.1 == bt275.2.2.2.2.2.2.2.1 && (bt261.2.2.2.2.2.2.2.2.1 == bt275.2.2.2.2.2.2.2.2.1 && (bt261.2.2.2.2.2.2.2.2.2.1 == bt275.2.2.2.2.2.2.2.2.2.1 && (bt261.2.2.2.2.2.2.2.2.2.2.1 == bt275.2.2.2.2.2.2.2.2.2.2.1 && (bt261.2.2.2.2.2.2.2.2.2.2.2.1.toList == bt275.2.2.2.2.2.2.2.2.2.2.2.1.toList)))))))))))) = true then (if bt261.2.2.2.2.2.2.2.2.2.2.2.2 = bt275.2.2.2.2.2.2.2.2.2.2.2.2 then ((params_Default.f).bind fun bt291 => ((dominoref05_Default.f).bind fun bt303 => (some (bt291.1 == bt303.1 && (bt291.2.1 == bt303.2.1 && (bt291.2.2.1 == bt303.2.2.1 && (bt291.2.2.2.1 == bt303.2.2.2.1 && (bt291.2.2.2.2.1 == bt303.2.2.2.2.1 && (bt291.2.2.2.2.2.1 == bt303.2.2.2.2.2.1 && (bt291.2.2.2.2.2.2.1 == bt303.2.2.2.2.2.2.1 && (bt291.2.2.2.2.2.2.2.1 == bt303.2.2.2.2.2.2.2.1 && (bt291.2.2.2.2.2.2.2.2.1 == bt303.2.2.2.2.2.2.2.2.1 && (bt291.2.2.2.2.2.2.2.2.2.1 == bt303.2.2.2.2.2.2.2.2.2.1 && (bt291.2.2.2.2.2.2.2.2.2.2.1 == bt303.2.2.2.2.2.2.2.2.2.2.1 && (bt291.2.2.2.2.2.2.2.2.2.2.2.toList == bt303.2.2.2.2.2.2.2.2.2.2.2.toList))))))))))))))) else (none)) else (none)) else (none)) else (none)) else (none)))))) = some r:=H
    have A16:=am_ A160
    clear A160
    replace H:=Option.bind_eq_some_iff.mp H
    obtain ⟨⟨t261,t262,t263,t264,t265,t266,t267,t268,t269,t270,t271,t272,t273⟩,A170,H⟩:=H
    replace H : ((dominoref05_Get.f kj2 a1).bind fun bt275 => ((params_Check.f a0_0 a0_1 a0_2 a0_3 a0_4 a0_5 a0_6 a0_7 a0_8 a0_9 a0_10 a0_11).bind fun t289 => ((dominoref05_Check.f kj2 a0_0 a0_1 a0_2 a0_3 a0_4 a0_5 a0_6 a0_7 a0_8 a0_9 a0_10 a0_11).bind fun t290 => (if t289 = t290 then (if t257.toList = t259.toList then (if t258 = t260 then (if (t261 == bt275.1 && (t262 == bt275.2.1 && (t263 == bt275.2.2.1 && (t264 == bt275.2.2.2.1 && (t265 == bt275.2.2.2.2.1 && (t266 == bt275.2.2.2.2.2.1 && (t267 == bt275.2.2.2.2.2.2.1 && (t268 == bt275.2.2.2.2.2.2.2.1 && (t269 == bt275.2.2.2.2.2.2.2.2.1 && (t270 == bt275.2.2.2.2.2.2.2.2.2.1 && (t271 == bt275.2.2.2.2.2.2.2.2.2.2.1 && (t272.toList == bt275.2.2.2.2.2.2.2.2.2.2.2.1.toList)))))))))))) = true then (if t273 = bt275.2.2.2.2.2.2.2.2.2.2.2.2 then ((params_Default.f).bind fun bt291 => ((dominoref05_Default.f).bind fun bt303 => (some (bt291.1 == bt303.1 && (bt291.2.1 == bt303.2.1 && (bt291.2.2.1 == bt303.2.2.1 && (bt291.2.2.2.1 == bt303.2.2.2.1 && (bt291.2.2.2.2.1 == bt303.2.2.2.2.1 && (bt291.2.2.2.2.2.1 == bt303.2.2.2.2.2.1 && (bt291.2.2.2.2.2.2.1 == bt303.2.2.2.2.2.2.1 && (bt291.2.2.2.2.2.2.2.1 == bt303.2.2.2.2.2.2.2.1 && (bt291.2.2.2.2.2.2.2.2.1 == bt303.2.2.2.2.2.2.2.2.1 && (bt291.2.2.2.2.2.2.2.2.2.1 == bt303.2.2.2.2.2.2.2.2.2.1 && (bt291.2.2.2.2.2.2.2.2.2.2.1 == bt303.2.2.2.2.2.2.2.2.2.2.1 && (bt291.2.2.2.2.2.2.2.2.2.2.2.toList == bt303.2.2.2.2.2.2.2.2.2.2.2.toList))))))))))))))) else (none)) else (none)) else (none)) else (none)) else (none))))) = some r:=H
    have A17:=am_ A170
    clear A170
    replace H:=Option.bind_eq_some_iff.mp H
    obtain ⟨⟨t275,t276,t277,t278,t279,t280,t281,t282,t283,t284,t285,t286,t287⟩,A180,H⟩:=H
    replace H : ((params_Check.f a0_0 a0_1 a0_2 a0_3 a0_4 a0_5 a0_6 a0_7 a0_8 a0_9 a0_10 a0_11).bind fun t289 => ((dominoref05_Check.f kj2 a0_0 a0_1 a0_2 a0_3 a0_4 a0_5 a0_6 a0_7 a0_8 a0_9 a0_10 a0_11).bind fun t290 => (if t289 = t290 then (if t257.toList = t259.toList then (if t258 = t260 then (if (t261 == t275 && (t262 == t276 && (t263 == t277 && (t264 == t278 && (t265 == t279 && (t266 == t280 && (t267 == t281 && (t268 == t282 && (t269 == t283 && (t270 == t284 && (t271 == t285 && (t272.toList == t286.toList)))))))))))) = true then (if t273 = t287 then ((params_Default.f).bind fun bt291 => ((dominoref05_Default.f).bind fun bt303 => (some (bt291.1 == bt303.1 && (bt291.2.1 == bt303.2.1 && (bt291.2.2.1 == bt303.2.2.1 && (bt291.2.2.2.1 == bt303.2.2.2.1 && (bt291.2.2.2.2.1 == bt303.2.2.2.2.1 && (bt291.2.2.2.2.2.1 == bt303.2.2.2.2.2.1 && (bt291.2.2.2.2.2.2.1 == bt303.2.2.2.2.2.2.1 && (bt291.2.2.2.2.2.2.2.1 == bt303.2.2.2.2.2.2.2.1 && (bt291.2.2.2.2.2.2.2.2.1 == bt303.2.2.2.2.2.2.2.2.1 && (bt291.2.2.2.2.2.2.2.2.2.1 == bt303.2.2.2.2.2.2.2.2.2.1 && (bt291.2.2.2.2.2.2.2.2.2.2.1 == bt303.2.2.2.2.2.2.2.2.2.2.1 && (bt291.2.2.2.2.2.2.2.2.2.2.2.toList == bt303.2.2.2.2.2.2.2.2.2.2.2.toList))))))))))))))) else (none)) else (none)) else (none)) else (none)) else (none)))) = some r:=H
    have A18:=am_ A180
    clear A180
    replace H:=Option.bind_eq_some_iff.mp H
    obtain ⟨t289,A190,H⟩:=H
    replace H : ((dominoref05_Check.f kj2 a0_0 a0_1 a0_2 a0_3 a0_4 a0_5 a0_6 a0_7 a0_8 a0_9 a0_10 a0_11).bind fun t290 => (if t289 = t290 then (if t257.toList = t259.toList then (if t258 = t260 then (if (t261 == t275 && (t262 == t276 && (t263 == t277 && (t264 == t278 && (t265 == t279 && (t266 == t280 && (t267 == t281 && (t268 == t282 && (t269 == t283 && (t270 == t284 && (t271 == t285 && (t272.toList == t286.toList)))))))))))) = true then (if t273 = t287 then ((params_Default.f).bind fun bt291 => ((dominoref05_Default.f).bind fun bt303 => (some (bt291.1 == bt303.1 && (bt291.2.1 == bt303.2.1 && (bt291.2.2.1 == bt303.2.2.1 && (bt291.2.2.2.1 == bt303.2.2.2.1 && (bt291.2.2.2.2.1 == bt303.2.2.2.2.1 && (bt291.2.2.2.2.2.1 == bt303.2.2.2.2.2.1 && (bt291.2.2.2.2.2.2.1 == bt303.2.2.2.2.2.2.1 && (bt291.2.2.2.2.2.2.2.1 == bt303.2.2.2.2.2.2.2.1 && (bt291.2.2.2.2.2.2.2.2.1 == bt303.2.2.2.2.2.2.2.2.1 && (bt291.2.2.2.2.2.2.2.2.2.1 == bt303.2.2.2.2.2.2.2.2.2.1 && (bt291.2.2.2.2.2.2.2.2.2.2.1 == bt303.2.2.2.2.2.2.2.2.2.2.1 && (bt291.2.2.2.2.2.2.2.2.2.2.2.toList == bt303.2.2.2.2.2.2.2.2.2.2.2.toList))))))))))))))) else (none)) else (none)) else (none)) else (none)) else (none))) = some r:=H
    have A19:=am_ A190
    clear A190
    replace H:=Option.bind_eq_some_iff.mp H
    obtain ⟨t290,A200,H⟩:=H
    replace H : (if t289 = t290 then (if t257.toList = t259.toList then (if t258 = t260 then (if (t261 == t275 && (t262 == t276 && (t263 == t277 && (t264 == t278 && (t265 == t279 && (t266 == t280 && (t267 == t281 && (t268 == t282 && (t269 == t283 && (t270 == t284 && (t271 == t285 && (t272.toList == t286.toList)))))))))))) = true then (if t273 = t287 then ((params_Default.f).bind fun bt291 => ((dominoref05_Default.f).bind fun bt303 => (some (bt291.1 == bt303.1 && (bt291.2.1 == bt303.2.1 && (bt291.2.2.1 == bt303.2.2.1 && (bt291.2.2.2.1 == bt303.2.2.2.1 && (bt291.2.2.2.2.1 == bt303.2.2.2.2.1 && (bt291.2.2.2.2.2.1 == bt303.2.2.2.2.2.1 && (bt291.2.2.2.2.2.2.1 == bt303.2.2.2.2.2.2.1 && (bt291.2.2.2.2.2.2.2.1 == bt303.2.2.2.2.2.2.2.1 && (bt291.2.2.2.2.2.2.2.2.1 == bt303.2.2.2.2.2.2.2.2.1 && (bt291.2.2.2.2.2.2.2.2.2.1 == bt303.2.2.2.2.2.2.2.2.2.1 && (bt291.2.2.2.2.2.2.2.2.2.2.1 == bt303.2.2.2.2.2.2.2.2.2.2.1 && (bt291.2.2.2.2.2.2.2.2.2.2.2.toList == bt303.2.2.2.2.2.2.2.2.2.2.2.toList))))))))))))))) else (none)) else (none)) else (none)) else (none)) else (none)) = some r:=H
    have A20:=am_ A200
    clear A200
    by_cases c21 : t289 = t290
    ·rw [if_pos c21] at H
     have c21b0 : (t289 == t290) = true:=beq_iff_eq.mpr c21
     have c21b1 : (t289 != t290) = false:=bne_eq_false_iff_eq.mpr c21
     clear c21
     by_cases c22 : t257.toList = t259.toList
     ·rw [if_pos c22] at H
      have c22b0 : (t257.toList == t259.toList) = true:=beq_iff_eq.mpr c22
      have c22b1 : (t257.toList != t259.toList) = false:=bne_eq_false_iff_eq.mpr c22
      clear c22
      by_cases c23 : t258 = t260
      ·rw [if_pos c23] at H
       have c23b0 : (t258 == t260) = true:=beq_iff_eq.mpr c23
       have c23b1 : (t258 != t260) = false:=bne_eq_false_iff_eq.mpr c23
       clear c23
       by_cases c24 : (t261 == t275 && (t262 == t276 && (t263 == t277 && (t264 == t278 && (t265 == t279 && (t266 == t280 && (t267 == t281 && (t268 == t282 && (t269 == t283 && (t270 == t284 && (t271 == t285 && (t272.toList == t286.toList)))))))))))) = true
       ·rw [if_pos c24] at H
        have c24b0 : (t261 == t275 && (t262 == t276 && (t263 == t277 && (t264 == t278 && (t265 == t279 && (t266 == t280 && (t267 == t281 && (t268 == t282 && (t269 == t283 && (t270 == t284 && (t271 == t285 && (t272.toList == t286.toList)))))))))))) = true:=c24
        have c24q:=c24
        simp only [Bool.not_false,Bool.not_true,Bool.true_and,Bool.and_eq_true,Bool.or_eq_false_iff,Bool.not_eq_eq_eq_not,beq_iff_eq] at c24q
        replace c24q:=eq_true c24q
        obtain ⟨uc24_0,uc24_1,uc24_2,uc24_3,uc24_4,uc24_5,uc24_6,uc24_7,uc24_8,uc24_9,uc24_10,uc24_11⟩:=of_eq_true c24q
        replace uc24_0:=eq_true uc24_0
        replace uc24_1:=eq_true uc24_1
        replace uc24_2:=eq_true uc24_2
        replace uc24_3:=eq_true uc24_3
        replace uc24_4:=eq_true uc24_4
        replace uc24_5:=eq_true uc24_5
        replace uc24_6:=eq_true uc24_6
        replace uc24_7:=eq_true uc24_7
        replace uc24_8:=eq_true uc24_8
        replace uc24_9:=eq_true uc24_9
        replace uc24_10:=eq_true uc24_10
        replace uc24_11:=eq_true uc24_11
        (try (have c24b1 : decide (t261 = t275 && (t262 == t276 && (t263 == t277 && (t264 == t278 && (t265 == t279 && (t266 == t280 && (t267 == t281 && (t268 == t282 && (t269 == t283 && (t270 == t284 && (t271 == t285 && (t272.toList == t286.toList)))))))))))) = true:=by simpa using c24))
        (try (have c24b2 : (t261 == t275 && (t262 == t276 && (t263 == t277 && (t264 == t278 && (t265 == t279 && (t266 == t280 && (t267 == t281 && (t268 == t282 && (t269 == t283 && (t270 == t284 && (t271 == t285 && (t272.toList == t286.toList)))))))))))) = true:=by simpa using c24))
        clear c24
        by_cases c25 : t273 = t287
        ·rw [if_pos c25] at H
         have c25b0 : (t273 == t287) = true:=beq_iff_eq.mpr c25
         have c25b1 : (t273 != t287) = false:=bne_eq_false_iff_eq.mpr c25
         clear c25
         replace H:=Option.bind_eq_some_iff.mp H
         obtain ⟨⟨t291,t292,t293,t294,t295,t296,t297,t298,t299,t300,t301,t302⟩,A260,H⟩:=H
         replace H : ((dominoref05_Default.f).bind fun bt303 => (some (t291 == bt303.1 && (t292 == bt303.2.1 && (t293 == bt303.2.2.1 && (t294 == bt303.2.2.2.1 && (t295 == bt303.2.2.2.2.1 && (t296 == bt303.2.2.2.2.2.1 && (t297 == bt303.2.2.2.2.2.2.1 && (t298 == bt303.2.2.2.2.2.2.2.1 && (t299 == bt303.2.2.2.2.2.2.2.2.1 && (t300 == bt303.2.2.2.2.2.2.2.2.2.1 && (t301 == bt303.2.2.2.2.2.2.2.2.2.2.1 && (t302.toList == bt303.2.2.2.2.2.2.2.2.2.2.2.toList)))))))))))))) = some r:=H
         have A26:=am_ A260
         clear A260
         replace H:=Option.bind_eq_some_iff.mp H
         obtain ⟨⟨t303,t304,t305,t306,t307,t308,t309,t310,t311,t312,t313,t314⟩,A270,H⟩:=H
         replace H : (some (t291 == t303 && (t292 == t304 && (t293 == t305 && (t294 == t306 && (t295 == t307 && (t296 == t308 && (t297 == t309 && (t298 == t310 && (t299 == t311 && (t300 == t312 && (t301 == t313 && (t302.toList == t314.toList))))))))))))) = some r:=H
         have A27:=am_ A270
         clear A270
         have hD_ : (some (t291,t292,t293,t294,t295,t296,t297,t298,t299,t300,t301,t302) : Option (Int × Int × Int × Int × Int × Int × Int × Int × Int × Int × Int × ByteArray)) = some (t303,t304,t305,t306,t307,t308,t309,t310,t311,t312,t313,t314):=A26.out.symm.trans ((show params_Default.f = dominoref05_Default.f from rfl).trans A27.out)
         simp only [Option.some.injEq,Prod.mk.injEq] at hD_
         obtain ⟨eD_0,eD_1,eD_2,eD_3,eD_4,eD_5,eD_6,eD_7,eD_8,eD_9,eD_10,eD_11⟩:=hD_
         replace eD_11:=congrArg ByteArray.toList eD_11
         replace eD_0:=eq_true eD_0
         replace eD_1:=eq_true eD_1
         replace eD_2:=eq_true eD_2
         replace eD_3:=eq_true eD_3
         replace eD_4:=eq_true eD_4
         replace eD_5:=eq_true eD_5
         replace eD_6:=eq_true eD_6
         replace eD_7:=eq_true eD_7
         replace eD_8:=eq_true eD_8
         replace eD_9:=eq_true eD_9
         replace eD_10:=eq_true eD_10
         replace eD_11:=eq_true eD_11
         obtain rfl:=Option.some.inj H
         have hcz28_0 : wc.cell? ⟨gb253,0,none⟩ = some (.int .u64 a0_0):=(kc_ BK253.out 0).trans rfl
         have hcz28_1 : wc.cell? ⟨gb253,1,none⟩ = some (.int .u64 a0_1):=(kc_ BK253.out 1).trans rfl
         have hcz28_2 : wc.cell? ⟨gb253,2,none⟩ = some (.int .u64 a0_2):=(kc_ BK253.out 2).trans rfl
         have hcz28_3 : wc.cell? ⟨gb253,3,none⟩ = some (.int .u64 a0_3):=(kc_ BK253.out 3).trans rfl
         have hcz28_4 : wc.cell? ⟨gb253,4,none⟩ = some (.int .u64 a0_4):=(kc_ BK253.out 4).trans rfl
         have hcz28_5 : wc.cell? ⟨gb253,5,none⟩ = some (.int .u64 a0_5):=(kc_ BK253.out 5).trans rfl
         have hcz28_6 : wc.cell? ⟨gb253,6,none⟩ = some (.int .u64 a0_6):=(kc_ BK253.out 6).trans rfl
         have hcz28_7 : wc.cell? ⟨gb253,7,none⟩ = some (.int .u64 a0_7):=(kc_ BK253.out 7).trans rfl
         have hcz28_8 : wc.cell? ⟨gb253,8,none⟩ = some (.int .u64 a0_8):=(kc_ BK253.out 8).trans rfl
         have hcz28_9 : wc.cell? ⟨gb253,9,none⟩ = some (.int .u64 a0_9):=(kc_ BK253.out 9).trans rfl
         have hcz28_10 : wc.cell? ⟨gb253,10,none⟩ = some (.int .u64 a0_10):=(kc_ BK253.out 10).trans rfl
         have hcz28_11 : wc.cell? ⟨gb253,11,none⟩ = some (.string a0_11):=(kc_ BK253.out 11).trans rfl
         have hfz28_0:=blk_frozen BK253.out 0
         have hfz28_1:=blk_frozen BK253.out 1
         have hfz28_2:=blk_frozen BK253.out 2
         have hfz28_3:=blk_frozen BK253.out 3
         have hfz28_4:=blk_frozen BK253.out 4
         have hfz28_5:=blk_frozen BK253.out 5
         have hfz28_6:=blk_frozen BK253.out 6
         have hfz28_7:=blk_frozen BK253.out 7
         have hfz28_8:=blk_frozen BK253.out 8
         have hfz28_9:=blk_frozen BK253.out 9
         have hfz28_10:=blk_frozen BK253.out 10
         have hfz28_11:=blk_frozen BK253.out 11
         try go_wp2_with (first|((with_reducible refine gate_dst (N:=5) rfl ?_);(try (refine gate_guard (by rfl) ?_;dsimp only));refine box_event ?hg (N:=5) ?hd (cs:=kk0_) (t:=26) ?hr ?_;(case hd => rfl);(case hg => rfl);(case hr => first|(go_simp;done)|(go_simp;rfl));intro gb256 hg w29 hbox hb;have n0_:=am_ (blk_below (g:=gb253) (o:=.cells #[.int .u64 a0_0,.int .u64 a0_1,.int .u64 a0_2,.int .u64 a0_3,.int .u64 a0_4,.int .u64 a0_5,.int .u64 a0_6,.int .u64 a0_7,.int .u64 a0_8,.int .u64 a0_9,.int .u64 a0_10,.string a0_11] 24 (0,0)) (by (with_reducible repeat (first|refine kn_ ?_ _|refine kd_ ?_|refine ka_ ?_ _));exact BK253.out) hb);have n1_:=am_ (below_step (by repeat (first|(with_reducible first|exact HB.out|apply ba_|apply pn_|apply pd_|refine bs_ ?_ GE253.out)|exact HB.out)) hb);have n2_:=am_ (hbox);have n3_:=am_ ((by rw [hg];exact (below_size (by repeat (first|(with_reducible first|exact HB.out|apply ba_|apply pn_|apply pd_|refine bs_ ?_ GE253.out)|exact HB.out))) : w.heap.size ≤ gb256));have n4_:=am_ ((by rw [hg];exact (below_size (by repeat (first|(with_reducible first|exact HB.out|apply ba_|apply pn_|apply pd_|refine bs_ ?_ GE253.out)|exact HB.out))) : w.heap.size ≤ gb256));have n5_:=am_ ((by rw [hg];exact Nat.ne_of_lt (blk_lt (g:=gb253) (o:=.cells #[.int .u64 a0_0,.int .u64 a0_1,.int .u64 a0_2,.int .u64 a0_3,.int .u64 a0_4,.int .u64 a0_5,.int .u64 a0_6,.int .u64 a0_7,.int .u64 a0_8,.int .u64 a0_9,.int .u64 a0_10,.string a0_11] 24 (0,0)) (by (with_reducible repeat (first|refine kn_ ?_ _|refine kd_ ?_|refine ka_ ?_ _));exact BK253.out)) : gb253 ≠ gb256));have n6_:=am_ ((by rw [hg];exact Nat.ne_of_gt (blk_lt (g:=gb253) (o:=.cells #[.int .u64 a0_0,.int .u64 a0_1,.int .u64 a0_2,.int .u64 a0_3,.int .u64 a0_4,.int .u64 a0_5,.int .u64 a0_6,.int .u64 a0_7,.int .u64 a0_8,.int .u64 a0_9,.int .u64 a0_10,.string a0_11] 24 (0,0)) (by (with_reducible repeat (first|refine kn_ ?_ _|refine kd_ ?_|refine ka_ ?_ _));exact BK253.out)) : gb256 ≠ gb253));clear BK253;clear HB;have BK253:=n0_;have HB:=n1_;have BK256:=n2_;have GW256:=n3_;have GE256:=n4_;have NB253_256:=n5_;have NB256_253:=n6_;clear n0_ n1_ n2_ n3_ n4_ n5_ n6_;clear hb hbox hg;have hnb30:=NB256_253.out;have hnc30:=NB253_256.out;have hcz31_0 : w29.cell? ⟨gb256,0,none⟩ = some (.int .u64 0):=(kc_ BK256.out 0).trans rfl;have hcz31_1 : w29.cell? ⟨gb256,1,none⟩ = some (.int .u64 0):=(kc_ BK256.out 1).trans rfl;have hcz31_2 : w29.cell? ⟨gb256,2,none⟩ = some (.int .u64 0):=(kc_ BK256.out 2).trans rfl;have hcz31_3 : w29.cell? ⟨gb256,3,none⟩ = some (.int .u64 0):=(kc_ BK256.out 3).trans rfl;have hcz31_4 : w29.cell? ⟨gb256,4,none⟩ = some (.int .u64 0):=(kc_ BK256.out 4).trans rfl;have hcz31_5 : w29.cell? ⟨gb256,5,none⟩ = some (.int .u64 0):=(kc_ BK256.out 5).trans rfl;have hcz31_6 : w29.cell? ⟨gb256,6,none⟩ = some (.int .u64 0):=(kc_ BK256.out 6).trans rfl;have hcz31_7 : w29.cell? ⟨gb256,7,none⟩ = some (.int .u64 0):=(kc_ BK256.out 7).trans rfl;have hcz31_8 : w29.cell? ⟨gb256,8,none⟩ = some (.int .u64 0):=(kc_ BK256.out 8).trans rfl;have hcz31_9 : w29.cell? ⟨gb256,9,none⟩ = some (.int .u64 0):=(kc_ BK256.out 9).trans rfl;have hcz31_10 : w29.cell? ⟨gb256,10,none⟩ = some (.int .u64 0):=(kc_ BK256.out 10).trans rfl;have hcz31_11 : w29.cell? ⟨gb256,11,none⟩ = some (.string (⟨#[]⟩ : ByteArray)):=(kc_ BK256.out 11).trans rfl;have hfz31_0:=blk_frozen BK256.out 0;have hfz31_1:=blk_frozen BK256.out 1;have hfz31_2:=blk_frozen BK256.out 2;have hfz31_3:=blk_frozen BK256.out 3;have hfz31_4:=blk_frozen BK256.out 4;have hfz31_5:=blk_frozen BK256.out 5;have hfz31_6:=blk_frozen BK256.out 6;have hfz31_7:=blk_frozen BK256.out 7;have hfz31_8:=blk_frozen BK256.out 8;have hfz31_9:=blk_frozen BK256.out 9;have hfz31_10:=blk_frozen BK256.out 10;have hfz31_11:=blk_frozen BK256.out 11;have hcz32_0 : w29.cell? ⟨gb253,0,none⟩ = some (.int .u64 a0_0):=(kc_ BK253.out 0).trans rfl;have hcz32_1 : w29.cell? ⟨gb253,1,none⟩ = some (.int .u64 a0_1):=(kc_ BK253.out 1).trans rfl;have hcz32_2 : w29.cell? ⟨gb253,2,none⟩ = some (.int .u64 a0_2):=(kc_ BK253.out 2).trans rfl;have hcz32_3 : w29.cell? ⟨gb253,3,none⟩ = some (.int .u64 a0_3):=(kc_ BK253.out 3).trans rfl;have hcz32_4 : w29.cell? ⟨gb253,4,none⟩ = some (.int .u64 a0_4):=(kc_ BK253.out 4).trans rfl;have hcz32_5 : w29.cell? ⟨gb253,5,none⟩ = some (.int .u64 a0_5):=(kc_ BK253.out 5).trans rfl;have hcz32_6 : w29.cell? ⟨gb253,6,none⟩ = some (.int .u64 a0_6):=(kc_ BK253.out 6).trans rfl;have hcz32_7 : w29.cell? ⟨gb253,7,none⟩ = some (.int .u64 a0_7):=(kc_ BK253.out 7).trans rfl;have hcz32_8 : w29.cell? ⟨gb253,8,none⟩ = some (.int .u64 a0_8):=(kc_ BK253.out 8).trans rfl;have hcz32_9 : w29.cell? ⟨gb253,9,none⟩ = some (.int .u64 a0_9):=(kc_ BK253.out 9).trans rfl;have hcz32_10 : w29.cell? ⟨gb253,10,none⟩ = some (.int .u64 a0_10):=(kc_ BK253.out 10).trans rfl;have hcz32_11 : w29.cell? ⟨gb253,11,none⟩ = some (.string a0_11):=(kc_ BK253.out 11).trans rfl;have hfz32_0:=blk_frozen BK253.out 0;have hfz32_1:=blk_frozen BK253.out 1;have hfz32_2:=blk_frozen BK253.out 2;have hfz32_3:=blk_frozen BK253.out 3;have hfz32_4:=blk_frozen BK253.out 4;have hfz32_5:=blk_frozen BK253.out 5;have hfz32_6:=blk_frozen BK253.out 6;have hfz32_7:=blk_frozen BK253.out 7;have hfz32_8:=blk_frozen BK253.out 8;have hfz32_9:=blk_frozen BK253.out 9;have hfz32_10:=blk_frozen BK253.out 10;have hfz32_11:=blk_frozen BK253.out 11; skip)|((with_reducible refine gate_callee (f:=9) rfl ?_);refine goesL_ (some 31) rfl rfl Tryd.func9 (by kernel_rfl) rfl #[.agg #[.int .u64 a0_0,.int .u64 a0_1,.int .u64 a0_2,.int .u64 a0_3,.int .u64 a0_4,.int .u64 a0_5,.int .u64 a0_6,.int .u64 a0_7,.int .u64 a0_8,.int .u64 a0_9,.int .u64 a0_10,.string a0_11]] rfl (by (try simp only [List.map_toArray,List.map_cons,List.map_nil]);first|done|rfl|(simp only [List.length_drop,List.length_take];rfl)) ?_;(with_reducible refine (params_Put.calls a0_0 a0_1 a0_2 a0_3 a0_4 a0_5 a0_6 a0_7 a0_8 a0_9 a0_10 a0_11 t257 t258 _ (by first|exact HTab.out|exact tab_below HTab.out HB.out|exact tab_below HTab.out (by repeat (first|exact HB.out|exact Below.refl _ _|apply ba_|apply pn_|apply pd_|refine bs_ ?_ GE253.out|refine bs_ ?_ GE256.out|refine bs_ ?_ GE274.out|refine bs_ ?_ GE288.out))) A15.out).mono ?_);rintro e w33 ⟨rfl,hb⟩;refine ⟨_,rfl,?_⟩;have n0_:=am_ (blk_below (g:=gb253) (o:=.cells #[.int .u64 a0_0,.int .u64 a0_1,.int .u64 a0_2,.int .u64 a0_3,.int .u64 a0_4,.int .u64 a0_5,.int .u64 a0_6,.int .u64 a0_7,.int .u64 a0_8,.int .u64 a0_9,.int .u64 a0_10,.string a0_11] 24 (0,0)) (by (with_reducible repeat (first|refine kn_ ?_ _|refine kd_ ?_|refine ka_ ?_ _));refine blk_far ?_ NB253_256.out _;(with_reducible repeat (first|refine kn_ ?_ _|refine kd_ ?_|refine ka_ ?_ _));refine blk_far ?_ NB253_256.out _;(with_reducible repeat (first|refine kn_ ?_ _|refine kd_ ?_|refine ka_ ?_ _));refine blk_far ?_ NB253_256.out _;(with_reducible repeat (first|refine kn_ ?_ _|refine kd_ ?_|refine ka_ ?_ _));refine blk_far ?_ NB253_256.out _;(with_reducible repeat (first|refine kn_ ?_ _|refine kd_ ?_|refine ka_ ?_ _));refine blk_far ?_ NB253_256.out _;(with_reducible repeat (first|refine kn_ ?_ _|refine kd_ ?_|refine ka_ ?_ _));refine blk_far ?_ NB253_256.out _;(with_reducible repeat (first|refine kn_ ?_ _|refine kd_ ?_|refine ka_ ?_ _));refine blk_far ?_ NB253_256.out _;(with_reducible repeat (first|refine kn_ ?_ _|refine kd_ ?_|refine ka_ ?_ _));refine blk_far ?_ NB253_256.out _;(with_reducible repeat (first|refine kn_ ?_ _|refine kd_ ?_|refine ka_ ?_ _));refine blk_far ?_ NB253_256.out _;(with_reducible repeat (first|refine kn_ ?_ _|refine kd_ ?_|refine ka_ ?_ _));refine blk_far ?_ NB253_256.out _;(with_reducible repeat (first|refine kn_ ?_ _|refine kd_ ?_|refine ka_ ?_ _));refine blk_far ?_ NB253_256.out _;(with_reducible repeat (first|refine kn_ ?_ _|refine kd_ ?_|refine ka_ ?_ _));refine blk_far ?_ NB253_256.out _;(with_reducible repeat (first|refine kn_ ?_ _|refine kd_ ?_|refine ka_ ?_ _));exact BK253.out) hb);have n1_:=am_ (blk_below (g:=gb256) (o:=.cells #[.int .u64 a0_0,.int .u64 a0_1,.int .u64 a0_2,.int .u64 a0_3,.int .u64 a0_4,.int .u64 a0_5,.int .u64 a0_6,.int .u64 a0_7,.int .u64 a0_8,.int .u64 a0_9,.int .u64 a0_10,.string a0_11] 26 (0,0)) (by (with_reducible repeat (first|refine kn_ ?_ _|refine kd_ ?_|refine ka_ ?_ _));refine blk_put (cs:=#[.int .u64 a0_0,.int .u64 a0_1,.int .u64 a0_2,.int .u64 a0_3,.int .u64 a0_4,.int .u64 a0_5,.int .u64 a0_6,.int .u64 a0_7,.int .u64 a0_8,.int .u64 a0_9,.int .u64 a0_10,.string (⟨#[]⟩ : ByteArray)]) ?_ 11 _ rfl;(with_reducible repeat (first|refine kn_ ?_ _|refine kd_ ?_|refine ka_ ?_ _));refine blk_put (cs:=#[.int .u64 a0_0,.int .u64 a0_1,.int .u64 a0_2,.int .u64 a0_3,.int .u64 a0_4,.int .u64 a0_5,.int .u64 a0_6,.int .u64 a0_7,.int .u64 a0_8,.int .u64 a0_9,.int .u64 0,.string (⟨#[]⟩ : ByteArray)]) ?_ 10 _ rfl;(with_reducible repeat (first|refine kn_ ?_ _|refine kd_ ?_|refine ka_ ?_ _));refine blk_put (cs:=#[.int .u64 a0_0,.int .u64 a0_1,.int .u64 a0_2,.int .u64 a0_3,.int .u64 a0_4,.int .u64 a0_5,.int .u64 a0_6,.int .u64 a0_7,.int .u64 a0_8,.int .u64 0,.int .u64 0,.string (⟨#[]⟩ : ByteArray)]) ?_ 9 _ rfl;(with_reducible repeat (first|refine kn_ ?_ _|refine kd_ ?_|refine ka_ ?_ _));refine blk_put (cs:=#[.int .u64 a0_0,.int .u64 a0_1,.int .u64 a0_2,.int .u64 a0_3,.int .u64 a0_4,.int .u64 a0_5,.int .u64 a0_6,.int .u64 a0_7,.int .u64 0,.int .u64 0,.int .u64 0,.string (⟨#[]⟩ : ByteArray)]) ?_ 8 _ rfl;(with_reducible repeat (first|refine kn_ ?_ _|refine kd_ ?_|refine ka_ ?_ _));refine blk_put (cs:=#[.int .u64 a0_0,.int .u64 a0_1,.int .u64 a0_2,.int .u64 a0_3,.int .u64 a0_4,.int .u64 a0_5,.int .u64 a0_6,.int .u64 0,.int .u64 0,.int .u64 0,.int .u64 0,.string (⟨#[]⟩ : ByteArray)]) ?_ 7 _ rfl;(with_reducible repeat (first|refine kn_ ?_ _|refine kd_ ?_|refine ka_ ?_ _));refine blk_put (cs:=#[.int .u64 a0_0,.int .u64 a0_1,.int .u64 a0_2,.int .u64 a0_3,.int .u64 a0_4,.int .u64 a0_5,.int .u64 0,.int .u64 0,.int .u64 0,.int .u64 0,.int .u64 0,.string (⟨#[]⟩ : ByteArray)]) ?_ 6 _ rfl;(with_reducible repeat (first|refine kn_ ?_ _|refine kd_ ?_|refine ka_ ?_ _));refine blk_put (cs:=#[.int .u64 a0_0,.int .u64 a0_1,.int .u64 a0_2,.int .u64 a0_3,.int .u64 a0_4,.int .u64 0,.int .u64 0,.int .u64 0,.int .u64 0,.int .u64 0,.int .u64 0,.string (⟨#[]⟩ : ByteArray)]) ?_ 5 _ rfl;(with_reducible repeat (first|refine kn_ ?_ _|refine kd_ ?_|refine ka_ ?_ _));refine blk_put (cs:=#[.int .u64 a0_0,.int .u64 a0_1,.int .u64 a0_2,.int .u64 a0_3,.int .u64 0,.int .u64 0,.int .u64 0,.int .u64 0,.int .u64 0,.int .u64 0,.int .u64 0,.string (⟨#[]⟩ : ByteArray)]) ?_ 4 _ rfl;(with_reducible repeat (first|refine kn_ ?_ _|refine kd_ ?_|refine ka_ ?_ _));refine blk_put (cs:=#[.int .u64 a0_0,.int .u64 a0_1,.int .u64 a0_2,.int .u64 0,.int .u64 0,.int .u64 0,.int .u64 0,.int .u64 0,.int .u64 0,.int .u64 0,.int .u64 0,.string (⟨#[]⟩ : ByteArray)]) ?_ 3 _ rfl;(with_reducible repeat (first|refine kn_ ?_ _|refine kd_ ?_|refine ka_ ?_ _));refine blk_put (cs:=#[.int .u64 a0_0,.int .u64 a0_1,.int .u64 0,.int .u64 0,.int .u64 0,.int .u64 0,.int .u64 0,.int .u64 0,.int .u64 0,.int .u64 0,.int .u64 0,.string (⟨#[]⟩ : ByteArray)]) ?_ 2 _ rfl;(with_reducible repeat (first|refine kn_ ?_ _|refine kd_ ?_|refine ka_ ?_ _));refine blk_put (cs:=#[.int .u64 a0_0,.int .u64 0,.int .u64 0,.int .u64 0,.int .u64 0,.int .u64 0,.int .u64 0,.int .u64 0,.int .u64 0,.int .u64 0,.int .u64 0,.string (⟨#[]⟩ : ByteArray)]) ?_ 1 _ rfl;(with_reducible repeat (first|refine kn_ ?_ _|refine kd_ ?_|refine ka_ ?_ _));refine blk_put (cs:=kk0_) ?_ 0 _ rfl;(with_reducible repeat (first|refine kn_ ?_ _|refine kd_ ?_|refine ka_ ?_ _));exact BK256.out) hb);have n2_:=am_ (below_step (by repeat (first|(with_reducible first|exact HB.out|apply ba_|apply pn_|apply pd_|refine bs_ ?_ GE253.out|refine bs_ ?_ GE256.out)|exact HB.out)) hb);clear BK253;clear BK256;clear HB;have BK253:=n0_;have BK256:=n1_;have HB:=n2_;clear n0_ n1_ n2_;(try clear hb);(try clear hb2);(try clear hk);(try clear hi);have hcz34_0 : w33.cell? ⟨gb256,0,none⟩ = some (.int .u64 a0_0):=(kc_ BK256.out 0).trans rfl;have hcz34_1 : w33.cell? ⟨gb256,1,none⟩ = some (.int .u64 a0_1):=(kc_ BK256.out 1).trans rfl;have hcz34_2 : w33.cell? ⟨gb256,2,none⟩ = some (.int .u64 a0_2):=(kc_ BK256.out 2).trans rfl;have hcz34_3 : w33.cell? ⟨gb256,3,none⟩ = some (.int .u64 a0_3):=(kc_ BK256.out 3).trans rfl;have hcz34_4 : w33.cell? ⟨gb256,4,none⟩ = some (.int .u64 a0_4):=(kc_ BK256.out 4).trans rfl;have hcz34_5 : w33.cell? ⟨gb256,5,none⟩ = some (.int .u64 a0_5):=(kc_ BK256.out 5).trans rfl;have hcz34_6 : w33.cell? ⟨gb256,6,none⟩ = some (.int .u64 a0_6):=(kc_ BK256.out 6).trans rfl;have hcz34_7 : w33.cell? ⟨gb256,7,none⟩ = some (.int .u64 a0_7):=(kc_ BK256.out 7).trans rfl;have hcz34_8 : w33.cell? ⟨gb256,8,none⟩ = some (.int .u64 a0_8):=(kc_ BK256.out 8).trans rfl;have hcz34_9 : w33.cell? ⟨gb256,9,none⟩ = some (.int .u64 a0_9):=(kc_ BK256.out 9).trans rfl;have hcz34_10 : w33.cell? ⟨gb256,10,none⟩ = some (.int .u64 a0_10):=(kc_ BK256.out 10).trans rfl;have hcz34_11 : w33.cell? ⟨gb256,11,none⟩ = some (.string a0_11):=(kc_ BK256.out 11).trans rfl;have hfz34_0:=blk_frozen BK256.out 0;have hfz34_1:=blk_frozen BK256.out 1;have hfz34_2:=blk_frozen BK256.out 2;have hfz34_3:=blk_frozen BK256.out 3;have hfz34_4:=blk_frozen BK256.out 4;have hfz34_5:=blk_frozen BK256.out 5;have hfz34_6:=blk_frozen BK256.out 6;have hfz34_7:=blk_frozen BK256.out 7;have hfz34_8:=blk_frozen BK256.out 8;have hfz34_9:=blk_frozen BK256.out 9;have hfz34_10:=blk_frozen BK256.out 10;have hfz34_11:=blk_frozen BK256.out 11; skip)|((with_reducible refine gate_callee (f:=10) rfl ?_);refine goesL_ (some 36) rfl rfl Tryd.func10 (by kernel_rfl) rfl #[.agg #[.int .u64 a0_0,.int .u64 a0_1,.int .u64 a0_2,.int .u64 a0_3,.int .u64 a0_4,.int .u64 a0_5,.int .u64 a0_6,.int .u64 a0_7,.int .u64 a0_8,.int .u64 a0_9,.int .u64 a0_10,.string a0_11]] rfl (by (try simp only [List.map_toArray,List.map_cons,List.map_nil]);first|done|rfl|(simp only [List.length_drop,List.length_take];rfl)) ?_;(with_reducible refine (dominoref05_Put.calls kj2 a0_0 a0_1 a0_2 a0_3 a0_4 a0_5 a0_6 a0_7 a0_8 a0_9 a0_10 a0_11 t259 t260 _ A16.out).mono ?_);rintro e w35 ⟨rfl,hb⟩;refine ⟨_,rfl,?_⟩;have n0_:=am_ (blk_below (g:=gb253) (o:=.cells #[.int .u64 a0_0,.int .u64 a0_1,.int .u64 a0_2,.int .u64 a0_3,.int .u64 a0_4,.int .u64 a0_5,.int .u64 a0_6,.int .u64 a0_7,.int .u64 a0_8,.int .u64 a0_9,.int .u64 a0_10,.string a0_11] 24 (0,0)) (by (with_reducible repeat (first|refine kn_ ?_ _|refine kd_ ?_|refine ka_ ?_ _));exact BK253.out) hb);have n1_:=am_ (blk_below (g:=gb256) (o:=.cells #[.int .u64 a0_0,.int .u64 a0_1,.int .u64 a0_2,.int .u64 a0_3,.int .u64 a0_4,.int .u64 a0_5,.int .u64 a0_6,.int .u64 a0_7,.int .u64 a0_8,.int .u64 a0_9,.int .u64 a0_10,.string a0_11] 26 (0,0)) (by (with_reducible repeat (first|refine kn_ ?_ _|refine kd_ ?_|refine ka_ ?_ _));exact BK256.out) hb);have n2_:=am_ (below_step (by repeat (first|(with_reducible first|exact HB.out|apply ba_|apply pn_|apply pd_|refine bs_ ?_ GE253.out|refine bs_ ?_ GE256.out)|exact HB.out)) hb);clear BK253;clear BK256;clear HB;have BK253:=n0_;have BK256:=n1_;have HB:=n2_;clear n0_ n1_ n2_;(try clear hb);(try clear hb2);(try clear hk);(try clear hi))|((with_reducible refine gate_callee (f:=11) rfl ?_);refine goesL_ (some 41) rfl rfl Tryd.func11 (by kernel_rfl) rfl #[.string a1] rfl (by (try simp only [List.map_toArray,List.map_cons,List.map_nil]);first|done|rfl|(simp only [List.length_drop,List.length_take];rfl)) ?_;(with_reducible refine (params_Get.calls kj2 a1 t261 t262 t263 t264 t265 t266 t267 t268 t269 t270 t271 t272 t273 _ A17.out).mono ?_);rintro e w36 ⟨rfl,hb⟩;refine ⟨_,rfl,?_⟩;have n0_:=am_ (blk_below (g:=gb253) (o:=.cells #[.int .u64 a0_0,.int .u64 a0_1,.int .u64 a0_2,.int .u64 a0_3,.int .u64 a0_4,.int .u64 a0_5,.int .u64 a0_6,.int .u64 a0_7,.int .u64 a0_8,.int .u64 a0_9,.int .u64 a0_10,.string a0_11] 24 (0,0)) (by (with_reducible repeat (first|refine kn_ ?_ _|refine kd_ ?_|refine ka_ ?_ _));exact BK253.out) hb);have n1_:=am_ (blk_below (g:=gb256) (o:=.cells #[.int .u64 a0_0,.int .u64 a0_1,.int .u64 a0_2,.int .u64 a0_3,.int .u64 a0_4,.int .u64 a0_5,.int .u64 a0_6,.int .u64 a0_7,.int .u64 a0_8,.int .u64 a0_9,.int .u64 a0_10,.string a0_11] 26 (0,0)) (by (with_reducible repeat (first|refine kn_ ?_ _|refine kd_ ?_|refine ka_ ?_ _));exact BK256.out) hb);have n2_:=am_ (below_step (by repeat (first|(with_reducible first|exact HB.out|apply ba_|apply pn_|apply pd_|refine bs_ ?_ GE253.out|refine bs_ ?_ GE256.out)|exact HB.out)) hb);clear BK253;clear BK256;clear HB;have BK253:=n0_;have BK256:=n1_;have HB:=n2_;clear n0_ n1_ n2_;(try clear hb);(try clear hb2);(try clear hk);(try clear hi))|((with_reducible refine gate_dst (N:=10) rfl ?_);(try (refine gate_guard (by rfl) ?_;dsimp only));refine box_event ?hg (N:=10) ?hd (cs:=kk0_) (t:=24) ?hr ?_;(case hd => rfl);(case hg => rfl);(case hr => first|(go_simp;done)|(go_simp;rfl));intro gb274 hg w37 hbox hb;have n0_:=am_ (blk_below (g:=gb253) (o:=.cells #[.int .u64 a0_0,.int .u64 a0_1,.int .u64 a0_2,.int .u64 a0_3,.int .u64 a0_4,.int .u64 a0_5,.int .u64 a0_6,.int .u64 a0_7,.int .u64 a0_8,.int .u64 a0_9,.int .u64 a0_10,.string a0_11] 24 (0,0)) (by (with_reducible repeat (first|refine kn_ ?_ _|refine kd_ ?_|refine ka_ ?_ _));exact BK253.out) hb);have n1_:=am_ (blk_below (g:=gb256) (o:=.cells #[.int .u64 a0_0,.int .u64 a0_1,.int .u64 a0_2,.int .u64 a0_3,.int .u64 a0_4,.int .u64 a0_5,.int .u64 a0_6,.int .u64 a0_7,.int .u64 a0_8,.int .u64 a0_9,.int .u64 a0_10,.string a0_11] 26 (0,0)) (by (with_reducible repeat (first|refine kn_ ?_ _|refine kd_ ?_|refine ka_ ?_ _));exact BK256.out) hb);have n2_:=am_ (below_step (by repeat (first|(with_reducible first|exact HB.out|apply ba_|apply pn_|apply pd_|refine bs_ ?_ GE253.out|refine bs_ ?_ GE256.out)|exact HB.out)) hb);have n3_:=am_ (hbox);have n4_:=am_ ((by rw [hg];exact (below_size (by repeat (first|(with_reducible first|exact HB.out|apply ba_|apply pn_|apply pd_|refine bs_ ?_ GE253.out|refine bs_ ?_ GE256.out)|exact HB.out))) : w.heap.size ≤ gb274));have n5_:=am_ ((by rw [hg];exact (below_size (by repeat (first|(with_reducible first|exact HB.out|apply ba_|apply pn_|apply pd_|refine bs_ ?_ GE253.out|refine bs_ ?_ GE256.out)|exact HB.out))) : w.heap.size ≤ gb274));have n6_:=am_ ((by rw [hg];exact Nat.ne_of_lt (blk_lt (g:=gb253) (o:=.cells #[.int .u64 a0_0,.int .u64 a0_1,.int .u64 a0_2,.int .u64 a0_3,.int .u64 a0_4,.int .u64 a0_5,.int .u64 a0_6,.int .u64 a0_7,.int .u64 a0_8,.int .u64 a0_9,.int .u64 a0_10,.string a0_11] 24 (0,0)) (by (with_reducible repeat (first|refine kn_ ?_ _|refine kd_ ?_|refine ka_ ?_ _));exact BK253.out)) : gb253 ≠ gb274));have n7_:=am_ ((by rw [hg];exact Nat.ne_of_gt (blk_lt (g:=gb253) (o:=.cells #[.int .u64 a0_0,.int .u64 a0_1,.int .u64 a0_2,.int .u64 a0_3,.int .u64 a0_4,.int .u64 a0_5,.int .u64 a0_6,.int .u64 a0_7,.int .u64 a0_8,.int .u64 a0_9,.int .u64 a0_10,.string a0_11] 24 (0,0)) (by (with_reducible repeat (first|refine kn_ ?_ _|refine kd_ ?_|refine ka_ ?_ _));exact BK253.out)) : gb274 ≠ gb253));have n8_:=am_ ((by rw [hg];exact Nat.ne_of_lt (blk_lt (g:=gb256) (o:=.cells #[.int .u64 a0_0,.int .u64 a0_1,.int .u64 a0_2,.int .u64 a0_3,.int .u64 a0_4,.int .u64 a0_5,.int .u64 a0_6,.int .u64 a0_7,.int .u64 a0_8,.int .u64 a0_9,.int .u64 a0_10,.string a0_11] 26 (0,0)) (by (with_reducible repeat (first|refine kn_ ?_ _|refine kd_ ?_|refine ka_ ?_ _));exact BK256.out)) : gb256 ≠ gb274));have n9_:=am_ ((by rw [hg];exact Nat.ne_of_gt (blk_lt (g:=gb256) (o:=.cells #[.int .u64 a0_0,.int .u64 a0_1,.int .u64 a0_2,.int .u64 a0_3,.int .u64 a0_4,.int .u64 a0_5,.int .u64 a0_6,.int .u64 a0_7,.int .u64 a0_8,.int .u64 a0_9,.int .u64 a0_10,.string a0_11] 26 (0,0)) (by (with_reducible repeat (first|refine kn_ ?_ _|refine kd_ ?_|refine ka_ ?_ _));exact BK256.out)) : gb274 ≠ gb256));clear BK253;clear BK256;clear HB;have BK253:=n0_;have BK256:=n1_;have HB:=n2_;have BK274:=n3_;have GW274:=n4_;have GE274:=n5_;have NB253_274:=n6_;have NB274_253:=n7_;have NB256_274:=n8_;have NB274_256:=n9_;clear n0_ n1_ n2_ n3_ n4_ n5_ n6_ n7_ n8_ n9_;clear hb hbox hg;have hnb38:=NB274_253.out;have hnc38:=NB253_274.out;have hnb39:=NB274_256.out;have hnc39:=NB256_274.out;have hcz40_0 : w37.cell? ⟨gb274,0,none⟩ = some (.int .u64 0):=(kc_ BK274.out 0).trans rfl;have hcz40_1 : w37.cell? ⟨gb274,1,none⟩ = some (.int .u64 0):=(kc_ BK274.out 1).trans rfl;have hcz40_2 : w37.cell? ⟨gb274,2,none⟩ = some (.int .u64 0):=(kc_ BK274.out 2).trans rfl;have hcz40_3 : w37.cell? ⟨gb274,3,none⟩ = some (.int .u64 0):=(kc_ BK274.out 3).trans rfl;have hcz40_4 : w37.cell? ⟨gb274,4,none⟩ = some (.int .u64 0):=(kc_ BK274.out 4).trans rfl;have hcz40_5 : w37.cell? ⟨gb274,5,none⟩ = some (.int .u64 0):=(kc_ BK274.out 5).trans rfl;have hcz40_6 : w37.cell? ⟨gb274,6,none⟩ = some (.int .u64 0):=(kc_ BK274.out 6).trans rfl;have hcz40_7 : w37.cell? ⟨gb274,7,none⟩ = some (.int .u64 0):=(kc_ BK274.out 7).trans rfl;have hcz40_8 : w37.cell? ⟨gb274,8,none⟩ = some (.int .u64 0):=(kc_ BK274.out 8).trans rfl;have hcz40_9 : w37.cell? ⟨gb274,9,none⟩ = some (.int .u64 0):=(kc_ BK274.out 9).trans rfl;have hcz40_10 : w37.cell? ⟨gb274,10,none⟩ = some (.int .u64 0):=(kc_ BK274.out 10).trans rfl;have hcz40_11 : w37.cell? ⟨gb274,11,none⟩ = some (.string (⟨#[]⟩ : ByteArray)):=(kc_ BK274.out 11).trans rfl;have hfz40_0:=blk_frozen BK274.out 0;have hfz40_1:=blk_frozen BK274.out 1;have hfz40_2:=blk_frozen BK274.out 2;have hfz40_3:=blk_frozen BK274.out 3;have hfz40_4:=blk_frozen BK274.out 4;have hfz40_5:=blk_frozen BK274.out 5;have hfz40_6:=blk_frozen BK274.out 6;have hfz40_7:=blk_frozen BK274.out 7;have hfz40_8:=blk_frozen BK274.out 8;have hfz40_9:=blk_frozen BK274.out 9;have hfz40_10:=blk_frozen BK274.out 10;have hfz40_11:=blk_frozen BK274.out 11; skip)|((with_reducible refine gate_callee (f:=12) rfl ?_);refine goesL_ (some 46) rfl rfl Tryd.func12 (by kernel_rfl) rfl #[.string a1] rfl (by (try simp only [List.map_toArray,List.map_cons,List.map_nil]);first|done|rfl|(simp only [List.length_drop,List.length_take];rfl)) ?_;(with_reducible refine (dominoref05_Get.calls kj2 a1 t275 t276 t277 t278 t279 t280 t281 t282 t283 t284 t285 t286 t287 _ A18.out).mono ?_);rintro e w41 ⟨rfl,hb⟩;refine ⟨_,rfl,?_⟩;have n0_:=am_ (blk_below (g:=gb253) (o:=.cells #[.int .u64 a0_0,.int .u64 a0_1,.int .u64 a0_2,.int .u64 a0_3,.int .u64 a0_4,.int .u64 a0_5,.int .u64 a0_6,.int .u64 a0_7,.int .u64 a0_8,.int .u64 a0_9,.int .u64 a0_10,.string a0_11] 24 (0,0)) (by (with_reducible repeat (first|refine kn_ ?_ _|refine kd_ ?_|refine ka_ ?_ _));refine blk_far ?_ NB253_274.out _;(with_reducible repeat (first|refine kn_ ?_ _|refine kd_ ?_|refine ka_ ?_ _));refine blk_far ?_ NB253_274.out _;(with_reducible repeat (first|refine kn_ ?_ _|refine kd_ ?_|refine ka_ ?_ _));refine blk_far ?_ NB253_274.out _;(with_reducible repeat (first|refine kn_ ?_ _|refine kd_ ?_|refine ka_ ?_ _));refine blk_far ?_ NB253_274.out _;(with_reducible repeat (first|refine kn_ ?_ _|refine kd_ ?_|refine ka_ ?_ _));refine blk_far ?_ NB253_274.out _;(with_reducible repeat (first|refine kn_ ?_ _|refine kd_ ?_|refine ka_ ?_ _));refine blk_far ?_ NB253_274.out _;(with_reducible repeat (first|refine kn_ ?_ _|refine kd_ ?_|refine ka_ ?_ _));refine blk_far ?_ NB253_274.out _;(with_reducible repeat (first|refine kn_ ?_ _|refine kd_ ?_|refine ka_ ?_ _));refine blk_far ?_ NB253_274.out _;(with_reducible repeat (first|refine kn_ ?_ _|refine kd_ ?_|refine ka_ ?_ _));refine blk_far ?_ NB253_274.out _;(with_reducible repeat (first|refine kn_ ?_ _|refine kd_ ?_|refine ka_ ?_ _));refine blk_far ?_ NB253_274.out _;(with_reducible repeat (first|refine kn_ ?_ _|refine kd_ ?_|refine ka_ ?_ _));refine blk_far ?_ NB253_274.out _;(with_reducible repeat (first|refine kn_ ?_ _|refine kd_ ?_|refine ka_ ?_ _));refine blk_far ?_ NB253_274.out _;(with_reducible repeat (first|refine kn_ ?_ _|refine kd_ ?_|refine ka_ ?_ _));exact BK253.out) hb);have n1_:=am_ (blk_below (g:=gb256) (o:=.cells #[.int .u64 a0_0,.int .u64 a0_1,.int .u64 a0_2,.int .u64 a0_3,.int .u64 a0_4,.int .u64 a0_5,.int .u64 a0_6,.int .u64 a0_7,.int .u64 a0_8,.int .u64 a0_9,.int .u64 a0_10,.string a0_11] 26 (0,0)) (by (with_reducible repeat (first|refine kn_ ?_ _|refine kd_ ?_|refine ka_ ?_ _));refine blk_far ?_ NB256_274.out _;(with_reducible repeat (first|refine kn_ ?_ _|refine kd_ ?_|refine ka_ ?_ _));refine blk_far ?_ NB256_274.out _;(with_reducible repeat (first|refine kn_ ?_ _|refine kd_ ?_|refine ka_ ?_ _));refine blk_far ?_ NB256_274.out _;(with_reducible repeat (first|refine kn_ ?_ _|refine kd_ ?_|refine ka_ ?_ _));refine blk_far ?_ NB256_274.out _;(with_reducible repeat (first|refine kn_ ?_ _|refine kd_ ?_|refine ka_ ?_ _));refine blk_far ?_ NB256_274.out _;(with_reducible repeat (first|refine kn_ ?_ _|refine kd_ ?_|refine ka_ ?_ _));refine blk_far ?_ NB256_274.out _;(with_reducible repeat (first|refine kn_ ?_ _|refine kd_ ?_|refine ka_ ?_ _));refine blk_far ?_ NB256_274.out _;(with_reducible repeat (first|refine kn_ ?_ _|refine kd_ ?_|refine ka_ ?_ _));refine blk_far ?_ NB256_274.out _;(with_reducible repeat (first|refine kn_ ?_ _|refine kd_ ?_|refine ka_ ?_ _));refine blk_far ?_ NB256_274.out _;(with_reducible repeat (first|refine kn_ ?_ _|refine kd_ ?_|refine ka_ ?_ _));refine blk_far ?_ NB256_274.out _;(with_reducible repeat (first|refine kn_ ?_ _|refine kd_ ?_|refine ka_ ?_ _));refine blk_far ?_ NB256_274.out _;(with_reducible repeat (first|refine kn_ ?_ _|refine kd_ ?_|refine ka_ ?_ _));refine blk_far ?_ NB256_274.out _;(with_reducible repeat (first|refine kn_ ?_ _|refine kd_ ?_|refine ka_ ?_ _));exact BK256.out) hb);have n2_:=am_ (blk_below (g:=gb274) (o:=.cells #[.int .u64 t261,.int .u64 t262,.int .u64 t263,.int .u64 t264,.int .u64 t265,.int .u64 t266,.int .u64 t267,.int .u64 t268,.int .u64 t269,.int .u64 t270,.int .u64 t271,.string t272] 24 (0,0)) (by (with_reducible repeat (first|refine kn_ ?_ _|refine kd_ ?_|refine ka_ ?_ _));refine blk_put (cs:=#[.int .u64 t261,.int .u64 t262,.int .u64 t263,.int .u64 t264,.int .u64 t265,.int .u64 t266,.int .u64 t267,.int .u64 t268,.int .u64 t269,.int .u64 t270,.int .u64 t271,.string (⟨#[]⟩ : ByteArray)]) ?_ 11 _ rfl;(with_reducible repeat (first|refine kn_ ?_ _|refine kd_ ?_|refine ka_ ?_ _));refine blk_put (cs:=#[.int .u64 t261,.int .u64 t262,.int .u64 t263,.int .u64 t264,.int .u64 t265,.int .u64 t266,.int .u64 t267,.int .u64 t268,.int .u64 t269,.int .u64 t270,.int .u64 0,.string (⟨#[]⟩ : ByteArray)]) ?_ 10 _ rfl;(with_reducible repeat (first|refine kn_ ?_ _|refine kd_ ?_|refine ka_ ?_ _));refine blk_put (cs:=#[.int .u64 t261,.int .u64 t262,.int .u64 t263,.int .u64 t264,.int .u64 t265,.int .u64 t266,.int .u64 t267,.int .u64 t268,.int .u64 t269,.int .u64 0,.int .u64 0,.string (⟨#[]⟩ : ByteArray)]) ?_ 9 _ rfl;(with_reducible repeat (first|refine kn_ ?_ _|refine kd_ ?_|refine ka_ ?_ _));refine blk_put (cs:=#[.int .u64 t261,.int .u64 t262,.int .u64 t263,.int .u64 t264,.int .u64 t265,.int .u64 t266,.int .u64 t267,.int .u64 t268,.int .u64 0,.int .u64 0,.int .u64 0,.string (⟨#[]⟩ : ByteArray)]) ?_ 8 _ rfl;(with_reducible repeat (first|refine kn_ ?_ _|refine kd_ ?_|refine ka_ ?_ _));refine blk_put (cs:=#[.int .u64 t261,.int .u64 t262,.int .u64 t263,.int .u64 t264,.int .u64 t265,.int .u64 t266,.int .u64 t267,.int .u64 0,.int .u64 0,.int .u64 0,.int .u64 0,.string (⟨#[]⟩ : ByteArray)]) ?_ 7 _ rfl;(with_reducible repeat (first|refine kn_ ?_ _|refine kd_ ?_|refine ka_ ?_ _));refine blk_put (cs:=#[.int .u64 t261,.int .u64 t262,.int .u64 t263,.int .u64 t264,.int .u64 t265,.int .u64 t266,.int .u64 0,.int .u64 0,.int .u64 0,.int .u64 0,.int .u64 0,.string (⟨#[]⟩ : ByteArray)]) ?_ 6 _ rfl;(with_reducible repeat (first|refine kn_ ?_ _|refine kd_ ?_|refine ka_ ?_ _));refine blk_put (cs:=#[.int .u64 t261,.int .u64 t262,.int .u64 t263,.int .u64 t264,.int .u64 t265,.int .u64 0,.int .u64 0,.int .u64 0,.int .u64 0,.int .u64 0,.int .u64 0,.string (⟨#[]⟩ : ByteArray)]) ?_ 5 _ rfl;(with_reducible repeat (first|refine kn_ ?_ _|refine kd_ ?_|refine ka_ ?_ _));refine blk_put (cs:=#[.int .u64 t261,.int .u64 t262,.int .u64 t263,.int .u64 t264,.int .u64 0,.int .u64 0,.int .u64 0,.int .u64 0,.int .u64 0,.int .u64 0,.int .u64 0,.string (⟨#[]⟩ : ByteArray)]) ?_ 4 _ rfl;(with_reducible repeat (first|refine kn_ ?_ _|refine kd_ ?_|refine ka_ ?_ _));refine blk_put (cs:=#[.int .u64 t261,.int .u64 t262,.int .u64 t263,.int .u64 0,.int .u64 0,.int .u64 0,.int .u64 0,.int .u64 0,.int .u64 0,.int .u64 0,.int .u64 0,.string (⟨#[]⟩ : ByteArray)]) ?_ 3 _ rfl;(with_reducible repeat (first|refine kn_ ?_ _|refine kd_ ?_|refine ka_ ?_ _));refine blk_put (cs:=#[.int .u64 t261,.int .u64 t262,.int .u64 0,.int .u64 0,.int .u64 0,.int .u64 0,.int .u64 0,.int .u64 0,.int .u64 0,.int .u64 0,.int .u64 0,.string (⟨#[]⟩ : ByteArray)]) ?_ 2 _ rfl;(with_reducible repeat (first|refine kn_ ?_ _|refine kd_ ?_|refine ka_ ?_ _));refine blk_put (cs:=#[.int .u64 t261,.int .u64 0,.int .u64 0,.int .u64 0,.int .u64 0,.int .u64 0,.int .u64 0,.int .u64 0,.int .u64 0,.int .u64 0,.int .u64 0,.string (⟨#[]⟩ : ByteArray)]) ?_ 1 _ rfl;(with_reducible repeat (first|refine kn_ ?_ _|refine kd_ ?_|refine ka_ ?_ _));refine blk_put (cs:=kk0_) ?_ 0 _ rfl;(with_reducible repeat (first|refine kn_ ?_ _|refine kd_ ?_|refine ka_ ?_ _));exact BK274.out) hb);have n3_:=am_ (below_step (by repeat (first|(with_reducible first|exact HB.out|apply ba_|apply pn_|apply pd_|refine bs_ ?_ GE253.out|refine bs_ ?_ GE256.out|refine bs_ ?_ GE274.out)|exact HB.out)) hb);clear BK253;clear BK256;clear BK274;clear HB;have BK253:=n0_;have BK256:=n1_;have BK274:=n2_;have HB:=n3_;clear n0_ n1_ n2_ n3_;(try clear hb);(try clear hb2);(try clear hk);(try clear hi))|((with_reducible refine gate_dst (N:=12) rfl ?_);(try (refine gate_guard (by rfl) ?_;dsimp only));refine box_event ?hg (N:=12) ?hd (cs:=kk0_) (t:=26) ?hr ?_;(case hd => rfl);(case hg => rfl);(case hr => first|(go_simp;done)|(go_simp;rfl));intro gb288 hg w42 hbox hb;have n0_:=am_ (blk_below (g:=gb253) (o:=.cells #[.int .u64 a0_0,.int .u64 a0_1,.int .u64 a0_2,.int .u64 a0_3,.int .u64 a0_4,.int .u64 a0_5,.int .u64 a0_6,.int .u64 a0_7,.int .u64 a0_8,.int .u64 a0_9,.int .u64 a0_10,.string a0_11] 24 (0,0)) (by (with_reducible repeat (first|refine kn_ ?_ _|refine kd_ ?_|refine ka_ ?_ _));exact BK253.out) hb);have n1_:=am_ (blk_below (g:=gb256) (o:=.cells #[.int .u64 a0_0,.int .u64 a0_1,.int .u64 a0_2,.int .u64 a0_3,.int .u64 a0_4,.int .u64 a0_5,.int .u64 a0_6,.int .u64 a0_7,.int .u64 a0_8,.int .u64 a0_9,.int .u64 a0_10,.string a0_11] 26 (0,0)) (by (with_reducible repeat (first|refine kn_ ?_ _|refine kd_ ?_|refine ka_ ?_ _));exact BK256.out) hb);have n2_:=am_ (blk_below (g:=gb274) (o:=.cells #[.int .u64 t261,.int .u64 t262,.int .u64 t263,.int .u64 t264,.int .u64 t265,.int .u64 t266,.int .u64 t267,.int .u64 t268,.int .u64 t269,.int .u64 t270,.int .u64 t271,.string t272] 24 (0,0)) (by (with_reducible repeat (first|refine kn_ ?_ _|refine kd_ ?_|refine ka_ ?_ _));exact BK274.out) hb);have n3_:=am_ (below_step (by repeat (first|(with_reducible first|exact HB.out|apply ba_|apply pn_|apply pd_|refine bs_ ?_ GE253.out|refine bs_ ?_ GE256.out|refine bs_ ?_ GE274.out)|exact HB.out)) hb);have n4_:=am_ (hbox);have n5_:=am_ ((by rw [hg];exact (below_size (by repeat (first|(with_reducible first|exact HB.out|apply ba_|apply pn_|apply pd_|refine bs_ ?_ GE253.out|refine bs_ ?_ GE256.out|refine bs_ ?_ GE274.out)|exact HB.out))) : w.heap.size ≤ gb288));have n6_:=am_ ((by rw [hg];exact (below_size (by repeat (first|(with_reducible first|exact HB.out|apply ba_|apply pn_|apply pd_|refine bs_ ?_ GE253.out|refine bs_ ?_ GE256.out|refine bs_ ?_ GE274.out)|exact HB.out))) : w.heap.size ≤ gb288));have n7_:=am_ ((by rw [hg];exact Nat.ne_of_lt (blk_lt (g:=gb253) (o:=.cells #[.int .u64 a0_0,.int .u64 a0_1,.int .u64 a0_2,.int .u64 a0_3,.int .u64 a0_4,.int .u64 a0_5,.int .u64 a0_6,.int .u64 a0_7,.int .u64 a0_8,.int .u64 a0_9,.int .u64 a0_10,.string a0_11] 24 (0,0)) (by (with_reducible repeat (first|refine kn_ ?_ _|refine kd_ ?_|refine ka_ ?_ _));exact BK253.out)) : gb253 ≠ gb288));have n8_:=am_ ((by rw [hg];exact Nat.ne_of_gt (blk_lt (g:=gb253) (o:=.cells #[.int .u64 a0_0,.int .u64 a0_1,.int .u64 a0_2,.int .u64 a0_3,.int .u64 a0_4,.int .u64 a0_5,.int .u64 a0_6,.int .u64 a0_7,.int .u64 a0_8,.int .u64 a0_9,.int .u64 a0_10,.string a0_11] 24 (0,0)) (by (with_reducible repeat (first|refine kn_ ?_ _|refine kd_ ?_|refine ka_ ?_ _));exact BK253.out)) : gb288 ≠ gb253));have n9_:=am_ ((by rw [hg];exact Nat.ne_of_lt (blk_lt (g:=gb256) (o:=.cells #[.int .u64 a0_0,.int .u64 a0_1,.int .u64 a0_2,.int .u64 a0_3,.int .u64 a0_4,.int .u64 a0_5,.int .u64 a0_6,.int .u64 a0_7,.int .u64 a0_8,.int .u64 a0_9,.int .u64 a0_10,.string a0_11] 26 (0,0)) (by (with_reducible repeat (first|refine kn_ ?_ _|refine kd_ ?_|refine ka_ ?_ _));exact BK256.out)) : gb256 ≠ gb288));have n10_:=am_ ((by rw [hg];exact Nat.ne_of_gt (blk_lt (g:=gb256) (o:=.cells #[.int .u64 a0_0,.int .u64 a0_1,.int .u64 a0_2,.int .u64 a0_3,.int .u64 a0_4,.int .u64 a0_5,.int .u64 a0_6,.int .u64 a0_7,.int .u64 a0_8,.int .u64 a0_9,.int .u64 a0_10,.string a0_11] 26 (0,0)) (by (with_reducible repeat (first|refine kn_ ?_ _|refine kd_ ?_|refine ka_ ?_ _));exact BK256.out)) : gb288 ≠ gb256));have n11_:=am_ ((by rw [hg];exact Nat.ne_of_lt (blk_lt (g:=gb274) (o:=.cells #[.int .u64 t261,.int .u64 t262,.int .u64 t263,.int .u64 t264,.int .u64 t265,.int .u64 t266,.int .u64 t267,.int .u64 t268,.int .u64 t269,.int .u64 t270,.int .u64 t271,.string t272] 24 (0,0)) (by (with_reducible repeat (first|refine kn_ ?_ _|refine kd_ ?_|refine ka_ ?_ _));exact BK274.out)) : gb274 ≠ gb288));have n12_:=am_ ((by rw [hg];exact Nat.ne_of_gt (blk_lt (g:=gb274) (o:=.cells #[.int .u64 t261,.int .u64 t262,.int .u64 t263,.int .u64 t264,.int .u64 t265,.int .u64 t266,.int .u64 t267,.int .u64 t268,.int .u64 t269,.int .u64 t270,.int .u64 t271,.string t272] 24 (0,0)) (by (with_reducible repeat (first|refine kn_ ?_ _|refine kd_ ?_|refine ka_ ?_ _));exact BK274.out)) : gb288 ≠ gb274));clear BK253;clear BK256;clear BK274;clear HB;have BK253:=n0_;have BK256:=n1_;have BK274:=n2_;have HB:=n3_;have BK288:=n4_;have GW288:=n5_;have GE288:=n6_;have NB253_288:=n7_;have NB288_253:=n8_;have NB256_288:=n9_;have NB288_256:=n10_;have NB274_288:=n11_;have NB288_274:=n12_;clear n0_ n1_ n2_ n3_ n4_ n5_ n6_ n7_ n8_ n9_ n10_ n11_ n12_;clear hb hbox hg;have hnb43:=NB288_253.out;have hnc43:=NB253_288.out;have hnb44:=NB288_256.out;have hnc44:=NB256_288.out;have hnb45:=NB288_274.out;have hnc45:=NB274_288.out;have hcz46_0 : w42.cell? ⟨gb288,0,none⟩ = some (.int .u64 0):=(kc_ BK288.out 0).trans rfl;have hcz46_1 : w42.cell? ⟨gb288,1,none⟩ = some (.int .u64 0):=(kc_ BK288.out 1).trans rfl;have hcz46_2 : w42.cell? ⟨gb288,2,none⟩ = some (.int .u64 0):=(kc_ BK288.out 2).trans rfl;have hcz46_3 : w42.cell? ⟨gb288,3,none⟩ = some (.int .u64 0):=(kc_ BK288.out 3).trans rfl;have hcz46_4 : w42.cell? ⟨gb288,4,none⟩ = some (.int .u64 0):=(kc_ BK288.out 4).trans rfl;have hcz46_5 : w42.cell? ⟨gb288,5,none⟩ = some (.int .u64 0):=(kc_ BK288.out 5).trans rfl;have hcz46_6 : w42.cell? ⟨gb288,6,none⟩ = some (.int .u64 0):=(kc_ BK288.out 6).trans rfl;have hcz46_7 : w42.cell? ⟨gb288,7,none⟩ = some (.int .u64 0):=(kc_ BK288.out 7).trans rfl;have hcz46_8 : w42.cell? ⟨gb288,8,none⟩ = some (.int .u64 0):=(kc_ BK288.out 8).trans rfl;have hcz46_9 : w42.cell? ⟨gb288,9,none⟩ = some (.int .u64 0):=(kc_ BK288.out 9).trans rfl;have hcz46_10 : w42.cell? ⟨gb288,10,none⟩ = some (.int .u64 0):=(kc_ BK288.out 10).trans rfl;have hcz46_11 : w42.cell? ⟨gb288,11,none⟩ = some (.string (⟨#[]⟩ : ByteArray)):=(kc_ BK288.out 11).trans rfl;have hfz46_0:=blk_frozen BK288.out 0;have hfz46_1:=blk_frozen BK288.out 1;have hfz46_2:=blk_frozen BK288.out 2;have hfz46_3:=blk_frozen BK288.out 3;have hfz46_4:=blk_frozen BK288.out 4;have hfz46_5:=blk_frozen BK288.out 5;have hfz46_6:=blk_frozen BK288.out 6;have hfz46_7:=blk_frozen BK288.out 7;have hfz46_8:=blk_frozen BK288.out 8;have hfz46_9:=blk_frozen BK288.out 9;have hfz46_10:=blk_frozen BK288.out 10;have hfz46_11:=blk_frozen BK288.out 11; skip))
         have n0_ : Aside0 (((((((((((((w42.setCell ⟨gb288,0,none⟩ (.int .u64 t275)).setCell ⟨gb288,1,none⟩ (.int .u64 t276)).setCell ⟨gb288,2,none⟩ (.int .u64 t277)).setCell ⟨gb288,3,none⟩ (.int .u64 t278)).setCell ⟨gb288,4,none⟩ (.int .u64 t279)).setCell ⟨gb288,5,none⟩ (.int .u64 t280)).setCell ⟨gb288,6,none⟩ (.int .u64 t281)).setCell ⟨gb288,7,none⟩ (.int .u64 t282)).setCell ⟨gb288,8,none⟩ (.int .u64 t283)).setCell ⟨gb288,9,none⟩ (.int .u64 t284)).setCell ⟨gb288,10,none⟩ (.int .u64 t285)).setCell ⟨gb288,11,none⟩ (.string t286)).heap[gb253]? = some (.cells #[.int .u64 a0_0,.int .u64 a0_1,.int .u64 a0_2,.int .u64 a0_3,.int .u64 a0_4,.int .u64 a0_5,.int .u64 a0_6,.int .u64 a0_7,.int .u64 a0_8,.int .u64 a0_9,.int .u64 a0_10,.string a0_11] 24 (0,0))):=⟨by (with_reducible repeat (first|refine kn_ ?_ _|refine kd_ ?_|refine ka_ ?_ _));refine blk_far ?_ NB253_288.out _;(with_reducible repeat (first|refine kn_ ?_ _|refine kd_ ?_|refine ka_ ?_ _));refine blk_far ?_ NB253_288.out _;(with_reducible repeat (first|refine kn_ ?_ _|refine kd_ ?_|refine ka_ ?_ _));refine blk_far ?_ NB253_288.out _;(with_reducible repeat (first|refine kn_ ?_ _|refine kd_ ?_|refine ka_ ?_ _));refine blk_far ?_ NB253_288.out _;(with_reducible repeat (first|refine kn_ ?_ _|refine kd_ ?_|refine ka_ ?_ _));refine blk_far ?_ NB253_288.out _;(with_reducible repeat (first|refine kn_ ?_ _|refine kd_ ?_|refine ka_ ?_ _));refine blk_far ?_ NB253_288.out _;(with_reducible repeat (first|refine kn_ ?_ _|refine kd_ ?_|refine ka_ ?_ _));refine blk_far ?_ NB253_288.out _;(with_reducible repeat (first|refine kn_ ?_ _|refine kd_ ?_|refine ka_ ?_ _));refine blk_far ?_ NB253_288.out _;(with_reducible repeat (first|refine kn_ ?_ _|refine kd_ ?_|refine ka_ ?_ _));refine blk_far ?_ NB253_288.out _;(with_reducible repeat (first|refine kn_ ?_ _|refine kd_ ?_|refine ka_ ?_ _));refine blk_far ?_ NB253_288.out _;(with_reducible repeat (first|refine kn_ ?_ _|refine kd_ ?_|refine ka_ ?_ _));refine blk_far ?_ NB253_288.out _;(with_reducible repeat (first|refine kn_ ?_ _|refine kd_ ?_|refine ka_ ?_ _));refine blk_far ?_ NB253_288.out _;(with_reducible repeat (first|refine kn_ ?_ _|refine kd_ ?_|refine ka_ ?_ _));exact BK253.out⟩
         have n1_ : Aside0 (((((((((((((w42.setCell ⟨gb288,0,none⟩ (.int .u64 t275)).setCell ⟨gb288,1,none⟩ (.int .u64 t276)).setCell ⟨gb288,2,none⟩ (.int .u64 t277)).setCell ⟨gb288,3,none⟩ (.int .u64 t278)).setCell ⟨gb288,4,none⟩ (.int .u64 t279)).setCell ⟨gb288,5,none⟩ (.int .u64 t280)).setCell ⟨gb288,6,none⟩ (.int .u64 t281)).setCell ⟨gb288,7,none⟩ (.int .u64 t282)).setCell ⟨gb288,8,none⟩ (.int .u64 t283)).setCell ⟨gb288,9,none⟩ (.int .u64 t284)).setCell ⟨gb288,10,none⟩ (.int .u64 t285)).setCell ⟨gb288,11,none⟩ (.string t286)).heap[gb256]? = some (.cells #[.int .u64 a0_0,.int .u64 a0_1,.int .u64 a0_2,.int .u64 a0_3,.int .u64 a0_4,.int .u64 a0_5,.int .u64 a0_6,.int .u64 a0_7,.int .u64 a0_8,.int .u64 a0_9,.int .u64 a0_10,.string a0_11] 26 (0,0))):=⟨by (with_reducible repeat (first|refine kn_ ?_ _|refine kd_ ?_|refine ka_ ?_ _));refine blk_far ?_ NB256_288.out _;(with_reducible repeat (first|refine kn_ ?_ _|refine kd_ ?_|refine ka_ ?_ _));refine blk_far ?_ NB256_288.out _;(with_reducible repeat (first|refine kn_ ?_ _|refine kd_ ?_|refine ka_ ?_ _));refine blk_far ?_ NB256_288.out _;(with_reducible repeat (first|refine kn_ ?_ _|refine kd_ ?_|refine ka_ ?_ _));refine blk_far ?_ NB256_288.out _;(with_reducible repeat (first|refine kn_ ?_ _|refine kd_ ?_|refine ka_ ?_ _));refine blk_far ?_ NB256_288.out _;(with_reducible repeat (first|refine kn_ ?_ _|refine kd_ ?_|refine ka_ ?_ _));refine blk_far ?_ NB256_288.out _;(with_reducible repeat (first|refine kn_ ?_ _|refine kd_ ?_|refine ka_ ?_ _));refine blk_far ?_ NB256_288.out _;(with_reducible repeat (first|refine kn_ ?_ _|refine kd_ ?_|refine ka_ ?_ _));refine blk_far ?_ NB256_288.out _;(with_reducible repeat (first|refine kn_ ?_ _|refine kd_ ?_|refine ka_ ?_ _));refine blk_far ?_ NB256_288.out _;(with_reducible repeat (first|refine kn_ ?_ _|refine kd_ ?_|refine ka_ ?_ _));refine blk_far ?_ NB256_288.out _;(with_reducible repeat (first|refine kn_ ?_ _|refine kd_ ?_|refine ka_ ?_ _));refine blk_far ?_ NB256_288.out _;(with_reducible repeat (first|refine kn_ ?_ _|refine kd_ ?_|refine ka_ ?_ _));refine blk_far ?_ NB256_288.out _;(with_reducible repeat (first|refine kn_ ?_ _|refine kd_ ?_|refine ka_ ?_ _));exact BK256.out⟩
         have n2_ : Aside0 (((((((((((((w42.setCell ⟨gb288,0,none⟩ (.int .u64 t275)).setCell ⟨gb288,1,none⟩ (.int .u64 t276)).setCell ⟨gb288,2,none⟩ (.int .u64 t277)).setCell ⟨gb288,3,none⟩ (.int .u64 t278)).setCell ⟨gb288,4,none⟩ (.int .u64 t279)).setCell ⟨gb288,5,none⟩ (.int .u64 t280)).setCell ⟨gb288,6,none⟩ (.int .u64 t281)).setCell ⟨gb288,7,none⟩ (.int .u64 t282)).setCell ⟨gb288,8,none⟩ (.int .u64 t283)).setCell ⟨gb288,9,none⟩ (.int .u64 t284)).setCell ⟨gb288,10,none⟩ (.int .u64 t285)).setCell ⟨gb288,11,none⟩ (.string t286)).heap[gb274]? = some (.cells #[.int .u64 t261,.int .u64 t262,.int .u64 t263,.int .u64 t264,.int .u64 t265,.int .u64 t266,.int .u64 t267,.int .u64 t268,.int .u64 t269,.int .u64 t270,.int .u64 t271,.string t272] 24 (0,0))):=⟨by (with_reducible repeat (first|refine kn_ ?_ _|refine kd_ ?_|refine ka_ ?_ _));refine blk_far ?_ NB274_288.out _;(with_reducible repeat (first|refine kn_ ?_ _|refine kd_ ?_|refine ka_ ?_ _));refine blk_far ?_ NB274_288.out _;(with_reducible repeat (first|refine kn_ ?_ _|refine kd_ ?_|refine ka_ ?_ _));refine blk_far ?_ NB274_288.out _;(with_reducible repeat (first|refine kn_ ?_ _|refine kd_ ?_|refine ka_ ?_ _));refine blk_far ?_ NB274_288.out _;(with_reducible repeat (first|refine kn_ ?_ _|refine kd_ ?_|refine ka_ ?_ _));refine blk_far ?_ NB274_288.out _;(with_reducible repeat (first|refine kn_ ?_ _|refine kd_ ?_|refine ka_ ?_ _));refine blk_far ?_ NB274_288.out _;(with_reducible repeat (first|refine kn_ ?_ _|refine kd_ ?_|refine ka_ ?_ _));refine blk_far ?_ NB274_288.out _;(with_reducible repeat (first|refine kn_ ?_ _|refine kd_ ?_|refine ka_ ?_ _));refine blk_far ?_ NB274_288.out _;(with_reducible repeat (first|refine kn_ ?_ _|refine kd_ ?_|refine ka_ ?_ _));refine blk_far ?_ NB274_288.out _;(with_reducible repeat (first|refine kn_ ?_ _|refine kd_ ?_|refine ka_ ?_ _));refine blk_far ?_ NB274_288.out _;(with_reducible repeat (first|refine kn_ ?_ _|refine kd_ ?_|refine ka_ ?_ _));refine blk_far ?_ NB274_288.out _;(with_reducible repeat (first|refine kn_ ?_ _|refine kd_ ?_|refine ka_ ?_ _));refine blk_far ?_ NB274_288.out _;(with_reducible repeat (first|refine kn_ ?_ _|refine kd_ ?_|refine ka_ ?_ _));exact BK274.out⟩
         have n3_ : Aside0 (((((((((((((w42.setCell ⟨gb288,0,none⟩ (.int .u64 t275)).setCell ⟨gb288,1,none⟩ (.int .u64 t276)).setCell ⟨gb288,2,none⟩ (.int .u64 t277)).setCell ⟨gb288,3,none⟩ (.int .u64 t278)).setCell ⟨gb288,4,none⟩ (.int .u64 t279)).setCell ⟨gb288,5,none⟩ (.int .u64 t280)).setCell ⟨gb288,6,none⟩ (.int .u64 t281)).setCell ⟨gb288,7,none⟩ (.int .u64 t282)).setCell ⟨gb288,8,none⟩ (.int .u64 t283)).setCell ⟨gb288,9,none⟩ (.int .u64 t284)).setCell ⟨gb288,10,none⟩ (.int .u64 t285)).setCell ⟨gb288,11,none⟩ (.string t286)).heap[gb288]? = some (.cells #[.int .u64 t275,.int .u64 t276,.int .u64 t277,.int .u64 t278,.int .u64 t279,.int .u64 t280,.int .u64 t281,.int .u64 t282,.int .u64 t283,.int .u64 t284,.int .u64 t285,.string t286] 26 (0,0))):=⟨by (with_reducible repeat (first|refine kn_ ?_ _|refine kd_ ?_|refine ka_ ?_ _));refine blk_put (cs:=#[.int .u64 t275,.int .u64 t276,.int .u64 t277,.int .u64 t278,.int .u64 t279,.int .u64 t280,.int .u64 t281,.int .u64 t282,.int .u64 t283,.int .u64 t284,.int .u64 t285,.string (⟨#[]⟩ : ByteArray)]) ?_ 11 _ rfl;(with_reducible repeat (first|refine kn_ ?_ _|refine kd_ ?_|refine ka_ ?_ _));refine blk_put (cs:=#[.int .u64 t275,.int .u64 t276,.int .u64 t277,.int .u64 t278,.int .u64 t279,.int .u64 t280,.int .u64 t281,.int .u64 t282,.int .u64 t283,.int .u64 t284,.int .u64 0,.string (⟨#[]⟩ : ByteArray)]) ?_ 10 _ rfl;(with_reducible repeat (first|refine kn_ ?_ _|refine kd_ ?_|refine ka_ ?_ _));refine blk_put (cs:=#[.int .u64 t275,.int .u64 t276,.int .u64 t277,.int .u64 t278,.int .u64 t279,.int .u64 t280,.int .u64 t281,.int .u64 t282,.int .u64 t283,.int .u64 0,.int .u64 0,.string (⟨#[]⟩ : ByteArray)]) ?_ 9 _ rfl;(with_reducible repeat (first|refine kn_ ?_ _|refine kd_ ?_|refine ka_ ?_ _));refine blk_put (cs:=#[.int .u64 t275,.int .u64 t276,.int .u64 t277,.int .u64 t278,.int .u64 t279,.int .u64 t280,.int .u64 t281,.int .u64 t282,.int .u64 0,.int .u64 0,.int .u64 0,.string (⟨#[]⟩ : ByteArray)]) ?_ 8 _ rfl;(with_reducible repeat (first|refine kn_ ?_ _|refine kd_ ?_|refine ka_ ?_ _));refine blk_put (cs:=#[.int .u64 t275,.int .u64 t276,.int .u64 t277,.int .u64 t278,.int .u64 t279,.int .u64 t280,.int .u64 t281,.int .u64 0,.int .u64 0,.int .u64 0,.int .u64 0,.string (⟨#[]⟩ : ByteArray)]) ?_ 7 _ rfl;(with_reducible repeat (first|refine kn_ ?_ _|refine kd_ ?_|refine ka_ ?_ _));refine blk_put (cs:=#[.int .u64 t275,.int .u64 t276,.int .u64 t277,.int .u64 t278,.int .u64 t279,.int .u64 t280,.int .u64 0,.int .u64 0,.int .u64 0,.int .u64 0,.int .u64 0,.string (⟨#[]⟩ : ByteArray)]) ?_ 6 _ rfl;(with_reducible repeat (first|refine kn_ ?_ _|refine kd_ ?_|refine ka_ ?_ _));refine blk_put (cs:=#[.int .u64 t275,.int .u64 t276,.int .u64 t277,.int .u64 t278,.int .u64 t279,.int .u64 0,.int .u64 0,.int .u64 0,.int .u64 0,.int .u64 0,.int .u64 0,.string (⟨#[]⟩ : ByteArray)]) ?_ 5 _ rfl;(with_reducible repeat (first|refine kn_ ?_ _|refine kd_ ?_|refine ka_ ?_ _));refine blk_put (cs:=#[.int .u64 t275,.int .u64 t276,.int .u64 t277,.int .u64 t278,.int .u64 0,.int .u64 0,.int .u64 0,.int .u64 0,.int .u64 0,.int .u64 0,.int .u64 0,.string (⟨#[]⟩ : ByteArray)]) ?_ 4 _ rfl;(with_reducible repeat (first|refine kn_ ?_ _|refine kd_ ?_|refine ka_ ?_ _));refine blk_put (cs:=#[.int .u64 t275,.int .u64 t276,.int .u64 t277,.int .u64 0,.int .u64 0,.int .u64 0,.int .u64 0,.int .u64 0,.int .u64 0,.int .u64 0,.int .u64 0,.string (⟨#[]⟩ : ByteArray)]) ?_ 3 _ rfl;(with_reducible repeat (first|refine kn_ ?_ _|refine kd_ ?_|refine ka_ ?_ _));refine blk_put (cs:=#[.int .u64 t275,.int .u64 t276,.int .u64 0,.int .u64 0,.int .u64 0,.int .u64 0,.int .u64 0,.int .u64 0,.int .u64 0,.int .u64 0,.int .u64 0,.string (⟨#[]⟩ : ByteArray)]) ?_ 2 _ rfl;(with_reducible repeat (first|refine kn_ ?_ _|refine kd_ ?_|refine ka_ ?_ _));refine blk_put (cs:=#[.int .u64 t275,.int .u64 0,.int .u64 0,.int .u64 0,.int .u64 0,.int .u64 0,.int .u64 0,.int .u64 0,.int .u64 0,.int .u64 0,.int .u64 0,.string (⟨#[]⟩ : ByteArray)]) ?_ 1 _ rfl;(with_reducible repeat (first|refine kn_ ?_ _|refine kd_ ?_|refine ka_ ?_ _));refine blk_put (cs:=kk0_) ?_ 0 _ rfl;(with_reducible repeat (first|refine kn_ ?_ _|refine kd_ ?_|refine ka_ ?_ _));exact BK288.out⟩
         have n4_ : Aside0 (Below w.heap.size w ((((((((((((w42.setCell ⟨gb288,0,none⟩ (.int .u64 t275)).setCell ⟨gb288,1,none⟩ (.int .u64 t276)).setCell ⟨gb288,2,none⟩ (.int .u64 t277)).setCell ⟨gb288,3,none⟩ (.int .u64 t278)).setCell ⟨gb288,4,none⟩ (.int .u64 t279)).setCell ⟨gb288,5,none⟩ (.int .u64 t280)).setCell ⟨gb288,6,none⟩ (.int .u64 t281)).setCell ⟨gb288,7,none⟩ (.int .u64 t282)).setCell ⟨gb288,8,none⟩ (.int .u64 t283)).setCell ⟨gb288,9,none⟩ (.int .u64 t284)).setCell ⟨gb288,10,none⟩ (.int .u64 t285)).setCell ⟨gb288,11,none⟩ (.string t286))):=⟨by repeat (first|(with_reducible first|exact HB.out|apply ba_|apply pn_|apply pd_|refine bs_ ?_ GE253.out|refine bs_ ?_ GE256.out|refine bs_ ?_ GE274.out|refine bs_ ?_ GE288.out)|exact HB.out)⟩
         (try clear BK253)
         (try clear BK256)
         (try clear BK274)
         (try clear BK288)
         (try clear HB)
         generalize ((((((((((((w42.setCell ⟨gb288,0,none⟩ (.int .u64 t275)).setCell ⟨gb288,1,none⟩ (.int .u64 t276)).setCell ⟨gb288,2,none⟩ (.int .u64 t277)).setCell ⟨gb288,3,none⟩ (.int .u64 t278)).setCell ⟨gb288,4,none⟩ (.int .u64 t279)).setCell ⟨gb288,5,none⟩ (.int .u64 t280)).setCell ⟨gb288,6,none⟩ (.int .u64 t281)).setCell ⟨gb288,7,none⟩ (.int .u64 t282)).setCell ⟨gb288,8,none⟩ (.int .u64 t283)).setCell ⟨gb288,9,none⟩ (.int .u64 t284)).setCell ⟨gb288,10,none⟩ (.int .u64 t285)).setCell ⟨gb288,11,none⟩ (.string t286)) = w47 at n0_ n1_ n2_ n3_ n4_ ⊢
         have BK253:=n0_
         have BK256:=n1_
         have BK274:=n2_
         have BK288:=n3_
         have HB:=n4_
         clear n0_ n1_ n2_ n3_ n4_
         have n0_:=am_ (kd_ BK253.out)
         have n1_:=am_ (kd_ BK256.out)
         have n2_:=am_ (kd_ BK274.out)
         have n3_:=am_ (kd_ BK288.out)
         have n4_:=am_ (pd_ HB.out)
         clear BK253
         clear BK256
         clear BK274
         clear BK288
         clear HB
         have BK253:=n0_
         have BK256:=n1_
         have BK274:=n2_
         have BK288:=n3_
         have HB:=n4_
         clear n0_ n1_ n2_ n3_ n4_
         refine start_ (n:=31) (S:=fun w' => w'.cell? ⟨gb253,0,none⟩ = some (.int .u64 a0_0) ∧ w'.cell? ⟨gb253,1,none⟩ = some (.int .u64 a0_1) ∧ w'.cell? ⟨gb253,2,none⟩ = some (.int .u64 a0_2) ∧ w'.cell? ⟨gb253,3,none⟩ = some (.int .u64 a0_3) ∧ w'.cell? ⟨gb253,4,none⟩ = some (.int .u64 a0_4) ∧ w'.cell? ⟨gb253,5,none⟩ = some (.int .u64 a0_5) ∧ w'.cell? ⟨gb253,6,none⟩ = some (.int .u64 a0_6) ∧ w'.cell? ⟨gb253,7,none⟩ = some (.int .u64 a0_7) ∧ w'.cell? ⟨gb253,8,none⟩ = some (.int .u64 a0_8) ∧ w'.cell? ⟨gb253,9,none⟩ = some (.int .u64 a0_9) ∧ w'.cell? ⟨gb253,10,none⟩ = some (.int .u64 a0_10) ∧ w'.cell? ⟨gb253,11,none⟩ = some (.string a0_11) ∧ w'.cell? ⟨gb256,0,none⟩ = some (.int .u64 a0_0) ∧ w'.cell? ⟨gb256,1,none⟩ = some (.int .u64 a0_1) ∧ w'.cell? ⟨gb256,2,none⟩ = some (.int .u64 a0_2) ∧ w'.cell? ⟨gb256,3,none⟩ = some (.int .u64 a0_3) ∧ w'.cell? ⟨gb256,4,none⟩ = some (.int .u64 a0_4) ∧ w'.cell? ⟨gb256,5,none⟩ = some (.int .u64 a0_5) ∧ w'.cell? ⟨gb256,6,none⟩ = some (.int .u64 a0_6) ∧ w'.cell? ⟨gb256,7,none⟩ = some (.int .u64 a0_7) ∧ w'.cell? ⟨gb256,8,none⟩ = some (.int .u64 a0_8) ∧ w'.cell? ⟨gb256,9,none⟩ = some (.int .u64 a0_9) ∧ w'.cell? ⟨gb256,10,none⟩ = some (.int .u64 a0_10) ∧ w'.cell? ⟨gb256,11,none⟩ = some (.string a0_11) ∧ w'.cell? ⟨gb274,0,none⟩ = some (.int .u64 t261) ∧ w'.cell? ⟨gb274,1,none⟩ = some (.int .u64 t262) ∧ w'.cell? ⟨gb274,2,none⟩ = some (.int .u64 t263) ∧ w'.cell? ⟨gb274,3,none⟩ = some (.int .u64 t264) ∧ w'.cell? ⟨gb274,4,none⟩ = some (.int .u64 t265) ∧ w'.cell? ⟨gb274,5,none⟩ = some (.int .u64 t266) ∧ w'.cell? ⟨gb274,6,none⟩ = some (.int .u64 t267) ∧ w'.cell? ⟨gb274,7,none⟩ = some (.int .u64 t268) ∧ w'.cell? ⟨gb274,8,none⟩ = some (.int .u64 t269) ∧ w'.cell? ⟨gb274,9,none⟩ = some (.int .u64 t270) ∧ w'.cell? ⟨gb274,10,none⟩ = some (.int .u64 t271) ∧ w'.cell? ⟨gb274,11,none⟩ = some (.string t272) ∧ w'.cell? ⟨gb288,0,none⟩ = some (.int .u64 t275) ∧ w'.cell? ⟨gb288,1,none⟩ = some (.int .u64 t276) ∧ w'.cell? ⟨gb288,2,none⟩ = some (.int .u64 t277) ∧ w'.cell? ⟨gb288,3,none⟩ = some (.int .u64 t278) ∧ w'.cell? ⟨gb288,4,none⟩ = some (.int .u64 t279) ∧ w'.cell? ⟨gb288,5,none⟩ = some (.int .u64 t280) ∧ w'.cell? ⟨gb288,6,none⟩ = some (.int .u64 t281) ∧ w'.cell? ⟨gb288,7,none⟩ = some (.int .u64 t282) ∧ w'.cell? ⟨gb288,8,none⟩ = some (.int .u64 t283) ∧ w'.cell? ⟨gb288,9,none⟩ = some (.int .u64 t284) ∧ w'.cell? ⟨gb288,10,none⟩ = some (.int .u64 t285) ∧ w'.cell? ⟨gb288,11,none⟩ = some (.string t286)) (ds:=[]) #[F_,F_,F_,F_,F_,F_,F_,F_,F_,F_,F_,F_,F_,F_,F_,F_,F_,F_,F_,F_,F_,F_,F_,F_,F_,F_,F_,F_,F_,F_,F_] (by kernel_rfl) rfl rfl ⟨(kc_ BK253.out 0).trans rfl,(kc_ BK253.out 1).trans rfl,(kc_ BK253.out 2).trans rfl,(kc_ BK253.out 3).trans rfl,(kc_ BK253.out 4).trans rfl,(kc_ BK253.out 5).trans rfl,(kc_ BK253.out 6).trans rfl,(kc_ BK253.out 7).trans rfl,(kc_ BK253.out 8).trans rfl,(kc_ BK253.out 9).trans rfl,(kc_ BK253.out 10).trans rfl,(kc_ BK253.out 11).trans rfl,(kc_ BK256.out 0).trans rfl,(kc_ BK256.out 1).trans rfl,(kc_ BK256.out 2).trans rfl,(kc_ BK256.out 3).trans rfl,(kc_ BK256.out 4).trans rfl,(kc_ BK256.out 5).trans rfl,(kc_ BK256.out 6).trans rfl,(kc_ BK256.out 7).trans rfl,(kc_ BK256.out 8).trans rfl,(kc_ BK256.out 9).trans rfl,(kc_ BK256.out 10).trans rfl,(kc_ BK256.out 11).trans rfl,(kc_ BK274.out 0).trans rfl,(kc_ BK274.out 1).trans rfl,(kc_ BK274.out 2).trans rfl,(kc_ BK274.out 3).trans rfl,(kc_ BK274.out 4).trans rfl,(kc_ BK274.out 5).trans rfl,(kc_ BK274.out 6).trans rfl,(kc_ BK274.out 7).trans rfl,(kc_ BK274.out 8).trans rfl,(kc_ BK274.out 9).trans rfl,(kc_ BK274.out 10).trans rfl,(kc_ BK274.out 11).trans rfl,(kc_ BK288.out 0).trans rfl,(kc_ BK288.out 1).trans rfl,(kc_ BK288.out 2).trans rfl,(kc_ BK288.out 3).trans rfl,(kc_ BK288.out 4).trans rfl,(kc_ BK288.out 5).trans rfl,(kc_ BK288.out 6).trans rfl,(kc_ BK288.out 7).trans rfl,(kc_ BK288.out 8).trans rfl,(kc_ BK288.out 9).trans rfl,(kc_ BK288.out 10).trans rfl,(kc_ BK288.out 11).trans rfl⟩ (fun hHeld => ?_);refine with_tabW dominolaw05_ParamsTells.tab8 dominolaw05_ParamsTells.bits8 (fun HT_ HW_ => ?_)
         generalize w47.drew = w48 at BK253 BK256 BK274 BK288 HB hHeld ⊢
         refine take_ (i:=0) (N:=some 49) (v:=?_) (a':=?_) #[T_,F_,F_,F_,F_,F_,F_,F_,F_,F_,F_,F_,F_,F_,F_,F_,F_,F_,F_,F_,F_,F_,F_,F_,F_,F_,F_,F_,F_,F_,F_] rfl rfl (take_ofW HT_.out HW_.out (by kernel_rfl)) (fun _ _ _ h => h) (Or.inl ⟨by rfl,?_⟩) hHeld ?_ ?_
         rotate_left
         ·rintro w' ⟨s0,s1,s2,s3,s4,s5,s6,s7,s8,s9,s10,s11,s12,s13,s14,s15,s16,s17,s18,s19,s20,s21,s22,s23,s24,s25,s26,s27,s28,s29,s30,s31,s32,s33,s34,s35,s36,s37,s38,s39,s40,s41,s42,s43,s44,s45,s46,s47⟩
          go_simp
          with_reducible rfl
         rotate_left
         ·simp only [Act.put,ps_,i64_w,i32_w]
          rfl
         refine take_ (i:=2) (N:=some 51) (v:=?_) (a':=?_) #[T_,F_,T_,F_,F_,F_,F_,F_,F_,F_,F_,F_,F_,F_,F_,F_,F_,F_,F_,F_,F_,F_,F_,F_,F_,F_,F_,F_,F_,F_,F_] rfl rfl (take_ofW HT_.out HW_.out (by kernel_rfl)) (fun _ _ _ h => h) (Or.inl ⟨by rfl,?_⟩) hHeld ?_ ?_
         rotate_left
         ·rintro w' ⟨s0,s1,s2,s3,s4,s5,s6,s7,s8,s9,s10,s11,s12,s13,s14,s15,s16,s17,s18,s19,s20,s21,s22,s23,s24,s25,s26,s27,s28,s29,s30,s31,s32,s33,s34,s35,s36,s37,s38,s39,s40,s41,s42,s43,s44,s45,s46,s47⟩
          go_simp
          with_reducible rfl
         rotate_left
         ·simp only [Act.put,ps_,i64_w,i32_w]
          rfl
         refine one_ (i:=1) (N:=some 50) #[T_,T_,T_,F_,F_,F_,F_,F_,F_,F_,F_,F_,F_,F_,F_,F_,F_,F_,F_,F_,F_,F_,F_,F_,F_,F_,F_,F_,F_,F_,F_] rfl rfl (one_of HT_.out (by kernel_rfl)) (by decide) (fun K hK => ?_)
         refine goes_ Tryd.func13 (by kernel_rfl) rfl #[.agg #[.int .u64 a0_0,.int .u64 a0_1,.int .u64 a0_2,.int .u64 a0_3,.int .u64 a0_4,.int .u64 a0_5,.int .u64 a0_6,.int .u64 a0_7,.int .u64 a0_8,.int .u64 a0_9,.int .u64 a0_10,.string a0_11]] (by rfl) rfl rfl (by (try simp only [List.map_toArray,List.map_cons,List.map_nil]);first|done|rfl|(simp only [List.length_drop,List.length_take];rfl)) ?_
         with_reducible refine (params_Check.calls a0_0 a0_1 a0_2 a0_3 a0_4 a0_5 a0_6 a0_7 a0_8 a0_9 a0_10 a0_11 t289 _ A19.out).mono ?_
         rintro e w49 ⟨rfl,hb⟩
         refine ⟨_,rfl,?_⟩
         have n0_:=am_ (blk_below (g:=gb253) (o:=.cells #[.int .u64 a0_0,.int .u64 a0_1,.int .u64 a0_2,.int .u64 a0_3,.int .u64 a0_4,.int .u64 a0_5,.int .u64 a0_6,.int .u64 a0_7,.int .u64 a0_8,.int .u64 a0_9,.int .u64 a0_10,.string a0_11] 24 (0,0)) (by (with_reducible repeat (first|refine kn_ ?_ _|refine kd_ ?_|refine ka_ ?_ _));exact BK253.out) hb)
         have n1_:=am_ (blk_below (g:=gb256) (o:=.cells #[.int .u64 a0_0,.int .u64 a0_1,.int .u64 a0_2,.int .u64 a0_3,.int .u64 a0_4,.int .u64 a0_5,.int .u64 a0_6,.int .u64 a0_7,.int .u64 a0_8,.int .u64 a0_9,.int .u64 a0_10,.string a0_11] 26 (0,0)) (by (with_reducible repeat (first|refine kn_ ?_ _|refine kd_ ?_|refine ka_ ?_ _));exact BK256.out) hb)
         have n2_:=am_ (blk_below (g:=gb274) (o:=.cells #[.int .u64 t261,.int .u64 t262,.int .u64 t263,.int .u64 t264,.int .u64 t265,.int .u64 t266,.int .u64 t267,.int .u64 t268,.int .u64 t269,.int .u64 t270,.int .u64 t271,.string t272] 24 (0,0)) (by (with_reducible repeat (first|refine kn_ ?_ _|refine kd_ ?_|refine ka_ ?_ _));exact BK274.out) hb)
         have n3_:=am_ (blk_below (g:=gb288) (o:=.cells #[.int .u64 t275,.int .u64 t276,.int .u64 t277,.int .u64 t278,.int .u64 t279,.int .u64 t280,.int .u64 t281,.int .u64 t282,.int .u64 t283,.int .u64 t284,.int .u64 t285,.string t286] 26 (0,0)) (by (with_reducible repeat (first|refine kn_ ?_ _|refine kd_ ?_|refine ka_ ?_ _));exact BK288.out) hb)
         have n4_:=am_ (below_step (by repeat (first|(with_reducible first|exact HB.out|apply ba_|apply pn_|apply pd_|refine bs_ ?_ GE253.out|refine bs_ ?_ GE256.out|refine bs_ ?_ GE274.out|refine bs_ ?_ GE288.out)|exact HB.out)) hb)
         clear BK253
         clear BK256
         clear BK274
         clear BK288
         clear HB
         have BK253:=n0_
         have BK256:=n1_
         have BK274:=n2_
         have BK288:=n3_
         have HB:=n4_
         clear n0_ n1_ n2_ n3_ n4_
         (try clear hb)
         (try clear hb2)
         (try clear hk)
         (try clear hi)
         refine hK.out _ _ ⟨(kc_ BK253.out 0).trans rfl,(kc_ BK253.out 1).trans rfl,(kc_ BK253.out 2).trans rfl,(kc_ BK253.out 3).trans rfl,(kc_ BK253.out 4).trans rfl,(kc_ BK253.out 5).trans rfl,(kc_ BK253.out 6).trans rfl,(kc_ BK253.out 7).trans rfl,(kc_ BK253.out 8).trans rfl,(kc_ BK253.out 9).trans rfl,(kc_ BK253.out 10).trans rfl,(kc_ BK253.out 11).trans rfl,(kc_ BK256.out 0).trans rfl,(kc_ BK256.out 1).trans rfl,(kc_ BK256.out 2).trans rfl,(kc_ BK256.out 3).trans rfl,(kc_ BK256.out 4).trans rfl,(kc_ BK256.out 5).trans rfl,(kc_ BK256.out 6).trans rfl,(kc_ BK256.out 7).trans rfl,(kc_ BK256.out 8).trans rfl,(kc_ BK256.out 9).trans rfl,(kc_ BK256.out 10).trans rfl,(kc_ BK256.out 11).trans rfl,(kc_ BK274.out 0).trans rfl,(kc_ BK274.out 1).trans rfl,(kc_ BK274.out 2).trans rfl,(kc_ BK274.out 3).trans rfl,(kc_ BK274.out 4).trans rfl,(kc_ BK274.out 5).trans rfl,(kc_ BK274.out 6).trans rfl,(kc_ BK274.out 7).trans rfl,(kc_ BK274.out 8).trans rfl,(kc_ BK274.out 9).trans rfl,(kc_ BK274.out 10).trans rfl,(kc_ BK274.out 11).trans rfl,(kc_ BK288.out 0).trans rfl,(kc_ BK288.out 1).trans rfl,(kc_ BK288.out 2).trans rfl,(kc_ BK288.out 3).trans rfl,(kc_ BK288.out 4).trans rfl,(kc_ BK288.out 5).trans rfl,(kc_ BK288.out 6).trans rfl,(kc_ BK288.out 7).trans rfl,(kc_ BK288.out 8).trans rfl,(kc_ BK288.out 9).trans rfl,(kc_ BK288.out 10).trans rfl,(kc_ BK288.out 11).trans rfl⟩ (fun hHeld => ?_)
         clear hK K
         refine norm_ (a':=?_) ?_ ?_
         rotate_left
         ·show Act.put _ (some 50) _ = _
          simp only [Act.put,ps_,i64_w,i32_w]
          rfl
         refine one_ (i:=3) (N:=some 52) #[T_,T_,T_,T_,F_,F_,F_,F_,F_,F_,F_,F_,F_,F_,F_,F_,F_,F_,F_,F_,F_,F_,F_,F_,F_,F_,F_,F_,F_,F_,F_] rfl rfl (one_of HT_.out (by kernel_rfl)) (by decide) (fun K hK => ?_)
         refine goes_ Tryd.func14 (by kernel_rfl) rfl #[.agg #[.int .u64 a0_0,.int .u64 a0_1,.int .u64 a0_2,.int .u64 a0_3,.int .u64 a0_4,.int .u64 a0_5,.int .u64 a0_6,.int .u64 a0_7,.int .u64 a0_8,.int .u64 a0_9,.int .u64 a0_10,.string a0_11]] (by rfl) rfl rfl (by (try simp only [List.map_toArray,List.map_cons,List.map_nil]);first|done|rfl|(simp only [List.length_drop,List.length_take];rfl)) ?_
         with_reducible refine (dominoref05_Check.calls kj2 a0_0 a0_1 a0_2 a0_3 a0_4 a0_5 a0_6 a0_7 a0_8 a0_9 a0_10 a0_11 t290 _ A20.out).mono ?_
         rintro e w50 ⟨rfl,hb⟩
         refine ⟨_,rfl,?_⟩
         have n0_:=am_ (blk_below (g:=gb253) (o:=.cells #[.int .u64 a0_0,.int .u64 a0_1,.int .u64 a0_2,.int .u64 a0_3,.int .u64 a0_4,.int .u64 a0_5,.int .u64 a0_6,.int .u64 a0_7,.int .u64 a0_8,.int .u64 a0_9,.int .u64 a0_10,.string a0_11] 24 (0,0)) (by (with_reducible repeat (first|refine kn_ ?_ _|refine kd_ ?_|refine ka_ ?_ _));exact BK253.out) hb)
         have n1_:=am_ (blk_below (g:=gb256) (o:=.cells #[.int .u64 a0_0,.int .u64 a0_1,.int .u64 a0_2,.int .u64 a0_3,.int .u64 a0_4,.int .u64 a0_5,.int .u64 a0_6,.int .u64 a0_7,.int .u64 a0_8,.int .u64 a0_9,.int .u64 a0_10,.string a0_11] 26 (0,0)) (by (with_reducible repeat (first|refine kn_ ?_ _|refine kd_ ?_|refine ka_ ?_ _));exact BK256.out) hb)
         have n2_:=am_ (blk_below (g:=gb274) (o:=.cells #[.int .u64 t261,.int .u64 t262,.int .u64 t263,.int .u64 t264,.int .u64 t265,.int .u64 t266,.int .u64 t267,.int .u64 t268,.int .u64 t269,.int .u64 t270,.int .u64 t271,.string t272] 24 (0,0)) (by (with_reducible repeat (first|refine kn_ ?_ _|refine kd_ ?_|refine ka_ ?_ _));exact BK274.out) hb)
         have n3_:=am_ (blk_below (g:=gb288) (o:=.cells #[.int .u64 t275,.int .u64 t276,.int .u64 t277,.int .u64 t278,.int .u64 t279,.int .u64 t280,.int .u64 t281,.int .u64 t282,.int .u64 t283,.int .u64 t284,.int .u64 t285,.string t286] 26 (0,0)) (by (with_reducible repeat (first|refine kn_ ?_ _|refine kd_ ?_|refine ka_ ?_ _));exact BK288.out) hb)
         have n4_:=am_ (below_step (by repeat (first|(with_reducible first|exact HB.out|apply ba_|apply pn_|apply pd_|refine bs_ ?_ GE253.out|refine bs_ ?_ GE256.out|refine bs_ ?_ GE274.out|refine bs_ ?_ GE288.out)|exact HB.out)) hb)
         clear BK253
         clear BK256
         clear BK274
         clear BK288
         clear HB
         have BK253:=n0_
         have BK256:=n1_
         have BK274:=n2_
         have BK288:=n3_
         have HB:=n4_
         clear n0_ n1_ n2_ n3_ n4_
         (try clear hb)
         (try clear hb2)
         (try clear hk)
         (try clear hi)
         refine hK.out _ _ ⟨(kc_ BK253.out 0).trans rfl,(kc_ BK253.out 1).trans rfl,(kc_ BK253.out 2).trans rfl,(kc_ BK253.out 3).trans rfl,(kc_ BK253.out 4).trans rfl,(kc_ BK253.out 5).trans rfl,(kc_ BK253.out 6).trans rfl,(kc_ BK253.out 7).trans rfl,(kc_ BK253.out 8).trans rfl,(kc_ BK253.out 9).trans rfl,(kc_ BK253.out 10).trans rfl,(kc_ BK253.out 11).trans rfl,(kc_ BK256.out 0).trans rfl,(kc_ BK256.out 1).trans rfl,(kc_ BK256.out 2).trans rfl,(kc_ BK256.out 3).trans rfl,(kc_ BK256.out 4).trans rfl,(kc_ BK256.out 5).trans rfl,(kc_ BK256.out 6).trans rfl,(kc_ BK256.out 7).trans rfl,(kc_ BK256.out 8).trans rfl,(kc_ BK256.out 9).trans rfl,(kc_ BK256.out 10).trans rfl,(kc_ BK256.out 11).trans rfl,(kc_ BK274.out 0).trans rfl,(kc_ BK274.out 1).trans rfl,(kc_ BK274.out 2).trans rfl,(kc_ BK274.out 3).trans rfl,(kc_ BK274.out 4).trans rfl,(kc_ BK274.out 5).trans rfl,(kc_ BK274.out 6).trans rfl,(kc_ BK274.out 7).trans rfl,(kc_ BK274.out 8).trans rfl,(kc_ BK274.out 9).trans rfl,(kc_ BK274.out 10).trans rfl,(kc_ BK274.out 11).trans rfl,(kc_ BK288.out 0).trans rfl,(kc_ BK288.out 1).trans rfl,(kc_ BK288.out 2).trans rfl,(kc_ BK288.out 3).trans rfl,(kc_ BK288.out 4).trans rfl,(kc_ BK288.out 5).trans rfl,(kc_ BK288.out 6).trans rfl,(kc_ BK288.out 7).trans rfl,(kc_ BK288.out 8).trans rfl,(kc_ BK288.out 9).trans rfl,(kc_ BK288.out 10).trans rfl,(kc_ BK288.out 11).trans rfl⟩ (fun hHeld => ?_)
         clear hK K
         refine norm_ (a':=?_) ?_ ?_
         rotate_left
         ·show Act.put _ (some 52) _ = _
          simp only [Act.put,ps_,i64_w,i32_w]
          rfl
         refine pure_ (i:=4) (N:=some 53) (v:=?_) (a':=?_) #[T_,T_,T_,T_,T_,F_,F_,F_,F_,F_,F_,F_,F_,F_,F_,F_,F_,F_,F_,F_,F_,F_,F_,F_,F_,F_,F_,F_,F_,F_,F_] rfl rfl (any_of HT_.out (by kernel_rfl)) (fun _ _ _ h => h) (Or.inl ⟨by rfl,?_⟩) ?_ ?_
         rotate_left;(intro w';go_simp;with_reducible rfl);rotate_left;(simp only [Act.put,ps_,i64_w,i32_w];rfl)
         refine pure_ (i:=5) (N:=some 54) (v:=?_) (a':=?_) #[T_,T_,T_,T_,T_,T_,F_,F_,F_,F_,F_,F_,F_,F_,F_,F_,F_,F_,F_,F_,F_,F_,F_,F_,F_,F_,F_,F_,F_,F_,F_] rfl rfl (any_of HT_.out (by kernel_rfl)) (fun _ _ _ h => h) (Or.inl ⟨by rfl,?_⟩) ?_ ?_
         rotate_left;(intro w';go_simp;with_reducible rfl);rotate_left;(simp only [Act.put,ps_,i64_w,i32_w];rfl)
         refine pure_ (i:=6) (N:=some 55) (v:=?_) (a':=?_) #[T_,T_,T_,T_,T_,T_,T_,F_,F_,F_,F_,F_,F_,F_,F_,F_,F_,F_,F_,F_,F_,F_,F_,F_,F_,F_,F_,F_,F_,F_,F_] rfl rfl (any_of HT_.out (by kernel_rfl)) (fun _ _ _ h => h) (Or.inl ⟨by rfl,?_⟩) ?_ ?_
         rotate_left;(intro w';go_simp;with_reducible rfl);rotate_left;(simp only [Act.put,ps_,i64_w,i32_w];rfl)
         refine pure_ (i:=7) (N:=some 56) (v:=?_) (a':=?_) #[T_,T_,T_,T_,T_,T_,T_,T_,F_,F_,F_,F_,F_,F_,F_,F_,F_,F_,F_,F_,F_,F_,F_,F_,F_,F_,F_,F_,F_,F_,F_] rfl rfl (any_of HT_.out (by kernel_rfl)) (fun _ _ _ h => h) (Or.inl ⟨by rfl,?_⟩) ?_ ?_
         rotate_left;(intro w';go_simp;with_reducible rfl);rotate_left;(simp only [Act.put,ps_,i64_w,i32_w];rfl)
         refine pure_ (i:=8) (N:=some 57) (v:=?_) (a':=?_) #[T_,T_,T_,T_,T_,T_,T_,T_,T_,F_,F_,F_,F_,F_,F_,F_,F_,F_,F_,F_,F_,F_,F_,F_,F_,F_,F_,F_,F_,F_,F_] rfl rfl (any_of HT_.out (by kernel_rfl)) (fun _ _ _ h => h) (Or.inl ⟨by rfl,?_⟩) ?_ ?_
         rotate_left;(intro w';go_simp;with_reducible rfl);rotate_left;(simp only [Act.put,ps_,i64_w,i32_w];rfl)
         refine pure_ (i:=9) (N:=some 58) (v:=?_) (a':=?_) #[T_,T_,T_,T_,T_,T_,T_,T_,T_,T_,F_,F_,F_,F_,F_,F_,F_,F_,F_,F_,F_,F_,F_,F_,F_,F_,F_,F_,F_,F_,F_] rfl rfl (any_of HT_.out (by kernel_rfl)) (fun _ _ _ h => h) (Or.inl ⟨by rfl,?_⟩) ?_ ?_
         rotate_left;(intro w';go_simp;with_reducible rfl);rotate_left;(simp only [Act.put,ps_,i64_w,i32_w];rfl)
         refine pure_ (i:=10) (N:=some 59) (v:=?_) (a':=?_) #[T_,T_,T_,T_,T_,T_,T_,T_,T_,T_,T_,F_,F_,F_,F_,F_,F_,F_,F_,F_,F_,F_,F_,F_,F_,F_,F_,F_,F_,F_,F_] rfl rfl (any_of HT_.out (by kernel_rfl)) (fun _ _ _ h => h) (Or.inl ⟨by rfl,?_⟩) ?_ ?_
         rotate_left;(intro w';go_simp;with_reducible rfl);rotate_left;(simp only [Act.put,ps_,i64_w,i32_w];rfl)
         refine pure_ (i:=11) (N:=some 60) (v:=?_) (a':=?_) #[T_,T_,T_,T_,T_,T_,T_,T_,T_,T_,T_,T_,F_,F_,F_,F_,F_,F_,F_,F_,F_,F_,F_,F_,F_,F_,F_,F_,F_,F_,F_] rfl rfl (any_of HT_.out (by kernel_rfl)) (fun _ _ _ h => h) (Or.inl ⟨by rfl,?_⟩) ?_ ?_
         rotate_left;(intro w';go_simp;with_reducible rfl);rotate_left;(simp only [Act.put,ps_,i64_w,i32_w];rfl)
         refine pure_ (i:=12) (N:=some 61) (v:=?_) (a':=?_) #[T_,T_,T_,T_,T_,T_,T_,T_,T_,T_,T_,T_,T_,F_,F_,F_,F_,F_,F_,F_,F_,F_,F_,F_,F_,F_,F_,F_,F_,F_,F_] rfl rfl (any_of HT_.out (by kernel_rfl)) (fun _ _ _ h => h) (Or.inl ⟨by rfl,?_⟩) ?_ ?_
         rotate_left;(intro w';go_simp;with_reducible rfl);rotate_left;(simp only [Act.put,ps_,i64_w,i32_w];rfl)
         refine pure_ (i:=13) (N:=some 62) (v:=?_) (a':=?_) #[T_,T_,T_,T_,T_,T_,T_,T_,T_,T_,T_,T_,T_,T_,F_,F_,F_,F_,F_,F_,F_,F_,F_,F_,F_,F_,F_,F_,F_,F_,F_] rfl rfl (any_of HT_.out (by kernel_rfl)) (fun _ _ _ h => h) (Or.inl ⟨by rfl,?_⟩) ?_ ?_
         rotate_left;(intro w';go_simp;with_reducible rfl);rotate_left;(simp only [Act.put,ps_,i64_w,i32_w];rfl)
         refine pure_ (i:=14) (N:=some 63) (v:=?_) (a':=?_) #[T_,T_,T_,T_,T_,T_,T_,T_,T_,T_,T_,T_,T_,T_,T_,F_,F_,F_,F_,F_,F_,F_,F_,F_,F_,F_,F_,F_,F_,F_,F_] rfl rfl (any_of HT_.out (by kernel_rfl)) (fun _ _ _ h => h) (Or.inl ⟨by rfl,?_⟩) ?_ ?_
         rotate_left;(intro w';go_simp;with_reducible rfl);rotate_left;(simp only [Act.put,ps_,i64_w,i32_w];rfl)
         refine pure_ (i:=15) (N:=some 64) (v:=?_) (a':=?_) #[T_,T_,T_,T_,T_,T_,T_,T_,T_,T_,T_,T_,T_,T_,T_,T_,F_,F_,F_,F_,F_,F_,F_,F_,F_,F_,F_,F_,F_,F_,F_] rfl rfl (any_of HT_.out (by kernel_rfl)) (fun _ _ _ h => h) (Or.inl ⟨by rfl,?_⟩) ?_ ?_
         rotate_left;(intro w';go_simp;with_reducible rfl);rotate_left;(simp only [Act.put,ps_,i64_w,i32_w];rfl)
         refine take_ (i:=16) (N:=some 65) (v:=?_) (a':=?_) #[T_,T_,T_,T_,T_,T_,T_,T_,T_,T_,T_,T_,T_,T_,T_,T_,T_,F_,F_,F_,F_,F_,F_,F_,F_,F_,F_,F_,F_,F_,F_] rfl rfl (take_ofW HT_.out HW_.out (by kernel_rfl)) (fun _ _ _ h => h) (Or.inl ⟨by rfl,?_⟩) hHeld ?_ ?_
         rotate_left
         ·rintro w' ⟨s0,s1,s2,s3,s4,s5,s6,s7,s8,s9,s10,s11,s12,s13,s14,s15,s16,s17,s18,s19,s20,s21,s22,s23,s24,s25,s26,s27,s28,s29,s30,s31,s32,s33,s34,s35,s36,s37,s38,s39,s40,s41,s42,s43,s44,s45,s46,s47⟩
          go_simp
          with_reducible rfl
         rotate_left
         ·simp only [Act.put,ps_,i64_w,i32_w]
          rfl
         refine take_ (i:=17) (N:=some 66) (v:=?_) (a':=?_) #[T_,T_,T_,T_,T_,T_,T_,T_,T_,T_,T_,T_,T_,T_,T_,T_,T_,T_,F_,F_,F_,F_,F_,F_,F_,F_,F_,F_,F_,F_,F_] rfl rfl (take_ofW HT_.out HW_.out (by kernel_rfl)) (fun _ _ _ h => h) (Or.inl ⟨by rfl,?_⟩) hHeld ?_ ?_
         rotate_left
         ·rintro w' ⟨s0,s1,s2,s3,s4,s5,s6,s7,s8,s9,s10,s11,s12,s13,s14,s15,s16,s17,s18,s19,s20,s21,s22,s23,s24,s25,s26,s27,s28,s29,s30,s31,s32,s33,s34,s35,s36,s37,s38,s39,s40,s41,s42,s43,s44,s45,s46,s47⟩
          go_simp
          with_reducible rfl
         rotate_left
         ·simp only [Act.put,ps_,i64_w,i32_w]
          rfl
         refine pure_ (i:=18) (N:=some 67) (v:=?_) (a':=?_) #[T_,T_,T_,T_,T_,T_,T_,T_,T_,T_,T_,T_,T_,T_,T_,T_,T_,T_,T_,F_,F_,F_,F_,F_,F_,F_,F_,F_,F_,F_,F_] rfl rfl (any_of HT_.out (by kernel_rfl)) (fun _ _ _ h => h) (Or.inl ⟨by rfl,?_⟩) ?_ ?_
         rotate_left;(intro w';go_simp;with_reducible rfl);rotate_left;(simp only [Act.put,ps_,i64_w,i32_w];rfl)
         refine pure_ (i:=19) (N:=some 68) (v:=?_) (a':=?_) #[T_,T_,T_,T_,T_,T_,T_,T_,T_,T_,T_,T_,T_,T_,T_,T_,T_,T_,T_,T_,F_,F_,F_,F_,F_,F_,F_,F_,F_,F_,F_] rfl rfl (any_of HT_.out (by kernel_rfl)) (fun _ _ _ h => h) (Or.inl ⟨by rfl,?_⟩) ?_ ?_
         rotate_left;(intro w';go_simp;with_reducible rfl);rotate_left;(simp only [Act.put,ps_,i64_w,i32_w];rfl)
         refine pure_ (i:=20) (N:=some 69) (v:=?_) (a':=?_) #[T_,T_,T_,T_,T_,T_,T_,T_,T_,T_,T_,T_,T_,T_,T_,T_,T_,T_,T_,T_,T_,F_,F_,F_,F_,F_,F_,F_,F_,F_,F_] rfl rfl (any_of HT_.out (by kernel_rfl)) (fun _ _ _ h => h) (Or.inl ⟨by rfl,?_⟩) ?_ ?_
         rotate_left;(intro w';go_simp;with_reducible rfl);rotate_left;(simp only [Act.put,ps_,i64_w,i32_w];rfl)
         refine pure_ (i:=21) (N:=some 70) (v:=?_) (a':=?_) #[T_,T_,T_,T_,T_,T_,T_,T_,T_,T_,T_,T_,T_,T_,T_,T_,T_,T_,T_,T_,T_,T_,F_,F_,F_,F_,F_,F_,F_,F_,F_] rfl rfl (any_of HT_.out (by kernel_rfl)) (fun _ _ _ h => h) (Or.inl ⟨by rfl,?_⟩) ?_ ?_
         rotate_left;(intro w';go_simp;with_reducible rfl);rotate_left;(simp only [Act.put,ps_,i64_w,i32_w];rfl)
         refine pure_ (i:=22) (N:=some 71) (v:=?_) (a':=?_) #[T_,T_,T_,T_,T_,T_,T_,T_,T_,T_,T_,T_,T_,T_,T_,T_,T_,T_,T_,T_,T_,T_,T_,F_,F_,F_,F_,F_,F_,F_,F_] rfl rfl (any_of HT_.out (by kernel_rfl)) (fun _ _ _ h => h) (Or.inl ⟨by rfl,?_⟩) ?_ ?_
         rotate_left;(intro w';go_simp;with_reducible rfl);rotate_left;(simp only [Act.put,ps_,i64_w,i32_w];rfl)
         refine pure_ (i:=23) (N:=some 72) (v:=?_) (a':=?_) #[T_,T_,T_,T_,T_,T_,T_,T_,T_,T_,T_,T_,T_,T_,T_,T_,T_,T_,T_,T_,T_,T_,T_,T_,F_,F_,F_,F_,F_,F_,F_] rfl rfl (any_of HT_.out (by kernel_rfl)) (fun _ _ _ h => h) (Or.inl ⟨by rfl,?_⟩) ?_ ?_
         rotate_left;(intro w';go_simp;with_reducible rfl);rotate_left;(simp only [Act.put,ps_,i64_w,i32_w];rfl)
         refine pure_ (i:=24) (N:=some 73) (v:=?_) (a':=?_) #[T_,T_,T_,T_,T_,T_,T_,T_,T_,T_,T_,T_,T_,T_,T_,T_,T_,T_,T_,T_,T_,T_,T_,T_,T_,F_,F_,F_,F_,F_,F_] rfl rfl (any_of HT_.out (by kernel_rfl)) (fun _ _ _ h => h) (Or.inl ⟨by rfl,?_⟩) ?_ ?_
         rotate_left;(intro w';go_simp;with_reducible rfl);rotate_left;(simp only [Act.put,ps_,i64_w,i32_w];rfl)
         refine pure_ (i:=25) (N:=some 74) (v:=?_) (a':=?_) #[T_,T_,T_,T_,T_,T_,T_,T_,T_,T_,T_,T_,T_,T_,T_,T_,T_,T_,T_,T_,T_,T_,T_,T_,T_,T_,F_,F_,F_,F_,F_] rfl rfl (any_of HT_.out (by kernel_rfl)) (fun _ _ _ h => h) (Or.inl ⟨by rfl,?_⟩) ?_ ?_
         rotate_left;(intro w';go_simp;with_reducible rfl);rotate_left;(simp only [Act.put,ps_,i64_w,i32_w];rfl)
         refine one_ (i:=26) (N:=some 75) #[T_,T_,T_,T_,T_,T_,T_,T_,T_,T_,T_,T_,T_,T_,T_,T_,T_,T_,T_,T_,T_,T_,T_,T_,T_,T_,T_,F_,F_,F_,F_] rfl rfl (one_of HT_.out (by kernel_rfl)) (by decide) (fun K hK => ?_)
         refine goes_ Tryd.func15 (by kernel_rfl) rfl #[] (by rfl) rfl rfl (by (try simp only [List.map_toArray,List.map_cons,List.map_nil]);first|done|rfl|(simp only [List.length_drop,List.length_take];rfl)) ?_
         with_reducible refine (params_Default.calls  t291 t292 t293 t294 t295 t296 t297 t298 t299 t300 t301 t302 _ A26.out).mono ?_
         rintro e w51 ⟨rfl,hb⟩
         refine ⟨_,rfl,?_⟩
         have n0_:=am_ (blk_below (g:=gb253) (o:=.cells #[.int .u64 a0_0,.int .u64 a0_1,.int .u64 a0_2,.int .u64 a0_3,.int .u64 a0_4,.int .u64 a0_5,.int .u64 a0_6,.int .u64 a0_7,.int .u64 a0_8,.int .u64 a0_9,.int .u64 a0_10,.string a0_11] 24 (0,0)) (by (with_reducible repeat (first|refine kn_ ?_ _|refine kd_ ?_|refine ka_ ?_ _));exact BK253.out) hb)
         have n1_:=am_ (blk_below (g:=gb256) (o:=.cells #[.int .u64 a0_0,.int .u64 a0_1,.int .u64 a0_2,.int .u64 a0_3,.int .u64 a0_4,.int .u64 a0_5,.int .u64 a0_6,.int .u64 a0_7,.int .u64 a0_8,.int .u64 a0_9,.int .u64 a0_10,.string a0_11] 26 (0,0)) (by (with_reducible repeat (first|refine kn_ ?_ _|refine kd_ ?_|refine ka_ ?_ _));exact BK256.out) hb)
         have n2_:=am_ (blk_below (g:=gb274) (o:=.cells #[.int .u64 t261,.int .u64 t262,.int .u64 t263,.int .u64 t264,.int .u64 t265,.int .u64 t266,.int .u64 t267,.int .u64 t268,.int .u64 t269,.int .u64 t270,.int .u64 t271,.string t272] 24 (0,0)) (by (with_reducible repeat (first|refine kn_ ?_ _|refine kd_ ?_|refine ka_ ?_ _));exact BK274.out) hb)
         have n3_:=am_ (blk_below (g:=gb288) (o:=.cells #[.int .u64 t275,.int .u64 t276,.int .u64 t277,.int .u64 t278,.int .u64 t279,.int .u64 t280,.int .u64 t281,.int .u64 t282,.int .u64 t283,.int .u64 t284,.int .u64 t285,.string t286] 26 (0,0)) (by (with_reducible repeat (first|refine kn_ ?_ _|refine kd_ ?_|refine ka_ ?_ _));exact BK288.out) hb)
         have n4_:=am_ (below_step (by repeat (first|(with_reducible first|exact HB.out|apply ba_|apply pn_|apply pd_|refine bs_ ?_ GE253.out|refine bs_ ?_ GE256.out|refine bs_ ?_ GE274.out|refine bs_ ?_ GE288.out)|exact HB.out)) hb)
         clear BK253
         clear BK256
         clear BK274
         clear BK288
         clear HB
         have BK253:=n0_
         have BK256:=n1_
         have BK274:=n2_
         have BK288:=n3_
         have HB:=n4_
         clear n0_ n1_ n2_ n3_ n4_
         (try clear hb)
         (try clear hb2)
         (try clear hk)
         (try clear hi)
         refine hK.out _ _ ⟨(kc_ BK253.out 0).trans rfl,(kc_ BK253.out 1).trans rfl,(kc_ BK253.out 2).trans rfl,(kc_ BK253.out 3).trans rfl,(kc_ BK253.out 4).trans rfl,(kc_ BK253.out 5).trans rfl,(kc_ BK253.out 6).trans rfl,(kc_ BK253.out 7).trans rfl,(kc_ BK253.out 8).trans rfl,(kc_ BK253.out 9).trans rfl,(kc_ BK253.out 10).trans rfl,(kc_ BK253.out 11).trans rfl,(kc_ BK256.out 0).trans rfl,(kc_ BK256.out 1).trans rfl,(kc_ BK256.out 2).trans rfl,(kc_ BK256.out 3).trans rfl,(kc_ BK256.out 4).trans rfl,(kc_ BK256.out 5).trans rfl,(kc_ BK256.out 6).trans rfl,(kc_ BK256.out 7).trans rfl,(kc_ BK256.out 8).trans rfl,(kc_ BK256.out 9).trans rfl,(kc_ BK256.out 10).trans rfl,(kc_ BK256.out 11).trans rfl,(kc_ BK274.out 0).trans rfl,(kc_ BK274.out 1).trans rfl,(kc_ BK274.out 2).trans rfl,(kc_ BK274.out 3).trans rfl,(kc_ BK274.out 4).trans rfl,(kc_ BK274.out 5).trans rfl,(kc_ BK274.out 6).trans rfl,(kc_ BK274.out 7).trans rfl,(kc_ BK274.out 8).trans rfl,(kc_ BK274.out 9).trans rfl,(kc_ BK274.out 10).trans rfl,(kc_ BK274.out 11).trans rfl,(kc_ BK288.out 0).trans rfl,(kc_ BK288.out 1).trans rfl,(kc_ BK288.out 2).trans rfl,(kc_ BK288.out 3).trans rfl,(kc_ BK288.out 4).trans rfl,(kc_ BK288.out 5).trans rfl,(kc_ BK288.out 6).trans rfl,(kc_ BK288.out 7).trans rfl,(kc_ BK288.out 8).trans rfl,(kc_ BK288.out 9).trans rfl,(kc_ BK288.out 10).trans rfl,(kc_ BK288.out 11).trans rfl⟩ (fun hHeld => ?_)
         clear hK K
         refine norm_ (a':=?_) ?_ ?_
         rotate_left
         ·show Act.put _ (some 75) _ = _
          simp only [Act.put,ps_,i64_w,i32_w]
          rfl
         refine one_ (i:=27) (N:=some 76) #[T_,T_,T_,T_,T_,T_,T_,T_,T_,T_,T_,T_,T_,T_,T_,T_,T_,T_,T_,T_,T_,T_,T_,T_,T_,T_,T_,T_,F_,F_,F_] rfl rfl (one_of HT_.out (by kernel_rfl)) (by decide) (fun K hK => ?_)
         refine goes_ Tryd.func16 (by kernel_rfl) rfl #[] (by rfl) rfl rfl (by (try simp only [List.map_toArray,List.map_cons,List.map_nil]);first|done|rfl|(simp only [List.length_drop,List.length_take];rfl)) ?_
         with_reducible refine (dominoref05_Default.calls  t303 t304 t305 t306 t307 t308 t309 t310 t311 t312 t313 t314 _ A27.out).mono ?_
         rintro e w52 ⟨rfl,hb⟩
         refine ⟨_,rfl,?_⟩
         have n0_:=am_ (blk_below (g:=gb253) (o:=.cells #[.int .u64 a0_0,.int .u64 a0_1,.int .u64 a0_2,.int .u64 a0_3,.int .u64 a0_4,.int .u64 a0_5,.int .u64 a0_6,.int .u64 a0_7,.int .u64 a0_8,.int .u64 a0_9,.int .u64 a0_10,.string a0_11] 24 (0,0)) (by (with_reducible repeat (first|refine kn_ ?_ _|refine kd_ ?_|refine ka_ ?_ _));exact BK253.out) hb)
         have n1_:=am_ (blk_below (g:=gb256) (o:=.cells #[.int .u64 a0_0,.int .u64 a0_1,.int .u64 a0_2,.int .u64 a0_3,.int .u64 a0_4,.int .u64 a0_5,.int .u64 a0_6,.int .u64 a0_7,.int .u64 a0_8,.int .u64 a0_9,.int .u64 a0_10,.string a0_11] 26 (0,0)) (by (with_reducible repeat (first|refine kn_ ?_ _|refine kd_ ?_|refine ka_ ?_ _));exact BK256.out) hb)
         have n2_:=am_ (blk_below (g:=gb274) (o:=.cells #[.int .u64 t261,.int .u64 t262,.int .u64 t263,.int .u64 t264,.int .u64 t265,.int .u64 t266,.int .u64 t267,.int .u64 t268,.int .u64 t269,.int .u64 t270,.int .u64 t271,.string t272] 24 (0,0)) (by (with_reducible repeat (first|refine kn_ ?_ _|refine kd_ ?_|refine ka_ ?_ _));exact BK274.out) hb)
         have n3_:=am_ (blk_below (g:=gb288) (o:=.cells #[.int .u64 t275,.int .u64 t276,.int .u64 t277,.int .u64 t278,.int .u64 t279,.int .u64 t280,.int .u64 t281,.int .u64 t282,.int .u64 t283,.int .u64 t284,.int .u64 t285,.string t286] 26 (0,0)) (by (with_reducible repeat (first|refine kn_ ?_ _|refine kd_ ?_|refine ka_ ?_ _));exact BK288.out) hb)
         have n4_:=am_ (below_step (by repeat (first|(with_reducible first|exact HB.out|apply ba_|apply pn_|apply pd_|refine bs_ ?_ GE253.out|refine bs_ ?_ GE256.out|refine bs_ ?_ GE274.out|refine bs_ ?_ GE288.out)|exact HB.out)) hb)
         clear BK253
         clear BK256
         clear BK274
         clear BK288
         clear HB
         have BK253:=n0_
         have BK256:=n1_
         have BK274:=n2_
         have BK288:=n3_
         have HB:=n4_
         clear n0_ n1_ n2_ n3_ n4_
         (try clear hb)
         (try clear hb2)
         (try clear hk)
         (try clear hi)
         refine hK.out _ _ ⟨(kc_ BK253.out 0).trans rfl,(kc_ BK253.out 1).trans rfl,(kc_ BK253.out 2).trans rfl,(kc_ BK253.out 3).trans rfl,(kc_ BK253.out 4).trans rfl,(kc_ BK253.out 5).trans rfl,(kc_ BK253.out 6).trans rfl,(kc_ BK253.out 7).trans rfl,(kc_ BK253.out 8).trans rfl,(kc_ BK253.out 9).trans rfl,(kc_ BK253.out 10).trans rfl,(kc_ BK253.out 11).trans rfl,(kc_ BK256.out 0).trans rfl,(kc_ BK256.out 1).trans rfl,(kc_ BK256.out 2).trans rfl,(kc_ BK256.out 3).trans rfl,(kc_ BK256.out 4).trans rfl,(kc_ BK256.out 5).trans rfl,(kc_ BK256.out 6).trans rfl,(kc_ BK256.out 7).trans rfl,(kc_ BK256.out 8).trans rfl,(kc_ BK256.out 9).trans rfl,(kc_ BK256.out 10).trans rfl,(kc_ BK256.out 11).trans rfl,(kc_ BK274.out 0).trans rfl,(kc_ BK274.out 1).trans rfl,(kc_ BK274.out 2).trans rfl,(kc_ BK274.out 3).trans rfl,(kc_ BK274.out 4).trans rfl,(kc_ BK274.out 5).trans rfl,(kc_ BK274.out 6).trans rfl,(kc_ BK274.out 7).trans rfl,(kc_ BK274.out 8).trans rfl,(kc_ BK274.out 9).trans rfl,(kc_ BK274.out 10).trans rfl,(kc_ BK274.out 11).trans rfl,(kc_ BK288.out 0).trans rfl,(kc_ BK288.out 1).trans rfl,(kc_ BK288.out 2).trans rfl,(kc_ BK288.out 3).trans rfl,(kc_ BK288.out 4).trans rfl,(kc_ BK288.out 5).trans rfl,(kc_ BK288.out 6).trans rfl,(kc_ BK288.out 7).trans rfl,(kc_ BK288.out 8).trans rfl,(kc_ BK288.out 9).trans rfl,(kc_ BK288.out 10).trans rfl,(kc_ BK288.out 11).trans rfl⟩ (fun hHeld => ?_)
         clear hK K
         refine norm_ (a':=?_) ?_ ?_
         rotate_left
         ·show Act.put _ (some 76) _ = _
          simp only [Act.put,ps_,i64_w,i32_w]
          rfl
         refine pure_ (i:=28) (N:=some 77) (v:=?_) (a':=?_) #[T_,T_,T_,T_,T_,T_,T_,T_,T_,T_,T_,T_,T_,T_,T_,T_,T_,T_,T_,T_,T_,T_,T_,T_,T_,T_,T_,T_,T_,F_,F_] rfl rfl (any_of HT_.out (by kernel_rfl)) (fun _ _ _ h => h) (Or.inl ⟨by rfl,?_⟩) ?_ ?_
         rotate_left;(intro w';go_simp;with_reducible rfl);rotate_left;(simp only [Act.put,ps_,i64_w,i32_w];rfl)
         refine pure_ (i:=29) (N:=some 78) (v:=?_) (a':=?_) #[T_,T_,T_,T_,T_,T_,T_,T_,T_,T_,T_,T_,T_,T_,T_,T_,T_,T_,T_,T_,T_,T_,T_,T_,T_,T_,T_,T_,T_,T_,F_] rfl rfl (any_of HT_.out (by kernel_rfl)) (fun _ _ _ h => h) (Or.inl ⟨by rfl,?_⟩) ?_ ?_
         rotate_left;(intro w';go_simp;with_reducible rfl);rotate_left;(simp only [Act.put,ps_,i64_w,i32_w];rfl)
         refine pure_ (i:=30) (N:=some 4) (v:=?_) (a':=?_) #[T_,T_,T_,T_,T_,T_,T_,T_,T_,T_,T_,T_,T_,T_,T_,T_,T_,T_,T_,T_,T_,T_,T_,T_,T_,T_,T_,T_,T_,T_,T_] rfl rfl (any_of HT_.out (by kernel_rfl)) (fun _ _ _ h => h) (Or.inl ⟨by rfl,?_⟩) ?_ ?_
         rotate_left;(intro w';go_simp;with_reducible rfl);rotate_left;(simp only [Act.put,ps_,i64_w,i32_w];rfl)
         refine done_ (done_of HT_.out (by kernel_rfl)) ?_
         try go_wp2
         go_ret
         exact ⟨by first|rfl|(have hq_:=of_eq_true c24q;simp [errW_none,errW_some,hq_,bne];done)|(have hq_:=of_eq_true c24q;simp [errW_none,errW_some,hq_,bne];rfl)|(simp [errW_none,errW_some] <;> rfl)|(simp [*,errW_none,errW_some] <;> rfl),by repeat (first|(with_reducible first|exact HB.out|apply ba_|apply pn_|apply pd_|refine bs_ ?_ GE253.out|refine bs_ ?_ GE256.out|refine bs_ ?_ GE274.out|refine bs_ ?_ GE288.out)|exact HB.out)⟩
        ·rw [if_neg c25] at H
         have c25b0 : (t273 == t287) = false:=beq_eq_false_iff_ne.mpr c25
         have c25b1 : (t273 != t287) = true:=bne_iff_ne.mpr c25
         exact absurd H (by simp)
       ·rw [if_neg c24] at H
        have c24b0 : (t261 == t275 && (t262 == t276 && (t263 == t277 && (t264 == t278 && (t265 == t279 && (t266 == t280 && (t267 == t281 && (t268 == t282 && (t269 == t283 && (t270 == t284 && (t271 == t285 && (t272.toList == t286.toList)))))))))))) = false:=by simpa using c24
        have c24q:=c24
        simp only [Bool.not_false,Bool.not_true,Bool.true_and,Bool.and_eq_true,Bool.or_eq_false_iff,Bool.not_eq_eq_eq_not,beq_iff_eq] at c24q
        replace c24q:=eq_false c24q
        (try (have c24b1 : decide (t261 = t275 && (t262 == t276 && (t263 == t277 && (t264 == t278 && (t265 == t279 && (t266 == t280 && (t267 == t281 && (t268 == t282 && (t269 == t283 && (t270 == t284 && (t271 == t285 && (t272.toList == t286.toList)))))))))))) = false:=by simpa using c24))
        (try (have c24b2 : (t261 == t275 && (t262 == t276 && (t263 == t277 && (t264 == t278 && (t265 == t279 && (t266 == t280 && (t267 == t281 && (t268 == t282 && (t269 == t283 && (t270 == t284 && (t271 == t285 && (t272.toList == t286.toList)))))))))))) = false:=by simpa using c24))
        (try (have c24b3 : ¬ (t261 = t275 && (t262 == t276 && (t263 == t277 && (t264 == t278 && (t265 == t279 && (t266 == t280 && (t267 == t281 && (t268 == t282 && (t269 == t283 && (t270 == t284 && (t271 == t285 && (t272.toList == t286.toList)))))))))))):=by simpa using c24))
        clear c24
        exact absurd H (by simp)
      ·rw [if_neg c23] at H
       have c23b0 : (t258 == t260) = false:=beq_eq_false_iff_ne.mpr c23
       have c23b1 : (t258 != t260) = true:=bne_iff_ne.mpr c23
       exact absurd H (by simp)
     ·rw [if_neg c22] at H
      have c22b0 : (t257.toList == t259.toList) = false:=beq_eq_false_iff_ne.mpr c22
      have c22b1 : (t257.toList != t259.toList) = true:=bne_iff_ne.mpr c22
      exact absurd H (by simp)
    ·rw [if_neg c21] at H
     have c21b0 : (t289 == t290) = false:=beq_eq_false_iff_ne.mpr c21
     have c21b1 : (t289 != t290) = true:=bne_iff_ne.mpr c21
     exact absurd H (by simp)

/-- THE ONE PURE STATEMENT of dominolaw05_ParamsTells: yours. -/
def dominolaw05_ParamsTells.Pure : Prop:=∀ (a0_0 : Int) (a0_1 : Int) (a0_2 : Int) (a0_3 : Int) (a0_4 : Int) (a0_5 : Int) (a0_6 : Int) (a0_7 : Int) (a0_8 : Int) (a0_9 : Int) (a0_10 : Int) (a0_11 : ByteArray) (a1 : ByteArray),(Lit.int .u64 a0_0).wf = true → (Lit.int .u64 a0_1).wf = true → (Lit.int .u64 a0_2).wf = true → (Lit.int .u64 a0_3).wf = true → (Lit.int .u64 a0_4).wf = true → (Lit.int .u64 a0_5).wf = true → (Lit.int .u64 a0_6).wf = true → (Lit.int .u64 a0_7).wf = true → (Lit.int .u64 a0_8).wf = true → (Lit.int .u64 a0_9).wf = true → (Lit.int .u64 a0_10).wf = true → a0_11.size ≤ maxLen → a1.size ≤ 140737488351232 → ∃ k,dominolaw05_ParamsTells.f k a0_0 a0_1 a0_2 a0_3 a0_4 a0_5 a0_6 a0_7 a0_8 a0_9 a0_10 a0_11 a1 = some true
theorem dominolaw05_ParamsTells.walk (P : dominolaw05_ParamsTells.Pure) (a0_0 : Int) (a0_1 : Int) (a0_2 : Int) (a0_3 : Int) (a0_4 : Int) (a0_5 : Int) (a0_6 : Int) (a0_7 : Int) (a0_8 : Int) (a0_9 : Int) (a0_10 : Int) (a0_11 : ByteArray) (a1 : ByteArray) (w : World) (w0_0 : (Lit.int .u64 a0_0).wf = true) (w0_1 : (Lit.int .u64 a0_1).wf = true) (w0_2 : (Lit.int .u64 a0_2).wf = true) (w0_3 : (Lit.int .u64 a0_3).wf = true) (w0_4 : (Lit.int .u64 a0_4).wf = true) (w0_5 : (Lit.int .u64 a0_5).wf = true) (w0_6 : (Lit.int .u64 a0_6).wf = true) (w0_7 : (Lit.int .u64 a0_7).wf = true) (w0_8 : (Lit.int .u64 a0_8).wf = true) (w0_9 : (Lit.int .u64 a0_9).wf = true) (w0_10 : (Lit.int .u64 a0_10).wf = true) (w0_11 : a0_11.size ≤ maxLen) (w1 : a1.size ≤ 140737488351232) (ht : Tab w) :
  Calls Tryd.prog 3 #[.agg #[.int .u64 a0_0,.int .u64 a0_1,.int .u64 a0_2,.int .u64 a0_3,.int .u64 a0_4,.int .u64 a0_5,.int .u64 a0_6,.int .u64 a0_7,.int .u64 a0_8,.int .u64 a0_9,.int .u64 a0_10,.string a0_11],.string a1] w fun e w' => e = .returned (.bool true) ∧ Below w.heap.size w w':=by
 obtain ⟨k,h⟩:=P a0_0 a0_1 a0_2 a0_3 a0_4 a0_5 a0_6 a0_7 a0_8 a0_9 a0_10 a0_11 a1 w0_0 w0_1 w0_2 w0_3 w0_4 w0_5 w0_6 w0_7 w0_8 w0_9 w0_10 w0_11 w1
 refine (dominolaw05_ParamsTells.calls k a0_0 a0_1 a0_2 a0_3 a0_4 a0_5 a0_6 a0_7 a0_8 a0_9 a0_10 a0_11 a1 true w ht h).mono ?_
 rintro e w' ⟨rfl,hd⟩
 exact ⟨rfl,hd⟩

end Go.Proofs.YthbnedjcaflofaaDoor.PPax
