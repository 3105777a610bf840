-- printed for this claim by a program of the claim (wip/tools/pp.py over the kit's print)
import Derived.Test.YtjpafikgbnloaaaDoorPHdtx0
import Derived.Test.YtjpafikgbnloaaaDoorPHdtx1
namespace Go.Proofs.YtjpafikgbnloaaaDoor.PHdt
open Go.RowKit Go.Proofs.YtjpafikgbnloaaaDoorW.PrintWords Go.Proofs.YtjpafikgbnloaaaDoorW.PrintLast Go.Proofs.YtjpafikgbnloaaaDoorW.PrintMore
attribute [local go_sem] max2_int min2_int max_two min_two max_three min_three max_four min_four   -- for this text's walks alone
set_option linter.unusedVariables false
set_option linter.unusedSimpArgs false

attribute [local go_sem] isSome_setCell_
attribute [local go_sem high] eqA25
/-! ### dominolaw04_bounded: function 10 -/
def dominolaw04_bounded.f (a0_0 : Bool) (a0_1 : Bool) (a0_2 : Bool) (a0_3 : Int) (a0_4 : Int) (a0_5 : ByteArray) (a0_6 : ByteArray) (a0_7 : ByteArray) (a0_8 : Int) (a0_9 : Int) (a0_10 : Int) : Option (Bool):=if (a0_5.size : Int) ≤ 100 then (if (a0_6.size : Int) ≤ 100 then (some (decide ((a0_7.size : Int) ≤ 1100))) else (some false)) else (some false)
set_option maxHeartbeats 8000000 in
set_option maxRecDepth 100000 in
theorem dominolaw04_bounded.calls (a0_0 : Bool) (a0_1 : Bool) (a0_2 : Bool) (a0_3 : Int) (a0_4 : Int) (a0_5 : ByteArray) (a0_6 : ByteArray) (a0_7 : ByteArray) (a0_8 : Int) (a0_9 : Int) (a0_10 : Int) (r : Bool) (w : World) (h : dominolaw04_bounded.f a0_0 a0_1 a0_2 a0_3 a0_4 a0_5 a0_6 a0_7 a0_8 a0_9 a0_10 = some r) :
  Calls Tryd.prog 10 #[.agg #[.bool a0_0,.bool a0_1,.bool a0_2,.int .i64 a0_3,.int .u32 a0_4,.string a0_5,.string a0_6,.string a0_7,.int .u64 a0_8,.int .i64 a0_9,.int .u64 a0_10]] w fun e w' => e = .returned (.bool r) ∧ Below w.heap.size w w':=by
 have hu25:=Tryd.underlying25
 have HB:=am_ (Below.refl w.heap.size w)
 have H : (if (a0_5.size : Int) ≤ 100 then (if (a0_6.size : Int) ≤ 100 then (some (decide ((a0_7.size : Int) ≤ 1100))) else (some false)) else (some false)) = some r:=h
 clear h
 by_cases c2 : (a0_5.size : Int) ≤ 100
 ·rw [if_pos c2] at H
  have c2b0 : decide ((a0_5.size : Int) ≤ 100) = true:=decide_eq_true c2
  have c2b1 : decide (a0_5.size ≤ 100) = true:=decide_eq_true (by omega)
  clear c2
  by_cases c3 : (a0_6.size : Int) ≤ 100
  ·rw [if_pos c3] at H
   have c3b0 : decide ((a0_6.size : Int) ≤ 100) = true:=decide_eq_true c3
   have c3b1 : decide (a0_6.size ≤ 100) = true:=decide_eq_true (by omega)
   clear c3
   obtain rfl:=Option.some.inj H
   go_enter Tryd.func10,Tryd.ntmps10
   go_wp2_with (first|((with_reducible refine gate_dst (N:=1) rfl ?_);(try (refine gate_guard (by rfl) ?_;dsimp only));refine box_event ?hg (N:=1) ?hd (cs:=#[.bool a0_0,.bool a0_1,.bool a0_2,.int .i64 a0_3,.int .u32 a0_4,.string a0_5,.string a0_6,.string a0_7,.int .u64 a0_8,.int .i64 a0_9,.int .u64 a0_10]) (t:=25) ?hr ?_;(case hd => rfl);(case hg => rfl);(case hr => first|(go_simp;done)|(go_simp;rfl));intro gb101 hg w4 hbox hb;have n0_:=am_ (below_step (by repeat (first|(with_reducible first|exact HB.out|apply ba_|apply pn_|apply pd_)|exact HB.out)) hb);have n1_:=am_ (hbox);have n2_:=am_ ((by rw [hg];exact (below_size (by repeat (first|(with_reducible first|exact HB.out|apply ba_|apply pn_|apply pd_)|exact HB.out))) : w.heap.size ≤ gb101));have n3_:=am_ ((by rw [hg];exact (below_size (by repeat (first|(with_reducible first|exact HB.out|apply ba_|apply pn_|apply pd_)|exact HB.out))) : w.heap.size ≤ gb101));clear HB;have HB:=n0_;have BK101:=n1_;have GW101:=n2_;have GE101:=n3_;clear n0_ n1_ n2_ n3_;clear hb hbox hg;obtain ⟨hcz5_0,hcz5_1,hcz5_2,hcz5_3,hcz5_4,hcz5_5,hcz5_6,hcz5_7,hcz5_8,hcz5_9,hcz5_10,hfz5_0,hfz5_1,hfz5_2,hfz5_3,hfz5_4,hfz5_5,hfz5_6,hfz5_7,hfz5_8,hfz5_9,hfz5_10⟩:=cs11f_ BK101.out;skip))
   go_ret
   exact ⟨by first|rfl|(simp [errW_none,errW_some] <;> rfl)|(simp [*,errW_none,errW_some] <;> rfl),by repeat (first|(with_reducible first|exact HB.out|apply ba_|apply pn_|apply pd_|refine bs_ ?_ GE101.out)|exact HB.out)⟩
  ·rw [if_neg c3] at H
   have c3b0 : decide ((a0_6.size : Int) ≤ 100) = false:=decide_eq_false c3
   have c3b1 : decide (a0_6.size ≤ 100) = false:=decide_eq_false (by omega)
   clear c3
   obtain rfl:=Option.some.inj H
   go_enter Tryd.func10,Tryd.ntmps10
   go_wp2_with (first|((with_reducible refine gate_dst (N:=1) rfl ?_);(try (refine gate_guard (by rfl) ?_;dsimp only));refine box_event ?hg (N:=1) ?hd (cs:=#[.bool a0_0,.bool a0_1,.bool a0_2,.int .i64 a0_3,.int .u32 a0_4,.string a0_5,.string a0_6,.string a0_7,.int .u64 a0_8,.int .i64 a0_9,.int .u64 a0_10]) (t:=25) ?hr ?_;(case hd => rfl);(case hg => rfl);(case hr => first|(go_simp;done)|(go_simp;rfl));intro gb101 hg w6 hbox hb;have n0_:=am_ (below_step (by repeat (first|(with_reducible first|exact HB.out|apply ba_|apply pn_|apply pd_)|exact HB.out)) hb);have n1_:=am_ (hbox);have n2_:=am_ ((by rw [hg];exact (below_size (by repeat (first|(with_reducible first|exact HB.out|apply ba_|apply pn_|apply pd_)|exact HB.out))) : w.heap.size ≤ gb101));have n3_:=am_ ((by rw [hg];exact (below_size (by repeat (first|(with_reducible first|exact HB.out|apply ba_|apply pn_|apply pd_)|exact HB.out))) : w.heap.size ≤ gb101));clear HB;have HB:=n0_;have BK101:=n1_;have GW101:=n2_;have GE101:=n3_;clear n0_ n1_ n2_ n3_;clear hb hbox hg;obtain ⟨hcz7_0,hcz7_1,hcz7_2,hcz7_3,hcz7_4,hcz7_5,hcz7_6,hcz7_7,hcz7_8,hcz7_9,hcz7_10,hfz7_0,hfz7_1,hfz7_2,hfz7_3,hfz7_4,hfz7_5,hfz7_6,hfz7_7,hfz7_8,hfz7_9,hfz7_10⟩:=cs11f_ BK101.out;skip))
   go_ret
   exact ⟨by first|rfl|(simp [errW_none,errW_some] <;> rfl)|(simp [*,errW_none,errW_some] <;> rfl),by repeat (first|(with_reducible first|exact HB.out|apply ba_|apply pn_|apply pd_|refine bs_ ?_ GE101.out)|exact HB.out)⟩
 ·rw [if_neg c2] at H
  have c2b0 : decide ((a0_5.size : Int) ≤ 100) = false:=decide_eq_false c2
  have c2b1 : decide (a0_5.size ≤ 100) = false:=decide_eq_false (by omega)
  clear c2
  obtain rfl:=Option.some.inj H
  go_enter Tryd.func10,Tryd.ntmps10
  go_wp2_with (first|((with_reducible refine gate_dst (N:=1) rfl ?_);(try (refine gate_guard (by rfl) ?_;dsimp only));refine box_event ?hg (N:=1) ?hd (cs:=#[.bool a0_0,.bool a0_1,.bool a0_2,.int .i64 a0_3,.int .u32 a0_4,.string a0_5,.string a0_6,.string a0_7,.int .u64 a0_8,.int .i64 a0_9,.int .u64 a0_10]) (t:=25) ?hr ?_;(case hd => rfl);(case hg => rfl);(case hr => first|(go_simp;done)|(go_simp;rfl));intro gb101 hg w8 hbox hb;have n0_:=am_ (below_step (by repeat (first|(with_reducible first|exact HB.out|apply ba_|apply pn_|apply pd_)|exact HB.out)) hb);have n1_:=am_ (hbox);have n2_:=am_ ((by rw [hg];exact (below_size (by repeat (first|(with_reducible first|exact HB.out|apply ba_|apply pn_|apply pd_)|exact HB.out))) : w.heap.size ≤ gb101));have n3_:=am_ ((by rw [hg];exact (below_size (by repeat (first|(with_reducible first|exact HB.out|apply ba_|apply pn_|apply pd_)|exact HB.out))) : w.heap.size ≤ gb101));clear HB;have HB:=n0_;have BK101:=n1_;have GW101:=n2_;have GE101:=n3_;clear n0_ n1_ n2_ n3_;clear hb hbox hg;obtain ⟨hcz9_0,hcz9_1,hcz9_2,hcz9_3,hcz9_4,hcz9_5,hcz9_6,hcz9_7,hcz9_8,hcz9_9,hcz9_10,hfz9_0,hfz9_1,hfz9_2,hfz9_3,hfz9_4,hfz9_5,hfz9_6,hfz9_7,hfz9_8,hfz9_9,hfz9_10⟩:=cs11f_ BK101.out;skip))
  go_ret
  exact ⟨by first|rfl|(simp [errW_none,errW_some] <;> rfl)|(simp [*,errW_none,errW_some] <;> rfl),by repeat (first|(with_reducible first|exact HB.out|apply ba_|apply pn_|apply pd_|refine bs_ ?_ GE101.out)|exact HB.out)⟩

/-! ### header_May: function 18 -/
def header_May.j0 : Nat → Bool → Bool → Bool → Bool → Int → Int → ByteArray → ByteArray → ByteArray → Int → Int → Int → Option (Bool)
 | 0,_,_,_,_,_,_,_,_,_,_,_,_ => none
 | k + 1,x20,x103000,x103001,x103002,x103003,x103004,x103005,x103006,x103007,x103008,x103009,x103010 => if x20 = true then (some false) else (if x103000 = true then (if x103001 = true then (some false) else (if x103002 = true then (some false) else (if x103003 < 0 then (some false) else (if x103003 > 2 then (some false) else (if x103003 = 0 then (if (x103005.size : Int) ≤ 20 then (if (x103006.size : Int) ≤ 20 then (if (x103007.size : Int) ≤ 1000 then (some (decide (x103008 ≤ 4611686018427387903))) else (some false)) else (some false)) else (some false)) else (if x103007.toList = ([] : List UInt8) then (if (x103005.size : Int) ≤ 20 then (if (x103006.size : Int) ≤ 20 then (if (x103007.size : Int) ≤ 1000 then (some (decide (x103008 ≤ 4611686018427387903))) else (some false)) else (some false)) else (some false)) else (some false))))))) else (if (!x103000 && (x103003 == 0 && (x103004 == 0 && (x103006.toList == ([] : List UInt8) && (x103007.toList == ([] : List UInt8) && (x103008 == 0)))))) = true then (some ((x103005.size : Int) == 8)) else (some false)))
def header_May.f (k : Nat) (a0_0 : Bool) (a0_1 : Bool) (a0_2 : Bool) (a0_3 : Int) (a0_4 : Int) (a0_5 : ByteArray) (a0_6 : ByteArray) (a0_7 : ByteArray) (a0_8 : Int) (a0_9 : Int) (a0_10 : Int) : Option (Bool):=if a0_9 < 1 then (header_May.j0 k true a0_0 a0_1 a0_2 a0_3 a0_4 a0_5 a0_6 a0_7 a0_8 a0_9 a0_10) else (if a0_9 > 4 then (header_May.j0 k true a0_0 a0_1 a0_2 a0_3 a0_4 a0_5 a0_6 a0_7 a0_8 a0_9 a0_10) else (if 0 ≤ (wrap64 (8 * a0_9)) then (header_May.j0 k ((shr .u64 a0_10 (wrap64 (8 * a0_9))) != 0) a0_0 a0_1 a0_2 a0_3 a0_4 a0_5 a0_6 a0_7 a0_8 a0_9 a0_10) else (none)))
theorem header_May.mono_l : ∀ k,(∀ y0 y1 y2 y3 y4 y5 y6 y7 y8 y9 y10 y11,LeO (header_May.j0 k y0 y1 y2 y3 y4 y5 y6 y7 y8 y9 y10 y11) (header_May.j0 (k + 1) y0 y1 y2 y3 y4 y5 y6 y7 y8 y9 y10 y11))
 | 0 => fun _ _ _ _ _ _ _ _ _ _ _ _ r h => by simp [header_May.j0] at h
 | k + 1 => by
  have ih0:=header_May.mono_l k
  ·intro y0 y1 y2 y3 y4 y5 y6 y7 y8 y9 y10 y11
   unfold header_May.j0
   repeat' first
   | (with_reducible exact ih0 _ _ _ _ _ _ _ _ _ _ _ _)
   | (with_reducible exact LeO.refl _)
   | (with_reducible exact LeO.none _)
   | (with_reducible refine LeO.ite ?_ ?_)
   | (with_reducible refine LeO.bind ?_ (fun _ => ?_))
   | exact ih0 _ _ _ _ _ _ _ _ _ _ _ _
   | exact LeO.none _
   | refine LeO.ite ?_ ?_
   | refine LeO.bind ?_ (fun _ => ?_)
theorem header_May.mono : ∀ a0 a1 a2 a3 a4 a5 a6 a7 a8 a9 a10 k,LeO (header_May.f k a0 a1 a2 a3 a4 a5 a6 a7 a8 a9 a10) (header_May.f (k + 1) a0 a1 a2 a3 a4 a5 a6 a7 a8 a9 a10):=by
 intro a0 a1 a2 a3 a4 a5 a6 a7 a8 a9 a10 k
 have ih0:=header_May.mono_l k
 unfold header_May.f
 repeat' first
   | (with_reducible exact ih0 _ _ _ _ _ _ _ _ _ _ _ _)
   | (with_reducible exact LeO.refl _)
   | (with_reducible exact LeO.none _)
   | (with_reducible refine LeO.ite ?_ ?_)
   | (with_reducible refine LeO.bind ?_ (fun _ => ?_))
   | exact ih0 _ _ _ _ _ _ _ _ _ _ _ _
   | exact LeO.none _
   | refine LeO.ite ?_ ?_
   | refine LeO.bind ?_ (fun _ => ?_)
set_option maxHeartbeats 8000000 in
set_option maxRecDepth 100000 in
theorem header_May.calls (k : Nat) (a0_0 : Bool) (a0_1 : Bool) (a0_2 : Bool) (a0_3 : Int) (a0_4 : Int) (a0_5 : ByteArray) (a0_6 : ByteArray) (a0_7 : ByteArray) (a0_8 : Int) (a0_9 : Int) (a0_10 : Int) (r : Bool) (w : World) (h : header_May.f k a0_0 a0_1 a0_2 a0_3 a0_4 a0_5 a0_6 a0_7 a0_8 a0_9 a0_10 = some r) :
  Calls Tryd.prog 18 #[.agg #[.bool a0_0,.bool a0_1,.bool a0_2,.int .i64 a0_3,.int .u32 a0_4,.string a0_5,.string a0_6,.string a0_7,.int .u64 a0_8,.int .i64 a0_9,.int .u64 a0_10]] w fun e w' => e = .returned (.bool r) ∧ Below w.heap.size w w':=by
 have hu25:=Tryd.underlying25
 have HB:=am_ (Below.refl w.heap.size w)
 have H : (if a0_9 < 1 then (header_May.j0 k true a0_0 a0_1 a0_2 a0_3 a0_4 a0_5 a0_6 a0_7 a0_8 a0_9 a0_10) else (if a0_9 > 4 then (header_May.j0 k true a0_0 a0_1 a0_2 a0_3 a0_4 a0_5 a0_6 a0_7 a0_8 a0_9 a0_10) else (if 0 ≤ (wrap64 (8 * a0_9)) then (header_May.j0 k ((shr .u64 a0_10 (wrap64 (8 * a0_9))) != 0) a0_0 a0_1 a0_2 a0_3 a0_4 a0_5 a0_6 a0_7 a0_8 a0_9 a0_10) else (none)))) = some r:=h
 clear h
 have HC2:=am_ H
 clear H
 go_enter Tryd.func18,Tryd.ntmps18
 go_upto_region 1 with (first|((with_reducible refine gate_dst (N:=1) rfl ?_);(try (refine gate_guard (by rfl) ?_;dsimp only));refine box_event ?hg (N:=1) ?hd (cs:=#[.bool a0_0,.bool a0_1,.bool a0_2,.int .i64 a0_3,.int .u32 a0_4,.string a0_5,.string a0_6,.string a0_7,.int .u64 a0_8,.int .i64 a0_9,.int .u64 a0_10]) (t:=25) ?hr ?_;(case hd => rfl);(case hg => rfl);(case hr => first|(go_simp;done)|(go_simp;rfl));intro gb102 hg w3 hbox hb;have n0_:=am_ (below_step (by repeat (first|(with_reducible first|exact HB.out|apply ba_|apply pn_|apply pd_)|exact HB.out)) hb);have n1_:=am_ (hbox);have n2_:=am_ ((by rw [hg];exact (below_size (by repeat (first|(with_reducible first|exact HB.out|apply ba_|apply pn_|apply pd_)|exact HB.out))) : w.heap.size ≤ gb102));have n3_:=am_ ((by rw [hg];exact (below_size (by repeat (first|(with_reducible first|exact HB.out|apply ba_|apply pn_|apply pd_)|exact HB.out))) : w.heap.size ≤ gb102));clear HB;have HB:=n0_;have BK102:=n1_;have GW102:=n2_;have GE102:=n3_;clear n0_ n1_ n2_ n3_;clear hb hbox hg))
 (try simp only [Act.put,ps_])
 go_cut [20] (fun v20 wc => ∃ (kq : Nat) (x20_1 : Bool),v20 = .bool x20_1 ∧ Aside0 (header_May.j0 kq x20_1 a0_0 a0_1 a0_2 a0_3 a0_4 a0_5 a0_6 a0_7 a0_8 a0_9 a0_10 = some r) ∧ Aside0 (kq ≤ k) ∧ Aside0 (wc.heap[gb102]? = some (.cells #[.bool a0_0,.bool a0_1,.bool a0_2,.int .i64 a0_3,.int .u32 a0_4,.string a0_5,.string a0_6,.string a0_7,.int .u64 a0_8,.int .i64 a0_9,.int .u64 a0_10] 25 (0,0))) ∧ Aside0 (Below w.heap.size w wc))
 case first =>
  have H:=HC2.out
  clear HC2
  by_cases c4 : a0_9 < 1
  ·rw [if_pos c4] at H
   have c4b0 : decide (a0_9 < 1) = true:=decide_eq_true c4
   clear c4
   (first|rw [c4b0]|(simp only [i64_w,i32_w];rw [c4b0])|skip)
   have H':=am_ H
   clear H
   obtain ⟨hcz5_0,hcz5_1,hcz5_2,hcz5_3,hcz5_4,hcz5_5,hcz5_6,hcz5_7,hcz5_8,hcz5_9,hcz5_10,hfz5_0,hfz5_1,hfz5_2,hfz5_3,hfz5_4,hfz5_5,hfz5_6,hfz5_7,hfz5_8,hfz5_9,hfz5_10⟩:=cs11f_ BK102.out
   go_wp2
   go_meet
   case rel => exact ⟨_,(true),(by first|rfl|(simp;done)|(simp [*];done)),H',⟨by first|omega|exact Nat.le_refl _⟩,⟨by (with_reducible repeat (first|refine kn_ ?_ _|refine kd_ ?_|refine ka_ ?_ _));exact BK102.out⟩,⟨by repeat (first|(with_reducible first|exact HB.out|apply ba_|apply pn_|apply pd_|refine bs_ ?_ GE102.out)|exact HB.out)⟩⟩
  ·rw [if_neg c4] at H
   have c4b0 : decide (a0_9 < 1) = false:=decide_eq_false c4
   clear c4
   (first|rw [c4b0]|(simp only [i64_w,i32_w];rw [c4b0])|skip)
   by_cases c6 : a0_9 > 4
   ·rw [if_pos c6] at H
    have c6b0 : decide (4 < a0_9) = true:=decide_eq_true c6
    clear c6
    have H':=am_ H
    clear H
    obtain ⟨hcz7_0,hcz7_1,hcz7_2,hcz7_3,hcz7_4,hcz7_5,hcz7_6,hcz7_7,hcz7_8,hcz7_9,hcz7_10,hfz7_0,hfz7_1,hfz7_2,hfz7_3,hfz7_4,hfz7_5,hfz7_6,hfz7_7,hfz7_8,hfz7_9,hfz7_10⟩:=cs11f_ BK102.out
    go_wp2
    go_meet
    case rel => exact ⟨_,(true),(by first|rfl|(simp;done)|(simp [*];done)),H',⟨by first|omega|exact Nat.le_refl _⟩,⟨by (with_reducible repeat (first|refine kn_ ?_ _|refine kd_ ?_|refine ka_ ?_ _));exact BK102.out⟩,⟨by repeat (first|(with_reducible first|exact HB.out|apply ba_|apply pn_|apply pd_|refine bs_ ?_ GE102.out)|exact HB.out)⟩⟩
   ·rw [if_neg c6] at H
    have c6b0 : decide (4 < a0_9) = false:=decide_eq_false c6
    clear c6
    obtain ⟨ji8,hji8⟩ : ∃ j_ : Int,(wrap64 (8 * a0_9)) = j_:=⟨_,rfl⟩
    replace H : (if 0 ≤ (ji8) then (header_May.j0 k ((shr .u64 a0_10 (ji8)) != 0) a0_0 a0_1 a0_2 a0_3 a0_4 a0_5 a0_6 a0_7 a0_8 a0_9 a0_10) else (none)) = some r:=by first|(rw [hji8] at H;exact H)|(simp only [hji8] at H ⊢;exact H)
    have hji8w : (IntKind.i64.wrap (8 * a0_9)) = ji8:=(i64_w _).trans hji8
    by_cases c9 : 0 ≤ (ji8)
    ·rw [if_pos c9] at H
     have c9b0:=eq_true c9
     have c9b1 : decide (0 ≤ (ji8)) = true:=decide_eq_true c9
     clear c9
     obtain ⟨ji10,hji10⟩ : ∃ j_ : Int,(shr .u64 a0_10 (ji8)) = j_:=⟨_,rfl⟩
     replace H : (header_May.j0 k ((ji10) != 0) a0_0 a0_1 a0_2 a0_3 a0_4 a0_5 a0_6 a0_7 a0_8 a0_9 a0_10) = some r:=by first|(rw [hji10] at H;exact H)|(simp only [hji10] at H ⊢;exact H)
     have hji10_ : (a0_10 / 2 ^ min (ji8).toNat 64) = ji10:=hji10
     have hji10z : (ji8) ≤ 64 → (a0_10 / 2 ^ (ji8).toNat) = ji10:=shr_small hji10
     have H':=am_ H
     clear H
     obtain ⟨hcz11_0,hcz11_1,hcz11_2,hcz11_3,hcz11_4,hcz11_5,hcz11_6,hcz11_7,hcz11_8,hcz11_9,hcz11_10,hfz11_0,hfz11_1,hfz11_2,hfz11_3,hfz11_4,hfz11_5,hfz11_6,hfz11_7,hfz11_8,hfz11_9,hfz11_10⟩:=cs11f_ BK102.out
     go_wp2
     go_meet
     case rel => exact ⟨_,(((ji10) != 0)),(by first|rfl|(simp;done)|(simp only [← hji10] <;> (first|rfl|simp))|(simp [*];done)),H',⟨by first|omega|exact Nat.le_refl _⟩,⟨by (with_reducible repeat (first|refine kn_ ?_ _|refine kd_ ?_|refine ka_ ?_ _));exact BK102.out⟩,⟨by repeat (first|(with_reducible first|exact HB.out|apply ba_|apply pn_|apply pd_|refine bs_ ?_ GE102.out)|exact HB.out)⟩⟩
    ·rw [if_neg c9] at H
     exact absurd H (by simp)
 case rest =>
  clear HC2
  try clear c1;try clear p2
  try clear c4;try clear c4b0
  try clear c6;try clear c6b0
  try clear p6;try clear c9
  try clear c9b0;try clear c9b1
  try clear hcz11_0;try clear hcz11_1
  try clear hcz11_10;try clear hcz11_2
  try clear hcz11_3;try clear hcz11_4
  try clear hcz11_5;try clear hcz11_6
  try clear hcz11_7;try clear hcz11_8
  try clear hcz11_9;try clear hcz5_0
  try clear hcz5_1;try clear hcz5_10
  try clear hcz5_2;try clear hcz5_3
  try clear hcz5_4;try clear hcz5_5
  try clear hcz5_6;try clear hcz5_7
  try clear hcz5_8;try clear hcz5_9
  try clear hcz7_0;try clear hcz7_1
  try clear hcz7_10;try clear hcz7_2
  try clear hcz7_3;try clear hcz7_4
  try clear hcz7_5;try clear hcz7_6
  try clear hcz7_7;try clear hcz7_8
  try clear hcz7_9;try clear hfz11_0
  try clear hfz11_1;try clear hfz11_10
  try clear hfz11_2;try clear hfz11_3
  try clear hfz11_4;try clear hfz11_5
  try clear hfz11_6;try clear hfz11_7
  try clear hfz11_8;try clear hfz11_9
  try clear hfz5_0;try clear hfz5_1
  try clear hfz5_10;try clear hfz5_2
  try clear hfz5_3;try clear hfz5_4
  try clear hfz5_5;try clear hfz5_6
  try clear hfz5_7;try clear hfz5_8
  try clear hfz5_9;try clear hfz7_0
  try clear hfz7_1;try clear hfz7_10
  try clear hfz7_2;try clear hfz7_3
  try clear hfz7_4;try clear hfz7_5
  try clear hfz7_6;try clear hfz7_7
  try clear hfz7_8;try clear hfz7_9
  obtain ⟨kq,x20_1,rfl,HA,HJ1,BK102,HB⟩:=hcut
  cases kq with
  | zero => exact absurd HA.out (by simp [header_May.j0])
  | succ kj1 =>
   have H:=HA.out
   clear HA
   simp only [header_May.j0] at H
   by_cases c12 : x20_1 = true
   ·subst c12
    have H1 : (some false) = some r:=by rw [if_pos rfl] at H;exact H
    clear H
    have H:=H1
    clear H1
    obtain rfl:=Option.some.inj H
    go_wp2
    go_ret
    exact ⟨by first|rfl|(simp [errW_none,errW_some] <;> rfl)|(simp [*,errW_none,errW_some] <;> rfl),by repeat (first|(with_reducible first|exact HB.out|apply ba_|apply pn_|apply pd_|refine bs_ ?_ GE102.out)|exact HB.out)⟩
   ·replace c12:=Bool.eq_false_iff.mpr c12
    subst c12
    have H1 : (if a0_0 = true then (if a0_1 = true then (some false) else (if a0_2 = true then (some false) else (if a0_3 < 0 then (some false) else (if a0_3 > 2 then (some false) else (if a0_3 = 0 then (if (a0_5.size : Int) ≤ 20 then (if (a0_6.size : Int) ≤ 20 then (if (a0_7.size : Int) ≤ 1000 then (some (decide (a0_8 ≤ 4611686018427387903))) else (some false)) else (some false)) else (some false)) else (if a0_7.toList = ([] : List UInt8) then (if (a0_5.size : Int) ≤ 20 then (if (a0_6.size : Int) ≤ 20 then (if (a0_7.size : Int) ≤ 1000 then (some (decide (a0_8 ≤ 4611686018427387903))) else (some false)) else (some false)) else (some false)) else (some false))))))) else (if (!a0_0 && (a0_3 == 0 && (a0_4 == 0 && (a0_6.toList == ([] : List UInt8) && (a0_7.toList == ([] : List UInt8) && (a0_8 == 0)))))) = true then (some ((a0_5.size : Int) == 8)) else (some false))) = some r:=by rw [if_neg (show ¬ (false = true) by decide)] at H;exact H
    clear H
    have H:=H1
    clear H1
    by_cases c13 : a0_0 = true
    ·subst c13
     have H1 : (if a0_1 = true then (some false) else (if a0_2 = true then (some false) else (if a0_3 < 0 then (some false) else (if a0_3 > 2 then (some false) else (if a0_3 = 0 then (if (a0_5.size : Int) ≤ 20 then (if (a0_6.size : Int) ≤ 20 then (if (a0_7.size : Int) ≤ 1000 then (some (decide (a0_8 ≤ 4611686018427387903))) else (some false)) else (some false)) else (some false)) else (if a0_7.toList = ([] : List UInt8) then (if (a0_5.size : Int) ≤ 20 then (if (a0_6.size : Int) ≤ 20 then (if (a0_7.size : Int) ≤ 1000 then (some (decide (a0_8 ≤ 4611686018427387903))) else (some false)) else (some false)) else (some false)) else (some false))))))) = some r:=by rw [if_pos rfl] at H;exact H
     clear H
     have H:=H1
     clear H1
     by_cases c14 : a0_1 = true
     ·subst c14
      have H1 : (some false) = some r:=by rw [if_pos rfl] at H;exact H
      clear H
      have H:=H1
      clear H1
      obtain rfl:=Option.some.inj H
      obtain ⟨hcz15_0,hcz15_1,hcz15_2,hcz15_3,hcz15_4,hcz15_5,hcz15_6,hcz15_7,hcz15_8,hcz15_9,hcz15_10,hfz15_0,hfz15_1,hfz15_2,hfz15_3,hfz15_4,hfz15_5,hfz15_6,hfz15_7,hfz15_8,hfz15_9,hfz15_10⟩:=cs11f_ BK102.out
      go_wp2
      go_ret
      exact ⟨by first|rfl|(simp [errW_none,errW_some] <;> rfl)|(simp [*,errW_none,errW_some] <;> rfl),by repeat (first|(with_reducible first|exact HB.out|apply ba_|apply pn_|apply pd_|refine bs_ ?_ GE102.out)|exact HB.out)⟩
     ·replace c14:=Bool.eq_false_iff.mpr c14
      subst c14
      have H1 : (if a0_2 = true then (some false) else (if a0_3 < 0 then (some false) else (if a0_3 > 2 then (some false) else (if a0_3 = 0 then (if (a0_5.size : Int) ≤ 20 then (if (a0_6.size : Int) ≤ 20 then (if (a0_7.size : Int) ≤ 1000 then (some (decide (a0_8 ≤ 4611686018427387903))) else (some false)) else (some false)) else (some false)) else (if a0_7.toList = ([] : List UInt8) then (if (a0_5.size : Int) ≤ 20 then (if (a0_6.size : Int) ≤ 20 then (if (a0_7.size : Int) ≤ 1000 then (some (decide (a0_8 ≤ 4611686018427387903))) else (some false)) else (some false)) else (some false)) else (some false)))))) = some r:=by rw [if_neg (show ¬ (false = true) by decide)] at H;exact H
      clear H
      have H:=H1
      clear H1
      by_cases c16 : a0_2 = true
      ·subst c16
       have H1 : (some false) = some r:=by rw [if_pos rfl] at H;exact H
       clear H
       have H:=H1
       clear H1
       obtain rfl:=Option.some.inj H
       obtain ⟨hcz17_0,hcz17_1,hcz17_2,hcz17_3,hcz17_4,hcz17_5,hcz17_6,hcz17_7,hcz17_8,hcz17_9,hcz17_10,hfz17_0,hfz17_1,hfz17_2,hfz17_3,hfz17_4,hfz17_5,hfz17_6,hfz17_7,hfz17_8,hfz17_9,hfz17_10⟩:=cs11f_ BK102.out
       go_wp2
       go_ret
       exact ⟨by first|rfl|(simp [errW_none,errW_some] <;> rfl)|(simp [*,errW_none,errW_some] <;> rfl),by repeat (first|(with_reducible first|exact HB.out|apply ba_|apply pn_|apply pd_|refine bs_ ?_ GE102.out)|exact HB.out)⟩
      ·replace c16:=Bool.eq_false_iff.mpr c16
       subst c16
       have H1 : (if a0_3 < 0 then (some false) else (if a0_3 > 2 then (some false) else (if a0_3 = 0 then (if (a0_5.size : Int) ≤ 20 then (if (a0_6.size : Int) ≤ 20 then (if (a0_7.size : Int) ≤ 1000 then (some (decide (a0_8 ≤ 4611686018427387903))) else (some false)) else (some false)) else (some false)) else (if a0_7.toList = ([] : List UInt8) then (if (a0_5.size : Int) ≤ 20 then (if (a0_6.size : Int) ≤ 20 then (if (a0_7.size : Int) ≤ 1000 then (some (decide (a0_8 ≤ 4611686018427387903))) else (some false)) else (some false)) else (some false)) else (some false))))) = some r:=by rw [if_neg (show ¬ (false = true) by decide)] at H;exact H
       clear H
       have H:=H1
       clear H1
       by_cases c18 : a0_3 < 0
       ·rw [if_pos c18] at H
        have c18b0 : decide (a0_3 < 0) = true:=decide_eq_true c18
        clear c18
        obtain rfl:=Option.some.inj H
        obtain ⟨hcz19_0,hcz19_1,hcz19_2,hcz19_3,hcz19_4,hcz19_5,hcz19_6,hcz19_7,hcz19_8,hcz19_9,hcz19_10,hfz19_0,hfz19_1,hfz19_2,hfz19_3,hfz19_4,hfz19_5,hfz19_6,hfz19_7,hfz19_8,hfz19_9,hfz19_10⟩:=cs11f_ BK102.out
        go_wp2
        go_ret
        exact ⟨by first|rfl|(simp [errW_none,errW_some] <;> rfl)|(simp [*,errW_none,errW_some] <;> rfl),by repeat (first|(with_reducible first|exact HB.out|apply ba_|apply pn_|apply pd_|refine bs_ ?_ GE102.out)|exact HB.out)⟩
       ·rw [if_neg c18] at H
        have c18b0 : decide (a0_3 < 0) = false:=decide_eq_false c18
        clear c18
        by_cases c20 : a0_3 > 2
        ·rw [if_pos c20] at H
         have c20b0 : decide (2 < a0_3) = true:=decide_eq_true c20
         clear c20
         obtain rfl:=Option.some.inj H
         obtain ⟨hcz21_0,hcz21_1,hcz21_2,hcz21_3,hcz21_4,hcz21_5,hcz21_6,hcz21_7,hcz21_8,hcz21_9,hcz21_10,hfz21_0,hfz21_1,hfz21_2,hfz21_3,hfz21_4,hfz21_5,hfz21_6,hfz21_7,hfz21_8,hfz21_9,hfz21_10⟩:=cs11f_ BK102.out
         go_wp2
         go_ret
         exact ⟨by first|rfl|(simp [errW_none,errW_some] <;> rfl)|(simp [*,errW_none,errW_some] <;> rfl),by repeat (first|(with_reducible first|exact HB.out|apply ba_|apply pn_|apply pd_|refine bs_ ?_ GE102.out)|exact HB.out)⟩
        ·rw [if_neg c20] at H
         have c20b0 : decide (2 < a0_3) = false:=decide_eq_false c20
         clear c20
         by_cases c22 : a0_3 = 0
         ·rw [if_pos c22] at H
          have c22b0 : (a0_3 == 0) = true:=beq_iff_eq.mpr c22
          have c22b1 : (a0_3 != 0) = false:=bne_eq_false_iff_eq.mpr c22
          clear c22
          by_cases c23 : (a0_5.size : Int) ≤ 20
          ·rw [if_pos c23] at H
           have c23b0 : decide ((a0_5.size : Int) ≤ 20) = true:=decide_eq_true c23
           have c23b1 : decide (a0_5.size ≤ 20) = true:=decide_eq_true (by omega)
           clear c23
           by_cases c24 : (a0_6.size : Int) ≤ 20
           ·rw [if_pos c24] at H
            have c24b0 : decide ((a0_6.size : Int) ≤ 20) = true:=decide_eq_true c24
            have c24b1 : decide (a0_6.size ≤ 20) = true:=decide_eq_true (by omega)
            clear c24
            by_cases c25 : (a0_7.size : Int) ≤ 1000
            ·rw [if_pos c25] at H
             have c25b0 : decide ((a0_7.size : Int) ≤ 1000) = true:=decide_eq_true c25
             have c25b1 : decide (a0_7.size ≤ 1000) = true:=decide_eq_true (by omega)
             clear c25
             obtain rfl:=Option.some.inj H
             obtain ⟨hcz26_0,hcz26_1,hcz26_2,hcz26_3,hcz26_4,hcz26_5,hcz26_6,hcz26_7,hcz26_8,hcz26_9,hcz26_10,hfz26_0,hfz26_1,hfz26_2,hfz26_3,hfz26_4,hfz26_5,hfz26_6,hfz26_7,hfz26_8,hfz26_9,hfz26_10⟩:=cs11f_ BK102.out
             go_wp2
             go_ret
             exact ⟨by first|rfl|(simp [errW_none,errW_some] <;> rfl)|(simp [*,errW_none,errW_some] <;> rfl),by repeat (first|(with_reducible first|exact HB.out|apply ba_|apply pn_|apply pd_|refine bs_ ?_ GE102.out)|exact HB.out)⟩
            ·rw [if_neg c25] at H
             have c25b0 : decide ((a0_7.size : Int) ≤ 1000) = false:=decide_eq_false c25
             have c25b1 : decide (a0_7.size ≤ 1000) = false:=decide_eq_false (by omega)
             clear c25
             obtain rfl:=Option.some.inj H
             obtain ⟨hcz27_0,hcz27_1,hcz27_2,hcz27_3,hcz27_4,hcz27_5,hcz27_6,hcz27_7,hcz27_8,hcz27_9,hcz27_10,hfz27_0,hfz27_1,hfz27_2,hfz27_3,hfz27_4,hfz27_5,hfz27_6,hfz27_7,hfz27_8,hfz27_9,hfz27_10⟩:=cs11f_ BK102.out
             go_wp2
             go_ret
             exact ⟨by first|rfl|(simp [errW_none,errW_some] <;> rfl)|(simp [*,errW_none,errW_some] <;> rfl),by repeat (first|(with_reducible first|exact HB.out|apply ba_|apply pn_|apply pd_|refine bs_ ?_ GE102.out)|exact HB.out)⟩
           ·rw [if_neg c24] at H
            have c24b0 : decide ((a0_6.size : Int) ≤ 20) = false:=decide_eq_false c24
            have c24b1 : decide (a0_6.size ≤ 20) = false:=decide_eq_false (by omega)
            clear c24
            obtain rfl:=Option.some.inj H
            obtain ⟨hcz28_0,hcz28_1,hcz28_2,hcz28_3,hcz28_4,hcz28_5,hcz28_6,hcz28_7,hcz28_8,hcz28_9,hcz28_10,hfz28_0,hfz28_1,hfz28_2,hfz28_3,hfz28_4,hfz28_5,hfz28_6,hfz28_7,hfz28_8,hfz28_9,hfz28_10⟩:=cs11f_ BK102.out
            go_wp2
            go_ret
            exact ⟨by first|rfl|(simp [errW_none,errW_some] <;> rfl)|(simp [*,errW_none,errW_some] <;> rfl),by repeat (first|(with_reducible first|exact HB.out|apply ba_|apply pn_|apply pd_|refine bs_ ?_ GE102.out)|exact HB.out)⟩
          ·rw [if_neg c23] at H
           have c23b0 : decide ((a0_5.size : Int) ≤ 20) = false:=decide_eq_false c23
           have c23b1 : decide (a0_5.size ≤ 20) = false:=decide_eq_false (by omega)
           clear c23
           obtain rfl:=Option.some.inj H
           obtain ⟨hcz29_0,hcz29_1,hcz29_2,hcz29_3,hcz29_4,hcz29_5,hcz29_6,hcz29_7,hcz29_8,hcz29_9,hcz29_10,hfz29_0,hfz29_1,hfz29_2,hfz29_3,hfz29_4,hfz29_5,hfz29_6,hfz29_7,hfz29_8,hfz29_9,hfz29_10⟩:=cs11f_ BK102.out
           go_wp2
           go_ret
           exact ⟨by first|rfl|(simp [errW_none,errW_some] <;> rfl)|(simp [*,errW_none,errW_some] <;> rfl),by repeat (first|(with_reducible first|exact HB.out|apply ba_|apply pn_|apply pd_|refine bs_ ?_ GE102.out)|exact HB.out)⟩
         ·rw [if_neg c22] at H
          have c22b0 : (a0_3 == 0) = false:=beq_eq_false_iff_ne.mpr c22
          have c22b1 : (a0_3 != 0) = true:=bne_iff_ne.mpr c22
          by_cases c30 : a0_7.toList = ([] : List UInt8)
          ·rw [if_pos c30] at H
           have c30b0 : (a0_7.toList == ([] : List UInt8)) = true:=beq_iff_eq.mpr c30
           have c30b1 : (a0_7.toList != ([] : List UInt8)) = false:=bne_eq_false_iff_eq.mpr c30
           clear c30
           by_cases c31 : (a0_5.size : Int) ≤ 20
           ·rw [if_pos c31] at H
            have c31b0 : decide ((a0_5.size : Int) ≤ 20) = true:=decide_eq_true c31
            have c31b1 : decide (a0_5.size ≤ 20) = true:=decide_eq_true (by omega)
            clear c31
            by_cases c32 : (a0_6.size : Int) ≤ 20
            ·rw [if_pos c32] at H
             have c32b0 : decide ((a0_6.size : Int) ≤ 20) = true:=decide_eq_true c32
             have c32b1 : decide (a0_6.size ≤ 20) = true:=decide_eq_true (by omega)
             clear c32
             by_cases c33 : (a0_7.size : Int) ≤ 1000
             ·rw [if_pos c33] at H
              have c33b0 : decide ((a0_7.size : Int) ≤ 1000) = true:=decide_eq_true c33
              have c33b1 : decide (a0_7.size ≤ 1000) = true:=decide_eq_true (by omega)
              clear c33
              obtain rfl:=Option.some.inj H
              obtain ⟨hcz34_0,hcz34_1,hcz34_2,hcz34_3,hcz34_4,hcz34_5,hcz34_6,hcz34_7,hcz34_8,hcz34_9,hcz34_10,hfz34_0,hfz34_1,hfz34_2,hfz34_3,hfz34_4,hfz34_5,hfz34_6,hfz34_7,hfz34_8,hfz34_9,hfz34_10⟩:=cs11f_ BK102.out
              go_wp2
              go_ret
              exact ⟨by first|rfl|(simp [errW_none,errW_some] <;> rfl)|(simp [*,errW_none,errW_some] <;> rfl),by repeat (first|(with_reducible first|exact HB.out|apply ba_|apply pn_|apply pd_|refine bs_ ?_ GE102.out)|exact HB.out)⟩
             ·rw [if_neg c33] at H
              have c33b0 : decide ((a0_7.size : Int) ≤ 1000) = false:=decide_eq_false c33
              have c33b1 : decide (a0_7.size ≤ 1000) = false:=decide_eq_false (by omega)
              clear c33
              obtain rfl:=Option.some.inj H
              obtain ⟨hcz35_0,hcz35_1,hcz35_2,hcz35_3,hcz35_4,hcz35_5,hcz35_6,hcz35_7,hcz35_8,hcz35_9,hcz35_10,hfz35_0,hfz35_1,hfz35_2,hfz35_3,hfz35_4,hfz35_5,hfz35_6,hfz35_7,hfz35_8,hfz35_9,hfz35_10⟩:=cs11f_ BK102.out
              go_wp2
              go_ret
              exact ⟨by first|rfl|(simp [errW_none,errW_some] <;> rfl)|(simp [*,errW_none,errW_some] <;> rfl),by repeat (first|(with_reducible first|exact HB.out|apply ba_|apply pn_|apply pd_|refine bs_ ?_ GE102.out)|exact HB.out)⟩
            ·rw [if_neg c32] at H
             have c32b0 : decide ((a0_6.size : Int) ≤ 20) = false:=decide_eq_false c32
             have c32b1 : decide (a0_6.size ≤ 20) = false:=decide_eq_false (by omega)
             clear c32
             obtain rfl:=Option.some.inj H
             obtain ⟨hcz36_0,hcz36_1,hcz36_2,hcz36_3,hcz36_4,hcz36_5,hcz36_6,hcz36_7,hcz36_8,hcz36_9,hcz36_10,hfz36_0,hfz36_1,hfz36_2,hfz36_3,hfz36_4,hfz36_5,hfz36_6,hfz36_7,hfz36_8,hfz36_9,hfz36_10⟩:=cs11f_ BK102.out
             go_wp2
             go_ret
             exact ⟨by first|rfl|(simp [errW_none,errW_some] <;> rfl)|(simp [*,errW_none,errW_some] <;> rfl),by repeat (first|(with_reducible first|exact HB.out|apply ba_|apply pn_|apply pd_|refine bs_ ?_ GE102.out)|exact HB.out)⟩
           ·rw [if_neg c31] at H
            have c31b0 : decide ((a0_5.size : Int) ≤ 20) = false:=decide_eq_false c31
            have c31b1 : decide (a0_5.size ≤ 20) = false:=decide_eq_false (by omega)
            clear c31
            obtain rfl:=Option.some.inj H
            obtain ⟨hcz37_0,hcz37_1,hcz37_2,hcz37_3,hcz37_4,hcz37_5,hcz37_6,hcz37_7,hcz37_8,hcz37_9,hcz37_10,hfz37_0,hfz37_1,hfz37_2,hfz37_3,hfz37_4,hfz37_5,hfz37_6,hfz37_7,hfz37_8,hfz37_9,hfz37_10⟩:=cs11f_ BK102.out
            go_wp2
            go_ret
            exact ⟨by first|rfl|(simp [errW_none,errW_some] <;> rfl)|(simp [*,errW_none,errW_some] <;> rfl),by repeat (first|(with_reducible first|exact HB.out|apply ba_|apply pn_|apply pd_|refine bs_ ?_ GE102.out)|exact HB.out)⟩
          ·rw [if_neg c30] at H
           have c30b0 : (a0_7.toList == ([] : List UInt8)) = false:=beq_eq_false_iff_ne.mpr c30
           have c30b1 : (a0_7.toList != ([] : List UInt8)) = true:=bne_iff_ne.mpr c30
           obtain rfl:=Option.some.inj H
           obtain ⟨hcz38_0,hcz38_1,hcz38_2,hcz38_3,hcz38_4,hcz38_5,hcz38_6,hcz38_7,hcz38_8,hcz38_9,hcz38_10,hfz38_0,hfz38_1,hfz38_2,hfz38_3,hfz38_4,hfz38_5,hfz38_6,hfz38_7,hfz38_8,hfz38_9,hfz38_10⟩:=cs11f_ BK102.out
           go_wp2
           go_ret
           exact ⟨by first|rfl|(simp [errW_none,errW_some] <;> rfl)|(simp [*,errW_none,errW_some] <;> rfl),by repeat (first|(with_reducible first|exact HB.out|apply ba_|apply pn_|apply pd_|refine bs_ ?_ GE102.out)|exact HB.out)⟩
    ·replace c13:=Bool.eq_false_iff.mpr c13
     subst c13
     have H1 : (if (!false && (a0_3 == 0 && (a0_4 == 0 && (a0_6.toList == ([] : List UInt8) && (a0_7.toList == ([] : List UInt8) && (a0_8 == 0)))))) = true then (some ((a0_5.size : Int) == 8)) else (some false)) = some r:=by rw [if_neg (show ¬ (false = true) by decide)] at H;exact H
     clear H
     have H:=H1
     clear H1
     by_cases c39 : (!false && (a0_3 == 0 && (a0_4 == 0 && (a0_6.toList == ([] : List UInt8) && (a0_7.toList == ([] : List UInt8) && (a0_8 == 0)))))) = true
     ·rw [if_pos c39] at H
      have c39b0 : (!false && (a0_3 == 0 && (a0_4 == 0 && (a0_6.toList == ([] : List UInt8) && (a0_7.toList == ([] : List UInt8) && (a0_8 == 0)))))) = true:=c39
      have c39q:=c39
      simp only [Bool.not_false,Bool.not_true,Bool.true_and,Bool.and_eq_true,Bool.or_eq_false_iff,Bool.not_eq_eq_eq_not,beq_iff_eq] at c39q
      replace c39q:=eq_true c39q
      clear c39
      obtain rfl:=Option.some.inj H
      obtain ⟨hcz40_0,hcz40_1,hcz40_2,hcz40_3,hcz40_4,hcz40_5,hcz40_6,hcz40_7,hcz40_8,hcz40_9,hcz40_10,hfz40_0,hfz40_1,hfz40_2,hfz40_3,hfz40_4,hfz40_5,hfz40_6,hfz40_7,hfz40_8,hfz40_9,hfz40_10⟩:=cs11f_ BK102.out
      go_wp2_with (first|((with_reducible refine gate_dst (N:=3) rfl ?_);(try (refine gate_guard (by rfl) ?_;dsimp only));refine box_event ?hg (N:=3) ?hd (cs:=#[.bool false,.bool false,.bool false,.int .i64 0,.int .u32 0,.string (⟨#[]⟩ : ByteArray),.string (⟨#[]⟩ : ByteArray),.string (⟨#[]⟩ : ByteArray),.int .u64 0,.int .i64 0,.int .u64 0]) (t:=25) ?hr ?_;(case hd => rfl);(case hg => rfl);(case hr => first|(go_simp;done)|(go_simp;rfl));intro gb103 hg w41 hbox hb;have n0_:=am_ (blk_below (g:=gb102) (o:=.cells #[.bool false,.bool a0_1,.bool a0_2,.int .i64 a0_3,.int .u32 a0_4,.string a0_5,.string a0_6,.string a0_7,.int .u64 a0_8,.int .i64 a0_9,.int .u64 a0_10] 25 (0,0)) (by (with_reducible repeat (first|refine kn_ ?_ _|refine kd_ ?_|refine ka_ ?_ _));exact BK102.out) hb);have n1_:=am_ (below_step (by repeat (first|(with_reducible first|exact HB.out|apply ba_|apply pn_|apply pd_|refine bs_ ?_ GE102.out)|exact HB.out)) hb);have n2_:=am_ (hbox);have n3_:=am_ ((by rw [hg];exact (below_size (by repeat (first|(with_reducible first|exact HB.out|apply ba_|apply pn_|apply pd_|refine bs_ ?_ GE102.out)|exact HB.out))) : w.heap.size ≤ gb103));have n4_:=am_ ((by rw [hg];exact (below_size (by repeat (first|(with_reducible first|exact HB.out|apply ba_|apply pn_|apply pd_|refine bs_ ?_ GE102.out)|exact HB.out))) : w.heap.size ≤ gb103));have n5_:=am_ ((by rw [hg];exact Nat.ne_of_lt (blk_lt (g:=gb102) (o:=.cells #[.bool false,.bool a0_1,.bool a0_2,.int .i64 a0_3,.int .u32 a0_4,.string a0_5,.string a0_6,.string a0_7,.int .u64 a0_8,.int .i64 a0_9,.int .u64 a0_10] 25 (0,0)) (by (with_reducible repeat (first|refine kn_ ?_ _|refine kd_ ?_|refine ka_ ?_ _));exact BK102.out)) : gb102 ≠ gb103));have n6_:=am_ ((by rw [hg];exact Nat.ne_of_gt (blk_lt (g:=gb102) (o:=.cells #[.bool false,.bool a0_1,.bool a0_2,.int .i64 a0_3,.int .u32 a0_4,.string a0_5,.string a0_6,.string a0_7,.int .u64 a0_8,.int .i64 a0_9,.int .u64 a0_10] 25 (0,0)) (by (with_reducible repeat (first|refine kn_ ?_ _|refine kd_ ?_|refine ka_ ?_ _));exact BK102.out)) : gb103 ≠ gb102));clear BK102;clear HB;have BK102:=n0_;have HB:=n1_;have BK103:=n2_;have GW103:=n3_;have GE103:=n4_;have NB102_103:=n5_;have NB103_102:=n6_;clear n0_ n1_ n2_ n3_ n4_ n5_ n6_;clear hb hbox hg;have hnb42:=NB103_102.out;have hnc42:=NB102_103.out;obtain ⟨hcz43_0,hcz43_1,hcz43_2,hcz43_3,hcz43_4,hcz43_5,hcz43_6,hcz43_7,hcz43_8,hcz43_9,hcz43_10,hfz43_0,hfz43_1,hfz43_2,hfz43_3,hfz43_4,hfz43_5,hfz43_6,hfz43_7,hfz43_8,hfz43_9,hfz43_10⟩:=cs11f_ BK103.out;obtain ⟨hcz44_0,hcz44_1,hcz44_2,hcz44_3,hcz44_4,hcz44_5,hcz44_6,hcz44_7,hcz44_8,hcz44_9,hcz44_10,hfz44_0,hfz44_1,hfz44_2,hfz44_3,hfz44_4,hfz44_5,hfz44_6,hfz44_7,hfz44_8,hfz44_9,hfz44_10⟩:=cs11f_ BK102.out;skip))
      go_ret
      exact ⟨by first|rfl|(have hq_:=of_eq_true c39q;simp [errW_none,errW_some,hq_,bne];done)|(have hq_:=of_eq_true c39q;simp [errW_none,errW_some,hq_,bne];rfl)|(simp [errW_none,errW_some] <;> rfl)|(simp [*,errW_none,errW_some] <;> rfl),by repeat (first|(with_reducible first|exact HB.out|apply ba_|apply pn_|apply pd_|refine bs_ ?_ GE102.out|refine bs_ ?_ GE103.out)|exact HB.out)⟩
     ·rw [if_neg c39] at H
      have c39b0 : (!false && (a0_3 == 0 && (a0_4 == 0 && (a0_6.toList == ([] : List UInt8) && (a0_7.toList == ([] : List UInt8) && (a0_8 == 0)))))) = false:=by simpa using c39
      have c39q:=c39
      simp only [Bool.not_false,Bool.not_true,Bool.true_and,Bool.and_eq_true,Bool.or_eq_false_iff,Bool.not_eq_eq_eq_not,beq_iff_eq] at c39q
      replace c39q:=eq_false c39q
      clear c39
      obtain rfl:=Option.some.inj H
      obtain ⟨hcz45_0,hcz45_1,hcz45_2,hcz45_3,hcz45_4,hcz45_5,hcz45_6,hcz45_7,hcz45_8,hcz45_9,hcz45_10,hfz45_0,hfz45_1,hfz45_2,hfz45_3,hfz45_4,hfz45_5,hfz45_6,hfz45_7,hfz45_8,hfz45_9,hfz45_10⟩:=cs11f_ BK102.out
      go_wp2_with (first|((with_reducible refine gate_dst (N:=3) rfl ?_);(try (refine gate_guard (by rfl) ?_;dsimp only));refine box_event ?hg (N:=3) ?hd (cs:=#[.bool false,.bool false,.bool false,.int .i64 0,.int .u32 0,.string (⟨#[]⟩ : ByteArray),.string (⟨#[]⟩ : ByteArray),.string (⟨#[]⟩ : ByteArray),.int .u64 0,.int .i64 0,.int .u64 0]) (t:=25) ?hr ?_;(case hd => rfl);(case hg => rfl);(case hr => first|(go_simp;done)|(go_simp;rfl));intro gb103 hg w46 hbox hb;have n0_:=am_ (blk_below (g:=gb102) (o:=.cells #[.bool false,.bool a0_1,.bool a0_2,.int .i64 a0_3,.int .u32 a0_4,.string a0_5,.string a0_6,.string a0_7,.int .u64 a0_8,.int .i64 a0_9,.int .u64 a0_10] 25 (0,0)) (by (with_reducible repeat (first|refine kn_ ?_ _|refine kd_ ?_|refine ka_ ?_ _));exact BK102.out) hb);have n1_:=am_ (below_step (by repeat (first|(with_reducible first|exact HB.out|apply ba_|apply pn_|apply pd_|refine bs_ ?_ GE102.out)|exact HB.out)) hb);have n2_:=am_ (hbox);have n3_:=am_ ((by rw [hg];exact (below_size (by repeat (first|(with_reducible first|exact HB.out|apply ba_|apply pn_|apply pd_|refine bs_ ?_ GE102.out)|exact HB.out))) : w.heap.size ≤ gb103));have n4_:=am_ ((by rw [hg];exact (below_size (by repeat (first|(with_reducible first|exact HB.out|apply ba_|apply pn_|apply pd_|refine bs_ ?_ GE102.out)|exact HB.out))) : w.heap.size ≤ gb103));have n5_:=am_ ((by rw [hg];exact Nat.ne_of_lt (blk_lt (g:=gb102) (o:=.cells #[.bool false,.bool a0_1,.bool a0_2,.int .i64 a0_3,.int .u32 a0_4,.string a0_5,.string a0_6,.string a0_7,.int .u64 a0_8,.int .i64 a0_9,.int .u64 a0_10] 25 (0,0)) (by (with_reducible repeat (first|refine kn_ ?_ _|refine kd_ ?_|refine ka_ ?_ _));exact BK102.out)) : gb102 ≠ gb103));have n6_:=am_ ((by rw [hg];exact Nat.ne_of_gt (blk_lt (g:=gb102) (o:=.cells #[.bool false,.bool a0_1,.bool a0_2,.int .i64 a0_3,.int .u32 a0_4,.string a0_5,.string a0_6,.string a0_7,.int .u64 a0_8,.int .i64 a0_9,.int .u64 a0_10] 25 (0,0)) (by (with_reducible repeat (first|refine kn_ ?_ _|refine kd_ ?_|refine ka_ ?_ _));exact BK102.out)) : gb103 ≠ gb102));clear BK102;clear HB;have BK102:=n0_;have HB:=n1_;have BK103:=n2_;have GW103:=n3_;have GE103:=n4_;have NB102_103:=n5_;have NB103_102:=n6_;clear n0_ n1_ n2_ n3_ n4_ n5_ n6_;clear hb hbox hg;have hnb47:=NB103_102.out;have hnc47:=NB102_103.out;obtain ⟨hcz48_0,hcz48_1,hcz48_2,hcz48_3,hcz48_4,hcz48_5,hcz48_6,hcz48_7,hcz48_8,hcz48_9,hcz48_10,hfz48_0,hfz48_1,hfz48_2,hfz48_3,hfz48_4,hfz48_5,hfz48_6,hfz48_7,hfz48_8,hfz48_9,hfz48_10⟩:=cs11f_ BK103.out;skip))
      go_ret
      exact ⟨by first|rfl|(have hq_:=of_eq_true c39q;simp [errW_none,errW_some,hq_,bne];done)|(have hq_:=of_eq_true c39q;simp [errW_none,errW_some,hq_,bne];rfl)|(have hq_:=of_eq_true c39q;simp [errW_none,errW_some,hq_,bne];done)|(have hq_:=of_eq_true c39q;simp [errW_none,errW_some,hq_,bne];rfl)|(simp [errW_none,errW_some] <;> rfl)|(simp [*,errW_none,errW_some] <;> rfl),by repeat (first|(with_reducible first|exact HB.out|apply ba_|apply pn_|apply pd_|refine bs_ ?_ GE102.out|refine bs_ ?_ GE103.out)|exact HB.out)⟩

/-! ### bits_RotateLeft64: function 52 -/
def bits_RotateLeft64.f (a0 : Int) (a1 : Int) : Option (Int):=if 0 ≤ (Go.bits .and .u64 (IntKind.u64.wrap (a1)) 63) then (if 0 ≤ (IntKind.u64.wrap (64 - (Go.bits .and .u64 (IntKind.u64.wrap (a1)) 63))) then (some (Go.bits .or .u64 (shl .u64 a0 (Go.bits .and .u64 (IntKind.u64.wrap (a1)) 63)) (shr .u64 a0 (IntKind.u64.wrap (64 - (Go.bits .and .u64 (IntKind.u64.wrap (a1)) 63)))))) else (none)) else (none)
set_option maxHeartbeats 8000000 in
set_option maxRecDepth 100000 in
theorem bits_RotateLeft64.calls (a0 : Int) (a1 : Int) (r : Int) (w : World) (h : bits_RotateLeft64.f a0 a1 = some r) :
  Calls Tryd.prog 52 #[.int .u64 a0,.int .i64 a1] w fun e w' => e = .returned (.int .u64 r) ∧ Drawn0 w w':=by
 have H : (if 0 ≤ (Go.bits .and .u64 (IntKind.u64.wrap (a1)) 63) then (if 0 ≤ (IntKind.u64.wrap (64 - (Go.bits .and .u64 (IntKind.u64.wrap (a1)) 63))) then (some (Go.bits .or .u64 (shl .u64 a0 (Go.bits .and .u64 (IntKind.u64.wrap (a1)) 63)) (shr .u64 a0 (IntKind.u64.wrap (64 - (Go.bits .and .u64 (IntKind.u64.wrap (a1)) 63)))))) else (none)) else (none)) = some r:=h
 clear h
 obtain ⟨ji3,hji3⟩ : ∃ j_ : Int,(Go.bits .and .u64 (IntKind.u64.wrap (a1)) 63) = j_:=⟨_,rfl⟩
 replace H : (if 0 ≤ (ji3) then (if 0 ≤ (IntKind.u64.wrap (64 - (ji3))) then (some (Go.bits .or .u64 (shl .u64 a0 (ji3)) (shr .u64 a0 (IntKind.u64.wrap (64 - (ji3)))))) else (none)) else (none)) = some r:=by first|(rw [hji3] at H;exact H)|(simp only [hji3] at H ⊢;exact H)
 by_cases c4 : 0 ≤ (ji3)
 ·rw [if_pos c4] at H
  have c4b0:=eq_true c4
  have c4b1 : decide (0 ≤ (ji3)) = true:=decide_eq_true c4
  clear c4
  obtain ⟨ji5,hji5⟩ : ∃ j_ : Int,(shl .u64 a0 (ji3)) = j_:=⟨_,rfl⟩
  replace H : (if 0 ≤ (IntKind.u64.wrap (64 - (ji3))) then (some (Go.bits .or .u64 (ji5) (shr .u64 a0 (IntKind.u64.wrap (64 - (ji3)))))) else (none)) = some r:=by first|(rw [hji5] at H;exact H)|(simp only [hji5] at H ⊢;exact H)
  have hji5_ : (IntKind.u64.wrap (a0 * 2 ^ min (ji3).toNat 64)) = ji5:=hji5
  have hji5z : (ji3) ≤ 64 → (IntKind.u64.wrap (a0 * 2 ^ (ji3).toNat)) = ji5:=shl_small hji5
  have hji5n : 0 ≤ ji5:=by rw [← hji5_];exact wrap_nn_ rfl _
  have hji5m : ji5 ≤ 18446744073709551615:=by rw [← hji5_];exact wrap_le_ rfl (by decide) _
  obtain ⟨ji6,hji6⟩ : ∃ j_ : Int,(IntKind.u64.wrap (64 - (ji3))) = j_:=⟨_,rfl⟩
  replace H : (if 0 ≤ (ji6) then (some (Go.bits .or .u64 (ji5) (shr .u64 a0 (ji6)))) else (none)) = some r:=by first|(rw [hji6] at H;exact H)|(simp only [hji6] at H ⊢;exact H)
  by_cases c7 : 0 ≤ (ji6)
  ·rw [if_pos c7] at H
   have c7b0:=eq_true c7
   have c7b1 : decide (0 ≤ (ji6)) = true:=decide_eq_true c7
   clear c7
   obtain ⟨ji8,hji8⟩ : ∃ j_ : Int,(shr .u64 a0 (ji6)) = j_:=⟨_,rfl⟩
   replace H : (some (Go.bits .or .u64 (ji5) (ji8))) = some r:=by first|(rw [hji8] at H;exact H)|(simp only [hji8] at H ⊢;exact H)
   have hji8_ : (a0 / 2 ^ min (ji6).toNat 64) = ji8:=hji8
   have hji8z : (ji6) ≤ 64 → (a0 / 2 ^ (ji6).toNat) = ji8:=shr_small hji8
   obtain rfl:=Option.some.inj H
   go_enter Tryd.func52,Tryd.ntmps52
   go_wp2
   go_ret
   exact ⟨by first|rfl|(simp;done)|(simp only [← hji3,← hji5,← hji6,← hji8] <;> (first|rfl|simp))|(simp [*];done),by repeat (first|exact Drawn0.refl _|apply Drawn0.step)⟩
  ·rw [if_neg c7] at H
   exact absurd H (by simp)
 ·rw [if_neg c4] at H
  exact absurd H (by simp)

-- NOT PRINTED: function 43 (varint_split)

end Go.Proofs.YtjpafikgbnloaaaDoor.PHdt
