-- printed for this claim by a program of the claim (wip/tools/pp.py over the kit's print)
import Derived.Test.YthbnedjcaflofaaDoorPPaxx0
namespace Go.Proofs.YthbnedjcaflofaaDoor.PPax
open Go.RowKit Go.Proofs.YthbnedjcaflofaaDoorW.PrintWords Go.Proofs.YthbnedjcaflofaaDoorW.PrintLast Go.Proofs.YthbnedjcaflofaaDoorW.PrintMore
attribute [local go_sem] max2_int min2_int max_two min_two max_three min_three max_four min_four   -- for this text's walks alone
set_option linter.unusedVariables false
set_option linter.unusedSimpArgs false

attribute [local go_sem] isSome_setCell_
/-! ### dominoref05_value: function 22 -/
def dominoref05_value.f (a0_0 : Int) (a0_1 : Int) (a0_2 : Int) (a0_3 : Int) (a0_4 : Int) (a0_5 : Int) (a0_6 : Int) (a0_7 : Int) (a0_8 : Int) (a0_9 : Int) (a0_10 : Int) (a0_11 : ByteArray) (a1 : Int) : Option (Int × Bool):=if a1 = 1 then (some (a0_0,true)) else (if a1 = 3 then (some (a0_1,true)) else (if a1 = 4 then (some (a0_2,true)) else (if a1 = 5 then (some (a0_3,true)) else (if a1 = 6 then (some (a0_4,true)) else (if a1 = 7 then (some (a0_5,true)) else (if a1 = 8 then (some (a0_6,true)) else (if a1 = 9 then (some (a0_7,true)) else (if a1 = 10 then (some (a0_8,true)) else (if a1 = 11 then (some (a0_9,true)) else (if a1 = 14 then (some (a0_10,true)) else (some (0,false))))))))))))
set_option maxHeartbeats 8000000 in
set_option maxRecDepth 100000 in
theorem dominoref05_value.calls (a0_0 : Int) (a0_1 : Int) (a0_2 : Int) (a0_3 : Int) (a0_4 : Int) (a0_5 : Int) (a0_6 : Int) (a0_7 : Int) (a0_8 : Int) (a0_9 : Int) (a0_10 : Int) (a0_11 : ByteArray) (a1 : Int) (r1 : Int) (r2 : Bool) (w : World) (h : dominoref05_value.f a0_0 a0_1 a0_2 a0_3 a0_4 a0_5 a0_6 a0_7 a0_8 a0_9 a0_10 a0_11 a1 = some (r1,r2)) :
  Calls Tryd.prog 22 #[.agg #[.int .u64 a0_0,.int .u64 a0_1,.int .u64 a0_2,.int .u64 a0_3,.int .u64 a0_4,.int .u64 a0_5,.int .u64 a0_6,.int .u64 a0_7,.int .u64 a0_8,.int .u64 a0_9,.int .u64 a0_10,.string a0_11],.int .u64 a1] w fun e w' => e = .returned (.tuple #[.int .u64 r1,.bool r2]) ∧ Below w.heap.size w w':=by
 have hu26:=Tryd.underlying26
 have HB:=am_ (Below.refl w.heap.size w)
 have H : (if a1 = 1 then (some (a0_0,true)) else (if a1 = 3 then (some (a0_1,true)) else (if a1 = 4 then (some (a0_2,true)) else (if a1 = 5 then (some (a0_3,true)) else (if a1 = 6 then (some (a0_4,true)) else (if a1 = 7 then (some (a0_5,true)) else (if a1 = 8 then (some (a0_6,true)) else (if a1 = 9 then (some (a0_7,true)) else (if a1 = 10 then (some (a0_8,true)) else (if a1 = 11 then (some (a0_9,true)) else (if a1 = 14 then (some (a0_10,true)) else (some (0,false))))))))))))) = some (r1,r2):=h
 clear h
 by_cases c3 : a1 = 1
 ·rw [if_pos c3] at H
  have c3b0 : (a1 == 1) = true:=beq_iff_eq.mpr c3
  have c3b1 : (a1 != 1) = false:=bne_eq_false_iff_eq.mpr c3
  clear c3
  simp only [Option.some.injEq,Prod.mk.injEq] at H
  obtain ⟨rfl,rfl⟩:=H
  go_enter Tryd.func22,Tryd.ntmps22
  go_wp2_with (first|((with_reducible refine gate_dst (N:=2) rfl ?_);refine box_event ?hg (N:=2) ?hd (cs:=#[.int .u64 a0_0,.int .u64 a0_1,.int .u64 a0_2,.int .u64 a0_3,.int .u64 a0_4,.int .u64 a0_5,.int .u64 a0_6,.int .u64 a0_7,.int .u64 a0_8,.int .u64 a0_9,.int .u64 a0_10,.string a0_11]) (t:=26) ?hr ?_;(case hd => rfl);(case hg => rfl);(case hr => first|(go_simp;done)|(go_simp;rfl));intro gb138 hg w4 hbox hb;have n0_:=am_ (below_step (by repeat (first|(with_reducible first|exact HB.out|apply ba_|apply pn_|apply pd_)|exact HB.out)) hb);have n1_:=am_ (hbox);have n2_:=am_ ((by rw [hg];exact (below_size (by repeat (first|(with_reducible first|exact HB.out|apply ba_|apply pn_|apply pd_)|exact HB.out))) : w.heap.size ≤ gb138));have n3_:=am_ ((by rw [hg];exact (below_size (by repeat (first|(with_reducible first|exact HB.out|apply ba_|apply pn_|apply pd_)|exact HB.out))) : w.heap.size ≤ gb138));clear HB;have HB:=n0_;have BK138:=n1_;have GW138:=n2_;have GE138:=n3_;clear n0_ n1_ n2_ n3_;clear hb hbox hg;have hcz5_0 : w4.cell? ⟨gb138,0,none⟩ = some (.int .u64 a0_0):=(kc_ BK138.out 0).trans rfl;have hcz5_1 : w4.cell? ⟨gb138,1,none⟩ = some (.int .u64 a0_1):=(kc_ BK138.out 1).trans rfl;have hcz5_2 : w4.cell? ⟨gb138,2,none⟩ = some (.int .u64 a0_2):=(kc_ BK138.out 2).trans rfl;have hcz5_3 : w4.cell? ⟨gb138,3,none⟩ = some (.int .u64 a0_3):=(kc_ BK138.out 3).trans rfl;have hcz5_4 : w4.cell? ⟨gb138,4,none⟩ = some (.int .u64 a0_4):=(kc_ BK138.out 4).trans rfl;have hcz5_5 : w4.cell? ⟨gb138,5,none⟩ = some (.int .u64 a0_5):=(kc_ BK138.out 5).trans rfl;have hcz5_6 : w4.cell? ⟨gb138,6,none⟩ = some (.int .u64 a0_6):=(kc_ BK138.out 6).trans rfl;have hcz5_7 : w4.cell? ⟨gb138,7,none⟩ = some (.int .u64 a0_7):=(kc_ BK138.out 7).trans rfl;have hcz5_8 : w4.cell? ⟨gb138,8,none⟩ = some (.int .u64 a0_8):=(kc_ BK138.out 8).trans rfl;have hcz5_9 : w4.cell? ⟨gb138,9,none⟩ = some (.int .u64 a0_9):=(kc_ BK138.out 9).trans rfl;have hcz5_10 : w4.cell? ⟨gb138,10,none⟩ = some (.int .u64 a0_10):=(kc_ BK138.out 10).trans rfl;have hcz5_11 : w4.cell? ⟨gb138,11,none⟩ = some (.string a0_11):=(kc_ BK138.out 11).trans rfl;have hfz5_0:=blk_frozen BK138.out 0;have hfz5_1:=blk_frozen BK138.out 1;have hfz5_2:=blk_frozen BK138.out 2;have hfz5_3:=blk_frozen BK138.out 3;have hfz5_4:=blk_frozen BK138.out 4;have hfz5_5:=blk_frozen BK138.out 5;have hfz5_6:=blk_frozen BK138.out 6;have hfz5_7:=blk_frozen BK138.out 7;have hfz5_8:=blk_frozen BK138.out 8;have hfz5_9:=blk_frozen BK138.out 9;have hfz5_10:=blk_frozen BK138.out 10;have hfz5_11:=blk_frozen BK138.out 11; skip))
  go_ret2
  exact ⟨by first|rfl|(simp [errW_none,errW_some] <;> rfl)|(simp [*,errW_none,errW_some] <;> rfl),by repeat (first|(with_reducible first|exact HB.out|apply ba_|apply pn_|apply pd_|refine bs_ ?_ GE138.out)|exact HB.out)⟩
 ·rw [if_neg c3] at H
  have c3b0 : (a1 == 1) = false:=beq_eq_false_iff_ne.mpr c3
  have c3b1 : (a1 != 1) = true:=bne_iff_ne.mpr c3
  by_cases c6 : a1 = 3
  ·rw [if_pos c6] at H
   have c6b0 : (a1 == 3) = true:=beq_iff_eq.mpr c6
   have c6b1 : (a1 != 3) = false:=bne_eq_false_iff_eq.mpr c6
   clear c6
   simp only [Option.some.injEq,Prod.mk.injEq] at H
   obtain ⟨rfl,rfl⟩:=H
   go_enter Tryd.func22,Tryd.ntmps22
   go_wp2_with (first|((with_reducible refine gate_dst (N:=2) rfl ?_);refine box_event ?hg (N:=2) ?hd (cs:=#[.int .u64 a0_0,.int .u64 a0_1,.int .u64 a0_2,.int .u64 a0_3,.int .u64 a0_4,.int .u64 a0_5,.int .u64 a0_6,.int .u64 a0_7,.int .u64 a0_8,.int .u64 a0_9,.int .u64 a0_10,.string a0_11]) (t:=26) ?hr ?_;(case hd => rfl);(case hg => rfl);(case hr => first|(go_simp;done)|(go_simp;rfl));intro gb138 hg w7 hbox hb;have n0_:=am_ (below_step (by repeat (first|(with_reducible first|exact HB.out|apply ba_|apply pn_|apply pd_)|exact HB.out)) hb);have n1_:=am_ (hbox);have n2_:=am_ ((by rw [hg];exact (below_size (by repeat (first|(with_reducible first|exact HB.out|apply ba_|apply pn_|apply pd_)|exact HB.out))) : w.heap.size ≤ gb138));have n3_:=am_ ((by rw [hg];exact (below_size (by repeat (first|(with_reducible first|exact HB.out|apply ba_|apply pn_|apply pd_)|exact HB.out))) : w.heap.size ≤ gb138));clear HB;have HB:=n0_;have BK138:=n1_;have GW138:=n2_;have GE138:=n3_;clear n0_ n1_ n2_ n3_;clear hb hbox hg;have hcz8_0 : w7.cell? ⟨gb138,0,none⟩ = some (.int .u64 a0_0):=(kc_ BK138.out 0).trans rfl;have hcz8_1 : w7.cell? ⟨gb138,1,none⟩ = some (.int .u64 a0_1):=(kc_ BK138.out 1).trans rfl;have hcz8_2 : w7.cell? ⟨gb138,2,none⟩ = some (.int .u64 a0_2):=(kc_ BK138.out 2).trans rfl;have hcz8_3 : w7.cell? ⟨gb138,3,none⟩ = some (.int .u64 a0_3):=(kc_ BK138.out 3).trans rfl;have hcz8_4 : w7.cell? ⟨gb138,4,none⟩ = some (.int .u64 a0_4):=(kc_ BK138.out 4).trans rfl;have hcz8_5 : w7.cell? ⟨gb138,5,none⟩ = some (.int .u64 a0_5):=(kc_ BK138.out 5).trans rfl;have hcz8_6 : w7.cell? ⟨gb138,6,none⟩ = some (.int .u64 a0_6):=(kc_ BK138.out 6).trans rfl;have hcz8_7 : w7.cell? ⟨gb138,7,none⟩ = some (.int .u64 a0_7):=(kc_ BK138.out 7).trans rfl;have hcz8_8 : w7.cell? ⟨gb138,8,none⟩ = some (.int .u64 a0_8):=(kc_ BK138.out 8).trans rfl;have hcz8_9 : w7.cell? ⟨gb138,9,none⟩ = some (.int .u64 a0_9):=(kc_ BK138.out 9).trans rfl;have hcz8_10 : w7.cell? ⟨gb138,10,none⟩ = some (.int .u64 a0_10):=(kc_ BK138.out 10).trans rfl;have hcz8_11 : w7.cell? ⟨gb138,11,none⟩ = some (.string a0_11):=(kc_ BK138.out 11).trans rfl;have hfz8_0:=blk_frozen BK138.out 0;have hfz8_1:=blk_frozen BK138.out 1;have hfz8_2:=blk_frozen BK138.out 2;have hfz8_3:=blk_frozen BK138.out 3;have hfz8_4:=blk_frozen BK138.out 4;have hfz8_5:=blk_frozen BK138.out 5;have hfz8_6:=blk_frozen BK138.out 6;have hfz8_7:=blk_frozen BK138.out 7;have hfz8_8:=blk_frozen BK138.out 8;have hfz8_9:=blk_frozen BK138.out 9;have hfz8_10:=blk_frozen BK138.out 10;have hfz8_11:=blk_frozen BK138.out 11; skip))
   go_ret2
   exact ⟨by first|rfl|(simp [errW_none,errW_some] <;> rfl)|(simp [*,errW_none,errW_some] <;> rfl),by repeat (first|(with_reducible first|exact HB.out|apply ba_|apply pn_|apply pd_|refine bs_ ?_ GE138.out)|exact HB.out)⟩
  ·rw [if_neg c6] at H
   have c6b0 : (a1 == 3) = false:=beq_eq_false_iff_ne.mpr c6
   have c6b1 : (a1 != 3) = true:=bne_iff_ne.mpr c6
   by_cases c9 : a1 = 4
   ·rw [if_pos c9] at H
    have c9b0 : (a1 == 4) = true:=beq_iff_eq.mpr c9
    have c9b1 : (a1 != 4) = false:=bne_eq_false_iff_eq.mpr c9
    clear c9
    simp only [Option.some.injEq,Prod.mk.injEq] at H
    obtain ⟨rfl,rfl⟩:=H
    go_enter Tryd.func22,Tryd.ntmps22
    go_wp2_with (first|((with_reducible refine gate_dst (N:=2) rfl ?_);refine box_event ?hg (N:=2) ?hd (cs:=#[.int .u64 a0_0,.int .u64 a0_1,.int .u64 a0_2,.int .u64 a0_3,.int .u64 a0_4,.int .u64 a0_5,.int .u64 a0_6,.int .u64 a0_7,.int .u64 a0_8,.int .u64 a0_9,.int .u64 a0_10,.string a0_11]) (t:=26) ?hr ?_;(case hd => rfl);(case hg => rfl);(case hr => first|(go_simp;done)|(go_simp;rfl));intro gb138 hg w10 hbox hb;have n0_:=am_ (below_step (by repeat (first|(with_reducible first|exact HB.out|apply ba_|apply pn_|apply pd_)|exact HB.out)) hb);have n1_:=am_ (hbox);have n2_:=am_ ((by rw [hg];exact (below_size (by repeat (first|(with_reducible first|exact HB.out|apply ba_|apply pn_|apply pd_)|exact HB.out))) : w.heap.size ≤ gb138));have n3_:=am_ ((by rw [hg];exact (below_size (by repeat (first|(with_reducible first|exact HB.out|apply ba_|apply pn_|apply pd_)|exact HB.out))) : w.heap.size ≤ gb138));clear HB;have HB:=n0_;have BK138:=n1_;have GW138:=n2_;have GE138:=n3_;clear n0_ n1_ n2_ n3_;clear hb hbox hg;have hcz11_0 : w10.cell? ⟨gb138,0,none⟩ = some (.int .u64 a0_0):=(kc_ BK138.out 0).trans rfl;have hcz11_1 : w10.cell? ⟨gb138,1,none⟩ = some (.int .u64 a0_1):=(kc_ BK138.out 1).trans rfl;have hcz11_2 : w10.cell? ⟨gb138,2,none⟩ = some (.int .u64 a0_2):=(kc_ BK138.out 2).trans rfl;have hcz11_3 : w10.cell? ⟨gb138,3,none⟩ = some (.int .u64 a0_3):=(kc_ BK138.out 3).trans rfl;have hcz11_4 : w10.cell? ⟨gb138,4,none⟩ = some (.int .u64 a0_4):=(kc_ BK138.out 4).trans rfl;have hcz11_5 : w10.cell? ⟨gb138,5,none⟩ = some (.int .u64 a0_5):=(kc_ BK138.out 5).trans rfl;have hcz11_6 : w10.cell? ⟨gb138,6,none⟩ = some (.int .u64 a0_6):=(kc_ BK138.out 6).trans rfl;have hcz11_7 : w10.cell? ⟨gb138,7,none⟩ = some (.int .u64 a0_7):=(kc_ BK138.out 7).trans rfl;have hcz11_8 : w10.cell? ⟨gb138,8,none⟩ = some (.int .u64 a0_8):=(kc_ BK138.out 8).trans rfl;have hcz11_9 : w10.cell? ⟨gb138,9,none⟩ = some (.int .u64 a0_9):=(kc_ BK138.out 9).trans rfl;have hcz11_10 : w10.cell? ⟨gb138,10,none⟩ = some (.int .u64 a0_10):=(kc_ BK138.out 10).trans rfl;have hcz11_11 : w10.cell? ⟨gb138,11,none⟩ = some (.string a0_11):=(kc_ BK138.out 11).trans rfl;have hfz11_0:=blk_frozen BK138.out 0;have hfz11_1:=blk_frozen BK138.out 1;have hfz11_2:=blk_frozen BK138.out 2;have hfz11_3:=blk_frozen BK138.out 3;have hfz11_4:=blk_frozen BK138.out 4;have hfz11_5:=blk_frozen BK138.out 5;have hfz11_6:=blk_frozen BK138.out 6;have hfz11_7:=blk_frozen BK138.out 7;have hfz11_8:=blk_frozen BK138.out 8;have hfz11_9:=blk_frozen BK138.out 9;have hfz11_10:=blk_frozen BK138.out 10;have hfz11_11:=blk_frozen BK138.out 11; skip))
    go_ret2
    exact ⟨by first|rfl|(simp [errW_none,errW_some] <;> rfl)|(simp [*,errW_none,errW_some] <;> rfl),by repeat (first|(with_reducible first|exact HB.out|apply ba_|apply pn_|apply pd_|refine bs_ ?_ GE138.out)|exact HB.out)⟩
   ·rw [if_neg c9] at H
    have c9b0 : (a1 == 4) = false:=beq_eq_false_iff_ne.mpr c9
    have c9b1 : (a1 != 4) = true:=bne_iff_ne.mpr c9
    by_cases c12 : a1 = 5
    ·rw [if_pos c12] at H
     have c12b0 : (a1 == 5) = true:=beq_iff_eq.mpr c12
     have c12b1 : (a1 != 5) = false:=bne_eq_false_iff_eq.mpr c12
     clear c12
     simp only [Option.some.injEq,Prod.mk.injEq] at H
     obtain ⟨rfl,rfl⟩:=H
     go_enter Tryd.func22,Tryd.ntmps22
     go_wp2_with (first|((with_reducible refine gate_dst (N:=2) rfl ?_);refine box_event ?hg (N:=2) ?hd (cs:=#[.int .u64 a0_0,.int .u64 a0_1,.int .u64 a0_2,.int .u64 a0_3,.int .u64 a0_4,.int .u64 a0_5,.int .u64 a0_6,.int .u64 a0_7,.int .u64 a0_8,.int .u64 a0_9,.int .u64 a0_10,.string a0_11]) (t:=26) ?hr ?_;(case hd => rfl);(case hg => rfl);(case hr => first|(go_simp;done)|(go_simp;rfl));intro gb138 hg w13 hbox hb;have n0_:=am_ (below_step (by repeat (first|(with_reducible first|exact HB.out|apply ba_|apply pn_|apply pd_)|exact HB.out)) hb);have n1_:=am_ (hbox);have n2_:=am_ ((by rw [hg];exact (below_size (by repeat (first|(with_reducible first|exact HB.out|apply ba_|apply pn_|apply pd_)|exact HB.out))) : w.heap.size ≤ gb138));have n3_:=am_ ((by rw [hg];exact (below_size (by repeat (first|(with_reducible first|exact HB.out|apply ba_|apply pn_|apply pd_)|exact HB.out))) : w.heap.size ≤ gb138));clear HB;have HB:=n0_;have BK138:=n1_;have GW138:=n2_;have GE138:=n3_;clear n0_ n1_ n2_ n3_;clear hb hbox hg;have hcz14_0 : w13.cell? ⟨gb138,0,none⟩ = some (.int .u64 a0_0):=(kc_ BK138.out 0).trans rfl;have hcz14_1 : w13.cell? ⟨gb138,1,none⟩ = some (.int .u64 a0_1):=(kc_ BK138.out 1).trans rfl;have hcz14_2 : w13.cell? ⟨gb138,2,none⟩ = some (.int .u64 a0_2):=(kc_ BK138.out 2).trans rfl;have hcz14_3 : w13.cell? ⟨gb138,3,none⟩ = some (.int .u64 a0_3):=(kc_ BK138.out 3).trans rfl;have hcz14_4 : w13.cell? ⟨gb138,4,none⟩ = some (.int .u64 a0_4):=(kc_ BK138.out 4).trans rfl;have hcz14_5 : w13.cell? ⟨gb138,5,none⟩ = some (.int .u64 a0_5):=(kc_ BK138.out 5).trans rfl;have hcz14_6 : w13.cell? ⟨gb138,6,none⟩ = some (.int .u64 a0_6):=(kc_ BK138.out 6).trans rfl;have hcz14_7 : w13.cell? ⟨gb138,7,none⟩ = some (.int .u64 a0_7):=(kc_ BK138.out 7).trans rfl;have hcz14_8 : w13.cell? ⟨gb138,8,none⟩ = some (.int .u64 a0_8):=(kc_ BK138.out 8).trans rfl;have hcz14_9 : w13.cell? ⟨gb138,9,none⟩ = some (.int .u64 a0_9):=(kc_ BK138.out 9).trans rfl;have hcz14_10 : w13.cell? ⟨gb138,10,none⟩ = some (.int .u64 a0_10):=(kc_ BK138.out 10).trans rfl;have hcz14_11 : w13.cell? ⟨gb138,11,none⟩ = some (.string a0_11):=(kc_ BK138.out 11).trans rfl;have hfz14_0:=blk_frozen BK138.out 0;have hfz14_1:=blk_frozen BK138.out 1;have hfz14_2:=blk_frozen BK138.out 2;have hfz14_3:=blk_frozen BK138.out 3;have hfz14_4:=blk_frozen BK138.out 4;have hfz14_5:=blk_frozen BK138.out 5;have hfz14_6:=blk_frozen BK138.out 6;have hfz14_7:=blk_frozen BK138.out 7;have hfz14_8:=blk_frozen BK138.out 8;have hfz14_9:=blk_frozen BK138.out 9;have hfz14_10:=blk_frozen BK138.out 10;have hfz14_11:=blk_frozen BK138.out 11; skip))
     go_ret2
     exact ⟨by first|rfl|(simp [errW_none,errW_some] <;> rfl)|(simp [*,errW_none,errW_some] <;> rfl),by repeat (first|(with_reducible first|exact HB.out|apply ba_|apply pn_|apply pd_|refine bs_ ?_ GE138.out)|exact HB.out)⟩
    ·rw [if_neg c12] at H
     have c12b0 : (a1 == 5) = false:=beq_eq_false_iff_ne.mpr c12
     have c12b1 : (a1 != 5) = true:=bne_iff_ne.mpr c12
     by_cases c15 : a1 = 6
     ·rw [if_pos c15] at H
      have c15b0 : (a1 == 6) = true:=beq_iff_eq.mpr c15
      have c15b1 : (a1 != 6) = false:=bne_eq_false_iff_eq.mpr c15
      clear c15
      simp only [Option.some.injEq,Prod.mk.injEq] at H
      obtain ⟨rfl,rfl⟩:=H
      go_enter Tryd.func22,Tryd.ntmps22
      go_wp2_with (first|((with_reducible refine gate_dst (N:=2) rfl ?_);refine box_event ?hg (N:=2) ?hd (cs:=#[.int .u64 a0_0,.int .u64 a0_1,.int .u64 a0_2,.int .u64 a0_3,.int .u64 a0_4,.int .u64 a0_5,.int .u64 a0_6,.int .u64 a0_7,.int .u64 a0_8,.int .u64 a0_9,.int .u64 a0_10,.string a0_11]) (t:=26) ?hr ?_;(case hd => rfl);(case hg => rfl);(case hr => first|(go_simp;done)|(go_simp;rfl));intro gb138 hg w16 hbox hb;have n0_:=am_ (below_step (by repeat (first|(with_reducible first|exact HB.out|apply ba_|apply pn_|apply pd_)|exact HB.out)) hb);have n1_:=am_ (hbox);have n2_:=am_ ((by rw [hg];exact (below_size (by repeat (first|(with_reducible first|exact HB.out|apply ba_|apply pn_|apply pd_)|exact HB.out))) : w.heap.size ≤ gb138));have n3_:=am_ ((by rw [hg];exact (below_size (by repeat (first|(with_reducible first|exact HB.out|apply ba_|apply pn_|apply pd_)|exact HB.out))) : w.heap.size ≤ gb138));clear HB;have HB:=n0_;have BK138:=n1_;have GW138:=n2_;have GE138:=n3_;clear n0_ n1_ n2_ n3_;clear hb hbox hg;have hcz17_0 : w16.cell? ⟨gb138,0,none⟩ = some (.int .u64 a0_0):=(kc_ BK138.out 0).trans rfl;have hcz17_1 : w16.cell? ⟨gb138,1,none⟩ = some (.int .u64 a0_1):=(kc_ BK138.out 1).trans rfl;have hcz17_2 : w16.cell? ⟨gb138,2,none⟩ = some (.int .u64 a0_2):=(kc_ BK138.out 2).trans rfl;have hcz17_3 : w16.cell? ⟨gb138,3,none⟩ = some (.int .u64 a0_3):=(kc_ BK138.out 3).trans rfl;have hcz17_4 : w16.cell? ⟨gb138,4,none⟩ = some (.int .u64 a0_4):=(kc_ BK138.out 4).trans rfl;have hcz17_5 : w16.cell? ⟨gb138,5,none⟩ = some (.int .u64 a0_5):=(kc_ BK138.out 5).trans rfl;have hcz17_6 : w16.cell? ⟨gb138,6,none⟩ = some (.int .u64 a0_6):=(kc_ BK138.out 6).trans rfl;have hcz17_7 : w16.cell? ⟨gb138,7,none⟩ = some (.int .u64 a0_7):=(kc_ BK138.out 7).trans rfl;have hcz17_8 : w16.cell? ⟨gb138,8,none⟩ = some (.int .u64 a0_8):=(kc_ BK138.out 8).trans rfl;have hcz17_9 : w16.cell? ⟨gb138,9,none⟩ = some (.int .u64 a0_9):=(kc_ BK138.out 9).trans rfl;have hcz17_10 : w16.cell? ⟨gb138,10,none⟩ = some (.int .u64 a0_10):=(kc_ BK138.out 10).trans rfl;have hcz17_11 : w16.cell? ⟨gb138,11,none⟩ = some (.string a0_11):=(kc_ BK138.out 11).trans rfl;have hfz17_0:=blk_frozen BK138.out 0;have hfz17_1:=blk_frozen BK138.out 1;have hfz17_2:=blk_frozen BK138.out 2;have hfz17_3:=blk_frozen BK138.out 3;have hfz17_4:=blk_frozen BK138.out 4;have hfz17_5:=blk_frozen BK138.out 5;have hfz17_6:=blk_frozen BK138.out 6;have hfz17_7:=blk_frozen BK138.out 7;have hfz17_8:=blk_frozen BK138.out 8;have hfz17_9:=blk_frozen BK138.out 9;have hfz17_10:=blk_frozen BK138.out 10;have hfz17_11:=blk_frozen BK138.out 11; skip))
      go_ret2
      exact ⟨by first|rfl|(simp [errW_none,errW_some] <;> rfl)|(simp [*,errW_none,errW_some] <;> rfl),by repeat (first|(with_reducible first|exact HB.out|apply ba_|apply pn_|apply pd_|refine bs_ ?_ GE138.out)|exact HB.out)⟩
     ·rw [if_neg c15] at H
      have c15b0 : (a1 == 6) = false:=beq_eq_false_iff_ne.mpr c15
      have c15b1 : (a1 != 6) = true:=bne_iff_ne.mpr c15
      by_cases c18 : a1 = 7
      ·rw [if_pos c18] at H
       have c18b0 : (a1 == 7) = true:=beq_iff_eq.mpr c18
       have c18b1 : (a1 != 7) = false:=bne_eq_false_iff_eq.mpr c18
       clear c18
       simp only [Option.some.injEq,Prod.mk.injEq] at H
       obtain ⟨rfl,rfl⟩:=H
       go_enter Tryd.func22,Tryd.ntmps22
       go_wp2_with (first|((with_reducible refine gate_dst (N:=2) rfl ?_);refine box_event ?hg (N:=2) ?hd (cs:=#[.int .u64 a0_0,.int .u64 a0_1,.int .u64 a0_2,.int .u64 a0_3,.int .u64 a0_4,.int .u64 a0_5,.int .u64 a0_6,.int .u64 a0_7,.int .u64 a0_8,.int .u64 a0_9,.int .u64 a0_10,.string a0_11]) (t:=26) ?hr ?_;(case hd => rfl);(case hg => rfl);(case hr => first|(go_simp;done)|(go_simp;rfl));intro gb138 hg w19 hbox hb;have n0_:=am_ (below_step (by repeat (first|(with_reducible first|exact HB.out|apply ba_|apply pn_|apply pd_)|exact HB.out)) hb);have n1_:=am_ (hbox);have n2_:=am_ ((by rw [hg];exact (below_size (by repeat (first|(with_reducible first|exact HB.out|apply ba_|apply pn_|apply pd_)|exact HB.out))) : w.heap.size ≤ gb138));have n3_:=am_ ((by rw [hg];exact (below_size (by repeat (first|(with_reducible first|exact HB.out|apply ba_|apply pn_|apply pd_)|exact HB.out))) : w.heap.size ≤ gb138));clear HB;have HB:=n0_;have BK138:=n1_;have GW138:=n2_;have GE138:=n3_;clear n0_ n1_ n2_ n3_;clear hb hbox hg;have hcz20_0 : w19.cell? ⟨gb138,0,none⟩ = some (.int .u64 a0_0):=(kc_ BK138.out 0).trans rfl;have hcz20_1 : w19.cell? ⟨gb138,1,none⟩ = some (.int .u64 a0_1):=(kc_ BK138.out 1).trans rfl;have hcz20_2 : w19.cell? ⟨gb138,2,none⟩ = some (.int .u64 a0_2):=(kc_ BK138.out 2).trans rfl;have hcz20_3 : w19.cell? ⟨gb138,3,none⟩ = some (.int .u64 a0_3):=(kc_ BK138.out 3).trans rfl;have hcz20_4 : w19.cell? ⟨gb138,4,none⟩ = some (.int .u64 a0_4):=(kc_ BK138.out 4).trans rfl;have hcz20_5 : w19.cell? ⟨gb138,5,none⟩ = some (.int .u64 a0_5):=(kc_ BK138.out 5).trans rfl;have hcz20_6 : w19.cell? ⟨gb138,6,none⟩ = some (.int .u64 a0_6):=(kc_ BK138.out 6).trans rfl;have hcz20_7 : w19.cell? ⟨gb138,7,none⟩ = some (.int .u64 a0_7):=(kc_ BK138.out 7).trans rfl;have hcz20_8 : w19.cell? ⟨gb138,8,none⟩ = some (.int .u64 a0_8):=(kc_ BK138.out 8).trans rfl;have hcz20_9 : w19.cell? ⟨gb138,9,none⟩ = some (.int .u64 a0_9):=(kc_ BK138.out 9).trans rfl;have hcz20_10 : w19.cell? ⟨gb138,10,none⟩ = some (.int .u64 a0_10):=(kc_ BK138.out 10).trans rfl;have hcz20_11 : w19.cell? ⟨gb138,11,none⟩ = some (.string a0_11):=(kc_ BK138.out 11).trans rfl;have hfz20_0:=blk_frozen BK138.out 0;have hfz20_1:=blk_frozen BK138.out 1;have hfz20_2:=blk_frozen BK138.out 2;have hfz20_3:=blk_frozen BK138.out 3;have hfz20_4:=blk_frozen BK138.out 4;have hfz20_5:=blk_frozen BK138.out 5;have hfz20_6:=blk_frozen BK138.out 6;have hfz20_7:=blk_frozen BK138.out 7;have hfz20_8:=blk_frozen BK138.out 8;have hfz20_9:=blk_frozen BK138.out 9;have hfz20_10:=blk_frozen BK138.out 10;have hfz20_11:=blk_frozen BK138.out 11; skip))
       go_ret2
       exact ⟨by first|rfl|(simp [errW_none,errW_some] <;> rfl)|(simp [*,errW_none,errW_some] <;> rfl),by repeat (first|(with_reducible first|exact HB.out|apply ba_|apply pn_|apply pd_|refine bs_ ?_ GE138.out)|exact HB.out)⟩
      ·rw [if_neg c18] at H
       have c18b0 : (a1 == 7) = false:=beq_eq_false_iff_ne.mpr c18
       have c18b1 : (a1 != 7) = true:=bne_iff_ne.mpr c18
       by_cases c21 : a1 = 8
       ·rw [if_pos c21] at H
        have c21b0 : (a1 == 8) = true:=beq_iff_eq.mpr c21
        have c21b1 : (a1 != 8) = false:=bne_eq_false_iff_eq.mpr c21
        clear c21
        simp only [Option.some.injEq,Prod.mk.injEq] at H
        obtain ⟨rfl,rfl⟩:=H
        go_enter Tryd.func22,Tryd.ntmps22
        go_wp2_with (first|((with_reducible refine gate_dst (N:=2) rfl ?_);refine box_event ?hg (N:=2) ?hd (cs:=#[.int .u64 a0_0,.int .u64 a0_1,.int .u64 a0_2,.int .u64 a0_3,.int .u64 a0_4,.int .u64 a0_5,.int .u64 a0_6,.int .u64 a0_7,.int .u64 a0_8,.int .u64 a0_9,.int .u64 a0_10,.string a0_11]) (t:=26) ?hr ?_;(case hd => rfl);(case hg => rfl);(case hr => first|(go_simp;done)|(go_simp;rfl));intro gb138 hg w22 hbox hb;have n0_:=am_ (below_step (by repeat (first|(with_reducible first|exact HB.out|apply ba_|apply pn_|apply pd_)|exact HB.out)) hb);have n1_:=am_ (hbox);have n2_:=am_ ((by rw [hg];exact (below_size (by repeat (first|(with_reducible first|exact HB.out|apply ba_|apply pn_|apply pd_)|exact HB.out))) : w.heap.size ≤ gb138));have n3_:=am_ ((by rw [hg];exact (below_size (by repeat (first|(with_reducible first|exact HB.out|apply ba_|apply pn_|apply pd_)|exact HB.out))) : w.heap.size ≤ gb138));clear HB;have HB:=n0_;have BK138:=n1_;have GW138:=n2_;have GE138:=n3_;clear n0_ n1_ n2_ n3_;clear hb hbox hg;have hcz23_0 : w22.cell? ⟨gb138,0,none⟩ = some (.int .u64 a0_0):=(kc_ BK138.out 0).trans rfl;have hcz23_1 : w22.cell? ⟨gb138,1,none⟩ = some (.int .u64 a0_1):=(kc_ BK138.out 1).trans rfl;have hcz23_2 : w22.cell? ⟨gb138,2,none⟩ = some (.int .u64 a0_2):=(kc_ BK138.out 2).trans rfl;have hcz23_3 : w22.cell? ⟨gb138,3,none⟩ = some (.int .u64 a0_3):=(kc_ BK138.out 3).trans rfl;have hcz23_4 : w22.cell? ⟨gb138,4,none⟩ = some (.int .u64 a0_4):=(kc_ BK138.out 4).trans rfl;have hcz23_5 : w22.cell? ⟨gb138,5,none⟩ = some (.int .u64 a0_5):=(kc_ BK138.out 5).trans rfl;have hcz23_6 : w22.cell? ⟨gb138,6,none⟩ = some (.int .u64 a0_6):=(kc_ BK138.out 6).trans rfl;have hcz23_7 : w22.cell? ⟨gb138,7,none⟩ = some (.int .u64 a0_7):=(kc_ BK138.out 7).trans rfl;have hcz23_8 : w22.cell? ⟨gb138,8,none⟩ = some (.int .u64 a0_8):=(kc_ BK138.out 8).trans rfl;have hcz23_9 : w22.cell? ⟨gb138,9,none⟩ = some (.int .u64 a0_9):=(kc_ BK138.out 9).trans rfl;have hcz23_10 : w22.cell? ⟨gb138,10,none⟩ = some (.int .u64 a0_10):=(kc_ BK138.out 10).trans rfl;have hcz23_11 : w22.cell? ⟨gb138,11,none⟩ = some (.string a0_11):=(kc_ BK138.out 11).trans rfl;have hfz23_0:=blk_frozen BK138.out 0;have hfz23_1:=blk_frozen BK138.out 1;have hfz23_2:=blk_frozen BK138.out 2;have hfz23_3:=blk_frozen BK138.out 3;have hfz23_4:=blk_frozen BK138.out 4;have hfz23_5:=blk_frozen BK138.out 5;have hfz23_6:=blk_frozen BK138.out 6;have hfz23_7:=blk_frozen BK138.out 7;have hfz23_8:=blk_frozen BK138.out 8;have hfz23_9:=blk_frozen BK138.out 9;have hfz23_10:=blk_frozen BK138.out 10;have hfz23_11:=blk_frozen BK138.out 11; skip))
        go_ret2
        exact ⟨by first|rfl|(simp [errW_none,errW_some] <;> rfl)|(simp [*,errW_none,errW_some] <;> rfl),by repeat (first|(with_reducible first|exact HB.out|apply ba_|apply pn_|apply pd_|refine bs_ ?_ GE138.out)|exact HB.out)⟩
       ·rw [if_neg c21] at H
        have c21b0 : (a1 == 8) = false:=beq_eq_false_iff_ne.mpr c21
        have c21b1 : (a1 != 8) = true:=bne_iff_ne.mpr c21
        by_cases c24 : a1 = 9
        ·rw [if_pos c24] at H
         have c24b0 : (a1 == 9) = true:=beq_iff_eq.mpr c24
         have c24b1 : (a1 != 9) = false:=bne_eq_false_iff_eq.mpr c24
         clear c24
         simp only [Option.some.injEq,Prod.mk.injEq] at H
         obtain ⟨rfl,rfl⟩:=H
         go_enter Tryd.func22,Tryd.ntmps22
         go_wp2_with (first|((with_reducible refine gate_dst (N:=2) rfl ?_);refine box_event ?hg (N:=2) ?hd (cs:=#[.int .u64 a0_0,.int .u64 a0_1,.int .u64 a0_2,.int .u64 a0_3,.int .u64 a0_4,.int .u64 a0_5,.int .u64 a0_6,.int .u64 a0_7,.int .u64 a0_8,.int .u64 a0_9,.int .u64 a0_10,.string a0_11]) (t:=26) ?hr ?_;(case hd => rfl);(case hg => rfl);(case hr => first|(go_simp;done)|(go_simp;rfl));intro gb138 hg w25 hbox hb;have n0_:=am_ (below_step (by repeat (first|(with_reducible first|exact HB.out|apply ba_|apply pn_|apply pd_)|exact HB.out)) hb);have n1_:=am_ (hbox);have n2_:=am_ ((by rw [hg];exact (below_size (by repeat (first|(with_reducible first|exact HB.out|apply ba_|apply pn_|apply pd_)|exact HB.out))) : w.heap.size ≤ gb138));have n3_:=am_ ((by rw [hg];exact (below_size (by repeat (first|(with_reducible first|exact HB.out|apply ba_|apply pn_|apply pd_)|exact HB.out))) : w.heap.size ≤ gb138));clear HB;have HB:=n0_;have BK138:=n1_;have GW138:=n2_;have GE138:=n3_;clear n0_ n1_ n2_ n3_;clear hb hbox hg;have hcz26_0 : w25.cell? ⟨gb138,0,none⟩ = some (.int .u64 a0_0):=(kc_ BK138.out 0).trans rfl;have hcz26_1 : w25.cell? ⟨gb138,1,none⟩ = some (.int .u64 a0_1):=(kc_ BK138.out 1).trans rfl;have hcz26_2 : w25.cell? ⟨gb138,2,none⟩ = some (.int .u64 a0_2):=(kc_ BK138.out 2).trans rfl;have hcz26_3 : w25.cell? ⟨gb138,3,none⟩ = some (.int .u64 a0_3):=(kc_ BK138.out 3).trans rfl;have hcz26_4 : w25.cell? ⟨gb138,4,none⟩ = some (.int .u64 a0_4):=(kc_ BK138.out 4).trans rfl;have hcz26_5 : w25.cell? ⟨gb138,5,none⟩ = some (.int .u64 a0_5):=(kc_ BK138.out 5).trans rfl;have hcz26_6 : w25.cell? ⟨gb138,6,none⟩ = some (.int .u64 a0_6):=(kc_ BK138.out 6).trans rfl;have hcz26_7 : w25.cell? ⟨gb138,7,none⟩ = some (.int .u64 a0_7):=(kc_ BK138.out 7).trans rfl;have hcz26_8 : w25.cell? ⟨gb138,8,none⟩ = some (.int .u64 a0_8):=(kc_ BK138.out 8).trans rfl;have hcz26_9 : w25.cell? ⟨gb138,9,none⟩ = some (.int .u64 a0_9):=(kc_ BK138.out 9).trans rfl;have hcz26_10 : w25.cell? ⟨gb138,10,none⟩ = some (.int .u64 a0_10):=(kc_ BK138.out 10).trans rfl;have hcz26_11 : w25.cell? ⟨gb138,11,none⟩ = some (.string a0_11):=(kc_ BK138.out 11).trans rfl;have hfz26_0:=blk_frozen BK138.out 0;have hfz26_1:=blk_frozen BK138.out 1;have hfz26_2:=blk_frozen BK138.out 2;have hfz26_3:=blk_frozen BK138.out 3;have hfz26_4:=blk_frozen BK138.out 4;have hfz26_5:=blk_frozen BK138.out 5;have hfz26_6:=blk_frozen BK138.out 6;have hfz26_7:=blk_frozen BK138.out 7;have hfz26_8:=blk_frozen BK138.out 8;have hfz26_9:=blk_frozen BK138.out 9;have hfz26_10:=blk_frozen BK138.out 10;have hfz26_11:=blk_frozen BK138.out 11; skip))
         go_ret2
         exact ⟨by first|rfl|(simp [errW_none,errW_some] <;> rfl)|(simp [*,errW_none,errW_some] <;> rfl),by repeat (first|(with_reducible first|exact HB.out|apply ba_|apply pn_|apply pd_|refine bs_ ?_ GE138.out)|exact HB.out)⟩
        ·rw [if_neg c24] at H
         have c24b0 : (a1 == 9) = false:=beq_eq_false_iff_ne.mpr c24
         have c24b1 : (a1 != 9) = true:=bne_iff_ne.mpr c24
         by_cases c27 : a1 = 10
         ·rw [if_pos c27] at H
          have c27b0 : (a1 == 10) = true:=beq_iff_eq.mpr c27
          have c27b1 : (a1 != 10) = false:=bne_eq_false_iff_eq.mpr c27
          clear c27
          simp only [Option.some.injEq,Prod.mk.injEq] at H
          obtain ⟨rfl,rfl⟩:=H
          go_enter Tryd.func22,Tryd.ntmps22
          go_wp2_with (first|((with_reducible refine gate_dst (N:=2) rfl ?_);refine box_event ?hg (N:=2) ?hd (cs:=#[.int .u64 a0_0,.int .u64 a0_1,.int .u64 a0_2,.int .u64 a0_3,.int .u64 a0_4,.int .u64 a0_5,.int .u64 a0_6,.int .u64 a0_7,.int .u64 a0_8,.int .u64 a0_9,.int .u64 a0_10,.string a0_11]) (t:=26) ?hr ?_;(case hd => rfl);(case hg => rfl);(case hr => first|(go_simp;done)|(go_simp;rfl));intro gb138 hg w28 hbox hb;have n0_:=am_ (below_step (by repeat (first|(with_reducible first|exact HB.out|apply ba_|apply pn_|apply pd_)|exact HB.out)) hb);have n1_:=am_ (hbox);have n2_:=am_ ((by rw [hg];exact (below_size (by repeat (first|(with_reducible first|exact HB.out|apply ba_|apply pn_|apply pd_)|exact HB.out))) : w.heap.size ≤ gb138));have n3_:=am_ ((by rw [hg];exact (below_size (by repeat (first|(with_reducible first|exact HB.out|apply ba_|apply pn_|apply pd_)|exact HB.out))) : w.heap.size ≤ gb138));clear HB;have HB:=n0_;have BK138:=n1_;have GW138:=n2_;have GE138:=n3_;clear n0_ n1_ n2_ n3_;clear hb hbox hg;have hcz29_0 : w28.cell? ⟨gb138,0,none⟩ = some (.int .u64 a0_0):=(kc_ BK138.out 0).trans rfl;have hcz29_1 : w28.cell? ⟨gb138,1,none⟩ = some (.int .u64 a0_1):=(kc_ BK138.out 1).trans rfl;have hcz29_2 : w28.cell? ⟨gb138,2,none⟩ = some (.int .u64 a0_2):=(kc_ BK138.out 2).trans rfl;have hcz29_3 : w28.cell? ⟨gb138,3,none⟩ = some (.int .u64 a0_3):=(kc_ BK138.out 3).trans rfl;have hcz29_4 : w28.cell? ⟨gb138,4,none⟩ = some (.int .u64 a0_4):=(kc_ BK138.out 4).trans rfl;have hcz29_5 : w28.cell? ⟨gb138,5,none⟩ = some (.int .u64 a0_5):=(kc_ BK138.out 5).trans rfl;have hcz29_6 : w28.cell? ⟨gb138,6,none⟩ = some (.int .u64 a0_6):=(kc_ BK138.out 6).trans rfl;have hcz29_7 : w28.cell? ⟨gb138,7,none⟩ = some (.int .u64 a0_7):=(kc_ BK138.out 7).trans rfl;have hcz29_8 : w28.cell? ⟨gb138,8,none⟩ = some (.int .u64 a0_8):=(kc_ BK138.out 8).trans rfl;have hcz29_9 : w28.cell? ⟨gb138,9,none⟩ = some (.int .u64 a0_9):=(kc_ BK138.out 9).trans rfl;have hcz29_10 : w28.cell? ⟨gb138,10,none⟩ = some (.int .u64 a0_10):=(kc_ BK138.out 10).trans rfl;have hcz29_11 : w28.cell? ⟨gb138,11,none⟩ = some (.string a0_11):=(kc_ BK138.out 11).trans rfl;have hfz29_0:=blk_frozen BK138.out 0;have hfz29_1:=blk_frozen BK138.out 1;have hfz29_2:=blk_frozen BK138.out 2;have hfz29_3:=blk_frozen BK138.out 3;have hfz29_4:=blk_frozen BK138.out 4;have hfz29_5:=blk_frozen BK138.out 5;have hfz29_6:=blk_frozen BK138.out 6;have hfz29_7:=blk_frozen BK138.out 7;have hfz29_8:=blk_frozen BK138.out 8;have hfz29_9:=blk_frozen BK138.out 9;have hfz29_10:=blk_frozen BK138.out 10;have hfz29_11:=blk_frozen BK138.out 11; skip))
          go_ret2
          exact ⟨by first|rfl|(simp [errW_none,errW_some] <;> rfl)|(simp [*,errW_none,errW_some] <;> rfl),by repeat (first|(with_reducible first|exact HB.out|apply ba_|apply pn_|apply pd_|refine bs_ ?_ GE138.out)|exact HB.out)⟩
         ·rw [if_neg c27] at H
          have c27b0 : (a1 == 10) = false:=beq_eq_false_iff_ne.mpr c27
          have c27b1 : (a1 != 10) = true:=bne_iff_ne.mpr c27
          by_cases c30 : a1 = 11
          ·rw [if_pos c30] at H
           have c30b0 : (a1 == 11) = true:=beq_iff_eq.mpr c30
           have c30b1 : (a1 != 11) = false:=bne_eq_false_iff_eq.mpr c30
           clear c30
           simp only [Option.some.injEq,Prod.mk.injEq] at H
           obtain ⟨rfl,rfl⟩:=H
           go_enter Tryd.func22,Tryd.ntmps22
           go_wp2_with (first|((with_reducible refine gate_dst (N:=2) rfl ?_);refine box_event ?hg (N:=2) ?hd (cs:=#[.int .u64 a0_0,.int .u64 a0_1,.int .u64 a0_2,.int .u64 a0_3,.int .u64 a0_4,.int .u64 a0_5,.int .u64 a0_6,.int .u64 a0_7,.int .u64 a0_8,.int .u64 a0_9,.int .u64 a0_10,.string a0_11]) (t:=26) ?hr ?_;(case hd => rfl);(case hg => rfl);(case hr => first|(go_simp;done)|(go_simp;rfl));intro gb138 hg w31 hbox hb;have n0_:=am_ (below_step (by repeat (first|(with_reducible first|exact HB.out|apply ba_|apply pn_|apply pd_)|exact HB.out)) hb);have n1_:=am_ (hbox);have n2_:=am_ ((by rw [hg];exact (below_size (by repeat (first|(with_reducible first|exact HB.out|apply ba_|apply pn_|apply pd_)|exact HB.out))) : w.heap.size ≤ gb138));have n3_:=am_ ((by rw [hg];exact (below_size (by repeat (first|(with_reducible first|exact HB.out|apply ba_|apply pn_|apply pd_)|exact HB.out))) : w.heap.size ≤ gb138));clear HB;have HB:=n0_;have BK138:=n1_;have GW138:=n2_;have GE138:=n3_;clear n0_ n1_ n2_ n3_;clear hb hbox hg;have hcz32_0 : w31.cell? ⟨gb138,0,none⟩ = some (.int .u64 a0_0):=(kc_ BK138.out 0).trans rfl;have hcz32_1 : w31.cell? ⟨gb138,1,none⟩ = some (.int .u64 a0_1):=(kc_ BK138.out 1).trans rfl;have hcz32_2 : w31.cell? ⟨gb138,2,none⟩ = some (.int .u64 a0_2):=(kc_ BK138.out 2).trans rfl;have hcz32_3 : w31.cell? ⟨gb138,3,none⟩ = some (.int .u64 a0_3):=(kc_ BK138.out 3).trans rfl;have hcz32_4 : w31.cell? ⟨gb138,4,none⟩ = some (.int .u64 a0_4):=(kc_ BK138.out 4).trans rfl;have hcz32_5 : w31.cell? ⟨gb138,5,none⟩ = some (.int .u64 a0_5):=(kc_ BK138.out 5).trans rfl;have hcz32_6 : w31.cell? ⟨gb138,6,none⟩ = some (.int .u64 a0_6):=(kc_ BK138.out 6).trans rfl;have hcz32_7 : w31.cell? ⟨gb138,7,none⟩ = some (.int .u64 a0_7):=(kc_ BK138.out 7).trans rfl;have hcz32_8 : w31.cell? ⟨gb138,8,none⟩ = some (.int .u64 a0_8):=(kc_ BK138.out 8).trans rfl;have hcz32_9 : w31.cell? ⟨gb138,9,none⟩ = some (.int .u64 a0_9):=(kc_ BK138.out 9).trans rfl;have hcz32_10 : w31.cell? ⟨gb138,10,none⟩ = some (.int .u64 a0_10):=(kc_ BK138.out 10).trans rfl;have hcz32_11 : w31.cell? ⟨gb138,11,none⟩ = some (.string a0_11):=(kc_ BK138.out 11).trans rfl;have hfz32_0:=blk_frozen BK138.out 0;have hfz32_1:=blk_frozen BK138.out 1;have hfz32_2:=blk_frozen BK138.out 2;have hfz32_3:=blk_frozen BK138.out 3;have hfz32_4:=blk_frozen BK138.out 4;have hfz32_5:=blk_frozen BK138.out 5;have hfz32_6:=blk_frozen BK138.out 6;have hfz32_7:=blk_frozen BK138.out 7;have hfz32_8:=blk_frozen BK138.out 8;have hfz32_9:=blk_frozen BK138.out 9;have hfz32_10:=blk_frozen BK138.out 10;have hfz32_11:=blk_frozen BK138.out 11; skip))
           go_ret2
           exact ⟨by first|rfl|(simp [errW_none,errW_some] <;> rfl)|(simp [*,errW_none,errW_some] <;> rfl),by repeat (first|(with_reducible first|exact HB.out|apply ba_|apply pn_|apply pd_|refine bs_ ?_ GE138.out)|exact HB.out)⟩
          ·rw [if_neg c30] at H
           have c30b0 : (a1 == 11) = false:=beq_eq_false_iff_ne.mpr c30
           have c30b1 : (a1 != 11) = true:=bne_iff_ne.mpr c30
           by_cases c33 : a1 = 14
           ·rw [if_pos c33] at H
            have c33b0 : (a1 == 14) = true:=beq_iff_eq.mpr c33
            have c33b1 : (a1 != 14) = false:=bne_eq_false_iff_eq.mpr c33
            clear c33
            simp only [Option.some.injEq,Prod.mk.injEq] at H
            obtain ⟨rfl,rfl⟩:=H
            go_enter Tryd.func22,Tryd.ntmps22
            go_wp2_with (first|((with_reducible refine gate_dst (N:=2) rfl ?_);refine box_event ?hg (N:=2) ?hd (cs:=#[.int .u64 a0_0,.int .u64 a0_1,.int .u64 a0_2,.int .u64 a0_3,.int .u64 a0_4,.int .u64 a0_5,.int .u64 a0_6,.int .u64 a0_7,.int .u64 a0_8,.int .u64 a0_9,.int .u64 a0_10,.string a0_11]) (t:=26) ?hr ?_;(case hd => rfl);(case hg => rfl);(case hr => first|(go_simp;done)|(go_simp;rfl));intro gb138 hg w34 hbox hb;have n0_:=am_ (below_step (by repeat (first|(with_reducible first|exact HB.out|apply ba_|apply pn_|apply pd_)|exact HB.out)) hb);have n1_:=am_ (hbox);have n2_:=am_ ((by rw [hg];exact (below_size (by repeat (first|(with_reducible first|exact HB.out|apply ba_|apply pn_|apply pd_)|exact HB.out))) : w.heap.size ≤ gb138));have n3_:=am_ ((by rw [hg];exact (below_size (by repeat (first|(with_reducible first|exact HB.out|apply ba_|apply pn_|apply pd_)|exact HB.out))) : w.heap.size ≤ gb138));clear HB;have HB:=n0_;have BK138:=n1_;have GW138:=n2_;have GE138:=n3_;clear n0_ n1_ n2_ n3_;clear hb hbox hg;have hcz35_0 : w34.cell? ⟨gb138,0,none⟩ = some (.int .u64 a0_0):=(kc_ BK138.out 0).trans rfl;have hcz35_1 : w34.cell? ⟨gb138,1,none⟩ = some (.int .u64 a0_1):=(kc_ BK138.out 1).trans rfl;have hcz35_2 : w34.cell? ⟨gb138,2,none⟩ = some (.int .u64 a0_2):=(kc_ BK138.out 2).trans rfl;have hcz35_3 : w34.cell? ⟨gb138,3,none⟩ = some (.int .u64 a0_3):=(kc_ BK138.out 3).trans rfl;have hcz35_4 : w34.cell? ⟨gb138,4,none⟩ = some (.int .u64 a0_4):=(kc_ BK138.out 4).trans rfl;have hcz35_5 : w34.cell? ⟨gb138,5,none⟩ = some (.int .u64 a0_5):=(kc_ BK138.out 5).trans rfl;have hcz35_6 : w34.cell? ⟨gb138,6,none⟩ = some (.int .u64 a0_6):=(kc_ BK138.out 6).trans rfl;have hcz35_7 : w34.cell? ⟨gb138,7,none⟩ = some (.int .u64 a0_7):=(kc_ BK138.out 7).trans rfl;have hcz35_8 : w34.cell? ⟨gb138,8,none⟩ = some (.int .u64 a0_8):=(kc_ BK138.out 8).trans rfl;have hcz35_9 : w34.cell? ⟨gb138,9,none⟩ = some (.int .u64 a0_9):=(kc_ BK138.out 9).trans rfl;have hcz35_10 : w34.cell? ⟨gb138,10,none⟩ = some (.int .u64 a0_10):=(kc_ BK138.out 10).trans rfl;have hcz35_11 : w34.cell? ⟨gb138,11,none⟩ = some (.string a0_11):=(kc_ BK138.out 11).trans rfl;have hfz35_0:=blk_frozen BK138.out 0;have hfz35_1:=blk_frozen BK138.out 1;have hfz35_2:=blk_frozen BK138.out 2;have hfz35_3:=blk_frozen BK138.out 3;have hfz35_4:=blk_frozen BK138.out 4;have hfz35_5:=blk_frozen BK138.out 5;have hfz35_6:=blk_frozen BK138.out 6;have hfz35_7:=blk_frozen BK138.out 7;have hfz35_8:=blk_frozen BK138.out 8;have hfz35_9:=blk_frozen BK138.out 9;have hfz35_10:=blk_frozen BK138.out 10;have hfz35_11:=blk_frozen BK138.out 11; skip))
            go_ret2
            exact ⟨by first|rfl|(simp [errW_none,errW_some] <;> rfl)|(simp [*,errW_none,errW_some] <;> rfl),by repeat (first|(with_reducible first|exact HB.out|apply ba_|apply pn_|apply pd_|refine bs_ ?_ GE138.out)|exact HB.out)⟩
           ·rw [if_neg c33] at H
            have c33b0 : (a1 == 14) = false:=beq_eq_false_iff_ne.mpr c33
            have c33b1 : (a1 != 14) = true:=bne_iff_ne.mpr c33
            simp only [Option.some.injEq,Prod.mk.injEq] at H
            obtain ⟨rfl,rfl⟩:=H
            go_enter Tryd.func22,Tryd.ntmps22
            go_wp2_with (first|((with_reducible refine gate_dst (N:=2) rfl ?_);refine box_event ?hg (N:=2) ?hd (cs:=#[.int .u64 a0_0,.int .u64 a0_1,.int .u64 a0_2,.int .u64 a0_3,.int .u64 a0_4,.int .u64 a0_5,.int .u64 a0_6,.int .u64 a0_7,.int .u64 a0_8,.int .u64 a0_9,.int .u64 a0_10,.string a0_11]) (t:=26) ?hr ?_;(case hd => rfl);(case hg => rfl);(case hr => first|(go_simp;done)|(go_simp;rfl));intro gb138 hg w36 hbox hb;have n0_:=am_ (below_step (by repeat (first|(with_reducible first|exact HB.out|apply ba_|apply pn_|apply pd_)|exact HB.out)) hb);have n1_:=am_ (hbox);have n2_:=am_ ((by rw [hg];exact (below_size (by repeat (first|(with_reducible first|exact HB.out|apply ba_|apply pn_|apply pd_)|exact HB.out))) : w.heap.size ≤ gb138));have n3_:=am_ ((by rw [hg];exact (below_size (by repeat (first|(with_reducible first|exact HB.out|apply ba_|apply pn_|apply pd_)|exact HB.out))) : w.heap.size ≤ gb138));clear HB;have HB:=n0_;have BK138:=n1_;have GW138:=n2_;have GE138:=n3_;clear n0_ n1_ n2_ n3_;clear hb hbox hg))
            go_ret2
            exact ⟨by first|rfl|(simp [errW_none,errW_some] <;> rfl)|(simp [*,errW_none,errW_some] <;> rfl),by repeat (first|(with_reducible first|exact HB.out|apply ba_|apply pn_|apply pd_|refine bs_ ?_ GE138.out)|exact HB.out)⟩

/-! ### dominoref05_Check: function 14 -/
def dominoref05_Check.l0 : Nat → Int → Int → Int → Int → Int → Int → Int → Int → Int → Int → Int → Int → ByteArray → Option (Int)
 | 0,_,_,_,_,_,_,_,_,_,_,_,_,_ => none
 | k + 1,x3,x140000,x140001,x140002,x140003,x140004,x140005,x140006,x140007,x140008,x140009,x140010,x140011 => if x3 ≤ 14 then ((dominoref05_value.f x140000 x140001 x140002 x140003 x140004 x140005 x140006 x140007 x140008 x140009 x140010 x140011 x3).bind fun bt140 => (if bt140.1 > 4611686018427387903 then (some 50) else (dominoref05_Check.l0 k (IntKind.u64.wrap (x3 + 1)) x140000 x140001 x140002 x140003 x140004 x140005 x140006 x140007 x140008 x140009 x140010 x140011))) else (if x140001 < 1200 then (some 50) else (if x140006 > 1152921504606846976 then (some 50) else (if x140007 > 1152921504606846976 then (some 50) else (if x140008 > 20 then (some 50) else (if x140009 ≥ 16384 then (some 50) else (if x140010 < 2 then (some 50) else (if (x140011.size : Int) = 0 then (some 0) else (if (x140011.size : Int) = 16 then (some 0) else (some 50)))))))))
def dominoref05_Check.f (k : Nat) (a0_0 : Int) (a0_1 : Int) (a0_2 : Int) (a0_3 : Int) (a0_4 : Int) (a0_5 : Int) (a0_6 : Int) (a0_7 : Int) (a0_8 : Int) (a0_9 : Int) (a0_10 : Int) (a0_11 : ByteArray) : Option (Int):=dominoref05_Check.l0 k 1 a0_0 a0_1 a0_2 a0_3 a0_4 a0_5 a0_6 a0_7 a0_8 a0_9 a0_10 a0_11
theorem dominoref05_Check.mono_l : ∀ k,(∀ y0 y1 y2 y3 y4 y5 y6 y7 y8 y9 y10 y11 y12,LeO (dominoref05_Check.l0 k y0 y1 y2 y3 y4 y5 y6 y7 y8 y9 y10 y11 y12) (dominoref05_Check.l0 (k + 1) y0 y1 y2 y3 y4 y5 y6 y7 y8 y9 y10 y11 y12))
 | 0 => fun _ _ _ _ _ _ _ _ _ _ _ _ _ r h => by simp [dominoref05_Check.l0] at h
 | k + 1 => by
  have ih0:=dominoref05_Check.mono_l k
  ·intro y0 y1 y2 y3 y4 y5 y6 y7 y8 y9 y10 y11 y12
   unfold dominoref05_Check.l0
   repeat' first
   | (with_reducible exact ih0 _ _ _ _ _ _ _ _ _ _ _ _ _)
   | (with_reducible exact LeO.refl _)
   | (with_reducible exact LeO.none _)
   | (with_reducible refine LeO.ite ?_ ?_)
   | (with_reducible refine LeO.bind ?_ (fun _ => ?_))
   | exact ih0 _ _ _ _ _ _ _ _ _ _ _ _ _
   | exact LeO.none _
   | refine LeO.ite ?_ ?_
   | refine LeO.bind ?_ (fun _ => ?_)
theorem dominoref05_Check.mono : ∀ a0 a1 a2 a3 a4 a5 a6 a7 a8 a9 a10 a11 k,LeO (dominoref05_Check.f k a0 a1 a2 a3 a4 a5 a6 a7 a8 a9 a10 a11) (dominoref05_Check.f (k + 1) a0 a1 a2 a3 a4 a5 a6 a7 a8 a9 a10 a11):=by
 intro a0 a1 a2 a3 a4 a5 a6 a7 a8 a9 a10 a11 k
 have ih0:=dominoref05_Check.mono_l k
 unfold dominoref05_Check.f
 repeat' first
   | (with_reducible exact ih0 _ _ _ _ _ _ _ _ _ _ _ _ _)
   | (with_reducible exact LeO.refl _)
   | (with_reducible exact LeO.none _)
   | (with_reducible refine LeO.ite ?_ ?_)
   | (with_reducible refine LeO.bind ?_ (fun _ => ?_))
   | exact ih0 _ _ _ _ _ _ _ _ _ _ _ _ _
   | exact LeO.none _
   | refine LeO.ite ?_ ?_
   | refine LeO.bind ?_ (fun _ => ?_)
set_option maxHeartbeats 8000000 in
set_option maxRecDepth 100000 in
theorem dominoref05_Check.calls (k : Nat) (a0_0 : Int) (a0_1 : Int) (a0_2 : Int) (a0_3 : Int) (a0_4 : Int) (a0_5 : Int) (a0_6 : Int) (a0_7 : Int) (a0_8 : Int) (a0_9 : Int) (a0_10 : Int) (a0_11 : ByteArray) (r : Int) (w : World) (h : dominoref05_Check.f k a0_0 a0_1 a0_2 a0_3 a0_4 a0_5 a0_6 a0_7 a0_8 a0_9 a0_10 a0_11 = some r) :
  Calls Tryd.prog 14 #[.agg #[.int .u64 a0_0,.int .u64 a0_1,.int .u64 a0_2,.int .u64 a0_3,.int .u64 a0_4,.int .u64 a0_5,.int .u64 a0_6,.int .u64 a0_7,.int .u64 a0_8,.int .u64 a0_9,.int .u64 a0_10,.string a0_11]] w fun e w' => e = .returned (.int .i64 r) ∧ Below w.heap.size w w':=by
 have hu26:=Tryd.underlying26
 have HB:=am_ (Below.refl w.heap.size w)
 have H : (dominoref05_Check.l0 k 1 a0_0 a0_1 a0_2 a0_3 a0_4 a0_5 a0_6 a0_7 a0_8 a0_9 a0_10 a0_11) = some r:=h
 clear h
 have H':=am_ H
 clear H
 go_enter Tryd.func14,Tryd.ntmps14
 go_wp2_with (first|((with_reducible refine gate_dst (N:=1) rfl ?_);(try (refine gate_guard (by rfl) ?_;dsimp only));refine box_event ?hg (N:=1) ?hd (cs:=#[.int .u64 a0_0,.int .u64 a0_1,.int .u64 a0_2,.int .u64 a0_3,.int .u64 a0_4,.int .u64 a0_5,.int .u64 a0_6,.int .u64 a0_7,.int .u64 a0_8,.int .u64 a0_9,.int .u64 a0_10,.string a0_11]) (t:=26) ?hr ?_;(case hd => rfl);(case hg => rfl);(case hr => first|(go_simp;done)|(go_simp;rfl));intro gb139 hg w2 hbox hb;have n0_:=am_ (below_step (by repeat (first|(with_reducible first|exact HB.out|apply ba_|apply pn_|apply pd_)|exact HB.out)) hb);have n1_:=am_ (hbox);have n2_:=am_ ((by rw [hg];exact (below_size (by repeat (first|(with_reducible first|exact HB.out|apply ba_|apply pn_|apply pd_)|exact HB.out))) : w.heap.size ≤ gb139));have n3_:=am_ ((by rw [hg];exact (below_size (by repeat (first|(with_reducible first|exact HB.out|apply ba_|apply pn_|apply pd_)|exact HB.out))) : w.heap.size ≤ gb139));clear HB;have HB:=n0_;have BK139:=n1_;have GW139:=n2_;have GE139:=n3_;clear n0_ n1_ n2_ n3_;clear hb hbox hg))
 go_loopg [3] k (fun kq v3 w' => ∃ (x3_1 : Int),v3 = .int .u64 x3_1 ∧ Aside0 (dominoref05_Check.l0 kq x3_1 a0_0 a0_1 a0_2 a0_3 a0_4 a0_5 a0_6 a0_7 a0_8 a0_9 a0_10 a0_11 = some r) ∧ Aside0 (kq ≤ k) ∧ Aside0 (w'.heap[gb139]? = some (.cells #[.int .u64 a0_0,.int .u64 a0_1,.int .u64 a0_2,.int .u64 a0_3,.int .u64 a0_4,.int .u64 a0_5,.int .u64 a0_6,.int .u64 a0_7,.int .u64 a0_8,.int .u64 a0_9,.int .u64 a0_10,.string a0_11] 26 (0,0))) ∧ Aside0 (Below w.heap.size w w'))
 case atStart => exact ⟨(1),(by first|rfl|(simp;done)|(simp [*];done)),H',⟨Nat.le_refl _⟩,⟨by (with_reducible repeat (first|refine kn_ ?_ _|refine kd_ ?_|refine ka_ ?_ _));exact BK139.out⟩,⟨by repeat (first|(with_reducible first|exact HB.out|apply ba_|apply pn_|apply pd_|refine bs_ ?_ GE139.out)|exact HB.out)⟩⟩
 case round =>
  clear H'
  try clear c1;try clear p2
  obtain ⟨x3_1,rfl,HA,HK1,BK139,HB⟩:=hrel
  cases gk with
  | zero => exact absurd HA.out (by simp [dominoref05_Check.l0])
  | succ k1 =>
   have H:=HA.out
   clear HA
   simp only [dominoref05_Check.l0] at H
   by_cases c3 : x3_1 ≤ 14
   ·rw [if_pos c3] at H
    have c3b0 : decide (x3_1 ≤ 14) = true:=decide_eq_true c3
    clear c3
    replace H:=Option.bind_eq_some_iff.mp H
    obtain ⟨⟨t140,t141⟩,A40,H⟩:=H
    replace H : (if t140 > 4611686018427387903 then (some 50) else (dominoref05_Check.l0 k1 (IntKind.u64.wrap (x3_1 + 1)) a0_0 a0_1 a0_2 a0_3 a0_4 a0_5 a0_6 a0_7 a0_8 a0_9 a0_10 a0_11)) = some r:=H
    have A4:=am_ A40
    clear A40
    by_cases c5 : t140 > 4611686018427387903
    ·rw [if_pos c5] at H
     have c5b0 : decide (4611686018427387903 < t140) = true:=decide_eq_true c5
     clear c5
     obtain rfl:=Option.some.inj H
     have hcz6_0 : wr.cell? ⟨gb139,0,none⟩ = some (.int .u64 a0_0):=(kc_ BK139.out 0).trans rfl
     have hcz6_1 : wr.cell? ⟨gb139,1,none⟩ = some (.int .u64 a0_1):=(kc_ BK139.out 1).trans rfl
     have hcz6_2 : wr.cell? ⟨gb139,2,none⟩ = some (.int .u64 a0_2):=(kc_ BK139.out 2).trans rfl
     have hcz6_3 : wr.cell? ⟨gb139,3,none⟩ = some (.int .u64 a0_3):=(kc_ BK139.out 3).trans rfl
     have hcz6_4 : wr.cell? ⟨gb139,4,none⟩ = some (.int .u64 a0_4):=(kc_ BK139.out 4).trans rfl
     have hcz6_5 : wr.cell? ⟨gb139,5,none⟩ = some (.int .u64 a0_5):=(kc_ BK139.out 5).trans rfl
     have hcz6_6 : wr.cell? ⟨gb139,6,none⟩ = some (.int .u64 a0_6):=(kc_ BK139.out 6).trans rfl
     have hcz6_7 : wr.cell? ⟨gb139,7,none⟩ = some (.int .u64 a0_7):=(kc_ BK139.out 7).trans rfl
     have hcz6_8 : wr.cell? ⟨gb139,8,none⟩ = some (.int .u64 a0_8):=(kc_ BK139.out 8).trans rfl
     have hcz6_9 : wr.cell? ⟨gb139,9,none⟩ = some (.int .u64 a0_9):=(kc_ BK139.out 9).trans rfl
     have hcz6_10 : wr.cell? ⟨gb139,10,none⟩ = some (.int .u64 a0_10):=(kc_ BK139.out 10).trans rfl
     have hcz6_11 : wr.cell? ⟨gb139,11,none⟩ = some (.string a0_11):=(kc_ BK139.out 11).trans rfl
     have hfz6_0:=blk_frozen BK139.out 0
     have hfz6_1:=blk_frozen BK139.out 1
     have hfz6_2:=blk_frozen BK139.out 2
     have hfz6_3:=blk_frozen BK139.out 3
     have hfz6_4:=blk_frozen BK139.out 4
     have hfz6_5:=blk_frozen BK139.out 5
     have hfz6_6:=blk_frozen BK139.out 6
     have hfz6_7:=blk_frozen BK139.out 7
     have hfz6_8:=blk_frozen BK139.out 8
     have hfz6_9:=blk_frozen BK139.out 9
     have hfz6_10:=blk_frozen BK139.out 10
     have hfz6_11:=blk_frozen BK139.out 11
     go_wp2_with (first|((with_reducible refine gate_callee (f:=22) rfl ?_);refine goesL_ (some 13) rfl rfl Tryd.func22 (by kernel_rfl) rfl #[.agg #[.int .u64 a0_0,.int .u64 a0_1,.int .u64 a0_2,.int .u64 a0_3,.int .u64 a0_4,.int .u64 a0_5,.int .u64 a0_6,.int .u64 a0_7,.int .u64 a0_8,.int .u64 a0_9,.int .u64 a0_10,.string a0_11],.int .u64 x3_1] rfl (by (try simp only [List.map_toArray,List.map_cons,List.map_nil]);first|done|rfl|(simp only [List.length_drop,List.length_take];rfl)) ?_;(with_reducible refine (dominoref05_value.calls a0_0 a0_1 a0_2 a0_3 a0_4 a0_5 a0_6 a0_7 a0_8 a0_9 a0_10 a0_11 x3_1 t140 t141 _ A4.out).mono ?_);rintro e w7 ⟨rfl,hb⟩;refine ⟨_,rfl,?_⟩;have n0_:=am_ (blk_below (g:=gb139) (o:=.cells #[.int .u64 a0_0,.int .u64 a0_1,.int .u64 a0_2,.int .u64 a0_3,.int .u64 a0_4,.int .u64 a0_5,.int .u64 a0_6,.int .u64 a0_7,.int .u64 a0_8,.int .u64 a0_9,.int .u64 a0_10,.string a0_11] 26 (0,0)) (by (with_reducible repeat (first|refine kn_ ?_ _|refine kd_ ?_|refine ka_ ?_ _));exact BK139.out) hb);have n1_:=am_ (below_step (by repeat (first|(with_reducible first|exact HB.out|apply ba_|apply pn_|apply pd_|refine bs_ ?_ GE139.out)|exact HB.out)) hb);clear BK139;clear HB;have BK139:=n0_;have HB:=n1_;clear n0_ n1_;(try clear hb);(try clear hb2);(try clear hk);(try clear hi)))
     go_ret
     exact ⟨by first|rfl|(simp [errW_none,errW_some] <;> rfl)|(simp [*,errW_none,errW_some] <;> rfl),by repeat (first|(with_reducible first|exact HB.out|apply ba_|apply pn_|apply pd_|refine bs_ ?_ GE139.out)|exact HB.out)⟩
    ·rw [if_neg c5] at H
     have c5b0 : decide (4611686018427387903 < t140) = false:=decide_eq_false c5
     clear c5
     have H':=am_ H
     clear H
     have hcz8_0 : wr.cell? ⟨gb139,0,none⟩ = some (.int .u64 a0_0):=(kc_ BK139.out 0).trans rfl
     have hcz8_1 : wr.cell? ⟨gb139,1,none⟩ = some (.int .u64 a0_1):=(kc_ BK139.out 1).trans rfl
     have hcz8_2 : wr.cell? ⟨gb139,2,none⟩ = some (.int .u64 a0_2):=(kc_ BK139.out 2).trans rfl
     have hcz8_3 : wr.cell? ⟨gb139,3,none⟩ = some (.int .u64 a0_3):=(kc_ BK139.out 3).trans rfl
     have hcz8_4 : wr.cell? ⟨gb139,4,none⟩ = some (.int .u64 a0_4):=(kc_ BK139.out 4).trans rfl
     have hcz8_5 : wr.cell? ⟨gb139,5,none⟩ = some (.int .u64 a0_5):=(kc_ BK139.out 5).trans rfl
     have hcz8_6 : wr.cell? ⟨gb139,6,none⟩ = some (.int .u64 a0_6):=(kc_ BK139.out 6).trans rfl
     have hcz8_7 : wr.cell? ⟨gb139,7,none⟩ = some (.int .u64 a0_7):=(kc_ BK139.out 7).trans rfl
     have hcz8_8 : wr.cell? ⟨gb139,8,none⟩ = some (.int .u64 a0_8):=(kc_ BK139.out 8).trans rfl
     have hcz8_9 : wr.cell? ⟨gb139,9,none⟩ = some (.int .u64 a0_9):=(kc_ BK139.out 9).trans rfl
     have hcz8_10 : wr.cell? ⟨gb139,10,none⟩ = some (.int .u64 a0_10):=(kc_ BK139.out 10).trans rfl
     have hcz8_11 : wr.cell? ⟨gb139,11,none⟩ = some (.string a0_11):=(kc_ BK139.out 11).trans rfl
     have hfz8_0:=blk_frozen BK139.out 0
     have hfz8_1:=blk_frozen BK139.out 1
     have hfz8_2:=blk_frozen BK139.out 2
     have hfz8_3:=blk_frozen BK139.out 3
     have hfz8_4:=blk_frozen BK139.out 4
     have hfz8_5:=blk_frozen BK139.out 5
     have hfz8_6:=blk_frozen BK139.out 6
     have hfz8_7:=blk_frozen BK139.out 7
     have hfz8_8:=blk_frozen BK139.out 8
     have hfz8_9:=blk_frozen BK139.out 9
     have hfz8_10:=blk_frozen BK139.out 10
     have hfz8_11:=blk_frozen BK139.out 11
     go_wp2_with (first|((with_reducible refine gate_callee (f:=22) rfl ?_);refine goesL_ (some 13) rfl rfl Tryd.func22 (by kernel_rfl) rfl #[.agg #[.int .u64 a0_0,.int .u64 a0_1,.int .u64 a0_2,.int .u64 a0_3,.int .u64 a0_4,.int .u64 a0_5,.int .u64 a0_6,.int .u64 a0_7,.int .u64 a0_8,.int .u64 a0_9,.int .u64 a0_10,.string a0_11],.int .u64 x3_1] rfl (by (try simp only [List.map_toArray,List.map_cons,List.map_nil]);first|done|rfl|(simp only [List.length_drop,List.length_take];rfl)) ?_;(with_reducible refine (dominoref05_value.calls a0_0 a0_1 a0_2 a0_3 a0_4 a0_5 a0_6 a0_7 a0_8 a0_9 a0_10 a0_11 x3_1 t140 t141 _ A4.out).mono ?_);rintro e w9 ⟨rfl,hb⟩;refine ⟨_,rfl,?_⟩;have n0_:=am_ (blk_below (g:=gb139) (o:=.cells #[.int .u64 a0_0,.int .u64 a0_1,.int .u64 a0_2,.int .u64 a0_3,.int .u64 a0_4,.int .u64 a0_5,.int .u64 a0_6,.int .u64 a0_7,.int .u64 a0_8,.int .u64 a0_9,.int .u64 a0_10,.string a0_11] 26 (0,0)) (by (with_reducible repeat (first|refine kn_ ?_ _|refine kd_ ?_|refine ka_ ?_ _));exact BK139.out) hb);have n1_:=am_ (below_step (by repeat (first|(with_reducible first|exact HB.out|apply ba_|apply pn_|apply pd_|refine bs_ ?_ GE139.out)|exact HB.out)) hb);clear BK139;clear HB;have BK139:=n0_;have HB:=n1_;clear n0_ n1_;(try clear hb);(try clear hb2);(try clear hk);(try clear hi)))
     go_roundg k1
     case measure => have:=HK1.out;omega
     case rel => exact ⟨(IntKind.u64.wrap (x3_1 + 1)),(by first|rfl|(simp;done)|(simp [*];done)),H',⟨by have:=HK1.out;omega⟩,⟨by (with_reducible repeat (first|refine kn_ ?_ _|refine kd_ ?_|refine ka_ ?_ _));exact BK139.out⟩,⟨by repeat (first|(with_reducible first|exact HB.out|apply ba_|apply pn_|apply pd_|refine bs_ ?_ GE139.out)|exact HB.out)⟩⟩
   ·rw [if_neg c3] at H
    have c3b0 : decide (x3_1 ≤ 14) = false:=decide_eq_false c3
    clear c3
    by_cases c10 : a0_1 < 1200
    ·rw [if_pos c10] at H
     have c10b0 : decide (a0_1 < 1200) = true:=decide_eq_true c10
     clear c10
     obtain rfl:=Option.some.inj H
     have hcz11_0 : wr.cell? ⟨gb139,0,none⟩ = some (.int .u64 a0_0):=(kc_ BK139.out 0).trans rfl
     have hcz11_1 : wr.cell? ⟨gb139,1,none⟩ = some (.int .u64 a0_1):=(kc_ BK139.out 1).trans rfl
     have hcz11_2 : wr.cell? ⟨gb139,2,none⟩ = some (.int .u64 a0_2):=(kc_ BK139.out 2).trans rfl
     have hcz11_3 : wr.cell? ⟨gb139,3,none⟩ = some (.int .u64 a0_3):=(kc_ BK139.out 3).trans rfl
     have hcz11_4 : wr.cell? ⟨gb139,4,none⟩ = some (.int .u64 a0_4):=(kc_ BK139.out 4).trans rfl
     have hcz11_5 : wr.cell? ⟨gb139,5,none⟩ = some (.int .u64 a0_5):=(kc_ BK139.out 5).trans rfl
     have hcz11_6 : wr.cell? ⟨gb139,6,none⟩ = some (.int .u64 a0_6):=(kc_ BK139.out 6).trans rfl
     have hcz11_7 : wr.cell? ⟨gb139,7,none⟩ = some (.int .u64 a0_7):=(kc_ BK139.out 7).trans rfl
     have hcz11_8 : wr.cell? ⟨gb139,8,none⟩ = some (.int .u64 a0_8):=(kc_ BK139.out 8).trans rfl
     have hcz11_9 : wr.cell? ⟨gb139,9,none⟩ = some (.int .u64 a0_9):=(kc_ BK139.out 9).trans rfl
     have hcz11_10 : wr.cell? ⟨gb139,10,none⟩ = some (.int .u64 a0_10):=(kc_ BK139.out 10).trans rfl
     have hcz11_11 : wr.cell? ⟨gb139,11,none⟩ = some (.string a0_11):=(kc_ BK139.out 11).trans rfl
     have hfz11_0:=blk_frozen BK139.out 0
     have hfz11_1:=blk_frozen BK139.out 1
     have hfz11_2:=blk_frozen BK139.out 2
     have hfz11_3:=blk_frozen BK139.out 3
     have hfz11_4:=blk_frozen BK139.out 4
     have hfz11_5:=blk_frozen BK139.out 5
     have hfz11_6:=blk_frozen BK139.out 6
     have hfz11_7:=blk_frozen BK139.out 7
     have hfz11_8:=blk_frozen BK139.out 8
     have hfz11_9:=blk_frozen BK139.out 9
     have hfz11_10:=blk_frozen BK139.out 10
     have hfz11_11:=blk_frozen BK139.out 11
     go_wp2
     go_ret
     exact ⟨by first|rfl|(simp [errW_none,errW_some] <;> rfl)|(simp [*,errW_none,errW_some] <;> rfl),by repeat (first|(with_reducible first|exact HB.out|apply ba_|apply pn_|apply pd_|refine bs_ ?_ GE139.out)|exact HB.out)⟩
    ·rw [if_neg c10] at H
     have c10b0 : decide (a0_1 < 1200) = false:=decide_eq_false c10
     clear c10
     by_cases c12 : a0_6 > 1152921504606846976
     ·rw [if_pos c12] at H
      have c12b0 : decide (1152921504606846976 < a0_6) = true:=decide_eq_true c12
      clear c12
      obtain rfl:=Option.some.inj H
      have hcz13_0 : wr.cell? ⟨gb139,0,none⟩ = some (.int .u64 a0_0):=(kc_ BK139.out 0).trans rfl
      have hcz13_1 : wr.cell? ⟨gb139,1,none⟩ = some (.int .u64 a0_1):=(kc_ BK139.out 1).trans rfl
      have hcz13_2 : wr.cell? ⟨gb139,2,none⟩ = some (.int .u64 a0_2):=(kc_ BK139.out 2).trans rfl
      have hcz13_3 : wr.cell? ⟨gb139,3,none⟩ = some (.int .u64 a0_3):=(kc_ BK139.out 3).trans rfl
      have hcz13_4 : wr.cell? ⟨gb139,4,none⟩ = some (.int .u64 a0_4):=(kc_ BK139.out 4).trans rfl
      have hcz13_5 : wr.cell? ⟨gb139,5,none⟩ = some (.int .u64 a0_5):=(kc_ BK139.out 5).trans rfl
      have hcz13_6 : wr.cell? ⟨gb139,6,none⟩ = some (.int .u64 a0_6):=(kc_ BK139.out 6).trans rfl
      have hcz13_7 : wr.cell? ⟨gb139,7,none⟩ = some (.int .u64 a0_7):=(kc_ BK139.out 7).trans rfl
      have hcz13_8 : wr.cell? ⟨gb139,8,none⟩ = some (.int .u64 a0_8):=(kc_ BK139.out 8).trans rfl
      have hcz13_9 : wr.cell? ⟨gb139,9,none⟩ = some (.int .u64 a0_9):=(kc_ BK139.out 9).trans rfl
      have hcz13_10 : wr.cell? ⟨gb139,10,none⟩ = some (.int .u64 a0_10):=(kc_ BK139.out 10).trans rfl
      have hcz13_11 : wr.cell? ⟨gb139,11,none⟩ = some (.string a0_11):=(kc_ BK139.out 11).trans rfl
      have hfz13_0:=blk_frozen BK139.out 0
      have hfz13_1:=blk_frozen BK139.out 1
      have hfz13_2:=blk_frozen BK139.out 2
      have hfz13_3:=blk_frozen BK139.out 3
      have hfz13_4:=blk_frozen BK139.out 4
      have hfz13_5:=blk_frozen BK139.out 5
      have hfz13_6:=blk_frozen BK139.out 6
      have hfz13_7:=blk_frozen BK139.out 7
      have hfz13_8:=blk_frozen BK139.out 8
      have hfz13_9:=blk_frozen BK139.out 9
      have hfz13_10:=blk_frozen BK139.out 10
      have hfz13_11:=blk_frozen BK139.out 11
      go_wp2
      go_ret
      exact ⟨by first|rfl|(simp [errW_none,errW_some] <;> rfl)|(simp [*,errW_none,errW_some] <;> rfl),by repeat (first|(with_reducible first|exact HB.out|apply ba_|apply pn_|apply pd_|refine bs_ ?_ GE139.out)|exact HB.out)⟩
     ·rw [if_neg c12] at H
      have c12b0 : decide (1152921504606846976 < a0_6) = false:=decide_eq_false c12
      clear c12
      by_cases c14 : a0_7 > 1152921504606846976
      ·rw [if_pos c14] at H
       have c14b0 : decide (1152921504606846976 < a0_7) = true:=decide_eq_true c14
       clear c14
       obtain rfl:=Option.some.inj H
       have hcz15_0 : wr.cell? ⟨gb139,0,none⟩ = some (.int .u64 a0_0):=(kc_ BK139.out 0).trans rfl
       have hcz15_1 : wr.cell? ⟨gb139,1,none⟩ = some (.int .u64 a0_1):=(kc_ BK139.out 1).trans rfl
       have hcz15_2 : wr.cell? ⟨gb139,2,none⟩ = some (.int .u64 a0_2):=(kc_ BK139.out 2).trans rfl
       have hcz15_3 : wr.cell? ⟨gb139,3,none⟩ = some (.int .u64 a0_3):=(kc_ BK139.out 3).trans rfl
       have hcz15_4 : wr.cell? ⟨gb139,4,none⟩ = some (.int .u64 a0_4):=(kc_ BK139.out 4).trans rfl
       have hcz15_5 : wr.cell? ⟨gb139,5,none⟩ = some (.int .u64 a0_5):=(kc_ BK139.out 5).trans rfl
       have hcz15_6 : wr.cell? ⟨gb139,6,none⟩ = some (.int .u64 a0_6):=(kc_ BK139.out 6).trans rfl
       have hcz15_7 : wr.cell? ⟨gb139,7,none⟩ = some (.int .u64 a0_7):=(kc_ BK139.out 7).trans rfl
       have hcz15_8 : wr.cell? ⟨gb139,8,none⟩ = some (.int .u64 a0_8):=(kc_ BK139.out 8).trans rfl
       have hcz15_9 : wr.cell? ⟨gb139,9,none⟩ = some (.int .u64 a0_9):=(kc_ BK139.out 9).trans rfl
       have hcz15_10 : wr.cell? ⟨gb139,10,none⟩ = some (.int .u64 a0_10):=(kc_ BK139.out 10).trans rfl
       have hcz15_11 : wr.cell? ⟨gb139,11,none⟩ = some (.string a0_11):=(kc_ BK139.out 11).trans rfl
       have hfz15_0:=blk_frozen BK139.out 0
       have hfz15_1:=blk_frozen BK139.out 1
       have hfz15_2:=blk_frozen BK139.out 2
       have hfz15_3:=blk_frozen BK139.out 3
       have hfz15_4:=blk_frozen BK139.out 4
       have hfz15_5:=blk_frozen BK139.out 5
       have hfz15_6:=blk_frozen BK139.out 6
       have hfz15_7:=blk_frozen BK139.out 7
       have hfz15_8:=blk_frozen BK139.out 8
       have hfz15_9:=blk_frozen BK139.out 9
       have hfz15_10:=blk_frozen BK139.out 10
       have hfz15_11:=blk_frozen BK139.out 11
       go_wp2
       go_ret
       exact ⟨by first|rfl|(simp [errW_none,errW_some] <;> rfl)|(simp [*,errW_none,errW_some] <;> rfl),by repeat (first|(with_reducible first|exact HB.out|apply ba_|apply pn_|apply pd_|refine bs_ ?_ GE139.out)|exact HB.out)⟩
      ·rw [if_neg c14] at H
       have c14b0 : decide (1152921504606846976 < a0_7) = false:=decide_eq_false c14
       clear c14
       by_cases c16 : a0_8 > 20
       ·rw [if_pos c16] at H
        have c16b0 : decide (20 < a0_8) = true:=decide_eq_true c16
        clear c16
        obtain rfl:=Option.some.inj H
        have hcz17_0 : wr.cell? ⟨gb139,0,none⟩ = some (.int .u64 a0_0):=(kc_ BK139.out 0).trans rfl
        have hcz17_1 : wr.cell? ⟨gb139,1,none⟩ = some (.int .u64 a0_1):=(kc_ BK139.out 1).trans rfl
        have hcz17_2 : wr.cell? ⟨gb139,2,none⟩ = some (.int .u64 a0_2):=(kc_ BK139.out 2).trans rfl
        have hcz17_3 : wr.cell? ⟨gb139,3,none⟩ = some (.int .u64 a0_3):=(kc_ BK139.out 3).trans rfl
        have hcz17_4 : wr.cell? ⟨gb139,4,none⟩ = some (.int .u64 a0_4):=(kc_ BK139.out 4).trans rfl
        have hcz17_5 : wr.cell? ⟨gb139,5,none⟩ = some (.int .u64 a0_5):=(kc_ BK139.out 5).trans rfl
        have hcz17_6 : wr.cell? ⟨gb139,6,none⟩ = some (.int .u64 a0_6):=(kc_ BK139.out 6).trans rfl
        have hcz17_7 : wr.cell? ⟨gb139,7,none⟩ = some (.int .u64 a0_7):=(kc_ BK139.out 7).trans rfl
        have hcz17_8 : wr.cell? ⟨gb139,8,none⟩ = some (.int .u64 a0_8):=(kc_ BK139.out 8).trans rfl
        have hcz17_9 : wr.cell? ⟨gb139,9,none⟩ = some (.int .u64 a0_9):=(kc_ BK139.out 9).trans rfl
        have hcz17_10 : wr.cell? ⟨gb139,10,none⟩ = some (.int .u64 a0_10):=(kc_ BK139.out 10).trans rfl
        have hcz17_11 : wr.cell? ⟨gb139,11,none⟩ = some (.string a0_11):=(kc_ BK139.out 11).trans rfl
        have hfz17_0:=blk_frozen BK139.out 0
        have hfz17_1:=blk_frozen BK139.out 1
        have hfz17_2:=blk_frozen BK139.out 2
        have hfz17_3:=blk_frozen BK139.out 3
        have hfz17_4:=blk_frozen BK139.out 4
        have hfz17_5:=blk_frozen BK139.out 5
        have hfz17_6:=blk_frozen BK139.out 6
        have hfz17_7:=blk_frozen BK139.out 7
        have hfz17_8:=blk_frozen BK139.out 8
        have hfz17_9:=blk_frozen BK139.out 9
        have hfz17_10:=blk_frozen BK139.out 10
        have hfz17_11:=blk_frozen BK139.out 11
        go_wp2
        go_ret
        exact ⟨by first|rfl|(simp [errW_none,errW_some] <;> rfl)|(simp [*,errW_none,errW_some] <;> rfl),by repeat (first|(with_reducible first|exact HB.out|apply ba_|apply pn_|apply pd_|refine bs_ ?_ GE139.out)|exact HB.out)⟩
       ·rw [if_neg c16] at H
        have c16b0 : decide (20 < a0_8) = false:=decide_eq_false c16
        clear c16
        by_cases c18 : a0_9 ≥ 16384
        ·rw [if_pos c18] at H
         have c18b0 : decide (16384 ≤ a0_9) = true:=decide_eq_true c18
         clear c18
         obtain rfl:=Option.some.inj H
         have hcz19_0 : wr.cell? ⟨gb139,0,none⟩ = some (.int .u64 a0_0):=(kc_ BK139.out 0).trans rfl
         have hcz19_1 : wr.cell? ⟨gb139,1,none⟩ = some (.int .u64 a0_1):=(kc_ BK139.out 1).trans rfl
         have hcz19_2 : wr.cell? ⟨gb139,2,none⟩ = some (.int .u64 a0_2):=(kc_ BK139.out 2).trans rfl
         have hcz19_3 : wr.cell? ⟨gb139,3,none⟩ = some (.int .u64 a0_3):=(kc_ BK139.out 3).trans rfl
         have hcz19_4 : wr.cell? ⟨gb139,4,none⟩ = some (.int .u64 a0_4):=(kc_ BK139.out 4).trans rfl
         have hcz19_5 : wr.cell? ⟨gb139,5,none⟩ = some (.int .u64 a0_5):=(kc_ BK139.out 5).trans rfl
         have hcz19_6 : wr.cell? ⟨gb139,6,none⟩ = some (.int .u64 a0_6):=(kc_ BK139.out 6).trans rfl
         have hcz19_7 : wr.cell? ⟨gb139,7,none⟩ = some (.int .u64 a0_7):=(kc_ BK139.out 7).trans rfl
         have hcz19_8 : wr.cell? ⟨gb139,8,none⟩ = some (.int .u64 a0_8):=(kc_ BK139.out 8).trans rfl
         have hcz19_9 : wr.cell? ⟨gb139,9,none⟩ = some (.int .u64 a0_9):=(kc_ BK139.out 9).trans rfl
         have hcz19_10 : wr.cell? ⟨gb139,10,none⟩ = some (.int .u64 a0_10):=(kc_ BK139.out 10).trans rfl
         have hcz19_11 : wr.cell? ⟨gb139,11,none⟩ = some (.string a0_11):=(kc_ BK139.out 11).trans rfl
         have hfz19_0:=blk_frozen BK139.out 0
         have hfz19_1:=blk_frozen BK139.out 1
         have hfz19_2:=blk_frozen BK139.out 2
         have hfz19_3:=blk_frozen BK139.out 3
         have hfz19_4:=blk_frozen BK139.out 4
         have hfz19_5:=blk_frozen BK139.out 5
         have hfz19_6:=blk_frozen BK139.out 6
         have hfz19_7:=blk_frozen BK139.out 7
         have hfz19_8:=blk_frozen BK139.out 8
         have hfz19_9:=blk_frozen BK139.out 9
         have hfz19_10:=blk_frozen BK139.out 10
         have hfz19_11:=blk_frozen BK139.out 11
         go_wp2
         go_ret
         exact ⟨by first|rfl|(simp [errW_none,errW_some] <;> rfl)|(simp [*,errW_none,errW_some] <;> rfl),by repeat (first|(with_reducible first|exact HB.out|apply ba_|apply pn_|apply pd_|refine bs_ ?_ GE139.out)|exact HB.out)⟩
        ·rw [if_neg c18] at H
         have c18b0 : decide (16384 ≤ a0_9) = false:=decide_eq_false c18
         clear c18
         by_cases c20 : a0_10 < 2
         ·rw [if_pos c20] at H
          have c20b0 : decide (a0_10 < 2) = true:=decide_eq_true c20
          clear c20
          obtain rfl:=Option.some.inj H
          have hcz21_0 : wr.cell? ⟨gb139,0,none⟩ = some (.int .u64 a0_0):=(kc_ BK139.out 0).trans rfl
          have hcz21_1 : wr.cell? ⟨gb139,1,none⟩ = some (.int .u64 a0_1):=(kc_ BK139.out 1).trans rfl
          have hcz21_2 : wr.cell? ⟨gb139,2,none⟩ = some (.int .u64 a0_2):=(kc_ BK139.out 2).trans rfl
          have hcz21_3 : wr.cell? ⟨gb139,3,none⟩ = some (.int .u64 a0_3):=(kc_ BK139.out 3).trans rfl
          have hcz21_4 : wr.cell? ⟨gb139,4,none⟩ = some (.int .u64 a0_4):=(kc_ BK139.out 4).trans rfl
          have hcz21_5 : wr.cell? ⟨gb139,5,none⟩ = some (.int .u64 a0_5):=(kc_ BK139.out 5).trans rfl
          have hcz21_6 : wr.cell? ⟨gb139,6,none⟩ = some (.int .u64 a0_6):=(kc_ BK139.out 6).trans rfl
          have hcz21_7 : wr.cell? ⟨gb139,7,none⟩ = some (.int .u64 a0_7):=(kc_ BK139.out 7).trans rfl
          have hcz21_8 : wr.cell? ⟨gb139,8,none⟩ = some (.int .u64 a0_8):=(kc_ BK139.out 8).trans rfl
          have hcz21_9 : wr.cell? ⟨gb139,9,none⟩ = some (.int .u64 a0_9):=(kc_ BK139.out 9).trans rfl
          have hcz21_10 : wr.cell? ⟨gb139,10,none⟩ = some (.int .u64 a0_10):=(kc_ BK139.out 10).trans rfl
          have hcz21_11 : wr.cell? ⟨gb139,11,none⟩ = some (.string a0_11):=(kc_ BK139.out 11).trans rfl
          have hfz21_0:=blk_frozen BK139.out 0
          have hfz21_1:=blk_frozen BK139.out 1
          have hfz21_2:=blk_frozen BK139.out 2
          have hfz21_3:=blk_frozen BK139.out 3
          have hfz21_4:=blk_frozen BK139.out 4
          have hfz21_5:=blk_frozen BK139.out 5
          have hfz21_6:=blk_frozen BK139.out 6
          have hfz21_7:=blk_frozen BK139.out 7
          have hfz21_8:=blk_frozen BK139.out 8
          have hfz21_9:=blk_frozen BK139.out 9
          have hfz21_10:=blk_frozen BK139.out 10
          have hfz21_11:=blk_frozen BK139.out 11
          go_wp2
          go_ret
          exact ⟨by first|rfl|(simp [errW_none,errW_some] <;> rfl)|(simp [*,errW_none,errW_some] <;> rfl),by repeat (first|(with_reducible first|exact HB.out|apply ba_|apply pn_|apply pd_|refine bs_ ?_ GE139.out)|exact HB.out)⟩
         ·rw [if_neg c20] at H
          have c20b0 : decide (a0_10 < 2) = false:=decide_eq_false c20
          clear c20
          by_cases c22 : (a0_11.size : Int) = 0
          ·rw [if_pos c22] at H
           have c22b0 : ((a0_11.size : Int) == 0) = true:=beq_iff_eq.mpr c22
           have c22b1 : ((a0_11.size : Int) != 0) = false:=bne_eq_false_iff_eq.mpr c22
           clear c22
           obtain rfl:=Option.some.inj H
           have hcz23_0 : wr.cell? ⟨gb139,0,none⟩ = some (.int .u64 a0_0):=(kc_ BK139.out 0).trans rfl
           have hcz23_1 : wr.cell? ⟨gb139,1,none⟩ = some (.int .u64 a0_1):=(kc_ BK139.out 1).trans rfl
           have hcz23_2 : wr.cell? ⟨gb139,2,none⟩ = some (.int .u64 a0_2):=(kc_ BK139.out 2).trans rfl
           have hcz23_3 : wr.cell? ⟨gb139,3,none⟩ = some (.int .u64 a0_3):=(kc_ BK139.out 3).trans rfl
           have hcz23_4 : wr.cell? ⟨gb139,4,none⟩ = some (.int .u64 a0_4):=(kc_ BK139.out 4).trans rfl
           have hcz23_5 : wr.cell? ⟨gb139,5,none⟩ = some (.int .u64 a0_5):=(kc_ BK139.out 5).trans rfl
           have hcz23_6 : wr.cell? ⟨gb139,6,none⟩ = some (.int .u64 a0_6):=(kc_ BK139.out 6).trans rfl
           have hcz23_7 : wr.cell? ⟨gb139,7,none⟩ = some (.int .u64 a0_7):=(kc_ BK139.out 7).trans rfl
           have hcz23_8 : wr.cell? ⟨gb139,8,none⟩ = some (.int .u64 a0_8):=(kc_ BK139.out 8).trans rfl
           have hcz23_9 : wr.cell? ⟨gb139,9,none⟩ = some (.int .u64 a0_9):=(kc_ BK139.out 9).trans rfl
           have hcz23_10 : wr.cell? ⟨gb139,10,none⟩ = some (.int .u64 a0_10):=(kc_ BK139.out 10).trans rfl
           have hcz23_11 : wr.cell? ⟨gb139,11,none⟩ = some (.string a0_11):=(kc_ BK139.out 11).trans rfl
           have hfz23_0:=blk_frozen BK139.out 0
           have hfz23_1:=blk_frozen BK139.out 1
           have hfz23_2:=blk_frozen BK139.out 2
           have hfz23_3:=blk_frozen BK139.out 3
           have hfz23_4:=blk_frozen BK139.out 4
           have hfz23_5:=blk_frozen BK139.out 5
           have hfz23_6:=blk_frozen BK139.out 6
           have hfz23_7:=blk_frozen BK139.out 7
           have hfz23_8:=blk_frozen BK139.out 8
           have hfz23_9:=blk_frozen BK139.out 9
           have hfz23_10:=blk_frozen BK139.out 10
           have hfz23_11:=blk_frozen BK139.out 11
           go_wp2
           go_ret
           exact ⟨by first|rfl|(simp [errW_none,errW_some] <;> rfl)|(simp [*,errW_none,errW_some] <;> rfl),by repeat (first|(with_reducible first|exact HB.out|apply ba_|apply pn_|apply pd_|refine bs_ ?_ GE139.out)|exact HB.out)⟩
          ·rw [if_neg c22] at H
           have c22b0 : ((a0_11.size : Int) == 0) = false:=beq_eq_false_iff_ne.mpr c22
           have c22b1 : ((a0_11.size : Int) != 0) = true:=bne_iff_ne.mpr c22
           by_cases c24 : (a0_11.size : Int) = 16
           ·rw [if_pos c24] at H
            have c24b0 : ((a0_11.size : Int) == 16) = true:=beq_iff_eq.mpr c24
            have c24b1 : ((a0_11.size : Int) != 16) = false:=bne_eq_false_iff_eq.mpr c24
            clear c24
            obtain rfl:=Option.some.inj H
            have hcz25_0 : wr.cell? ⟨gb139,0,none⟩ = some (.int .u64 a0_0):=(kc_ BK139.out 0).trans rfl
            have hcz25_1 : wr.cell? ⟨gb139,1,none⟩ = some (.int .u64 a0_1):=(kc_ BK139.out 1).trans rfl
            have hcz25_2 : wr.cell? ⟨gb139,2,none⟩ = some (.int .u64 a0_2):=(kc_ BK139.out 2).trans rfl
            have hcz25_3 : wr.cell? ⟨gb139,3,none⟩ = some (.int .u64 a0_3):=(kc_ BK139.out 3).trans rfl
            have hcz25_4 : wr.cell? ⟨gb139,4,none⟩ = some (.int .u64 a0_4):=(kc_ BK139.out 4).trans rfl
            have hcz25_5 : wr.cell? ⟨gb139,5,none⟩ = some (.int .u64 a0_5):=(kc_ BK139.out 5).trans rfl
            have hcz25_6 : wr.cell? ⟨gb139,6,none⟩ = some (.int .u64 a0_6):=(kc_ BK139.out 6).trans rfl
            have hcz25_7 : wr.cell? ⟨gb139,7,none⟩ = some (.int .u64 a0_7):=(kc_ BK139.out 7).trans rfl
            have hcz25_8 : wr.cell? ⟨gb139,8,none⟩ = some (.int .u64 a0_8):=(kc_ BK139.out 8).trans rfl
            have hcz25_9 : wr.cell? ⟨gb139,9,none⟩ = some (.int .u64 a0_9):=(kc_ BK139.out 9).trans rfl
            have hcz25_10 : wr.cell? ⟨gb139,10,none⟩ = some (.int .u64 a0_10):=(kc_ BK139.out 10).trans rfl
            have hcz25_11 : wr.cell? ⟨gb139,11,none⟩ = some (.string a0_11):=(kc_ BK139.out 11).trans rfl
            have hfz25_0:=blk_frozen BK139.out 0
            have hfz25_1:=blk_frozen BK139.out 1
            have hfz25_2:=blk_frozen BK139.out 2
            have hfz25_3:=blk_frozen BK139.out 3
            have hfz25_4:=blk_frozen BK139.out 4
            have hfz25_5:=blk_frozen BK139.out 5
            have hfz25_6:=blk_frozen BK139.out 6
            have hfz25_7:=blk_frozen BK139.out 7
            have hfz25_8:=blk_frozen BK139.out 8
            have hfz25_9:=blk_frozen BK139.out 9
            have hfz25_10:=blk_frozen BK139.out 10
            have hfz25_11:=blk_frozen BK139.out 11
            go_wp2
            go_ret
            exact ⟨by first|rfl|(simp [errW_none,errW_some] <;> rfl)|(simp [*,errW_none,errW_some] <;> rfl),by repeat (first|(with_reducible first|exact HB.out|apply ba_|apply pn_|apply pd_|refine bs_ ?_ GE139.out)|exact HB.out)⟩
           ·rw [if_neg c24] at H
            have c24b0 : ((a0_11.size : Int) == 16) = false:=beq_eq_false_iff_ne.mpr c24
            have c24b1 : ((a0_11.size : Int) != 16) = true:=bne_iff_ne.mpr c24
            obtain rfl:=Option.some.inj H
            have hcz26_0 : wr.cell? ⟨gb139,0,none⟩ = some (.int .u64 a0_0):=(kc_ BK139.out 0).trans rfl
            have hcz26_1 : wr.cell? ⟨gb139,1,none⟩ = some (.int .u64 a0_1):=(kc_ BK139.out 1).trans rfl
            have hcz26_2 : wr.cell? ⟨gb139,2,none⟩ = some (.int .u64 a0_2):=(kc_ BK139.out 2).trans rfl
            have hcz26_3 : wr.cell? ⟨gb139,3,none⟩ = some (.int .u64 a0_3):=(kc_ BK139.out 3).trans rfl
            have hcz26_4 : wr.cell? ⟨gb139,4,none⟩ = some (.int .u64 a0_4):=(kc_ BK139.out 4).trans rfl
            have hcz26_5 : wr.cell? ⟨gb139,5,none⟩ = some (.int .u64 a0_5):=(kc_ BK139.out 5).trans rfl
            have hcz26_6 : wr.cell? ⟨gb139,6,none⟩ = some (.int .u64 a0_6):=(kc_ BK139.out 6).trans rfl
            have hcz26_7 : wr.cell? ⟨gb139,7,none⟩ = some (.int .u64 a0_7):=(kc_ BK139.out 7).trans rfl
            have hcz26_8 : wr.cell? ⟨gb139,8,none⟩ = some (.int .u64 a0_8):=(kc_ BK139.out 8).trans rfl
            have hcz26_9 : wr.cell? ⟨gb139,9,none⟩ = some (.int .u64 a0_9):=(kc_ BK139.out 9).trans rfl
            have hcz26_10 : wr.cell? ⟨gb139,10,none⟩ = some (.int .u64 a0_10):=(kc_ BK139.out 10).trans rfl
            have hcz26_11 : wr.cell? ⟨gb139,11,none⟩ = some (.string a0_11):=(kc_ BK139.out 11).trans rfl
            have hfz26_0:=blk_frozen BK139.out 0
            have hfz26_1:=blk_frozen BK139.out 1
            have hfz26_2:=blk_frozen BK139.out 2
            have hfz26_3:=blk_frozen BK139.out 3
            have hfz26_4:=blk_frozen BK139.out 4
            have hfz26_5:=blk_frozen BK139.out 5
            have hfz26_6:=blk_frozen BK139.out 6
            have hfz26_7:=blk_frozen BK139.out 7
            have hfz26_8:=blk_frozen BK139.out 8
            have hfz26_9:=blk_frozen BK139.out 9
            have hfz26_10:=blk_frozen BK139.out 10
            have hfz26_11:=blk_frozen BK139.out 11
            go_wp2
            go_ret
            exact ⟨by first|rfl|(simp [errW_none,errW_some] <;> rfl)|(simp [*,errW_none,errW_some] <;> rfl),by repeat (first|(with_reducible first|exact HB.out|apply ba_|apply pn_|apply pd_|refine bs_ ?_ GE139.out)|exact HB.out)⟩

/-! ### dominoref05_Default: function 16 -/
def dominoref05_Default.f  : Option (Int × Int × Int × Int × Int × Int × Int × Int × Int × Int × Int × ByteArray):=some (0,65527,0,0,0,0,0,0,3,25,2,(⟨#[]⟩ : ByteArray))
set_option maxHeartbeats 8000000 in
set_option maxRecDepth 100000 in
theorem dominoref05_Default.calls  (r1 : Int) (r2 : Int) (r3 : Int) (r4 : Int) (r5 : Int) (r6 : Int) (r7 : Int) (r8 : Int) (r9 : Int) (r10 : Int) (r11 : Int) (r12 : ByteArray) (w : World) (h : dominoref05_Default.f  = some (r1,r2,r3,r4,r5,r6,r7,r8,r9,r10,r11,r12)) :
  Calls Tryd.prog 16 #[] w fun e w' => e = .returned (.agg #[.int .u64 r1,.int .u64 r2,.int .u64 r3,.int .u64 r4,.int .u64 r5,.int .u64 r6,.int .u64 r7,.int .u64 r8,.int .u64 r9,.int .u64 r10,.int .u64 r11,.string r12]) ∧ Below w.heap.size w w':=by
 have hu26:=Tryd.underlying26
 have HB:=am_ (Below.refl w.heap.size w)
 have H : (some (0,65527,0,0,0,0,0,0,3,25,2,(⟨#[]⟩ : ByteArray))) = some (r1,r2,r3,r4,r5,r6,r7,r8,r9,r10,r11,r12):=h
 clear h
 simp only [Option.some.injEq,Prod.mk.injEq] at H
 obtain ⟨rfl,rfl,rfl,rfl,rfl,rfl,rfl,rfl,rfl,rfl,rfl,rfl⟩:=H
 go_enter Tryd.func16,Tryd.ntmps16
 go_wp2_with (first|((with_reducible refine gate_dst (N:=0) rfl ?_);refine box_event ?hg (N:=0) ?hd (cs:=kk0_) (t:=26) ?hr ?_;(case hd => rfl);(case hg => rfl);(case hr => first|(go_simp;done)|(go_simp;rfl));intro gb142 hg w1 hbox hb;have n0_:=am_ (below_step (by repeat (first|(with_reducible first|exact HB.out|apply ba_|apply pn_|apply pd_)|exact HB.out)) hb);have n1_:=am_ (hbox);have n2_:=am_ ((by rw [hg];exact (below_size (by repeat (first|(with_reducible first|exact HB.out|apply ba_|apply pn_|apply pd_)|exact HB.out))) : w.heap.size ≤ gb142));have n3_:=am_ ((by rw [hg];exact (below_size (by repeat (first|(with_reducible first|exact HB.out|apply ba_|apply pn_|apply pd_)|exact HB.out))) : w.heap.size ≤ gb142));clear HB;have HB:=n0_;have BK142:=n1_;have GW142:=n2_;have GE142:=n3_;clear n0_ n1_ n2_ n3_;clear hb hbox hg;have hcz2_0 : w1.cell? ⟨gb142,0,none⟩ = some (.int .u64 0):=(kc_ BK142.out 0).trans rfl;have hcz2_1 : w1.cell? ⟨gb142,1,none⟩ = some (.int .u64 0):=(kc_ BK142.out 1).trans rfl;have hcz2_2 : w1.cell? ⟨gb142,2,none⟩ = some (.int .u64 0):=(kc_ BK142.out 2).trans rfl;have hcz2_3 : w1.cell? ⟨gb142,3,none⟩ = some (.int .u64 0):=(kc_ BK142.out 3).trans rfl;have hcz2_4 : w1.cell? ⟨gb142,4,none⟩ = some (.int .u64 0):=(kc_ BK142.out 4).trans rfl;have hcz2_5 : w1.cell? ⟨gb142,5,none⟩ = some (.int .u64 0):=(kc_ BK142.out 5).trans rfl;have hcz2_6 : w1.cell? ⟨gb142,6,none⟩ = some (.int .u64 0):=(kc_ BK142.out 6).trans rfl;have hcz2_7 : w1.cell? ⟨gb142,7,none⟩ = some (.int .u64 0):=(kc_ BK142.out 7).trans rfl;have hcz2_8 : w1.cell? ⟨gb142,8,none⟩ = some (.int .u64 0):=(kc_ BK142.out 8).trans rfl;have hcz2_9 : w1.cell? ⟨gb142,9,none⟩ = some (.int .u64 0):=(kc_ BK142.out 9).trans rfl;have hcz2_10 : w1.cell? ⟨gb142,10,none⟩ = some (.int .u64 0):=(kc_ BK142.out 10).trans rfl;have hcz2_11 : w1.cell? ⟨gb142,11,none⟩ = some (.string (⟨#[]⟩ : ByteArray)):=(kc_ BK142.out 11).trans rfl;have hfz2_0:=blk_frozen BK142.out 0;have hfz2_1:=blk_frozen BK142.out 1;have hfz2_2:=blk_frozen BK142.out 2;have hfz2_3:=blk_frozen BK142.out 3;have hfz2_4:=blk_frozen BK142.out 4;have hfz2_5:=blk_frozen BK142.out 5;have hfz2_6:=blk_frozen BK142.out 6;have hfz2_7:=blk_frozen BK142.out 7;have hfz2_8:=blk_frozen BK142.out 8;have hfz2_9:=blk_frozen BK142.out 9;have hfz2_10:=blk_frozen BK142.out 10;have hfz2_11:=blk_frozen BK142.out 11; skip))
 refine bodyPost_ret (results_cell_row rfl _ _ gb142 26 kk2_ (0,0) _ rfl (by (with_reducible repeat (first|refine kn_ ?_ _|refine kd_ ?_|refine ka_ ?_ _));refine blk_put (cs:=kk2_) ?_ 11 _ rfl;(with_reducible repeat (first|refine kn_ ?_ _|refine kd_ ?_|refine ka_ ?_ _));refine blk_put (cs:=#[.int .u64 0,.int .u64 65527,.int .u64 0,.int .u64 0,.int .u64 0,.int .u64 0,.int .u64 0,.int .u64 0,.int .u64 3,.int .u64 25,.int .u64 0,.string (⟨#[]⟩ : ByteArray)]) ?_ 10 _ rfl;(with_reducible repeat (first|refine kn_ ?_ _|refine kd_ ?_|refine ka_ ?_ _));refine blk_put (cs:=#[.int .u64 0,.int .u64 65527,.int .u64 0,.int .u64 0,.int .u64 0,.int .u64 0,.int .u64 0,.int .u64 0,.int .u64 3,.int .u64 0,.int .u64 0,.string (⟨#[]⟩ : ByteArray)]) ?_ 9 _ rfl;(with_reducible repeat (first|refine kn_ ?_ _|refine kd_ ?_|refine ka_ ?_ _));refine blk_put (cs:=kk1_) ?_ 8 _ rfl;(with_reducible repeat (first|refine kn_ ?_ _|refine kd_ ?_|refine ka_ ?_ _));refine blk_put (cs:=kk1_) ?_ 7 _ rfl;(with_reducible repeat (first|refine kn_ ?_ _|refine kd_ ?_|refine ka_ ?_ _));refine blk_put (cs:=kk1_) ?_ 6 _ rfl;(with_reducible repeat (first|refine kn_ ?_ _|refine kd_ ?_|refine ka_ ?_ _));refine blk_put (cs:=kk1_) ?_ 5 _ rfl;(with_reducible repeat (first|refine kn_ ?_ _|refine kd_ ?_|refine ka_ ?_ _));refine blk_put (cs:=kk1_) ?_ 4 _ rfl;(with_reducible repeat (first|refine kn_ ?_ _|refine kd_ ?_|refine ka_ ?_ _));refine blk_put (cs:=kk1_) ?_ 3 _ rfl;(with_reducible repeat (first|refine kn_ ?_ _|refine kd_ ?_|refine ka_ ?_ _));refine blk_put (cs:=kk1_) ?_ 2 _ rfl;(with_reducible repeat (first|refine kn_ ?_ _|refine kd_ ?_|refine ka_ ?_ _));refine blk_put (cs:=kk0_) ?_ 1 _ rfl;(with_reducible repeat (first|refine kn_ ?_ _|refine kd_ ?_|refine ka_ ?_ _));refine blk_put (cs:=kk0_) ?_ 0 _ rfl;(with_reducible repeat (first|refine kn_ ?_ _|refine kd_ ?_|refine ka_ ?_ _));exact BK142.out) Tryd.underlying26 rfl (by kernel_rfl)) rfl ?_
 exact ⟨by first|rfl|(simp [errW_none,errW_some] <;> rfl)|(simp [*,errW_none,errW_some] <;> rfl),by repeat (first|(with_reducible first|exact HB.out|apply ba_|apply pn_|apply pd_|refine bs_ ?_ GE142.out)|exact HB.out)⟩

/-! ### dominoref01_power: function 37 -/
def dominoref01_power.l0 : Nat → Int → Int → Int → Option (Int)
 | 0,_,_,_ => none
 | k + 1,x0,x3,x4 => if x4 < x0 then (dominoref01_power.l0 k x0 (IntKind.u64.wrap (x3 * 2)) (wrap64 (x4 + 1))) else (some x3)
def dominoref01_power.f (k : Nat) (a0 : Int) : Option (Int):=dominoref01_power.l0 k a0 1 0
theorem dominoref01_power.mono_l : ∀ k,(∀ y0 y1 y2,LeO (dominoref01_power.l0 k y0 y1 y2) (dominoref01_power.l0 (k + 1) y0 y1 y2))
 | 0 => fun _ _ _ r h => by simp [dominoref01_power.l0] at h
 | k + 1 => by
  have ih0:=dominoref01_power.mono_l k
  ·intro y0 y1 y2
   unfold dominoref01_power.l0
   repeat' first
   | (with_reducible exact ih0 _ _ _)
   | (with_reducible exact LeO.refl _)
   | (with_reducible exact LeO.none _)
   | (with_reducible refine LeO.ite ?_ ?_)
   | (with_reducible refine LeO.bind ?_ (fun _ => ?_))
   | exact ih0 _ _ _
   | exact LeO.none _
   | refine LeO.ite ?_ ?_
   | refine LeO.bind ?_ (fun _ => ?_)
theorem dominoref01_power.mono : ∀ a0 k,LeO (dominoref01_power.f k a0) (dominoref01_power.f (k + 1) a0):=by
 intro a0 k
 have ih0:=dominoref01_power.mono_l k
 unfold dominoref01_power.f
 repeat' first
   | (with_reducible exact ih0 _ _ _)
   | (with_reducible exact LeO.refl _)
   | (with_reducible exact LeO.none _)
   | (with_reducible refine LeO.ite ?_ ?_)
   | (with_reducible refine LeO.bind ?_ (fun _ => ?_))
   | exact ih0 _ _ _
   | exact LeO.none _
   | refine LeO.ite ?_ ?_
   | refine LeO.bind ?_ (fun _ => ?_)
set_option maxHeartbeats 8000000 in
set_option maxRecDepth 100000 in
theorem dominoref01_power.calls (k : Nat) (a0 : Int) (r : Int) (w : World) (h : dominoref01_power.f k a0 = some r) :
  Calls Tryd.prog 37 #[.int .i64 a0] w fun e w' => e = .returned (.int .u64 r) ∧ Drawn0 w w':=by
 have H : (dominoref01_power.l0 k a0 1 0) = some r:=h
 clear h
 have H':=am_ H
 clear H
 go_enter Tryd.func37,Tryd.ntmps37
 go_wp2
 go_loopg [3,4] k (fun kq v3 v4 w' => ∃ (x3_1 : Int) (x4_1 : Int),v3 = .int .u64 x3_1 ∧ v4 = .int .i64 x4_1 ∧ Aside0 (dominoref01_power.l0 kq a0 x3_1 x4_1 = some r) ∧ Aside0 (kq ≤ k) ∧ Drawn0 w w')
 case atStart => exact ⟨(1),(0),(by first|rfl|(simp;done)|(simp [*];done)),(by first|rfl|(simp;done)|(simp [*];done)),H',⟨Nat.le_refl _⟩,by repeat (first|exact Drawn0.refl _|apply Drawn0.step)⟩
 case round =>
  clear H'
  obtain ⟨x3_1,x4_1,rfl,rfl,HA,HK1,⟨m1,rfl⟩⟩:=hrel
  cases gk with
  | zero => exact absurd HA.out (by simp [dominoref01_power.l0])
  | succ k1 =>
   have H:=HA.out
   clear HA
   simp only [dominoref01_power.l0] at H
   by_cases c2 : x4_1 < a0
   ·rw [if_pos c2] at H
    have c2b0 : decide (x4_1 < a0) = true:=decide_eq_true c2
    clear c2
    have H':=am_ H
    clear H
    go_wp2
    go_roundg k1
    case measure => have:=HK1.out;omega
    case rel => exact ⟨(IntKind.u64.wrap (x3_1 * 2)),(wrap64 (x4_1 + 1)),(by first|rfl|(simp;done)|(simp [*];done)),(by first|rfl|(simp;done)|(simp [*];done)),H',⟨by have:=HK1.out;omega⟩,by repeat (first|exact Drawn0.refl _|apply Drawn0.step)⟩
   ·rw [if_neg c2] at H
    have c2b0 : decide (x4_1 < a0) = false:=decide_eq_false c2
    clear c2
    obtain rfl:=Option.some.inj H
    go_wp2
    go_ret
    exact ⟨by first|rfl|(simp;done)|(simp [*];done),by repeat (first|exact Drawn0.refl _|apply Drawn0.step)⟩

/-! ### dominoref01_Size: function 44 -/
def dominoref01_Size.f (k : Nat) (a0 : Int) : Option (Int):=(dominoref01_power.f k 6).bind fun t143 => (if a0 < t143 then (some 1) else ((dominoref01_power.f k 14).bind fun t144 => (if a0 < t144 then (some 2) else ((dominoref01_power.f k 30).bind fun t145 => (if a0 < t145 then (some 4) else ((dominoref01_power.f k 62).bind fun t146 => (if a0 < t146 then (some 8) else (some 0))))))))
theorem dominoref01_Size.mono : ∀ a0 k,LeO (dominoref01_Size.f k a0) (dominoref01_Size.f (k + 1) a0):=by
 intro a0 k
 unfold dominoref01_Size.f
 repeat' first
   | (with_reducible exact dominoref01_power.mono _ _)
   | (with_reducible exact LeO.refl _)
   | (with_reducible exact LeO.none _)
   | (with_reducible refine LeO.ite ?_ ?_)
   | (with_reducible refine LeO.bind ?_ (fun _ => ?_))
   | exact dominoref01_power.mono _ _
   | exact LeO.none _
   | refine LeO.ite ?_ ?_
   | refine LeO.bind ?_ (fun _ => ?_)
set_option maxHeartbeats 8000000 in
set_option maxRecDepth 100000 in
theorem dominoref01_Size.calls (k : Nat) (a0 : Int) (r : Int) (w : World) (h : dominoref01_Size.f k a0 = some r) :
  Calls Tryd.prog 44 #[.int .u64 a0] w fun e w' => e = .returned (.int .i64 r) ∧ Drawn0 w w':=by
 have H : ((dominoref01_power.f k 6).bind fun t143 => (if a0 < t143 then (some 1) else ((dominoref01_power.f k 14).bind fun t144 => (if a0 < t144 then (some 2) else ((dominoref01_power.f k 30).bind fun t145 => (if a0 < t145 then (some 4) else ((dominoref01_power.f k 62).bind fun t146 => (if a0 < t146 then (some 8) else (some 0))))))))) = some r:=h
 clear h
 replace H:=Option.bind_eq_some_iff.mp H
 obtain ⟨t143,A20,H⟩:=H
 replace H : (if a0 < t143 then (some 1) else ((dominoref01_power.f k 14).bind fun t144 => (if a0 < t144 then (some 2) else ((dominoref01_power.f k 30).bind fun t145 => (if a0 < t145 then (some 4) else ((dominoref01_power.f k 62).bind fun t146 => (if a0 < t146 then (some 8) else (some 0)))))))) = some r:=H
 have A2:=am_ A20
 clear A20
 by_cases c3 : a0 < t143
 ·rw [if_pos c3] at H
  have c3b0 : decide (a0 < t143) = true:=decide_eq_true c3
  clear c3
  obtain rfl:=Option.some.inj H
  go_enter Tryd.func44,Tryd.ntmps44
  go_wp2_with (first|((with_reducible refine gate_callee (f:=37) rfl ?_);refine goesL_ (some 5) rfl rfl Tryd.func37 (by kernel_rfl) rfl #[.int .i64 6] rfl (by (try simp only [List.map_toArray,List.map_cons,List.map_nil]);first|done|rfl|(simp only [List.length_drop,List.length_take];rfl)) ?_;(with_reducible refine (dominoref01_power.calls k 6 t143 _ A2.out).mono ?_);rintro e w' ⟨rfl,⟨nd,rfl⟩⟩;refine ⟨_,rfl,?_⟩))
  go_ret
  exact ⟨by first|rfl|(simp;done)|(simp [*];done),by repeat (first|exact Drawn0.refl _|apply Drawn0.step)⟩
 ·rw [if_neg c3] at H
  have c3b0 : decide (a0 < t143) = false:=decide_eq_false c3
  clear c3
  replace H:=Option.bind_eq_some_iff.mp H
  obtain ⟨t144,A40,H⟩:=H
  replace H : (if a0 < t144 then (some 2) else ((dominoref01_power.f k 30).bind fun t145 => (if a0 < t145 then (some 4) else ((dominoref01_power.f k 62).bind fun t146 => (if a0 < t146 then (some 8) else (some 0)))))) = some r:=H
  have A4:=am_ A40
  clear A40
  by_cases c5 : a0 < t144
  ·rw [if_pos c5] at H
   have c5b0 : decide (a0 < t144) = true:=decide_eq_true c5
   clear c5
   obtain rfl:=Option.some.inj H
   go_enter Tryd.func44,Tryd.ntmps44
   go_wp2_with (first|((with_reducible refine gate_callee (f:=37) rfl ?_);refine goesL_ (some 5) rfl rfl Tryd.func37 (by kernel_rfl) rfl #[.int .i64 6] rfl (by (try simp only [List.map_toArray,List.map_cons,List.map_nil]);first|done|rfl|(simp only [List.length_drop,List.length_take];rfl)) ?_;(with_reducible refine (dominoref01_power.calls k 6 t143 _ A2.out).mono ?_);rintro e w' ⟨rfl,⟨nd,rfl⟩⟩;refine ⟨_,rfl,?_⟩)|((with_reducible refine gate_callee (f:=37) rfl ?_);refine goesL_ (some 9) rfl rfl Tryd.func37 (by kernel_rfl) rfl #[.int .i64 14] rfl (by (try simp only [List.map_toArray,List.map_cons,List.map_nil]);first|done|rfl|(simp only [List.length_drop,List.length_take];rfl)) ?_;(with_reducible refine (dominoref01_power.calls k 14 t144 _ A4.out).mono ?_);rintro e w' ⟨rfl,⟨nd,rfl⟩⟩;refine ⟨_,rfl,?_⟩))
   go_ret
   exact ⟨by first|rfl|(simp;done)|(simp [*];done),by repeat (first|exact Drawn0.refl _|apply Drawn0.step)⟩
  ·rw [if_neg c5] at H
   have c5b0 : decide (a0 < t144) = false:=decide_eq_false c5
   clear c5
   replace H:=Option.bind_eq_some_iff.mp H
   obtain ⟨t145,A60,H⟩:=H
   replace H : (if a0 < t145 then (some 4) else ((dominoref01_power.f k 62).bind fun t146 => (if a0 < t146 then (some 8) else (some 0)))) = some r:=H
   have A6:=am_ A60
   clear A60
   by_cases c7 : a0 < t145
   ·rw [if_pos c7] at H
    have c7b0 : decide (a0 < t145) = true:=decide_eq_true c7
    clear c7
    obtain rfl:=Option.some.inj H
    go_enter Tryd.func44,Tryd.ntmps44
    go_wp2_with (first|((with_reducible refine gate_callee (f:=37) rfl ?_);refine goesL_ (some 5) rfl rfl Tryd.func37 (by kernel_rfl) rfl #[.int .i64 6] rfl (by (try simp only [List.map_toArray,List.map_cons,List.map_nil]);first|done|rfl|(simp only [List.length_drop,List.length_take];rfl)) ?_;(with_reducible refine (dominoref01_power.calls k 6 t143 _ A2.out).mono ?_);rintro e w' ⟨rfl,⟨nd,rfl⟩⟩;refine ⟨_,rfl,?_⟩)|((with_reducible refine gate_callee (f:=37) rfl ?_);refine goesL_ (some 9) rfl rfl Tryd.func37 (by kernel_rfl) rfl #[.int .i64 14] rfl (by (try simp only [List.map_toArray,List.map_cons,List.map_nil]);first|done|rfl|(simp only [List.length_drop,List.length_take];rfl)) ?_;(with_reducible refine (dominoref01_power.calls k 14 t144 _ A4.out).mono ?_);rintro e w' ⟨rfl,⟨nd,rfl⟩⟩;refine ⟨_,rfl,?_⟩)|((with_reducible refine gate_callee (f:=37) rfl ?_);refine goesL_ (some 13) rfl rfl Tryd.func37 (by kernel_rfl) rfl #[.int .i64 30] rfl (by (try simp only [List.map_toArray,List.map_cons,List.map_nil]);first|done|rfl|(simp only [List.length_drop,List.length_take];rfl)) ?_;(with_reducible refine (dominoref01_power.calls k 30 t145 _ A6.out).mono ?_);rintro e w' ⟨rfl,⟨nd,rfl⟩⟩;refine ⟨_,rfl,?_⟩))
    go_ret
    exact ⟨by first|rfl|(simp;done)|(simp [*];done),by repeat (first|exact Drawn0.refl _|apply Drawn0.step)⟩
   ·rw [if_neg c7] at H
    have c7b0 : decide (a0 < t145) = false:=decide_eq_false c7
    clear c7
    replace H:=Option.bind_eq_some_iff.mp H
    obtain ⟨t146,A80,H⟩:=H
    replace H : (if a0 < t146 then (some 8) else (some 0)) = some r:=H
    have A8:=am_ A80
    clear A80
    by_cases c9 : a0 < t146
    ·rw [if_pos c9] at H
     have c9b0 : decide (a0 < t146) = true:=decide_eq_true c9
     clear c9
     obtain rfl:=Option.some.inj H
     go_enter Tryd.func44,Tryd.ntmps44
     go_wp2_with (first|((with_reducible refine gate_callee (f:=37) rfl ?_);refine goesL_ (some 5) rfl rfl Tryd.func37 (by kernel_rfl) rfl #[.int .i64 6] rfl (by (try simp only [List.map_toArray,List.map_cons,List.map_nil]);first|done|rfl|(simp only [List.length_drop,List.length_take];rfl)) ?_;(with_reducible refine (dominoref01_power.calls k 6 t143 _ A2.out).mono ?_);rintro e w' ⟨rfl,⟨nd,rfl⟩⟩;refine ⟨_,rfl,?_⟩)|((with_reducible refine gate_callee (f:=37) rfl ?_);refine goesL_ (some 9) rfl rfl Tryd.func37 (by kernel_rfl) rfl #[.int .i64 14] rfl (by (try simp only [List.map_toArray,List.map_cons,List.map_nil]);first|done|rfl|(simp only [List.length_drop,List.length_take];rfl)) ?_;(with_reducible refine (dominoref01_power.calls k 14 t144 _ A4.out).mono ?_);rintro e w' ⟨rfl,⟨nd,rfl⟩⟩;refine ⟨_,rfl,?_⟩)|((with_reducible refine gate_callee (f:=37) rfl ?_);refine goesL_ (some 13) rfl rfl Tryd.func37 (by kernel_rfl) rfl #[.int .i64 30] rfl (by (try simp only [List.map_toArray,List.map_cons,List.map_nil]);first|done|rfl|(simp only [List.length_drop,List.length_take];rfl)) ?_;(with_reducible refine (dominoref01_power.calls k 30 t145 _ A6.out).mono ?_);rintro e w' ⟨rfl,⟨nd,rfl⟩⟩;refine ⟨_,rfl,?_⟩)|((with_reducible refine gate_callee (f:=37) rfl ?_);refine goesL_ (some 17) rfl rfl Tryd.func37 (by kernel_rfl) rfl #[.int .i64 62] rfl (by (try simp only [List.map_toArray,List.map_cons,List.map_nil]);first|done|rfl|(simp only [List.length_drop,List.length_take];rfl)) ?_;(with_reducible refine (dominoref01_power.calls k 62 t146 _ A8.out).mono ?_);rintro e w' ⟨rfl,⟨nd,rfl⟩⟩;refine ⟨_,rfl,?_⟩))
     go_ret
     exact ⟨by first|rfl|(simp;done)|(simp [*];done),by repeat (first|exact Drawn0.refl _|apply Drawn0.step)⟩
    ·rw [if_neg c9] at H
     have c9b0 : decide (a0 < t146) = false:=decide_eq_false c9
     clear c9
     obtain rfl:=Option.some.inj H
     go_enter Tryd.func44,Tryd.ntmps44
     go_wp2_with (first|((with_reducible refine gate_callee (f:=37) rfl ?_);refine goesL_ (some 5) rfl rfl Tryd.func37 (by kernel_rfl) rfl #[.int .i64 6] rfl (by (try simp only [List.map_toArray,List.map_cons,List.map_nil]);first|done|rfl|(simp only [List.length_drop,List.length_take];rfl)) ?_;(with_reducible refine (dominoref01_power.calls k 6 t143 _ A2.out).mono ?_);rintro e w' ⟨rfl,⟨nd,rfl⟩⟩;refine ⟨_,rfl,?_⟩)|((with_reducible refine gate_callee (f:=37) rfl ?_);refine goesL_ (some 9) rfl rfl Tryd.func37 (by kernel_rfl) rfl #[.int .i64 14] rfl (by (try simp only [List.map_toArray,List.map_cons,List.map_nil]);first|done|rfl|(simp only [List.length_drop,List.length_take];rfl)) ?_;(with_reducible refine (dominoref01_power.calls k 14 t144 _ A4.out).mono ?_);rintro e w' ⟨rfl,⟨nd,rfl⟩⟩;refine ⟨_,rfl,?_⟩)|((with_reducible refine gate_callee (f:=37) rfl ?_);refine goesL_ (some 13) rfl rfl Tryd.func37 (by kernel_rfl) rfl #[.int .i64 30] rfl (by (try simp only [List.map_toArray,List.map_cons,List.map_nil]);first|done|rfl|(simp only [List.length_drop,List.length_take];rfl)) ?_;(with_reducible refine (dominoref01_power.calls k 30 t145 _ A6.out).mono ?_);rintro e w' ⟨rfl,⟨nd,rfl⟩⟩;refine ⟨_,rfl,?_⟩)|((with_reducible refine gate_callee (f:=37) rfl ?_);refine goesL_ (some 17) rfl rfl Tryd.func37 (by kernel_rfl) rfl #[.int .i64 62] rfl (by (try simp only [List.map_toArray,List.map_cons,List.map_nil]);first|done|rfl|(simp only [List.length_drop,List.length_take];rfl)) ?_;(with_reducible refine (dominoref01_power.calls k 62 t146 _ A8.out).mono ?_);rintro e w' ⟨rfl,⟨nd,rfl⟩⟩;refine ⟨_,rfl,?_⟩))
     go_ret
     exact ⟨by first|rfl|(simp;done)|(simp [*];done),by repeat (first|exact Drawn0.refl _|apply Drawn0.step)⟩

end Go.Proofs.YthbnedjcaflofaaDoor.PPax
