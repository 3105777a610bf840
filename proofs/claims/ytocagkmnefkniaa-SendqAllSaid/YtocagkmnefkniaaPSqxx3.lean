-- printed for this claim by a program of the claim (wip/tools/pp.py over the kit's print)
import Derived.Test.YtocagkmnefkniaaPSqxx0
import Derived.Test.YtocagkmnefkniaaPSqxx1
import Derived.Test.YtocagkmnefkniaaPSqxx2
namespace Go.Proofs.Ytocagkmnefkniaa.PSqx
open Go.RowKit Go.Proofs.YtocagkmnefkniaaW.PrintWords Go.Proofs.YtocagkmnefkniaaW.PrintLast Go.Proofs.YtocagkmnefkniaaW.PrintMore
attribute [local go_sem] max2_int min2_int max_two min_two max_three min_three max_four min_four   -- for this text's walks alone
set_option linter.unusedVariables false
set_option linter.unusedSimpArgs false

attribute [local go_sem] isSome_setCell_
/-! ### sendq_Write: function 12 -/
def sendq_Write.j0 : Nat → ByteArray → Int → Bool → Int → Int → ByteArray → List (S67) → List (S67) → Bool → Bool → Bool → Option (Int × Int × ByteArray × (List (S67)) × (List (S67)) × Bool × Bool × Bool × Int)
 | 0,_,_,_,_,_,_,_,_,_,_,_ => none
 | k + 1,x1,x8,x24,x119000,x119001,x119002,x119003,x119004,x119005,x119006,x119007 => if x24 = true then (some (x119000,x119001,x119002,x119003,x119004,x119005,x119006,x119007,0)) else ((sendq_State_end.f x119000 x119001 x119002 x119003 x119004 x119005 x119006 x119007).bind fun t120 => ((ranges_Add.f k x119004 t120 (IntKind.u64.wrap ((IntKind.u64.wrap (t120 + (IntKind.u64.wrap (x8)))) - 1))).bind fun t121 => (if 0 ≤ x8 then (if x8 ≤ (x1.size : Int) then (if x119002.size + (x1.extract 0 (x8 : Int).toNat).size ≤ 9223372036854775807 then (some (x119000,x119001,x119002 ++ (x1.extract 0 (x8 : Int).toNat),x119003,t121,x119005,x119006,x119007,x8)) else (none)) else (none)) else (none))))
def sendq_Write.f (k : Nat) (a0_0 : Int) (a0_1 : Int) (a0_2 : ByteArray) (l0_3 : List (S67)) (l0_4 : List (S67)) (a0_5 : Bool) (a0_6 : Bool) (a0_7 : Bool) (a1 : ByteArray) (a2 : Int) : Option (Int × Int × ByteArray × (List (S67)) × (List (S67)) × Bool × Bool × Bool × Int):=if a0_5 = true then (sendq_Write.j0 k a1 (mn (a1.size : Int) (wrap64 ((mx 0 a2) - (a0_2.size : Int)))) true a0_0 a0_1 a0_2 l0_3 l0_4 a0_5 a0_6 a0_7) else (sendq_Write.j0 k a1 (mn (a1.size : Int) (wrap64 ((mx 0 a2) - (a0_2.size : Int)))) (decide ((mn (a1.size : Int) (wrap64 ((mx 0 a2) - (a0_2.size : Int)))) ≤ 0)) a0_0 a0_1 a0_2 l0_3 l0_4 a0_5 a0_6 a0_7)
theorem sendq_Write.mono_l : ∀ k,(∀ y0 y1 y2 y3 y4 y5 y6 y7 y8 y9 y10,LeO (sendq_Write.j0 k y0 y1 y2 y3 y4 y5 y6 y7 y8 y9 y10) (sendq_Write.j0 (k + 1) y0 y1 y2 y3 y4 y5 y6 y7 y8 y9 y10))
 | 0 => fun _ _ _ _ _ _ _ _ _ _ _ r h => by simp [sendq_Write.j0] at h
 | k + 1 => by
  have ih0:=sendq_Write.mono_l k
  ·intro y0 y1 y2 y3 y4 y5 y6 y7 y8 y9 y10
   unfold sendq_Write.j0
   repeat' first
   | (with_reducible exact ih0 _ _ _ _ _ _ _ _ _ _ _)
   | (with_reducible exact ranges_Add.mono _ _ _ _)
   | (with_reducible exact LeO.refl _)
   | (with_reducible exact LeO.none _)
   | (with_reducible refine LeO.ite ?_ ?_)
   | (with_reducible refine LeO.bind ?_ (fun _ => ?_))
   | exact ih0 _ _ _ _ _ _ _ _ _ _ _
   | exact ranges_Add.mono _ _ _ _
   | exact LeO.none _
   | refine LeO.ite ?_ ?_
   | refine LeO.bind ?_ (fun _ => ?_)
theorem sendq_Write.mono : ∀ a0 a1 a2 a3 a4 a5 a6 a7 a8 a9 k,LeO (sendq_Write.f k a0 a1 a2 a3 a4 a5 a6 a7 a8 a9) (sendq_Write.f (k + 1) a0 a1 a2 a3 a4 a5 a6 a7 a8 a9):=by
 intro a0 a1 a2 a3 a4 a5 a6 a7 a8 a9 k
 have ih0:=sendq_Write.mono_l k
 unfold sendq_Write.f
 repeat' first
   | (with_reducible exact ih0 _ _ _ _ _ _ _ _ _ _ _)
   | (with_reducible exact ranges_Add.mono _ _ _ _)
   | (with_reducible exact LeO.refl _)
   | (with_reducible exact LeO.none _)
   | (with_reducible refine LeO.ite ?_ ?_)
   | (with_reducible refine LeO.bind ?_ (fun _ => ?_))
   | exact ih0 _ _ _ _ _ _ _ _ _ _ _
   | exact ranges_Add.mono _ _ _ _
   | exact LeO.none _
   | refine LeO.ite ?_ ?_
   | refine LeO.bind ?_ (fun _ => ?_)
def sendq_Write.T6 : Bool × List (List Nat × List Nat):=(true,[([],[]),([0],[0]),([],[]),([],[]),([2,3],[2,3]),([1,4],[1,4]),([0,1,2,3,4,5],[]),([6,5,0,1,2,3,4,5],[5,6])])
def sendq_Write.B6 : List Nat:=[0,1,0,0,12,31,63,127]
theorem sendq_Write.tab6 : rtab .any (opsOf Try.f12 6) = sendq_Write.T6:=by kernel_rfl
theorem sendq_Write.bits6 : waitsOk sendq_Write.T6.2 sendq_Write.B6 = true:=by kernel_rfl
set_option maxHeartbeats 8000000 in
set_option maxRecDepth 100000 in
theorem sendq_Write.calls (k : Nat) (a0_0 : Int) (a0_1 : Int) (a0_2 : ByteArray) (P0_3_ : Nat → Prop) (A0_3 : Option Addr) (c0_3 : Nat) (l0_3 : List (S67)) (P0_4_ : Nat → Prop) (A0_4 : Option Addr) (c0_4 : Nat) (l0_4 : List (S67)) (a0_5 : Bool) (a0_6 : Bool) (a0_7 : Bool) (a1 : ByteArray) (a2 : Int) (r1 : Int) (r2 : Int) (r3 : ByteArray) (r4 : List (S67)) (r5 : List (S67)) (r6 : Bool) (r7 : Bool) (r8 : Bool) (r9 : Int) (w : World) (hs0_3 : Kd.V k67 67 w w.heap.size (fun k_ => P0_3_ k_) (.slice A0_3 l0_3.length c0_3) l0_3) (hs0_4 : Kd.V k67 67 w w.heap.size (fun k_ => P0_4_ k_) (.slice A0_4 l0_4.length c0_4) l0_4) (h : sendq_Write.f k a0_0 a0_1 a0_2 l0_3 l0_4 a0_5 a0_6 a0_7 a1 a2 = some (r1,r2,r3,r4,r5,r6,r7,r8,r9)) :
  Calls Try.prog 12 #[.agg #[.int .u64 a0_0,.int .u64 a0_1,.string a0_2,.slice A0_3 l0_3.length c0_3,.slice A0_4 l0_4.length c0_4,.bool a0_5,.bool a0_6,.bool a0_7],.string a1,.int .i64 a2] w fun e w' => ∃ v3_ v4_ : Value,e = .returned (.tuple #[.agg #[.int .u64 r1,.int .u64 r2,.string r3,v3_,v4_,.bool r6,.bool r7,.bool r8],.int .i64 r9]) ∧ Kd.V k67 67 w' w.heap.size (fun k_ => ((P0_3_ k_ ∨ P0_4_ k_) ∨ w.heap.size ≤ k_)) v3_ r4 ∧ Kd.V k67 67 w' w.heap.size (fun k_ => ((P0_3_ k_ ∨ P0_4_ k_) ∨ w.heap.size ≤ k_)) v4_ r5 ∧ Below w.heap.size w w':=by
 have hu29:=Try.underlying29
 have hu67:=Try.underlying67
 have HO0_3:=am_ (show Kd.V k67 67 w w.heap.size (fun k_ => ((P0_3_ k_ ∨ P0_4_ k_) ∨ w.heap.size ≤ k_)) (.slice A0_3 l0_3.length c0_3) l0_3 from Kd.V_mono hs0_3 (fun k_ hk => .inl (.inl hk)))
 have HO0_4:=am_ (show Kd.V k67 67 w w.heap.size (fun k_ => ((P0_3_ k_ ∨ P0_4_ k_) ∨ w.heap.size ≤ k_)) (.slice A0_4 l0_4.length c0_4) l0_4 from Kd.V_mono hs0_4 (fun k_ hk => .inl (.inr hk)))
 have HB:=am_ (Below.refl w.heap.size w)
 have H : (if a0_5 = true then (sendq_Write.j0 k a1 (mn (a1.size : Int) (wrap64 ((mx 0 a2) - (a0_2.size : Int)))) true a0_0 a0_1 a0_2 l0_3 l0_4 a0_5 a0_6 a0_7) else (sendq_Write.j0 k a1 (mn (a1.size : Int) (wrap64 ((mx 0 a2) - (a0_2.size : Int)))) (decide ((mn (a1.size : Int) (wrap64 ((mx 0 a2) - (a0_2.size : Int)))) ≤ 0)) a0_0 a0_1 a0_2 l0_3 l0_4 a0_5 a0_6 a0_7)) = some (r1,r2,r3,r4,r5,r6,r7,r8,r9):=h
 clear h
 obtain ⟨ji4,hji4⟩ : ∃ j_ : Int,(mx 0 a2) = j_:=⟨_,rfl⟩
 replace H : (if a0_5 = true then (sendq_Write.j0 k a1 (mn (a1.size : Int) (wrap64 ((ji4) - (a0_2.size : Int)))) true a0_0 a0_1 a0_2 l0_3 l0_4 a0_5 a0_6 a0_7) else (sendq_Write.j0 k a1 (mn (a1.size : Int) (wrap64 ((ji4) - (a0_2.size : Int)))) (decide ((mn (a1.size : Int) (wrap64 ((ji4) - (a0_2.size : Int)))) ≤ 0)) a0_0 a0_1 a0_2 l0_3 l0_4 a0_5 a0_6 a0_7)) = some (r1,r2,r3,r4,r5,r6,r7,r8,r9):=by first|(rw [hji4] at H;exact H)|(simp only [hji4] at H ⊢;exact H)
 (try (have hji4l : 0 ≤ ji4:=by (rw [← hji4];unfold mx;(repeat' split) <;> omega)))
 (try (have hji4m : 0 ≤ ji4:=by omega))
 have hji4_ : (if 0 < a2 then a2 else 0) = ji4:=hji4
 obtain ⟨ji5,hji5⟩ : ∃ j_ : Int,(mn (a1.size : Int) (wrap64 ((ji4) - (a0_2.size : Int)))) = j_:=⟨_,rfl⟩
 replace H : (if a0_5 = true then (sendq_Write.j0 k a1 ji5 true a0_0 a0_1 a0_2 l0_3 l0_4 a0_5 a0_6 a0_7) else (sendq_Write.j0 k a1 ji5 (decide ((ji5) ≤ 0)) a0_0 a0_1 a0_2 l0_3 l0_4 a0_5 a0_6 a0_7)) = some (r1,r2,r3,r4,r5,r6,r7,r8,r9):=by first|(rw [hji5] at H;exact H)|(simp only [hji5] at H ⊢;exact H)
 have hji5_ : (if (wrap64 ((ji4) - (a0_2.size : Int))) < (a1.size : Int) then (wrap64 ((ji4) - (a0_2.size : Int))) else (a1.size : Int)) = ji5:=hji5
 have HC6:=am_ H
 clear H
 go_enter Try.func12,Try.ntmps12
 go_upto_region 2 with (first|((with_reducible refine gate_dst (N:=3) rfl ?_);refine box_event ?hg (N:=3) ?hd (cs:=#[.int .u64 a0_0,.int .u64 a0_1,.string a0_2,.slice A0_3 l0_3.length c0_3,.slice A0_4 l0_4.length c0_4,.bool a0_5,.bool a0_6,.bool a0_7]) (t:=29) ?hr ?_;(case hd => rfl);(case hg => rfl);(case hr => first|(go_simp;done)|(go_simp;rfl));intro gb118 hg w7 hbox hb;have n0_:=am_ (Kd.V_below (Kd.V_elderB (by (with_reducible repeat (first|apply Kd.V_alloc|apply Kd.V_drewN|apply Kd.V_drew));exact HO0_3.out) gb118 (Nat.le_of_eq hg.symm)) hb);have n1_:=am_ (Kd.V_below (Kd.V_elderB (by (with_reducible repeat (first|apply Kd.V_alloc|apply Kd.V_drewN|apply Kd.V_drew));exact HO0_4.out) gb118 (Nat.le_of_eq hg.symm)) hb);have n2_:=am_ (below_step (by repeat (first|(with_reducible first|exact HB.out|apply ba_|apply pn_|apply pd_)|exact HB.out)) hb);have n3_:=am_ (hbox);have n4_:=am_ ((by rw [hg];exact (below_size (by repeat (first|(with_reducible first|exact HB.out|apply ba_|apply pn_|apply pd_)|exact HB.out))) : w.heap.size ≤ gb118));have n5_:=am_ ((by rw [hg];exact (below_size (by repeat (first|(with_reducible first|exact HB.out|apply ba_|apply pn_|apply pd_)|exact HB.out))) : w.heap.size ≤ gb118));clear HO0_3;clear HO0_4;clear HB;have HO0_3:=n0_;have HO0_4:=n1_;have HB:=n2_;have BK118:=n3_;have GW118:=n4_;have GE118:=n5_;clear n0_ n1_ n2_ n3_ n4_ n5_;clear hb hbox hg)|((with_reducible refine gate_dst (N:=6) rfl ?_);refine box_event ?hg (N:=6) ?hd (cs:=kk0_) (t:=29) ?hr ?_;(case hd => rfl);(case hg => rfl);(case hr => first|(go_simp;done)|(go_simp;rfl));intro gb119 hg w8 hbox hb;have n0_:=am_ (Kd.V_below (Kd.V_elderB (by (with_reducible repeat (first|apply Kd.V_alloc|apply Kd.V_drewN|apply Kd.V_drew));exact HO0_3.out) gb119 (Nat.le_of_eq hg.symm)) hb);have n1_:=am_ (Kd.V_below (Kd.V_elderB (by (with_reducible repeat (first|apply Kd.V_alloc|apply Kd.V_drewN|apply Kd.V_drew));exact HO0_4.out) gb119 (Nat.le_of_eq hg.symm)) hb);have n2_:=am_ (blk_below (g:=gb118) (o:=.cells #[.int .u64 a0_0,.int .u64 a0_1,.string a0_2,.slice A0_3 l0_3.length c0_3,.slice A0_4 l0_4.length c0_4,.bool a0_5,.bool a0_6,.bool a0_7] 29 (0,0)) (by (with_reducible repeat (first|refine kn_ ?_ _|refine kd_ ?_|refine ka_ ?_ _));exact BK118.out) hb);have n3_:=am_ (below_step (by repeat (first|(with_reducible first|exact HB.out|apply ba_|apply pn_|apply pd_|refine bs_ ?_ GE118.out)|exact HB.out)) hb);have n4_:=am_ (hbox);have n5_:=am_ ((by rw [hg];exact (below_size (by repeat (first|(with_reducible first|exact HB.out|apply ba_|apply pn_|apply pd_|refine bs_ ?_ GE118.out)|exact HB.out))) : w.heap.size ≤ gb119));have n6_:=am_ ((by rw [hg];exact (below_size (by repeat (first|(with_reducible first|exact HB.out|apply ba_|apply pn_|apply pd_|refine bs_ ?_ GE118.out)|exact HB.out))) : w.heap.size ≤ gb119));have n7_:=am_ ((by rw [hg];exact Nat.ne_of_lt (blk_lt (g:=gb118) (o:=.cells #[.int .u64 a0_0,.int .u64 a0_1,.string a0_2,.slice A0_3 l0_3.length c0_3,.slice A0_4 l0_4.length c0_4,.bool a0_5,.bool a0_6,.bool a0_7] 29 (0,0)) (by (with_reducible repeat (first|refine kn_ ?_ _|refine kd_ ?_|refine ka_ ?_ _));exact BK118.out)) : gb118 ≠ gb119));have n8_:=am_ ((by rw [hg];exact Nat.ne_of_gt (blk_lt (g:=gb118) (o:=.cells #[.int .u64 a0_0,.int .u64 a0_1,.string a0_2,.slice A0_3 l0_3.length c0_3,.slice A0_4 l0_4.length c0_4,.bool a0_5,.bool a0_6,.bool a0_7] 29 (0,0)) (by (with_reducible repeat (first|refine kn_ ?_ _|refine kd_ ?_|refine ka_ ?_ _));exact BK118.out)) : gb119 ≠ gb118));clear HO0_3;clear HO0_4;clear BK118;clear HB;have HO0_3:=n0_;have HO0_4:=n1_;have BK118:=n2_;have HB:=n3_;have BK119:=n4_;have GW119:=n5_;have GE119:=n6_;have NB118_119:=n7_;have NB119_118:=n8_;clear n0_ n1_ n2_ n3_ n4_ n5_ n6_ n7_ n8_;clear hb hbox hg;have hnb9:=NB118_119.out;have hnc9:=NB119_118.out;have hcz10_0 : w8.cell? ⟨gb118,0,none⟩ = some (.int .u64 a0_0):=(kc_ BK118.out 0).trans rfl;have hcz10_1 : w8.cell? ⟨gb118,1,none⟩ = some (.int .u64 a0_1):=(kc_ BK118.out 1).trans rfl;have hcz10_2 : w8.cell? ⟨gb118,2,none⟩ = some (.string a0_2):=(kc_ BK118.out 2).trans rfl;have hcz10_3 : w8.cell? ⟨gb118,3,none⟩ = some (.slice A0_3 l0_3.length c0_3):=(kc_ BK118.out 3).trans rfl;have hcz10_4 : w8.cell? ⟨gb118,4,none⟩ = some (.slice A0_4 l0_4.length c0_4):=(kc_ BK118.out 4).trans rfl;have hcz10_5 : w8.cell? ⟨gb118,5,none⟩ = some (.bool a0_5):=(kc_ BK118.out 5).trans rfl;have hcz10_6 : w8.cell? ⟨gb118,6,none⟩ = some (.bool a0_6):=(kc_ BK118.out 6).trans rfl;have hcz10_7 : w8.cell? ⟨gb118,7,none⟩ = some (.bool a0_7):=(kc_ BK118.out 7).trans rfl;have hfz10_0:=blk_frozen BK118.out 0;have hfz10_1:=blk_frozen BK118.out 1;have hfz10_2:=blk_frozen BK118.out 2;have hfz10_3:=blk_frozen BK118.out 3;have hfz10_4:=blk_frozen BK118.out 4;have hfz10_5:=blk_frozen BK118.out 5;have hfz10_6:=blk_frozen BK118.out 6;have hfz10_7:=blk_frozen BK118.out 7; skip))
 (try simp only [Act.put,ps_])
 go_cut [24] (fun v24 wc => ∃ (kq : Nat) (x24_5 : Bool),v24 = .bool x24_5 ∧ Aside0 (sendq_Write.j0 kq a1 ji5 x24_5 a0_0 a0_1 a0_2 l0_3 l0_4 a0_5 a0_6 a0_7 = some (r1,r2,r3,r4,r5,r6,r7,r8,r9)) ∧ Aside0 (kq ≤ k) ∧ Aside0 (Kd.V k67 67 wc w.heap.size (fun k_ => ((P0_3_ k_ ∨ P0_4_ k_) ∨ w.heap.size ≤ k_) ∧ k_ ≠ gb118 ∧ k_ ≠ gb119) (.slice A0_3 l0_3.length c0_3) l0_3) ∧ Aside0 (Kd.V k67 67 wc w.heap.size (fun k_ => ((P0_3_ k_ ∨ P0_4_ k_) ∨ w.heap.size ≤ k_) ∧ k_ ≠ gb118 ∧ k_ ≠ gb119) (.slice A0_4 l0_4.length c0_4) l0_4) ∧ Aside0 (wc.heap[gb118]? = some (.cells #[.int .u64 a0_0,.int .u64 a0_1,.string a0_2,(.slice A0_3 l0_3.length c0_3),(.slice A0_4 l0_4.length c0_4),.bool a0_5,.bool a0_6,.bool a0_7] 29 (0,0))) ∧ Aside0 (wc.heap[gb119]? = some (.cells #[.int .u64 0,.int .u64 0,.string (⟨#[]⟩ : ByteArray),(.slice none 0 0),(.slice none 0 0),.bool false,.bool false,.bool false] 29 (0,0))) ∧ Aside0 (Below w.heap.size w wc))
 case first =>
  have H:=HC6.out
  clear HC6
  by_cases c11 : a0_5 = true
  ·subst c11
   have H1 : (sendq_Write.j0 k a1 ji5 true a0_0 a0_1 a0_2 l0_3 l0_4 true a0_6 a0_7) = some (r1,r2,r3,r4,r5,r6,r7,r8,r9):=by rw [if_pos rfl] at H;exact H
   clear H
   have H:=H1
   clear H1
   have H':=am_ H
   clear H
   have hnb12:=NB118_119.out
   have hnc12:=NB119_118.out
   have hcz13_0 : w8.cell? ⟨gb118,0,none⟩ = some (.int .u64 a0_0):=(kc_ BK118.out 0).trans rfl
   have hcz13_1 : w8.cell? ⟨gb118,1,none⟩ = some (.int .u64 a0_1):=(kc_ BK118.out 1).trans rfl
   have hcz13_2 : w8.cell? ⟨gb118,2,none⟩ = some (.string a0_2):=(kc_ BK118.out 2).trans rfl
   have hcz13_3 : w8.cell? ⟨gb118,3,none⟩ = some (.slice A0_3 l0_3.length c0_3):=(kc_ BK118.out 3).trans rfl
   have hcz13_4 : w8.cell? ⟨gb118,4,none⟩ = some (.slice A0_4 l0_4.length c0_4):=(kc_ BK118.out 4).trans rfl
   have hcz13_5 : w8.cell? ⟨gb118,5,none⟩ = some (.bool true):=(kc_ BK118.out 5).trans rfl
   have hcz13_6 : w8.cell? ⟨gb118,6,none⟩ = some (.bool a0_6):=(kc_ BK118.out 6).trans rfl
   have hcz13_7 : w8.cell? ⟨gb118,7,none⟩ = some (.bool a0_7):=(kc_ BK118.out 7).trans rfl
   have hfz13_0:=blk_frozen BK118.out 0
   have hfz13_1:=blk_frozen BK118.out 1
   have hfz13_2:=blk_frozen BK118.out 2
   have hfz13_3:=blk_frozen BK118.out 3
   have hfz13_4:=blk_frozen BK118.out 4
   have hfz13_5:=blk_frozen BK118.out 5
   have hfz13_6:=blk_frozen BK118.out 6
   have hfz13_7:=blk_frozen BK118.out 7
   go_wp2
   go_meet
   case rel => exact ⟨_,(true),(by first|rfl|(simp;done)|(simp [*];done)),H',⟨by first|omega|exact Nat.le_refl _⟩,⟨by (with_reducible repeat (first|apply Kd.V_alloc|apply Kd.V_drewN|apply Kd.V_drew));exact Kd.V_mono HO0_3.out (fun _ hk => ⟨hk.1.1,⟨hk.1.2,hk.2⟩⟩)⟩,⟨by (with_reducible repeat (first|apply Kd.V_alloc|apply Kd.V_drewN|apply Kd.V_drew));exact Kd.V_mono HO0_4.out (fun _ hk => ⟨hk.1.1,⟨hk.1.2,hk.2⟩⟩)⟩,⟨by (with_reducible repeat (first|refine kn_ ?_ _|refine kd_ ?_|refine ka_ ?_ _));exact BK118.out⟩,⟨by (with_reducible repeat (first|refine kn_ ?_ _|refine kd_ ?_|refine ka_ ?_ _));exact BK119.out⟩,⟨by repeat (first|(with_reducible first|exact HB.out|apply ba_|apply pn_|apply pd_|refine bs_ ?_ GE118.out|refine bs_ ?_ GE119.out)|exact HB.out)⟩⟩
  ·replace c11:=Bool.eq_false_iff.mpr c11
   subst c11
   have H1 : (sendq_Write.j0 k a1 ji5 (decide ((ji5) ≤ 0)) a0_0 a0_1 a0_2 l0_3 l0_4 false a0_6 a0_7) = some (r1,r2,r3,r4,r5,r6,r7,r8,r9):=by rw [if_neg (show ¬ (false = true) by decide)] at H;exact H
   clear H
   have H:=H1
   clear H1
   have H':=am_ H
   clear H
   have hnb14:=NB118_119.out
   have hnc14:=NB119_118.out
   have hcz15_0 : w8.cell? ⟨gb118,0,none⟩ = some (.int .u64 a0_0):=(kc_ BK118.out 0).trans rfl
   have hcz15_1 : w8.cell? ⟨gb118,1,none⟩ = some (.int .u64 a0_1):=(kc_ BK118.out 1).trans rfl
   have hcz15_2 : w8.cell? ⟨gb118,2,none⟩ = some (.string a0_2):=(kc_ BK118.out 2).trans rfl
   have hcz15_3 : w8.cell? ⟨gb118,3,none⟩ = some (.slice A0_3 l0_3.length c0_3):=(kc_ BK118.out 3).trans rfl
   have hcz15_4 : w8.cell? ⟨gb118,4,none⟩ = some (.slice A0_4 l0_4.length c0_4):=(kc_ BK118.out 4).trans rfl
   have hcz15_5 : w8.cell? ⟨gb118,5,none⟩ = some (.bool false):=(kc_ BK118.out 5).trans rfl
   have hcz15_6 : w8.cell? ⟨gb118,6,none⟩ = some (.bool a0_6):=(kc_ BK118.out 6).trans rfl
   have hcz15_7 : w8.cell? ⟨gb118,7,none⟩ = some (.bool a0_7):=(kc_ BK118.out 7).trans rfl
   have hfz15_0:=blk_frozen BK118.out 0
   have hfz15_1:=blk_frozen BK118.out 1
   have hfz15_2:=blk_frozen BK118.out 2
   have hfz15_3:=blk_frozen BK118.out 3
   have hfz15_4:=blk_frozen BK118.out 4
   have hfz15_5:=blk_frozen BK118.out 5
   have hfz15_6:=blk_frozen BK118.out 6
   have hfz15_7:=blk_frozen BK118.out 7
   go_wp2
   go_meet
   case rel => exact ⟨_,(decide ((ji5) ≤ 0)),(by first|rfl|(simp;done)|(simp only [← hji5] <;> (first|rfl|simp))|(simp [*];done)),H',⟨by first|omega|exact Nat.le_refl _⟩,⟨by (with_reducible repeat (first|apply Kd.V_alloc|apply Kd.V_drewN|apply Kd.V_drew));exact Kd.V_mono HO0_3.out (fun _ hk => ⟨hk.1.1,⟨hk.1.2,hk.2⟩⟩)⟩,⟨by (with_reducible repeat (first|apply Kd.V_alloc|apply Kd.V_drewN|apply Kd.V_drew));exact Kd.V_mono HO0_4.out (fun _ hk => ⟨hk.1.1,⟨hk.1.2,hk.2⟩⟩)⟩,⟨by (with_reducible repeat (first|refine kn_ ?_ _|refine kd_ ?_|refine ka_ ?_ _));exact BK118.out⟩,⟨by (with_reducible repeat (first|refine kn_ ?_ _|refine kd_ ?_|refine ka_ ?_ _));exact BK119.out⟩,⟨by repeat (first|(with_reducible first|exact HB.out|apply ba_|apply pn_|apply pd_|refine bs_ ?_ GE118.out|refine bs_ ?_ GE119.out)|exact HB.out)⟩⟩
 case rest =>
  clear HC6
  try clear c1;try clear p2
  try clear p6;try clear c9
  try clear c11;try clear c12
  try clear c14;try clear hcz10_0
  try clear hcz10_1;try clear hcz10_2
  try clear hcz10_3;try clear hcz10_4
  try clear hcz10_5;try clear hcz10_6
  try clear hcz10_7;try clear hcz13_0
  try clear hcz13_1;try clear hcz13_2
  try clear hcz13_3;try clear hcz13_4
  try clear hcz13_5;try clear hcz13_6
  try clear hcz13_7;try clear hcz15_0
  try clear hcz15_1;try clear hcz15_2
  try clear hcz15_3;try clear hcz15_4
  try clear hcz15_5;try clear hcz15_6
  try clear hcz15_7;try clear hfz10_0
  try clear hfz10_1;try clear hfz10_2
  try clear hfz10_3;try clear hfz10_4
  try clear hfz10_5;try clear hfz10_6
  try clear hfz10_7;try clear hfz13_0
  try clear hfz13_1;try clear hfz13_2
  try clear hfz13_3;try clear hfz13_4
  try clear hfz13_5;try clear hfz13_6
  try clear hfz13_7;try clear hfz15_0
  try clear hfz15_1;try clear hfz15_2
  try clear hfz15_3;try clear hfz15_4
  try clear hfz15_5;try clear hfz15_6;try clear hfz15_7
  obtain ⟨kq,x24_5,rfl,HA,HJ5,HO_119003,HO_119004,BK118,BK119,HB⟩:=hcut
  cases kq with
  | zero => exact absurd HA.out (by simp [sendq_Write.j0])
  | succ kj5 =>
   have H:=HA.out
   clear HA
   simp only [sendq_Write.j0] at H
   by_cases c16 : x24_5 = true
   ·subst c16
    have H1 : (some (a0_0,a0_1,a0_2,l0_3,l0_4,a0_5,a0_6,a0_7,0)) = some (r1,r2,r3,r4,r5,r6,r7,r8,r9):=by rw [if_pos rfl] at H;exact H
    clear H
    have H:=H1
    clear H1
    simp only [Option.some.injEq,Prod.mk.injEq] at H
    obtain ⟨rfl,rfl,rfl,rfl,rfl,rfl,rfl,rfl,rfl⟩:=H
    have hnb17:=NB118_119.out
    have hnc17:=NB119_118.out
    have hcz18_0 : wc.cell? ⟨gb118,0,none⟩ = some (.int .u64 a0_0):=(kc_ BK118.out 0).trans rfl
    have hcz18_1 : wc.cell? ⟨gb118,1,none⟩ = some (.int .u64 a0_1):=(kc_ BK118.out 1).trans rfl
    have hcz18_2 : wc.cell? ⟨gb118,2,none⟩ = some (.string a0_2):=(kc_ BK118.out 2).trans rfl
    have hcz18_3 : wc.cell? ⟨gb118,3,none⟩ = some (.slice A0_3 l0_3.length c0_3):=(kc_ BK118.out 3).trans rfl
    have hcz18_4 : wc.cell? ⟨gb118,4,none⟩ = some (.slice A0_4 l0_4.length c0_4):=(kc_ BK118.out 4).trans rfl
    have hcz18_5 : wc.cell? ⟨gb118,5,none⟩ = some (.bool a0_5):=(kc_ BK118.out 5).trans rfl
    have hcz18_6 : wc.cell? ⟨gb118,6,none⟩ = some (.bool a0_6):=(kc_ BK118.out 6).trans rfl
    have hcz18_7 : wc.cell? ⟨gb118,7,none⟩ = some (.bool a0_7):=(kc_ BK118.out 7).trans rfl
    have hfz18_0:=blk_frozen BK118.out 0
    have hfz18_1:=blk_frozen BK118.out 1
    have hfz18_2:=blk_frozen BK118.out 2
    have hfz18_3:=blk_frozen BK118.out 3
    have hfz18_4:=blk_frozen BK118.out 4
    have hfz18_5:=blk_frozen BK118.out 5
    have hfz18_6:=blk_frozen BK118.out 6
    have hfz18_7:=blk_frozen BK118.out 7
    have hcz19_0 : wc.cell? ⟨gb119,0,none⟩ = some (.int .u64 0):=(kc_ BK119.out 0).trans rfl
    have hcz19_1 : wc.cell? ⟨gb119,1,none⟩ = some (.int .u64 0):=(kc_ BK119.out 1).trans rfl
    have hcz19_2 : wc.cell? ⟨gb119,2,none⟩ = some (.string (⟨#[]⟩ : ByteArray)):=(kc_ BK119.out 2).trans rfl
    have hcz19_3 : wc.cell? ⟨gb119,3,none⟩ = some (.slice none 0 0):=(kc_ BK119.out 3).trans rfl
    have hcz19_4 : wc.cell? ⟨gb119,4,none⟩ = some (.slice none 0 0):=(kc_ BK119.out 4).trans rfl
    have hcz19_5 : wc.cell? ⟨gb119,5,none⟩ = some (.bool false):=(kc_ BK119.out 5).trans rfl
    have hcz19_6 : wc.cell? ⟨gb119,6,none⟩ = some (.bool false):=(kc_ BK119.out 6).trans rfl
    have hcz19_7 : wc.cell? ⟨gb119,7,none⟩ = some (.bool false):=(kc_ BK119.out 7).trans rfl
    have hfz19_0:=blk_frozen BK119.out 0
    have hfz19_1:=blk_frozen BK119.out 1
    have hfz19_2:=blk_frozen BK119.out 2
    have hfz19_3:=blk_frozen BK119.out 3
    have hfz19_4:=blk_frozen BK119.out 4
    have hfz19_5:=blk_frozen BK119.out 5
    have hfz19_6:=blk_frozen BK119.out 6
    have hfz19_7:=blk_frozen BK119.out 7
    go_wp2
    refine bodyPost_ret (results_ct rfl _ _ gb119 29 #[.int .u64 a0_0,.int .u64 a0_1,.string a0_2,.slice A0_3 l0_3.length c0_3,.slice A0_4 l0_4.length c0_4,.bool a0_5,.bool a0_6,.bool a0_7] (0,0) _ rfl (by (with_reducible repeat (first|refine kn_ ?_ _|refine kd_ ?_|refine ka_ ?_ _));refine blk_put (cs:=#[.int .u64 a0_0,.int .u64 a0_1,.string a0_2,.slice A0_3 l0_3.length c0_3,.slice A0_4 l0_4.length c0_4,.bool a0_5,.bool a0_6,.bool false]) ?_ 7 _ rfl;(with_reducible repeat (first|refine kn_ ?_ _|refine kd_ ?_|refine ka_ ?_ _));refine blk_put (cs:=#[.int .u64 a0_0,.int .u64 a0_1,.string a0_2,.slice A0_3 l0_3.length c0_3,.slice A0_4 l0_4.length c0_4,.bool a0_5,.bool false,.bool false]) ?_ 6 _ rfl;(with_reducible repeat (first|refine kn_ ?_ _|refine kd_ ?_|refine ka_ ?_ _));refine blk_put (cs:=#[.int .u64 a0_0,.int .u64 a0_1,.string a0_2,.slice A0_3 l0_3.length c0_3,.slice A0_4 l0_4.length c0_4,.bool false,.bool false,.bool false]) ?_ 5 _ rfl;(with_reducible repeat (first|refine kn_ ?_ _|refine kd_ ?_|refine ka_ ?_ _));refine blk_put (cs:=#[.int .u64 a0_0,.int .u64 a0_1,.string a0_2,.slice A0_3 l0_3.length c0_3,.slice none 0 0,.bool false,.bool false,.bool false]) ?_ 4 _ rfl;(with_reducible repeat (first|refine kn_ ?_ _|refine kd_ ?_|refine ka_ ?_ _));refine blk_put (cs:=#[.int .u64 a0_0,.int .u64 a0_1,.string a0_2,.slice none 0 0,.slice none 0 0,.bool false,.bool false,.bool false]) ?_ 3 _ rfl;(with_reducible repeat (first|refine kn_ ?_ _|refine kd_ ?_|refine ka_ ?_ _));refine blk_put (cs:=#[.int .u64 a0_0,.int .u64 a0_1,.string (⟨#[]⟩ : ByteArray),.slice none 0 0,.slice none 0 0,.bool false,.bool false,.bool false]) ?_ 2 _ rfl;(with_reducible repeat (first|refine kn_ ?_ _|refine kd_ ?_|refine ka_ ?_ _));refine blk_put (cs:=#[.int .u64 a0_0,.int .u64 0,.string (⟨#[]⟩ : ByteArray),.slice none 0 0,.slice none 0 0,.bool false,.bool false,.bool false]) ?_ 1 _ rfl;(with_reducible repeat (first|refine kn_ ?_ _|refine kd_ ?_|refine ka_ ?_ _));refine blk_put (cs:=kk0_) ?_ 0 _ rfl;(with_reducible repeat (first|refine kn_ ?_ _|refine kd_ ?_|refine ka_ ?_ _));exact BK119.out) Try.underlying29 rfl (by kernel_rfl)) rfl ?_
    exact ⟨_,_,by first|rfl|(simp [errW_none,errW_some] <;> rfl)|(simp only [← hji4,← hji5];first|rfl|(simp [errW_none,errW_some] <;> rfl))|(simp [*,errW_none,errW_some] <;> rfl),by (with_reducible repeat (first|apply Kd.V_alloc|apply Kd.V_drewN|apply Kd.V_drew));exact Kd.V_mono (Kd.V_far (p:=⟨gb119,7,none⟩) (Kd.V_far (p:=⟨gb119,6,none⟩) (Kd.V_far (p:=⟨gb119,5,none⟩) (Kd.V_far (p:=⟨gb119,4,none⟩) (Kd.V_far (p:=⟨gb119,3,none⟩) (Kd.V_far (p:=⟨gb119,2,none⟩) (Kd.V_far (p:=⟨gb119,1,none⟩) (Kd.V_far (p:=⟨gb119,0,none⟩) (Kd.V_mono HO_119003.out (fun k_ hk => (⟨hk,hk.2.2⟩ : _ ∧ k_ ≠ gb119))) (fun _ hk => hk.2) (.int .u64 a0_0)) (fun _ hk => hk.2) (.int .u64 a0_1)) (fun _ hk => hk.2) (.string a0_2)) (fun _ hk => hk.2) (.slice A0_3 l0_3.length c0_3)) (fun _ hk => hk.2) (.slice A0_4 l0_4.length c0_4)) (fun _ hk => hk.2) (.bool a0_5)) (fun _ hk => hk.2) (.bool a0_6)) (fun _ hk => hk.2) (.bool a0_7)) (fun _ hk => hk.1.1),by (with_reducible repeat (first|apply Kd.V_alloc|apply Kd.V_drewN|apply Kd.V_drew));exact Kd.V_mono (Kd.V_far (p:=⟨gb119,7,none⟩) (Kd.V_far (p:=⟨gb119,6,none⟩) (Kd.V_far (p:=⟨gb119,5,none⟩) (Kd.V_far (p:=⟨gb119,4,none⟩) (Kd.V_far (p:=⟨gb119,3,none⟩) (Kd.V_far (p:=⟨gb119,2,none⟩) (Kd.V_far (p:=⟨gb119,1,none⟩) (Kd.V_far (p:=⟨gb119,0,none⟩) (Kd.V_mono HO_119004.out (fun k_ hk => (⟨hk,hk.2.2⟩ : _ ∧ k_ ≠ gb119))) (fun _ hk => hk.2) (.int .u64 a0_0)) (fun _ hk => hk.2) (.int .u64 a0_1)) (fun _ hk => hk.2) (.string a0_2)) (fun _ hk => hk.2) (.slice A0_3 l0_3.length c0_3)) (fun _ hk => hk.2) (.slice A0_4 l0_4.length c0_4)) (fun _ hk => hk.2) (.bool a0_5)) (fun _ hk => hk.2) (.bool a0_6)) (fun _ hk => hk.2) (.bool a0_7)) (fun _ hk => hk.1.1),by repeat (first|(with_reducible first|exact HB.out|apply ba_|apply pn_|apply pd_|refine bs_ ?_ GE118.out|refine bs_ ?_ GE119.out)|exact HB.out)⟩
   ·replace c16:=Bool.eq_false_iff.mpr c16
    subst c16
    have H1 : ((sendq_State_end.f a0_0 a0_1 a0_2 l0_3 l0_4 a0_5 a0_6 a0_7).bind fun t120 => ((ranges_Add.f kj5 l0_4 t120 (IntKind.u64.wrap ((IntKind.u64.wrap (t120 + (IntKind.u64.wrap (ji5)))) - 1))).bind fun t121 => (if 0 ≤ ji5 then (if ji5 ≤ (a1.size : Int) then (if a0_2.size + (a1.extract 0 (ji5 : Int).toNat).size ≤ 9223372036854775807 then (some (a0_0,a0_1,a0_2 ++ (a1.extract 0 (ji5 : Int).toNat),l0_3,t121,a0_5,a0_6,a0_7,ji5)) else (none)) else (none)) else (none)))) = some (r1,r2,r3,r4,r5,r6,r7,r8,r9):=by rw [if_neg (show ¬ (false = true) by decide)] at H;exact H
    clear H
    have H:=H1
    clear H1
    replace H:=Option.bind_eq_some_iff.mp H
    obtain ⟨t120,A200,H⟩:=H
    replace H : ((ranges_Add.f kj5 l0_4 t120 (IntKind.u64.wrap ((IntKind.u64.wrap (t120 + (IntKind.u64.wrap (ji5)))) - 1))).bind fun t121 => (if 0 ≤ ji5 then (if ji5 ≤ (a1.size : Int) then (if a0_2.size + (a1.extract 0 (ji5 : Int).toNat).size ≤ 9223372036854775807 then (some (a0_0,a0_1,a0_2 ++ (a1.extract 0 (ji5 : Int).toNat),l0_3,t121,a0_5,a0_6,a0_7,ji5)) else (none)) else (none)) else (none))) = some (r1,r2,r3,r4,r5,r6,r7,r8,r9):=H
    have A20:=am_ A200
    clear A200
    replace H:=Option.bind_eq_some_iff.mp H
    obtain ⟨t121,A210,H⟩:=H
    replace H : (if 0 ≤ ji5 then (if ji5 ≤ (a1.size : Int) then (if a0_2.size + (a1.extract 0 (ji5 : Int).toNat).size ≤ 9223372036854775807 then (some (a0_0,a0_1,a0_2 ++ (a1.extract 0 (ji5 : Int).toNat),l0_3,t121,a0_5,a0_6,a0_7,ji5)) else (none)) else (none)) else (none)) = some (r1,r2,r3,r4,r5,r6,r7,r8,r9):=H
    have A21:=am_ A210
    clear A210
    by_cases c22 : 0 ≤ ji5
    ·rw [if_pos c22] at H
     have c22b0:=eq_true c22
     have c22b1 : decide (0 ≤ ji5) = true:=decide_eq_true c22
     clear c22
     by_cases c23 : ji5 ≤ (a1.size : Int)
     ·rw [if_pos c23] at H
      have c23b0:=eq_true c23
      have c23b1 : decide (ji5 ≤ (a1.size : Int)) = true:=decide_eq_true c23
      clear c23
      by_cases c24 : a0_2.size + (a1.extract 0 (ji5 : Int).toNat).size ≤ 9223372036854775807
      ·rw [if_pos c24] at H
       have c24b0:=eq_true c24
       have c24b1 : decide (a0_2.size + (a1.extract 0 (ji5 : Int).toNat).size ≤ 9223372036854775807) = true:=decide_eq_true c24
       try have c24b2 : (9223372036854775807 < a0_2.size + (a1.extract 0 (ji5 : Int).toNat).size) = False:=eq_false (Nat.not_lt.2 c24)
       try have c24b9 : (9223372036854775807 < a0_2.size + (ji5 : Int).toNat) = False:=eq_false (by have h_:=c24;rw [ByteArray.size_extract] at h_;have l_ : ji5 ≤ (a1.size : Int):=of_eq_true (by assumption);omega)
       simp only [Option.some.injEq,Prod.mk.injEq] at H
       obtain ⟨rfl,rfl,rfl,rfl,rfl,rfl,rfl,rfl,rfl⟩:=H
       have hnb25:=NB118_119.out
       have hnc25:=NB119_118.out
       have hcz26_0 : wc.cell? ⟨gb118,0,none⟩ = some (.int .u64 a0_0):=(kc_ BK118.out 0).trans rfl
       have hcz26_1 : wc.cell? ⟨gb118,1,none⟩ = some (.int .u64 a0_1):=(kc_ BK118.out 1).trans rfl
       have hcz26_2 : wc.cell? ⟨gb118,2,none⟩ = some (.string a0_2):=(kc_ BK118.out 2).trans rfl
       have hcz26_3 : wc.cell? ⟨gb118,3,none⟩ = some (.slice A0_3 l0_3.length c0_3):=(kc_ BK118.out 3).trans rfl
       have hcz26_4 : wc.cell? ⟨gb118,4,none⟩ = some (.slice A0_4 l0_4.length c0_4):=(kc_ BK118.out 4).trans rfl
       have hcz26_5 : wc.cell? ⟨gb118,5,none⟩ = some (.bool a0_5):=(kc_ BK118.out 5).trans rfl
       have hcz26_6 : wc.cell? ⟨gb118,6,none⟩ = some (.bool a0_6):=(kc_ BK118.out 6).trans rfl
       have hcz26_7 : wc.cell? ⟨gb118,7,none⟩ = some (.bool a0_7):=(kc_ BK118.out 7).trans rfl
       have hfz26_0:=blk_frozen BK118.out 0
       have hfz26_1:=blk_frozen BK118.out 1
       have hfz26_2:=blk_frozen BK118.out 2
       have hfz26_3:=blk_frozen BK118.out 3
       have hfz26_4:=blk_frozen BK118.out 4
       have hfz26_5:=blk_frozen BK118.out 5
       have hfz26_6:=blk_frozen BK118.out 6
       have hfz26_7:=blk_frozen BK118.out 7
       try go_wp2_with (first|((with_reducible refine gate_callee (f:=29) rfl ?_);refine goesL_ (some 27) rfl rfl Try.func29 (by kernel_rfl) rfl #[.agg #[.int .u64 a0_0,.int .u64 a0_1,.string a0_2,.slice A0_3 l0_3.length c0_3,.slice A0_4 l0_4.length c0_4,.bool a0_5,.bool a0_6,.bool a0_7]] rfl (by (try simp only [List.map_toArray,List.map_cons,List.map_nil]);first|done|rfl|(simp only [List.length_drop,List.length_take];rfl)) ?_;(with_reducible refine (sendq_State_end.calls a0_0 a0_1 a0_2 _ _ l0_3 _ _ l0_4 a0_5 a0_6 a0_7 t120 _ ?side1 ?side2 ?side3 ?side4 A20.out).mono ?_);(case side1 => repeat (first|exact (Kd.V_reads' HO_119003.out).2.2|(with_reducible refine Kd.C_alloc ?_ _)|(with_reducible refine Kd.C_drewN ?_ _)|(with_reducible refine Kd.C_drew ?_)));(case side2 => exact (Kd.V_reads' HO_119003.out).2.1);(case side3 => repeat (first|exact (Kd.V_reads' HO_119004.out).2.2|(with_reducible refine Kd.C_alloc ?_ _)|(with_reducible refine Kd.C_drewN ?_ _)|(with_reducible refine Kd.C_drew ?_)));(case side4 => exact (Kd.V_reads' HO_119004.out).2.1);rintro e w27 ⟨rfl,hb⟩;refine ⟨_,rfl,?_⟩;have n0_:=am_ (Kd.V_below (by (with_reducible repeat (first|apply Kd.V_alloc|apply Kd.V_drewN|apply Kd.V_drew));exact HO_119003.out) hb);have n1_:=am_ (Kd.V_below (by (with_reducible repeat (first|apply Kd.V_alloc|apply Kd.V_drewN|apply Kd.V_drew));exact HO_119004.out) hb);have n2_:=am_ (blk_below (g:=gb118) (o:=.cells #[.int .u64 a0_0,.int .u64 a0_1,.string a0_2,.slice A0_3 l0_3.length c0_3,.slice A0_4 l0_4.length c0_4,.bool a0_5,.bool a0_6,.bool a0_7] 29 (0,0)) (by (with_reducible repeat (first|refine kn_ ?_ _|refine kd_ ?_|refine ka_ ?_ _));exact BK118.out) hb);have n3_:=am_ (blk_below (g:=gb119) (o:=.cells kk0_ 29 (0,0)) (by (with_reducible repeat (first|refine kn_ ?_ _|refine kd_ ?_|refine ka_ ?_ _));exact BK119.out) hb);have n4_:=am_ (below_step (by repeat (first|(with_reducible first|exact HB.out|apply ba_|apply pn_|apply pd_|refine bs_ ?_ GE118.out|refine bs_ ?_ GE119.out)|exact HB.out)) hb);clear HO_119003;clear HO_119004;clear BK118;clear BK119;clear HB;have HO_119003:=n0_;have HO_119004:=n1_;have BK118:=n2_;have BK119:=n3_;have HB:=n4_;clear n0_ n1_ n2_ n3_ n4_;(try clear hb);(try clear hb2);(try clear hk);(try clear hi);have hcz28_0 : w27.cell? ⟨gb118,0,none⟩ = some (.int .u64 a0_0):=(kc_ BK118.out 0).trans rfl;have hcz28_1 : w27.cell? ⟨gb118,1,none⟩ = some (.int .u64 a0_1):=(kc_ BK118.out 1).trans rfl;have hcz28_2 : w27.cell? ⟨gb118,2,none⟩ = some (.string a0_2):=(kc_ BK118.out 2).trans rfl;have hcz28_3 : w27.cell? ⟨gb118,3,none⟩ = some (.slice A0_3 l0_3.length c0_3):=(kc_ BK118.out 3).trans rfl;have hcz28_4 : w27.cell? ⟨gb118,4,none⟩ = some (.slice A0_4 l0_4.length c0_4):=(kc_ BK118.out 4).trans rfl;have hcz28_5 : w27.cell? ⟨gb118,5,none⟩ = some (.bool a0_5):=(kc_ BK118.out 5).trans rfl;have hcz28_6 : w27.cell? ⟨gb118,6,none⟩ = some (.bool a0_6):=(kc_ BK118.out 6).trans rfl;have hcz28_7 : w27.cell? ⟨gb118,7,none⟩ = some (.bool a0_7):=(kc_ BK118.out 7).trans rfl;have hfz28_0:=blk_frozen BK118.out 0;have hfz28_1:=blk_frozen BK118.out 1;have hfz28_2:=blk_frozen BK118.out 2;have hfz28_3:=blk_frozen BK118.out 3;have hfz28_4:=blk_frozen BK118.out 4;have hfz28_5:=blk_frozen BK118.out 5;have hfz28_6:=blk_frozen BK118.out 6;have hfz28_7:=blk_frozen BK118.out 7; skip)|((with_reducible refine gate_callee (f:=30) rfl ?_);refine goesL_ (some 37) rfl rfl Try.func30 (by kernel_rfl) rfl #[.slice A0_4 l0_4.length c0_4,.agg #[.int .u64 t120,.int .u64 (IntKind.u64.wrap ((IntKind.u64.wrap (t120 + (IntKind.u64.wrap (ji5)))) - 1))]] rfl (by (try simp only [List.map_toArray,List.map_cons,List.map_nil]);first|done|(simp only [hji5];rfl)|rfl|(simp only [List.length_drop,List.length_take];rfl)) ?_;(with_reducible refine (ranges_Add.calls kj5 _ _ l0_4 t120 (IntKind.u64.wrap ((IntKind.u64.wrap (t120 + (IntKind.u64.wrap (ji5)))) - 1)) t121 _ ?side1 ?side2 A21.out).mono ?_);(case side1 => repeat (first|exact (Kd.V_reads' HO_119004.out).2.2|(with_reducible refine Kd.C_alloc ?_ _)|(with_reducible refine Kd.C_drewN ?_ _)|(with_reducible refine Kd.C_drew ?_)));(case side2 => exact (Kd.V_reads' HO_119004.out).2.1);rintro e w29 ⟨v122,rfl,ho0,hb⟩;refine ⟨_,rfl,?_⟩;have n0_:=am_ (Kd.V_elder' (by (with_reducible repeat (first|apply Kd.V_alloc|apply Kd.V_drewN|apply Kd.V_drew));exact HO_119003.out) (Kd.R_base ho0) hb);have n1_:=am_ (Kd.V_elder' (by (with_reducible repeat (first|apply Kd.V_alloc|apply Kd.V_drewN|apply Kd.V_drew));exact HO_119004.out) (Kd.R_base ho0) hb);have n2_:=am_ (Kd.R_lower (Kd.R_newM (M:=fun k_ => (w.heap.size ≤ k_)) ho0 (below_size (by repeat (first|(with_reducible first|exact HB.out|apply ba_|apply pn_|apply pd_|refine bs_ ?_ GE118.out|refine bs_ ?_ GE119.out)|exact HB.out))) (fun k_ h_ => h_)) (below_size (by repeat (first|(with_reducible first|exact HB.out|apply ba_|apply pn_|apply pd_|refine bs_ ?_ GE118.out|refine bs_ ?_ GE119.out)|exact HB.out))));have n3_:=am_ (blk_below (g:=gb118) (o:=.cells #[.int .u64 a0_0,.int .u64 a0_1,.string a0_2,.slice A0_3 l0_3.length c0_3,.slice A0_4 l0_4.length c0_4,.bool a0_5,.bool a0_6,.bool a0_7] 29 (0,0)) (by (with_reducible repeat (first|refine kn_ ?_ _|refine kd_ ?_|refine ka_ ?_ _));exact BK118.out) hb);have n4_:=am_ (blk_below (g:=gb119) (o:=.cells kk0_ 29 (0,0)) (by (with_reducible repeat (first|refine kn_ ?_ _|refine kd_ ?_|refine ka_ ?_ _));exact BK119.out) hb);have n5_:=am_ (below_step (by repeat (first|(with_reducible first|exact HB.out|apply ba_|apply pn_|apply pd_|refine bs_ ?_ GE118.out|refine bs_ ?_ GE119.out)|exact HB.out)) hb);clear HO_119003;clear HO_119004;clear BK118;clear BK119;clear HB;have HO_119003:=n0_;have HO_119004:=n1_;have HO123:=n2_;have BK118:=n3_;have BK119:=n4_;have HB:=n5_;clear n0_ n1_ n2_ n3_ n4_ n5_;(try clear hb);(try clear hb2);(try clear hk);(try clear hi);(try clear ho0);obtain ⟨Ao30,co30,eo30⟩:=Kd.R_slice HO123.out;subst eo30;have hcz31_0 : w29.cell? ⟨gb118,0,none⟩ = some (.int .u64 a0_0):=(kc_ BK118.out 0).trans rfl;have hcz31_1 : w29.cell? ⟨gb118,1,none⟩ = some (.int .u64 a0_1):=(kc_ BK118.out 1).trans rfl;have hcz31_2 : w29.cell? ⟨gb118,2,none⟩ = some (.string a0_2):=(kc_ BK118.out 2).trans rfl;have hcz31_3 : w29.cell? ⟨gb118,3,none⟩ = some (.slice A0_3 l0_3.length c0_3):=(kc_ BK118.out 3).trans rfl;have hcz31_4 : w29.cell? ⟨gb118,4,none⟩ = some (.slice A0_4 l0_4.length c0_4):=(kc_ BK118.out 4).trans rfl;have hcz31_5 : w29.cell? ⟨gb118,5,none⟩ = some (.bool a0_5):=(kc_ BK118.out 5).trans rfl;have hcz31_6 : w29.cell? ⟨gb118,6,none⟩ = some (.bool a0_6):=(kc_ BK118.out 6).trans rfl;have hcz31_7 : w29.cell? ⟨gb118,7,none⟩ = some (.bool a0_7):=(kc_ BK118.out 7).trans rfl;have hfz31_0:=blk_frozen BK118.out 0;have hfz31_1:=blk_frozen BK118.out 1;have hfz31_2:=blk_frozen BK118.out 2;have hfz31_3:=blk_frozen BK118.out 3;have hfz31_4:=blk_frozen BK118.out 4;have hfz31_5:=blk_frozen BK118.out 5;have hfz31_6:=blk_frozen BK118.out 6;have hfz31_7:=blk_frozen BK118.out 7; skip))
       have n0_ : Aside0 (Kd.V k67 67 (w29.setCell ⟨gb118,4,none⟩ (.slice Ao30 t121.length co30)) w.heap.size (fun k_ => ((P0_3_ k_ ∨ P0_4_ k_) ∨ w.heap.size ≤ k_) ∧ some k_ ≠ (.slice Ao30 t121.length co30 : Value).ownBlock ∧ k_ ≠ gb118 ∧ k_ ≠ gb119) (.slice A0_3 l0_3.length c0_3) l0_3):=⟨by (with_reducible repeat (first|apply Kd.V_alloc|apply Kd.V_drewN|apply Kd.V_drew));exact Kd.V_mono (Kd.V_far (p:=⟨gb118,4,none⟩) (Kd.V_mono HO_119003.out (fun k_ hk => (⟨hk,hk.1.2.1⟩ : _ ∧ k_ ≠ gb118))) (fun _ hk => hk.2) (.slice Ao30 t121.length co30)) (fun _ hk => ⟨hk.1.1.1,⟨hk.1.2,⟨hk.1.1.2.1,hk.1.1.2.2⟩⟩⟩)⟩
       have n1_ : Aside0 (Kd.V k67 67 (w29.setCell ⟨gb118,4,none⟩ (.slice Ao30 t121.length co30)) w.heap.size (fun k_ => ((P0_3_ k_ ∨ P0_4_ k_) ∨ w.heap.size ≤ k_) ∧ some k_ ≠ (.slice Ao30 t121.length co30 : Value).ownBlock ∧ k_ ≠ gb118 ∧ k_ ≠ gb119) (.slice A0_4 l0_4.length c0_4) l0_4):=⟨by (with_reducible repeat (first|apply Kd.V_alloc|apply Kd.V_drewN|apply Kd.V_drew));exact Kd.V_mono (Kd.V_far (p:=⟨gb118,4,none⟩) (Kd.V_mono HO_119004.out (fun k_ hk => (⟨hk,hk.1.2.1⟩ : _ ∧ k_ ≠ gb118))) (fun _ hk => hk.2) (.slice Ao30 t121.length co30)) (fun _ hk => ⟨hk.1.1.1,⟨hk.1.2,⟨hk.1.1.2.1,hk.1.1.2.2⟩⟩⟩)⟩
       have n2_ : Aside0 (Kd.R k67 67 (w29.setCell ⟨gb118,4,none⟩ (.slice Ao30 t121.length co30)) w.heap.size (fun k_ => (w.heap.size ≤ k_)) (.slice Ao30 t121.length co30) t121):=⟨by (with_reducible repeat (first|apply ra_|apply rn_|apply rd_));exact Kd.R_mono (Kd.R_far (p:=⟨gb118,4,none⟩) (Kd.R_types HO123.out BK118.out (by decide)) (fun _ hk => hk.2) (.slice Ao30 t121.length co30)) (fun _ hk => hk.1.1)⟩
       have n3_ : Aside0 ((w29.setCell ⟨gb118,4,none⟩ (.slice Ao30 t121.length co30)).heap[gb118]? = some (.cells #[.int .u64 a0_0,.int .u64 a0_1,.string a0_2,.slice A0_3 l0_3.length c0_3,.slice Ao30 t121.length co30,.bool a0_5,.bool a0_6,.bool a0_7] 29 (0,0))):=⟨by (with_reducible repeat (first|refine kn_ ?_ _|refine kd_ ?_|refine ka_ ?_ _));refine blk_put (cs:=#[.int .u64 a0_0,.int .u64 a0_1,.string a0_2,.slice A0_3 l0_3.length c0_3,.slice A0_4 l0_4.length c0_4,.bool a0_5,.bool a0_6,.bool a0_7]) ?_ 4 _ rfl;(with_reducible repeat (first|refine kn_ ?_ _|refine kd_ ?_|refine ka_ ?_ _));exact BK118.out⟩
       have n4_ : Aside0 ((w29.setCell ⟨gb118,4,none⟩ (.slice Ao30 t121.length co30)).heap[gb119]? = some (.cells kk0_ 29 (0,0))):=⟨by (with_reducible repeat (first|refine kn_ ?_ _|refine kd_ ?_|refine ka_ ?_ _));refine blk_far ?_ NB119_118.out _;(with_reducible repeat (first|refine kn_ ?_ _|refine kd_ ?_|refine ka_ ?_ _));exact BK119.out⟩
       have n5_ : Aside0 (Below w.heap.size w (w29.setCell ⟨gb118,4,none⟩ (.slice Ao30 t121.length co30))):=⟨by repeat (first|(with_reducible first|exact HB.out|apply ba_|apply pn_|apply pd_|refine bs_ ?_ GE118.out|refine bs_ ?_ GE119.out)|exact HB.out)⟩
       (try clear HO_119003)
       (try clear HO_119004)
       (try clear HO123)
       (try clear BK118)
       (try clear BK119)
       (try clear HB)
       generalize (w29.setCell ⟨gb118,4,none⟩ (.slice Ao30 t121.length co30)) = w32 at n0_ n1_ n2_ n3_ n4_ n5_ ⊢
       have HO_119003:=n0_
       have HO_119004:=n1_
       have HO123:=n2_
       have BK118:=n3_
       have BK119:=n4_
       have HB:=n5_
       clear n0_ n1_ n2_ n3_ n4_ n5_
       have n0_:=am_ (Kd.V_drew HO_119003.out)
       have n1_:=am_ (Kd.V_drew HO_119004.out)
       have n2_:=am_ (rd_ HO123.out)
       have n3_:=am_ (kd_ BK118.out)
       have n4_:=am_ (kd_ BK119.out)
       have n5_:=am_ (pd_ HB.out)
       clear HO_119003
       clear HO_119004
       clear HO123
       clear BK118
       clear BK119
       clear HB
       have HO_119003:=n0_
       have HO_119004:=n1_
       have HO123:=n2_
       have BK118:=n3_
       have BK119:=n4_
       have HB:=n5_
       clear n0_ n1_ n2_ n3_ n4_ n5_
       refine start_ (n:=8) (S:=fun w' => w'.cell? ⟨gb118,0,none⟩ = some (.int .u64 a0_0) ∧ w'.cell? ⟨gb118,1,none⟩ = some (.int .u64 a0_1) ∧ w'.cell? ⟨gb118,2,none⟩ = some (.string a0_2) ∧ w'.cell? ⟨gb118,3,none⟩ = some (.slice A0_3 l0_3.length c0_3) ∧ w'.cell? ⟨gb118,4,none⟩ = some (.slice Ao30 t121.length co30) ∧ w'.cell? ⟨gb118,5,none⟩ = some (.bool a0_5) ∧ w'.cell? ⟨gb118,6,none⟩ = some (.bool a0_6) ∧ w'.cell? ⟨gb118,7,none⟩ = some (.bool a0_7)) (ds:=[7]) #[F_,F_,F_,F_,F_,F_,F_,F_] (by kernel_rfl) rfl rfl ⟨(kc_ BK118.out 0).trans rfl,(kc_ BK118.out 1).trans rfl,(kc_ BK118.out 2).trans rfl,(kc_ BK118.out 3).trans rfl,(kc_ BK118.out 4).trans rfl,(kc_ BK118.out 5).trans rfl,(kc_ BK118.out 6).trans rfl,(kc_ BK118.out 7).trans rfl⟩ (fun hHeld => ?_);refine with_tabW sendq_Write.tab6 sendq_Write.bits6 (fun HT_ HW_ => ?_)
       generalize w32.drew = w33 at HO_119003 HO_119004 HO123 BK118 BK119 HB hHeld ⊢
       refine pure_ (i:=0) (N:=some 39) (v:=?_) (a':=?_) #[T_,F_,F_,F_,F_,F_,F_,F_] rfl rfl (any_of HT_.out (by kernel_rfl)) (fun _ _ _ h => h) (Or.inl ⟨by rfl,?_⟩) ?_ ?_
       rotate_left;(intro w';go_simp;with_reducible rfl);rotate_left;(simp only [Act.put,ps_,i64_w,i32_w];rfl)
       refine pure_ (i:=2) (N:=some 41) (v:=?_) (a':=?_) #[T_,F_,T_,F_,F_,F_,F_,F_] rfl rfl (any_of HT_.out (by kernel_rfl)) (fun _ _ _ h => h) (Or.inl ⟨by rfl,?_⟩) ?_ ?_
       rotate_left;(intro w';go_simp;with_reducible rfl);rotate_left;(simp only [Act.put,ps_,i64_w,i32_w];rfl)
       refine pure_ (i:=3) (N:=some 42) (v:=?_) (a':=?_) #[T_,F_,T_,T_,F_,F_,F_,F_] rfl rfl (any_of HT_.out (by kernel_rfl)) (fun _ _ _ h => h) (Or.inl ⟨by rfl,?_⟩) ?_ ?_
       rotate_left;(intro w';go_simp;with_reducible rfl);rotate_left;(simp only [Act.put,ps_,i64_w,i32_w];rfl)
       refine pure_ (i:=4) (N:=some 43) (v:=?_) (a':=?_) #[T_,F_,T_,T_,T_,F_,F_,F_] rfl rfl (any_of HT_.out (by kernel_rfl)) (fun _ _ _ h => h) (Or.inl ⟨by rfl,?_⟩) ?_ ?_
       rotate_left;(intro w';go_simp;with_reducible rfl);rotate_left;(simp only [Act.put,ps_,i64_w,i32_w];rfl)
       refine take_ (i:=1) (N:=some 40) (v:=?_) (a':=?_) #[T_,T_,T_,T_,T_,F_,F_,F_] rfl rfl (take_ofW HT_.out HW_.out (by kernel_rfl)) (fun _ _ _ h => h) (Or.inl ⟨by rfl,?_⟩) hHeld ?_ ?_
       rotate_left
       ·rintro w' ⟨s0,s1,s2,s3,s4,s5,s6,s7⟩
        go_simp
        with_reducible rfl
       rotate_left
       ·simp only [Act.put,ps_,i64_w,i32_w]
        rfl
       refine pure_ (i:=5) (N:=some 44) (v:=?_) (a':=?_) #[T_,T_,T_,T_,T_,T_,F_,F_] rfl rfl (any_of HT_.out (by kernel_rfl)) (fun _ _ _ h => h) (Or.inl ⟨by rfl,?_⟩) ?_ ?_
       rotate_left;(intro w';go_simp;with_reducible rfl);rotate_left;(simp only [Act.put,ps_,i64_w,i32_w];rfl)
       refine pure_ (i:=6) (N:=some 45) (v:=?_) (a':=?_) #[T_,T_,T_,T_,T_,T_,T_,F_] rfl rfl (any_of HT_.out (by kernel_rfl)) (fun _ _ _ h => h) (Or.inl ⟨by rfl,?_⟩) ?_ ?_
       rotate_left;(intro w';go_simp;with_reducible rfl);rotate_left;(simp only [Act.put,ps_,i64_w,i32_w];rfl)
       refine last_ (i:=7) (N:=none) #[T_,T_,T_,T_,T_,T_,T_,T_] rfl rfl (one_of HT_.out (by kernel_rfl)) (by decide) (fun K hK => ?_)
       have hs34 : w33.cell? ⟨gb118,2,none⟩ = some (.string a0_2):=(kc_ BK118.out 2).trans rfl
       have hfs34:=blk_frozen BK118.out 2
       have hns34_1:=NB119_118.out
       have hms34_1:=NB118_119.out
       refine skip_ (w1:=?_) (by rfl) rfl ?_ ?_
       rotate_left
       ·go_simp
        rfl
       refine hK.out _ _ ?_
       clear hK K
       refine done_ (done_of HT_.out (by kernel_rfl)) ?_
       have hcz35_0 : w33.cell? ⟨gb118,0,none⟩ = some (.int .u64 a0_0):=(kc_ BK118.out 0).trans rfl
       have hcz35_1 : w33.cell? ⟨gb118,1,none⟩ = some (.int .u64 a0_1):=(kc_ BK118.out 1).trans rfl
       have hcz35_2 : w33.cell? ⟨gb118,2,none⟩ = some (.string a0_2):=(kc_ BK118.out 2).trans rfl
       have hcz35_3 : w33.cell? ⟨gb118,3,none⟩ = some (.slice A0_3 l0_3.length c0_3):=(kc_ BK118.out 3).trans rfl
       have hcz35_4 : w33.cell? ⟨gb118,4,none⟩ = some (.slice Ao30 t121.length co30):=(kc_ BK118.out 4).trans rfl
       have hcz35_5 : w33.cell? ⟨gb118,5,none⟩ = some (.bool a0_5):=(kc_ BK118.out 5).trans rfl
       have hcz35_6 : w33.cell? ⟨gb118,6,none⟩ = some (.bool a0_6):=(kc_ BK118.out 6).trans rfl
       have hcz35_7 : w33.cell? ⟨gb118,7,none⟩ = some (.bool a0_7):=(kc_ BK118.out 7).trans rfl
       have hfz35_0:=blk_frozen BK118.out 0
       have hfz35_1:=blk_frozen BK118.out 1
       have hfz35_2:=blk_frozen BK118.out 2
       have hfz35_3:=blk_frozen BK118.out 3
       have hfz35_4:=blk_frozen BK118.out 4
       have hfz35_5:=blk_frozen BK118.out 5
       have hfz35_6:=blk_frozen BK118.out 6
       have hfz35_7:=blk_frozen BK118.out 7
       have hcz36_0 : w33.cell? ⟨gb119,0,none⟩ = some (.int .u64 0):=(kc_ BK119.out 0).trans rfl
       have hcz36_1 : w33.cell? ⟨gb119,1,none⟩ = some (.int .u64 0):=(kc_ BK119.out 1).trans rfl
       have hcz36_2 : w33.cell? ⟨gb119,2,none⟩ = some (.string (⟨#[]⟩ : ByteArray)):=(kc_ BK119.out 2).trans rfl
       have hcz36_3 : w33.cell? ⟨gb119,3,none⟩ = some (.slice none 0 0):=(kc_ BK119.out 3).trans rfl
       have hcz36_4 : w33.cell? ⟨gb119,4,none⟩ = some (.slice none 0 0):=(kc_ BK119.out 4).trans rfl
       have hcz36_5 : w33.cell? ⟨gb119,5,none⟩ = some (.bool false):=(kc_ BK119.out 5).trans rfl
       have hcz36_6 : w33.cell? ⟨gb119,6,none⟩ = some (.bool false):=(kc_ BK119.out 6).trans rfl
       have hcz36_7 : w33.cell? ⟨gb119,7,none⟩ = some (.bool false):=(kc_ BK119.out 7).trans rfl
       have hfz36_0:=blk_frozen BK119.out 0
       have hfz36_1:=blk_frozen BK119.out 1
       have hfz36_2:=blk_frozen BK119.out 2
       have hfz36_3:=blk_frozen BK119.out 3
       have hfz36_4:=blk_frozen BK119.out 4
       have hfz36_5:=blk_frozen BK119.out 5
       have hfz36_6:=blk_frozen BK119.out 6
       have hfz36_7:=blk_frozen BK119.out 7
       try go_wp2
       refine bodyPost_ret (results_ct rfl _ _ gb119 29 #[.int .u64 a0_0,.int .u64 a0_1,.string (a0_2 ++ (a1.extract 0 (ji5 : Int).toNat)),.slice A0_3 l0_3.length c0_3,.slice Ao30 t121.length co30,.bool a0_5,.bool a0_6,.bool a0_7] (0,0) _ rfl (by (with_reducible repeat (first|refine kn_ ?_ _|refine kd_ ?_|refine ka_ ?_ _));refine blk_put (cs:=#[.int .u64 a0_0,.int .u64 a0_1,.string (a0_2 ++ (a1.extract 0 (ji5 : Int).toNat)),.slice A0_3 l0_3.length c0_3,.slice Ao30 t121.length co30,.bool a0_5,.bool a0_6,.bool false]) ?_ 7 _ rfl;(with_reducible repeat (first|refine kn_ ?_ _|refine kd_ ?_|refine ka_ ?_ _));refine blk_put (cs:=#[.int .u64 a0_0,.int .u64 a0_1,.string (a0_2 ++ (a1.extract 0 (ji5 : Int).toNat)),.slice A0_3 l0_3.length c0_3,.slice Ao30 t121.length co30,.bool a0_5,.bool false,.bool false]) ?_ 6 _ rfl;(with_reducible repeat (first|refine kn_ ?_ _|refine kd_ ?_|refine ka_ ?_ _));refine blk_put (cs:=#[.int .u64 a0_0,.int .u64 a0_1,.string (a0_2 ++ (a1.extract 0 (ji5 : Int).toNat)),.slice A0_3 l0_3.length c0_3,.slice Ao30 t121.length co30,.bool false,.bool false,.bool false]) ?_ 5 _ rfl;(with_reducible repeat (first|refine kn_ ?_ _|refine kd_ ?_|refine ka_ ?_ _));refine blk_put (cs:=#[.int .u64 a0_0,.int .u64 a0_1,.string (a0_2 ++ (a1.extract 0 (ji5 : Int).toNat)),.slice A0_3 l0_3.length c0_3,.slice none 0 0,.bool false,.bool false,.bool false]) ?_ 4 _ rfl;(with_reducible repeat (first|refine kn_ ?_ _|refine kd_ ?_|refine ka_ ?_ _));refine blk_put (cs:=#[.int .u64 a0_0,.int .u64 a0_1,.string (a0_2 ++ (a1.extract 0 (ji5 : Int).toNat)),.slice none 0 0,.slice none 0 0,.bool false,.bool false,.bool false]) ?_ 3 _ rfl;(with_reducible repeat (first|refine kn_ ?_ _|refine kd_ ?_|refine ka_ ?_ _));refine blk_put (cs:=#[.int .u64 a0_0,.int .u64 a0_1,.string (⟨#[]⟩ : ByteArray),.slice none 0 0,.slice none 0 0,.bool false,.bool false,.bool false]) ?_ 2 _ rfl;(with_reducible repeat (first|refine kn_ ?_ _|refine kd_ ?_|refine ka_ ?_ _));refine blk_put (cs:=#[.int .u64 a0_0,.int .u64 0,.string (⟨#[]⟩ : ByteArray),.slice none 0 0,.slice none 0 0,.bool false,.bool false,.bool false]) ?_ 1 _ rfl;(with_reducible repeat (first|refine kn_ ?_ _|refine kd_ ?_|refine ka_ ?_ _));refine blk_put (cs:=kk0_) ?_ 0 _ rfl;(with_reducible repeat (first|refine kn_ ?_ _|refine kd_ ?_|refine ka_ ?_ _));refine blk_far ?_ NB119_118.out _;(with_reducible repeat (first|refine kn_ ?_ _|refine kd_ ?_|refine ka_ ?_ _));exact BK119.out) Try.underlying29 rfl (by kernel_rfl)) rfl ?_
       exact ⟨_,_,by first|rfl|(simp [errW_none,errW_some] <;> rfl)|(simp only [← hji4,← hji5];first|rfl|(simp [errW_none,errW_some] <;> rfl))|(simp [*,errW_none,errW_some] <;> rfl),by (with_reducible repeat (first|apply Kd.V_alloc|apply Kd.V_drewN|apply Kd.V_drew));exact Kd.V_mono (Kd.V_far (p:=⟨gb119,7,none⟩) (Kd.V_far (p:=⟨gb119,6,none⟩) (Kd.V_far (p:=⟨gb119,5,none⟩) (Kd.V_far (p:=⟨gb119,4,none⟩) (Kd.V_far (p:=⟨gb119,3,none⟩) (Kd.V_far (p:=⟨gb119,2,none⟩) (Kd.V_far (p:=⟨gb119,1,none⟩) (Kd.V_far (p:=⟨gb119,0,none⟩) (Kd.V_far (p:=⟨gb118,2,none⟩) (Kd.V_mono (Kd.V_mono HO_119003.out (fun k_ hk => (⟨hk,hk.2.2.1⟩ : _ ∧ k_ ≠ gb118))) (fun k_ hk => (⟨hk,hk.1.2.2.2⟩ : _ ∧ k_ ≠ gb119))) (fun _ hk => hk.1.2) (.string (a0_2 ++ (a1.extract 0 (ji5 : Int).toNat)))) (fun _ hk => hk.2) (.int .u64 a0_0)) (fun _ hk => hk.2) (.int .u64 a0_1)) (fun _ hk => hk.2) (.string (a0_2 ++ (a1.extract 0 (ji5 : Int).toNat)))) (fun _ hk => hk.2) (.slice A0_3 l0_3.length c0_3)) (fun _ hk => hk.2) (.slice Ao30 t121.length co30)) (fun _ hk => hk.2) (.bool a0_5)) (fun _ hk => hk.2) (.bool a0_6)) (fun _ hk => hk.2) (.bool a0_7)) (fun _ hk => hk.1.1.1),Kd.V_mono (Kd.R_V (by (with_reducible repeat (first|apply ra_|apply rn_|apply rd_));exact Kd.R_mono (Kd.R_far (p:=⟨gb119,7,none⟩) (Kd.R_far (p:=⟨gb119,6,none⟩) (Kd.R_far (p:=⟨gb119,5,none⟩) (Kd.R_far (p:=⟨gb119,4,none⟩) (Kd.R_far (p:=⟨gb119,3,none⟩) (Kd.R_far (p:=⟨gb119,2,none⟩) (Kd.R_far (p:=⟨gb119,1,none⟩) (Kd.R_far (p:=⟨gb119,0,none⟩) (Kd.R_far (p:=⟨gb118,2,none⟩) (Kd.R_types (Kd.R_types HO123.out BK118.out (by decide)) BK119.out (by decide)) (fun _ hk => hk.1.2) (.string (a0_2 ++ (a1.extract 0 (ji5 : Int).toNat)))) (fun _ hk => hk.2) (.int .u64 a0_0)) (fun _ hk => hk.2) (.int .u64 a0_1)) (fun _ hk => hk.2) (.string (a0_2 ++ (a1.extract 0 (ji5 : Int).toNat)))) (fun _ hk => hk.2) (.slice A0_3 l0_3.length c0_3)) (fun _ hk => hk.2) (.slice Ao30 t121.length co30)) (fun _ hk => hk.2) (.bool a0_5)) (fun _ hk => hk.2) (.bool a0_6)) (fun _ hk => hk.2) (.bool a0_7)) (fun _ hk => hk.1.1))) (fun k_ hk => by first|exact ⟨(.inr (hk.1)),hk.2⟩|exact (.inr (hk))),by repeat (first|(with_reducible first|exact HB.out|apply ba_|apply pn_|apply pd_|refine bs_ ?_ GE118.out|refine bs_ ?_ GE119.out)|exact HB.out)⟩
      ·rw [if_neg c24] at H
       exact absurd H (by simp)
     ·rw [if_neg c23] at H
      exact absurd H (by simp)
    ·rw [if_neg c22] at H
     exact absurd H (by simp)

/-! ### sendq_Finish: function 14 -/
def sendq_Finish.f (a0_0 : Int) (a0_1 : Int) (a0_2 : ByteArray) (l0_3 : List (S67)) (l0_4 : List (S67)) (a0_5 : Bool) (a0_6 : Bool) (a0_7 : Bool) : Option (Int × Int × ByteArray × (List (S67)) × (List (S67)) × Bool × Bool × Bool):=if a0_6 = true then (some (a0_0,a0_1,a0_2,l0_3,l0_4,true,true,a0_7)) else (some (a0_0,a0_1,a0_2,l0_3,l0_4,true,!a0_5,a0_7))
set_option maxHeartbeats 8000000 in
set_option maxRecDepth 100000 in
theorem sendq_Finish.calls (a0_0 : Int) (a0_1 : Int) (a0_2 : ByteArray) (P0_3_ : Nat → Prop) (A0_3 : Option Addr) (c0_3 : Nat) (l0_3 : List (S67)) (P0_4_ : Nat → Prop) (A0_4 : Option Addr) (c0_4 : Nat) (l0_4 : List (S67)) (a0_5 : Bool) (a0_6 : Bool) (a0_7 : Bool) (r1 : Int) (r2 : Int) (r3 : ByteArray) (r4 : List (S67)) (r5 : List (S67)) (r6 : Bool) (r7 : Bool) (r8 : Bool) (w : World) (hs0_3 : Kd.V k67 67 w w.heap.size (fun k_ => P0_3_ k_) (.slice A0_3 l0_3.length c0_3) l0_3) (hs0_4 : Kd.V k67 67 w w.heap.size (fun k_ => P0_4_ k_) (.slice A0_4 l0_4.length c0_4) l0_4) (h : sendq_Finish.f a0_0 a0_1 a0_2 l0_3 l0_4 a0_5 a0_6 a0_7 = some (r1,r2,r3,r4,r5,r6,r7,r8)) :
  Calls Try.prog 14 #[.agg #[.int .u64 a0_0,.int .u64 a0_1,.string a0_2,.slice A0_3 l0_3.length c0_3,.slice A0_4 l0_4.length c0_4,.bool a0_5,.bool a0_6,.bool a0_7]] w fun e w' => ∃ v3_ v4_ : Value,e = .returned (.agg #[.int .u64 r1,.int .u64 r2,.string r3,v3_,v4_,.bool r6,.bool r7,.bool r8]) ∧ Kd.V k67 67 w' w.heap.size (fun k_ => ((P0_3_ k_ ∨ P0_4_ k_) ∨ w.heap.size ≤ k_)) v3_ r4 ∧ Kd.V k67 67 w' w.heap.size (fun k_ => ((P0_3_ k_ ∨ P0_4_ k_) ∨ w.heap.size ≤ k_)) v4_ r5 ∧ Below w.heap.size w w':=by
 have hu29:=Try.underlying29
 have HO0_3:=am_ (show Kd.V k67 67 w w.heap.size (fun k_ => ((P0_3_ k_ ∨ P0_4_ k_) ∨ w.heap.size ≤ k_)) (.slice A0_3 l0_3.length c0_3) l0_3 from Kd.V_mono hs0_3 (fun k_ hk => .inl (.inl hk)))
 have HO0_4:=am_ (show Kd.V k67 67 w w.heap.size (fun k_ => ((P0_3_ k_ ∨ P0_4_ k_) ∨ w.heap.size ≤ k_)) (.slice A0_4 l0_4.length c0_4) l0_4 from Kd.V_mono hs0_4 (fun k_ hk => .inl (.inr hk)))
 have HB:=am_ (Below.refl w.heap.size w)
 have H : (if a0_6 = true then (some (a0_0,a0_1,a0_2,l0_3,l0_4,true,true,a0_7)) else (some (a0_0,a0_1,a0_2,l0_3,l0_4,true,!a0_5,a0_7))) = some (r1,r2,r3,r4,r5,r6,r7,r8):=h
 clear h
 by_cases c2 : a0_6 = true
 ·subst c2
  have H1 : (some (a0_0,a0_1,a0_2,l0_3,l0_4,true,true,a0_7)) = some (r1,r2,r3,r4,r5,r6,r7,r8):=by rw [if_pos rfl] at H;exact H
  clear H
  have H:=H1
  clear H1
  simp only [Option.some.injEq,Prod.mk.injEq] at H
  obtain ⟨rfl,rfl,rfl,rfl,rfl,rfl,rfl,rfl⟩:=H
  go_enter Try.func14,Try.ntmps14
  go_wp2_with (first|((with_reducible refine gate_dst (N:=1) rfl ?_);refine box_event ?hg (N:=1) ?hd (cs:=#[.int .u64 a0_0,.int .u64 a0_1,.string a0_2,.slice A0_3 l0_3.length c0_3,.slice A0_4 l0_4.length c0_4,.bool a0_5,.bool true,.bool a0_7]) (t:=29) ?hr ?_;(case hd => rfl);(case hg => rfl);(case hr => first|(go_simp;done)|(go_simp;rfl));intro gb124 hg w3 hbox hb;have n0_:=am_ (Kd.V_below (Kd.V_elderB (by (with_reducible repeat (first|apply Kd.V_alloc|apply Kd.V_drewN|apply Kd.V_drew));exact HO0_3.out) gb124 (Nat.le_of_eq hg.symm)) hb);have n1_:=am_ (Kd.V_below (Kd.V_elderB (by (with_reducible repeat (first|apply Kd.V_alloc|apply Kd.V_drewN|apply Kd.V_drew));exact HO0_4.out) gb124 (Nat.le_of_eq hg.symm)) hb);have n2_:=am_ (below_step (by repeat (first|(with_reducible first|exact HB.out|apply ba_|apply pn_|apply pd_)|exact HB.out)) hb);have n3_:=am_ (hbox);have n4_:=am_ ((by rw [hg];exact (below_size (by repeat (first|(with_reducible first|exact HB.out|apply ba_|apply pn_|apply pd_)|exact HB.out))) : w.heap.size ≤ gb124));have n5_:=am_ ((by rw [hg];exact (below_size (by repeat (first|(with_reducible first|exact HB.out|apply ba_|apply pn_|apply pd_)|exact HB.out))) : w.heap.size ≤ gb124));clear HO0_3;clear HO0_4;clear HB;have HO0_3:=n0_;have HO0_4:=n1_;have HB:=n2_;have BK124:=n3_;have GW124:=n4_;have GE124:=n5_;clear n0_ n1_ n2_ n3_ n4_ n5_;clear hb hbox hg)|((with_reducible refine gate_dst (N:=2) rfl ?_);refine box_event ?hg (N:=2) ?hd (cs:=kk0_) (t:=29) ?hr ?_;(case hd => rfl);(case hg => rfl);(case hr => first|(go_simp;done)|(go_simp;rfl));intro gb125 hg w4 hbox hb;have n0_:=am_ (Kd.V_below (Kd.V_elderB (by (with_reducible repeat (first|apply Kd.V_alloc|apply Kd.V_drewN|apply Kd.V_drew));exact HO0_3.out) gb125 (Nat.le_of_eq hg.symm)) hb);have n1_:=am_ (Kd.V_below (Kd.V_elderB (by (with_reducible repeat (first|apply Kd.V_alloc|apply Kd.V_drewN|apply Kd.V_drew));exact HO0_4.out) gb125 (Nat.le_of_eq hg.symm)) hb);have n2_:=am_ (blk_below (g:=gb124) (o:=.cells #[.int .u64 a0_0,.int .u64 a0_1,.string a0_2,.slice A0_3 l0_3.length c0_3,.slice A0_4 l0_4.length c0_4,.bool a0_5,.bool true,.bool a0_7] 29 (0,0)) (by (with_reducible repeat (first|refine kn_ ?_ _|refine kd_ ?_|refine ka_ ?_ _));exact BK124.out) hb);have n3_:=am_ (below_step (by repeat (first|(with_reducible first|exact HB.out|apply ba_|apply pn_|apply pd_|refine bs_ ?_ GE124.out)|exact HB.out)) hb);have n4_:=am_ (hbox);have n5_:=am_ ((by rw [hg];exact (below_size (by repeat (first|(with_reducible first|exact HB.out|apply ba_|apply pn_|apply pd_|refine bs_ ?_ GE124.out)|exact HB.out))) : w.heap.size ≤ gb125));have n6_:=am_ ((by rw [hg];exact (below_size (by repeat (first|(with_reducible first|exact HB.out|apply ba_|apply pn_|apply pd_|refine bs_ ?_ GE124.out)|exact HB.out))) : w.heap.size ≤ gb125));have n7_:=am_ ((by rw [hg];exact Nat.ne_of_lt (blk_lt (g:=gb124) (o:=.cells #[.int .u64 a0_0,.int .u64 a0_1,.string a0_2,.slice A0_3 l0_3.length c0_3,.slice A0_4 l0_4.length c0_4,.bool a0_5,.bool true,.bool a0_7] 29 (0,0)) (by (with_reducible repeat (first|refine kn_ ?_ _|refine kd_ ?_|refine ka_ ?_ _));exact BK124.out)) : gb124 ≠ gb125));have n8_:=am_ ((by rw [hg];exact Nat.ne_of_gt (blk_lt (g:=gb124) (o:=.cells #[.int .u64 a0_0,.int .u64 a0_1,.string a0_2,.slice A0_3 l0_3.length c0_3,.slice A0_4 l0_4.length c0_4,.bool a0_5,.bool true,.bool a0_7] 29 (0,0)) (by (with_reducible repeat (first|refine kn_ ?_ _|refine kd_ ?_|refine ka_ ?_ _));exact BK124.out)) : gb125 ≠ gb124));clear HO0_3;clear HO0_4;clear BK124;clear HB;have HO0_3:=n0_;have HO0_4:=n1_;have BK124:=n2_;have HB:=n3_;have BK125:=n4_;have GW125:=n5_;have GE125:=n6_;have NB124_125:=n7_;have NB125_124:=n8_;clear n0_ n1_ n2_ n3_ n4_ n5_ n6_ n7_ n8_;clear hb hbox hg;have hnb5:=NB124_125.out;have hnc5:=NB125_124.out;have hcz6_0 : w4.cell? ⟨gb124,0,none⟩ = some (.int .u64 a0_0):=(kc_ BK124.out 0).trans rfl;have hcz6_1 : w4.cell? ⟨gb124,1,none⟩ = some (.int .u64 a0_1):=(kc_ BK124.out 1).trans rfl;have hcz6_2 : w4.cell? ⟨gb124,2,none⟩ = some (.string a0_2):=(kc_ BK124.out 2).trans rfl;have hcz6_3 : w4.cell? ⟨gb124,3,none⟩ = some (.slice A0_3 l0_3.length c0_3):=(kc_ BK124.out 3).trans rfl;have hcz6_4 : w4.cell? ⟨gb124,4,none⟩ = some (.slice A0_4 l0_4.length c0_4):=(kc_ BK124.out 4).trans rfl;have hcz6_5 : w4.cell? ⟨gb124,5,none⟩ = some (.bool a0_5):=(kc_ BK124.out 5).trans rfl;have hcz6_6 : w4.cell? ⟨gb124,6,none⟩ = some (.bool true):=(kc_ BK124.out 6).trans rfl;have hcz6_7 : w4.cell? ⟨gb124,7,none⟩ = some (.bool a0_7):=(kc_ BK124.out 7).trans rfl;have hfz6_0:=blk_frozen BK124.out 0;have hfz6_1:=blk_frozen BK124.out 1;have hfz6_2:=blk_frozen BK124.out 2;have hfz6_3:=blk_frozen BK124.out 3;have hfz6_4:=blk_frozen BK124.out 4;have hfz6_5:=blk_frozen BK124.out 5;have hfz6_6:=blk_frozen BK124.out 6;have hfz6_7:=blk_frozen BK124.out 7;have hcz7_0 : w4.cell? ⟨gb125,0,none⟩ = some (.int .u64 0):=(kc_ BK125.out 0).trans rfl;have hcz7_1 : w4.cell? ⟨gb125,1,none⟩ = some (.int .u64 0):=(kc_ BK125.out 1).trans rfl;have hcz7_2 : w4.cell? ⟨gb125,2,none⟩ = some (.string (⟨#[]⟩ : ByteArray)):=(kc_ BK125.out 2).trans rfl;have hcz7_3 : w4.cell? ⟨gb125,3,none⟩ = some (.slice none 0 0):=(kc_ BK125.out 3).trans rfl;have hcz7_4 : w4.cell? ⟨gb125,4,none⟩ = some (.slice none 0 0):=(kc_ BK125.out 4).trans rfl;have hcz7_5 : w4.cell? ⟨gb125,5,none⟩ = some (.bool false):=(kc_ BK125.out 5).trans rfl;have hcz7_6 : w4.cell? ⟨gb125,6,none⟩ = some (.bool false):=(kc_ BK125.out 6).trans rfl;have hcz7_7 : w4.cell? ⟨gb125,7,none⟩ = some (.bool false):=(kc_ BK125.out 7).trans rfl;have hfz7_0:=blk_frozen BK125.out 0;have hfz7_1:=blk_frozen BK125.out 1;have hfz7_2:=blk_frozen BK125.out 2;have hfz7_3:=blk_frozen BK125.out 3;have hfz7_4:=blk_frozen BK125.out 4;have hfz7_5:=blk_frozen BK125.out 5;have hfz7_6:=blk_frozen BK125.out 6;have hfz7_7:=blk_frozen BK125.out 7; skip))
  refine bodyPost_ret (results_cell_row rfl _ _ gb125 29 #[.int .u64 a0_0,.int .u64 a0_1,.string a0_2,.slice A0_3 l0_3.length c0_3,.slice A0_4 l0_4.length c0_4,.bool true,.bool true,.bool a0_7] (0,0) _ rfl (by (with_reducible repeat (first|refine kn_ ?_ _|refine kd_ ?_|refine ka_ ?_ _));refine blk_put (cs:=#[.int .u64 a0_0,.int .u64 a0_1,.string a0_2,.slice A0_3 l0_3.length c0_3,.slice A0_4 l0_4.length c0_4,.bool true,.bool true,.bool false]) ?_ 7 _ rfl;(with_reducible repeat (first|refine kn_ ?_ _|refine kd_ ?_|refine ka_ ?_ _));refine blk_put (cs:=#[.int .u64 a0_0,.int .u64 a0_1,.string a0_2,.slice A0_3 l0_3.length c0_3,.slice A0_4 l0_4.length c0_4,.bool true,.bool false,.bool false]) ?_ 6 _ rfl;(with_reducible repeat (first|refine kn_ ?_ _|refine kd_ ?_|refine ka_ ?_ _));refine blk_put (cs:=#[.int .u64 a0_0,.int .u64 a0_1,.string a0_2,.slice A0_3 l0_3.length c0_3,.slice A0_4 l0_4.length c0_4,.bool false,.bool false,.bool false]) ?_ 5 _ rfl;(with_reducible repeat (first|refine kn_ ?_ _|refine kd_ ?_|refine ka_ ?_ _));refine blk_put (cs:=#[.int .u64 a0_0,.int .u64 a0_1,.string a0_2,.slice A0_3 l0_3.length c0_3,.slice none 0 0,.bool false,.bool false,.bool false]) ?_ 4 _ rfl;(with_reducible repeat (first|refine kn_ ?_ _|refine kd_ ?_|refine ka_ ?_ _));refine blk_put (cs:=#[.int .u64 a0_0,.int .u64 a0_1,.string a0_2,.slice none 0 0,.slice none 0 0,.bool false,.bool false,.bool false]) ?_ 3 _ rfl;(with_reducible repeat (first|refine kn_ ?_ _|refine kd_ ?_|refine ka_ ?_ _));refine blk_put (cs:=#[.int .u64 a0_0,.int .u64 a0_1,.string (⟨#[]⟩ : ByteArray),.slice none 0 0,.slice none 0 0,.bool false,.bool false,.bool false]) ?_ 2 _ rfl;(with_reducible repeat (first|refine kn_ ?_ _|refine kd_ ?_|refine ka_ ?_ _));refine blk_put (cs:=#[.int .u64 a0_0,.int .u64 0,.string (⟨#[]⟩ : ByteArray),.slice none 0 0,.slice none 0 0,.bool false,.bool false,.bool false]) ?_ 1 _ rfl;(with_reducible repeat (first|refine kn_ ?_ _|refine kd_ ?_|refine ka_ ?_ _));refine blk_put (cs:=kk0_) ?_ 0 _ rfl;(with_reducible repeat (first|refine kn_ ?_ _|refine kd_ ?_|refine ka_ ?_ _));refine blk_far ?_ NB125_124.out _;(with_reducible repeat (first|refine kn_ ?_ _|refine kd_ ?_|refine ka_ ?_ _));refine blk_far ?_ NB125_124.out _;(with_reducible repeat (first|refine kn_ ?_ _|refine kd_ ?_|refine ka_ ?_ _));exact BK125.out) Try.underlying29 rfl (by kernel_rfl)) rfl ?_
  exact ⟨_,_,by first|rfl|(simp [errW_none,errW_some] <;> rfl)|(simp [*,errW_none,errW_some] <;> rfl),by (with_reducible repeat (first|apply Kd.V_alloc|apply Kd.V_drewN|apply Kd.V_drew));exact Kd.V_mono (Kd.V_far (p:=⟨gb125,7,none⟩) (Kd.V_far (p:=⟨gb125,6,none⟩) (Kd.V_far (p:=⟨gb125,5,none⟩) (Kd.V_far (p:=⟨gb125,4,none⟩) (Kd.V_far (p:=⟨gb125,3,none⟩) (Kd.V_far (p:=⟨gb125,2,none⟩) (Kd.V_far (p:=⟨gb125,1,none⟩) (Kd.V_far (p:=⟨gb125,0,none⟩) (Kd.V_far (p:=⟨gb124,5,none⟩) (Kd.V_far (p:=⟨gb124,6,none⟩) (Kd.V_mono (Kd.V_mono HO0_3.out (fun k_ hk => (⟨hk,hk.1.2⟩ : _ ∧ k_ ≠ gb124))) (fun k_ hk => (⟨hk,hk.1.2⟩ : _ ∧ k_ ≠ gb125))) (fun _ hk => hk.1.2) (.bool true)) (fun _ hk => hk.1.2) (.bool true)) (fun _ hk => hk.2) (.int .u64 a0_0)) (fun _ hk => hk.2) (.int .u64 a0_1)) (fun _ hk => hk.2) (.string a0_2)) (fun _ hk => hk.2) (.slice A0_3 l0_3.length c0_3)) (fun _ hk => hk.2) (.slice A0_4 l0_4.length c0_4)) (fun _ hk => hk.2) (.bool true)) (fun _ hk => hk.2) (.bool true)) (fun _ hk => hk.2) (.bool a0_7)) (fun _ hk => hk.1.1.1.1),by (with_reducible repeat (first|apply Kd.V_alloc|apply Kd.V_drewN|apply Kd.V_drew));exact Kd.V_mono (Kd.V_far (p:=⟨gb125,7,none⟩) (Kd.V_far (p:=⟨gb125,6,none⟩) (Kd.V_far (p:=⟨gb125,5,none⟩) (Kd.V_far (p:=⟨gb125,4,none⟩) (Kd.V_far (p:=⟨gb125,3,none⟩) (Kd.V_far (p:=⟨gb125,2,none⟩) (Kd.V_far (p:=⟨gb125,1,none⟩) (Kd.V_far (p:=⟨gb125,0,none⟩) (Kd.V_far (p:=⟨gb124,5,none⟩) (Kd.V_far (p:=⟨gb124,6,none⟩) (Kd.V_mono (Kd.V_mono HO0_4.out (fun k_ hk => (⟨hk,hk.1.2⟩ : _ ∧ k_ ≠ gb124))) (fun k_ hk => (⟨hk,hk.1.2⟩ : _ ∧ k_ ≠ gb125))) (fun _ hk => hk.1.2) (.bool true)) (fun _ hk => hk.1.2) (.bool true)) (fun _ hk => hk.2) (.int .u64 a0_0)) (fun _ hk => hk.2) (.int .u64 a0_1)) (fun _ hk => hk.2) (.string a0_2)) (fun _ hk => hk.2) (.slice A0_3 l0_3.length c0_3)) (fun _ hk => hk.2) (.slice A0_4 l0_4.length c0_4)) (fun _ hk => hk.2) (.bool true)) (fun _ hk => hk.2) (.bool true)) (fun _ hk => hk.2) (.bool a0_7)) (fun _ hk => hk.1.1.1.1),by repeat (first|(with_reducible first|exact HB.out|apply ba_|apply pn_|apply pd_|refine bs_ ?_ GE124.out|refine bs_ ?_ GE125.out)|exact HB.out)⟩
 ·replace c2:=Bool.eq_false_iff.mpr c2
  subst c2
  have H1 : (some (a0_0,a0_1,a0_2,l0_3,l0_4,true,!a0_5,a0_7)) = some (r1,r2,r3,r4,r5,r6,r7,r8):=by rw [if_neg (show ¬ (false = true) by decide)] at H;exact H
  clear H
  have H:=H1
  clear H1
  simp only [Option.some.injEq,Prod.mk.injEq] at H
  obtain ⟨rfl,rfl,rfl,rfl,rfl,rfl,rfl,rfl⟩:=H
  go_enter Try.func14,Try.ntmps14
  go_wp2_with (first|((with_reducible refine gate_dst (N:=1) rfl ?_);refine box_event ?hg (N:=1) ?hd (cs:=#[.int .u64 a0_0,.int .u64 a0_1,.string a0_2,.slice A0_3 l0_3.length c0_3,.slice A0_4 l0_4.length c0_4,.bool a0_5,.bool false,.bool a0_7]) (t:=29) ?hr ?_;(case hd => rfl);(case hg => rfl);(case hr => first|(go_simp;done)|(go_simp;rfl));intro gb124 hg w8 hbox hb;have n0_:=am_ (Kd.V_below (Kd.V_elderB (by (with_reducible repeat (first|apply Kd.V_alloc|apply Kd.V_drewN|apply Kd.V_drew));exact HO0_3.out) gb124 (Nat.le_of_eq hg.symm)) hb);have n1_:=am_ (Kd.V_below (Kd.V_elderB (by (with_reducible repeat (first|apply Kd.V_alloc|apply Kd.V_drewN|apply Kd.V_drew));exact HO0_4.out) gb124 (Nat.le_of_eq hg.symm)) hb);have n2_:=am_ (below_step (by repeat (first|(with_reducible first|exact HB.out|apply ba_|apply pn_|apply pd_)|exact HB.out)) hb);have n3_:=am_ (hbox);have n4_:=am_ ((by rw [hg];exact (below_size (by repeat (first|(with_reducible first|exact HB.out|apply ba_|apply pn_|apply pd_)|exact HB.out))) : w.heap.size ≤ gb124));have n5_:=am_ ((by rw [hg];exact (below_size (by repeat (first|(with_reducible first|exact HB.out|apply ba_|apply pn_|apply pd_)|exact HB.out))) : w.heap.size ≤ gb124));clear HO0_3;clear HO0_4;clear HB;have HO0_3:=n0_;have HO0_4:=n1_;have HB:=n2_;have BK124:=n3_;have GW124:=n4_;have GE124:=n5_;clear n0_ n1_ n2_ n3_ n4_ n5_;clear hb hbox hg)|((with_reducible refine gate_dst (N:=2) rfl ?_);refine box_event ?hg (N:=2) ?hd (cs:=kk0_) (t:=29) ?hr ?_;(case hd => rfl);(case hg => rfl);(case hr => first|(go_simp;done)|(go_simp;rfl));intro gb125 hg w9 hbox hb;have n0_:=am_ (Kd.V_below (Kd.V_elderB (by (with_reducible repeat (first|apply Kd.V_alloc|apply Kd.V_drewN|apply Kd.V_drew));exact HO0_3.out) gb125 (Nat.le_of_eq hg.symm)) hb);have n1_:=am_ (Kd.V_below (Kd.V_elderB (by (with_reducible repeat (first|apply Kd.V_alloc|apply Kd.V_drewN|apply Kd.V_drew));exact HO0_4.out) gb125 (Nat.le_of_eq hg.symm)) hb);have n2_:=am_ (blk_below (g:=gb124) (o:=.cells #[.int .u64 a0_0,.int .u64 a0_1,.string a0_2,.slice A0_3 l0_3.length c0_3,.slice A0_4 l0_4.length c0_4,.bool a0_5,.bool false,.bool a0_7] 29 (0,0)) (by (with_reducible repeat (first|refine kn_ ?_ _|refine kd_ ?_|refine ka_ ?_ _));exact BK124.out) hb);have n3_:=am_ (below_step (by repeat (first|(with_reducible first|exact HB.out|apply ba_|apply pn_|apply pd_|refine bs_ ?_ GE124.out)|exact HB.out)) hb);have n4_:=am_ (hbox);have n5_:=am_ ((by rw [hg];exact (below_size (by repeat (first|(with_reducible first|exact HB.out|apply ba_|apply pn_|apply pd_|refine bs_ ?_ GE124.out)|exact HB.out))) : w.heap.size ≤ gb125));have n6_:=am_ ((by rw [hg];exact (below_size (by repeat (first|(with_reducible first|exact HB.out|apply ba_|apply pn_|apply pd_|refine bs_ ?_ GE124.out)|exact HB.out))) : w.heap.size ≤ gb125));have n7_:=am_ ((by rw [hg];exact Nat.ne_of_lt (blk_lt (g:=gb124) (o:=.cells #[.int .u64 a0_0,.int .u64 a0_1,.string a0_2,.slice A0_3 l0_3.length c0_3,.slice A0_4 l0_4.length c0_4,.bool a0_5,.bool false,.bool a0_7] 29 (0,0)) (by (with_reducible repeat (first|refine kn_ ?_ _|refine kd_ ?_|refine ka_ ?_ _));exact BK124.out)) : gb124 ≠ gb125));have n8_:=am_ ((by rw [hg];exact Nat.ne_of_gt (blk_lt (g:=gb124) (o:=.cells #[.int .u64 a0_0,.int .u64 a0_1,.string a0_2,.slice A0_3 l0_3.length c0_3,.slice A0_4 l0_4.length c0_4,.bool a0_5,.bool false,.bool a0_7] 29 (0,0)) (by (with_reducible repeat (first|refine kn_ ?_ _|refine kd_ ?_|refine ka_ ?_ _));exact BK124.out)) : gb125 ≠ gb124));clear HO0_3;clear HO0_4;clear BK124;clear HB;have HO0_3:=n0_;have HO0_4:=n1_;have BK124:=n2_;have HB:=n3_;have BK125:=n4_;have GW125:=n5_;have GE125:=n6_;have NB124_125:=n7_;have NB125_124:=n8_;clear n0_ n1_ n2_ n3_ n4_ n5_ n6_ n7_ n8_;clear hb hbox hg;have hnb10:=NB124_125.out;have hnc10:=NB125_124.out;have hcz11_0 : w9.cell? ⟨gb124,0,none⟩ = some (.int .u64 a0_0):=(kc_ BK124.out 0).trans rfl;have hcz11_1 : w9.cell? ⟨gb124,1,none⟩ = some (.int .u64 a0_1):=(kc_ BK124.out 1).trans rfl;have hcz11_2 : w9.cell? ⟨gb124,2,none⟩ = some (.string a0_2):=(kc_ BK124.out 2).trans rfl;have hcz11_3 : w9.cell? ⟨gb124,3,none⟩ = some (.slice A0_3 l0_3.length c0_3):=(kc_ BK124.out 3).trans rfl;have hcz11_4 : w9.cell? ⟨gb124,4,none⟩ = some (.slice A0_4 l0_4.length c0_4):=(kc_ BK124.out 4).trans rfl;have hcz11_5 : w9.cell? ⟨gb124,5,none⟩ = some (.bool a0_5):=(kc_ BK124.out 5).trans rfl;have hcz11_6 : w9.cell? ⟨gb124,6,none⟩ = some (.bool false):=(kc_ BK124.out 6).trans rfl;have hcz11_7 : w9.cell? ⟨gb124,7,none⟩ = some (.bool a0_7):=(kc_ BK124.out 7).trans rfl;have hfz11_0:=blk_frozen BK124.out 0;have hfz11_1:=blk_frozen BK124.out 1;have hfz11_2:=blk_frozen BK124.out 2;have hfz11_3:=blk_frozen BK124.out 3;have hfz11_4:=blk_frozen BK124.out 4;have hfz11_5:=blk_frozen BK124.out 5;have hfz11_6:=blk_frozen BK124.out 6;have hfz11_7:=blk_frozen BK124.out 7;have hcz12_0 : w9.cell? ⟨gb125,0,none⟩ = some (.int .u64 0):=(kc_ BK125.out 0).trans rfl;have hcz12_1 : w9.cell? ⟨gb125,1,none⟩ = some (.int .u64 0):=(kc_ BK125.out 1).trans rfl;have hcz12_2 : w9.cell? ⟨gb125,2,none⟩ = some (.string (⟨#[]⟩ : ByteArray)):=(kc_ BK125.out 2).trans rfl;have hcz12_3 : w9.cell? ⟨gb125,3,none⟩ = some (.slice none 0 0):=(kc_ BK125.out 3).trans rfl;have hcz12_4 : w9.cell? ⟨gb125,4,none⟩ = some (.slice none 0 0):=(kc_ BK125.out 4).trans rfl;have hcz12_5 : w9.cell? ⟨gb125,5,none⟩ = some (.bool false):=(kc_ BK125.out 5).trans rfl;have hcz12_6 : w9.cell? ⟨gb125,6,none⟩ = some (.bool false):=(kc_ BK125.out 6).trans rfl;have hcz12_7 : w9.cell? ⟨gb125,7,none⟩ = some (.bool false):=(kc_ BK125.out 7).trans rfl;have hfz12_0:=blk_frozen BK125.out 0;have hfz12_1:=blk_frozen BK125.out 1;have hfz12_2:=blk_frozen BK125.out 2;have hfz12_3:=blk_frozen BK125.out 3;have hfz12_4:=blk_frozen BK125.out 4;have hfz12_5:=blk_frozen BK125.out 5;have hfz12_6:=blk_frozen BK125.out 6;have hfz12_7:=blk_frozen BK125.out 7; skip))
  refine bodyPost_ret (results_cell_row rfl _ _ gb125 29 #[.int .u64 a0_0,.int .u64 a0_1,.string a0_2,.slice A0_3 l0_3.length c0_3,.slice A0_4 l0_4.length c0_4,.bool true,.bool (!a0_5),.bool a0_7] (0,0) _ rfl (by (with_reducible repeat (first|refine kn_ ?_ _|refine kd_ ?_|refine ka_ ?_ _));refine blk_put (cs:=#[.int .u64 a0_0,.int .u64 a0_1,.string a0_2,.slice A0_3 l0_3.length c0_3,.slice A0_4 l0_4.length c0_4,.bool true,.bool (!a0_5),.bool false]) ?_ 7 _ rfl;(with_reducible repeat (first|refine kn_ ?_ _|refine kd_ ?_|refine ka_ ?_ _));refine blk_put (cs:=#[.int .u64 a0_0,.int .u64 a0_1,.string a0_2,.slice A0_3 l0_3.length c0_3,.slice A0_4 l0_4.length c0_4,.bool true,.bool false,.bool false]) ?_ 6 _ rfl;(with_reducible repeat (first|refine kn_ ?_ _|refine kd_ ?_|refine ka_ ?_ _));refine blk_put (cs:=#[.int .u64 a0_0,.int .u64 a0_1,.string a0_2,.slice A0_3 l0_3.length c0_3,.slice A0_4 l0_4.length c0_4,.bool false,.bool false,.bool false]) ?_ 5 _ rfl;(with_reducible repeat (first|refine kn_ ?_ _|refine kd_ ?_|refine ka_ ?_ _));refine blk_put (cs:=#[.int .u64 a0_0,.int .u64 a0_1,.string a0_2,.slice A0_3 l0_3.length c0_3,.slice none 0 0,.bool false,.bool false,.bool false]) ?_ 4 _ rfl;(with_reducible repeat (first|refine kn_ ?_ _|refine kd_ ?_|refine ka_ ?_ _));refine blk_put (cs:=#[.int .u64 a0_0,.int .u64 a0_1,.string a0_2,.slice none 0 0,.slice none 0 0,.bool false,.bool false,.bool false]) ?_ 3 _ rfl;(with_reducible repeat (first|refine kn_ ?_ _|refine kd_ ?_|refine ka_ ?_ _));refine blk_put (cs:=#[.int .u64 a0_0,.int .u64 a0_1,.string (⟨#[]⟩ : ByteArray),.slice none 0 0,.slice none 0 0,.bool false,.bool false,.bool false]) ?_ 2 _ rfl;(with_reducible repeat (first|refine kn_ ?_ _|refine kd_ ?_|refine ka_ ?_ _));refine blk_put (cs:=#[.int .u64 a0_0,.int .u64 0,.string (⟨#[]⟩ : ByteArray),.slice none 0 0,.slice none 0 0,.bool false,.bool false,.bool false]) ?_ 1 _ rfl;(with_reducible repeat (first|refine kn_ ?_ _|refine kd_ ?_|refine ka_ ?_ _));refine blk_put (cs:=kk0_) ?_ 0 _ rfl;(with_reducible repeat (first|refine kn_ ?_ _|refine kd_ ?_|refine ka_ ?_ _));refine blk_far ?_ NB125_124.out _;(with_reducible repeat (first|refine kn_ ?_ _|refine kd_ ?_|refine ka_ ?_ _));refine blk_far ?_ NB125_124.out _;(with_reducible repeat (first|refine kn_ ?_ _|refine kd_ ?_|refine ka_ ?_ _));exact BK125.out) Try.underlying29 rfl (by kernel_rfl)) rfl ?_
  exact ⟨_,_,by first|rfl|(simp [errW_none,errW_some] <;> rfl)|(simp [*,errW_none,errW_some] <;> rfl),by (with_reducible repeat (first|apply Kd.V_alloc|apply Kd.V_drewN|apply Kd.V_drew));exact Kd.V_mono (Kd.V_far (p:=⟨gb125,7,none⟩) (Kd.V_far (p:=⟨gb125,6,none⟩) (Kd.V_far (p:=⟨gb125,5,none⟩) (Kd.V_far (p:=⟨gb125,4,none⟩) (Kd.V_far (p:=⟨gb125,3,none⟩) (Kd.V_far (p:=⟨gb125,2,none⟩) (Kd.V_far (p:=⟨gb125,1,none⟩) (Kd.V_far (p:=⟨gb125,0,none⟩) (Kd.V_far (p:=⟨gb124,5,none⟩) (Kd.V_far (p:=⟨gb124,6,none⟩) (Kd.V_mono (Kd.V_mono HO0_3.out (fun k_ hk => (⟨hk,hk.1.2⟩ : _ ∧ k_ ≠ gb124))) (fun k_ hk => (⟨hk,hk.1.2⟩ : _ ∧ k_ ≠ gb125))) (fun _ hk => hk.1.2) (.bool (!a0_5))) (fun _ hk => hk.1.2) (.bool true)) (fun _ hk => hk.2) (.int .u64 a0_0)) (fun _ hk => hk.2) (.int .u64 a0_1)) (fun _ hk => hk.2) (.string a0_2)) (fun _ hk => hk.2) (.slice A0_3 l0_3.length c0_3)) (fun _ hk => hk.2) (.slice A0_4 l0_4.length c0_4)) (fun _ hk => hk.2) (.bool true)) (fun _ hk => hk.2) (.bool (!a0_5))) (fun _ hk => hk.2) (.bool a0_7)) (fun _ hk => hk.1.1.1.1),by (with_reducible repeat (first|apply Kd.V_alloc|apply Kd.V_drewN|apply Kd.V_drew));exact Kd.V_mono (Kd.V_far (p:=⟨gb125,7,none⟩) (Kd.V_far (p:=⟨gb125,6,none⟩) (Kd.V_far (p:=⟨gb125,5,none⟩) (Kd.V_far (p:=⟨gb125,4,none⟩) (Kd.V_far (p:=⟨gb125,3,none⟩) (Kd.V_far (p:=⟨gb125,2,none⟩) (Kd.V_far (p:=⟨gb125,1,none⟩) (Kd.V_far (p:=⟨gb125,0,none⟩) (Kd.V_far (p:=⟨gb124,5,none⟩) (Kd.V_far (p:=⟨gb124,6,none⟩) (Kd.V_mono (Kd.V_mono HO0_4.out (fun k_ hk => (⟨hk,hk.1.2⟩ : _ ∧ k_ ≠ gb124))) (fun k_ hk => (⟨hk,hk.1.2⟩ : _ ∧ k_ ≠ gb125))) (fun _ hk => hk.1.2) (.bool (!a0_5))) (fun _ hk => hk.1.2) (.bool true)) (fun _ hk => hk.2) (.int .u64 a0_0)) (fun _ hk => hk.2) (.int .u64 a0_1)) (fun _ hk => hk.2) (.string a0_2)) (fun _ hk => hk.2) (.slice A0_3 l0_3.length c0_3)) (fun _ hk => hk.2) (.slice A0_4 l0_4.length c0_4)) (fun _ hk => hk.2) (.bool true)) (fun _ hk => hk.2) (.bool (!a0_5))) (fun _ hk => hk.2) (.bool a0_7)) (fun _ hk => hk.1.1.1.1),by repeat (first|(with_reducible first|exact HB.out|apply ba_|apply pn_|apply pd_|refine bs_ ?_ GE124.out|refine bs_ ?_ GE125.out)|exact HB.out)⟩

/-! ### sendq_State_window: function 32 -/
def sendq_State_window.f (a0_0 : Int) (a0_1 : Int) (a0_2 : ByteArray) (l0_3 : List (S67)) (l0_4 : List (S67)) (a0_5 : Bool) (a0_6 : Bool) (a0_7 : Bool) (a1 : Int) (a2 : Int) : Option (Int × Int × Bool):=(sendq_State_end.f a0_0 a0_1 a0_2 l0_3 l0_4 a0_5 a0_6 a0_7).bind fun t128 => (some (mx a1 a0_0,IntKind.u64.wrap ((mn (IntKind.u64.wrap (a1 + (IntKind.u64.wrap (mx 0 a2)))) t128) - 1),decide ((mx a1 a0_0) < (mn (IntKind.u64.wrap (a1 + (IntKind.u64.wrap (mx 0 a2)))) t128))))
set_option maxHeartbeats 8000000 in
set_option maxRecDepth 100000 in
theorem sendq_State_window.calls (a0_0 : Int) (a0_1 : Int) (a0_2 : ByteArray) (A0_3 : Option Addr) (c0_3 : Nat) (l0_3 : List (S67)) (A0_4 : Option Addr) (c0_4 : Nat) (l0_4 : List (S67)) (a0_5 : Bool) (a0_6 : Bool) (a0_7 : Bool) (a1 : Int) (a2 : Int) (r1 : Int) (r2 : Int) (r3 : Bool) (w : World) (hr0_3 : Kd.C k67 w A0_3 l0_3.length l0_3) (hc0_3 : l0_3.length ≤ c0_3) (hr0_4 : Kd.C k67 w A0_4 l0_4.length l0_4) (hc0_4 : l0_4.length ≤ c0_4) (h : sendq_State_window.f a0_0 a0_1 a0_2 l0_3 l0_4 a0_5 a0_6 a0_7 a1 a2 = some (r1,r2,r3)) :
  Calls Try.prog 32 #[.agg #[.int .u64 a0_0,.int .u64 a0_1,.string a0_2,.slice A0_3 l0_3.length c0_3,.slice A0_4 l0_4.length c0_4,.bool a0_5,.bool a0_6,.bool a0_7],.int .u64 a1,.int .i64 a2] w fun e w' => e = .returned (.tuple #[.agg #[.int .u64 r1,.int .u64 r2],.bool r3]) ∧ Below w.heap.size w w':=by
 have hu29:=Try.underlying29
 have hu67:=Try.underlying67
 have HR0_3:=am_ hr0_3
 have HC0_3:=am_ hc0_3
 clear hr0_3 hc0_3
 have HR0_4:=am_ hr0_4
 have HC0_4:=am_ hc0_4
 clear hr0_4 hc0_4
 have HB:=am_ (Below.refl w.heap.size w)
 have H : ((sendq_State_end.f a0_0 a0_1 a0_2 l0_3 l0_4 a0_5 a0_6 a0_7).bind fun t128 => (some (mx a1 a0_0,IntKind.u64.wrap ((mn (IntKind.u64.wrap (a1 + (IntKind.u64.wrap (mx 0 a2)))) t128) - 1),decide ((mx a1 a0_0) < (mn (IntKind.u64.wrap (a1 + (IntKind.u64.wrap (mx 0 a2)))) t128))))) = some (r1,r2,r3):=h
 clear h
 obtain ⟨ji4,hji4⟩ : ∃ j_ : Int,(mx 0 a2) = j_:=⟨_,rfl⟩
 replace H : ((sendq_State_end.f a0_0 a0_1 a0_2 l0_3 l0_4 a0_5 a0_6 a0_7).bind fun t128 => (some (mx a1 a0_0,IntKind.u64.wrap ((mn (IntKind.u64.wrap (a1 + (IntKind.u64.wrap (ji4)))) t128) - 1),decide ((mx a1 a0_0) < (mn (IntKind.u64.wrap (a1 + (IntKind.u64.wrap (ji4)))) t128))))) = some (r1,r2,r3):=by first|(rw [hji4] at H;exact H)|(simp only [hji4] at H ⊢;exact H)
 (try (have hji4l : 0 ≤ ji4:=by (rw [← hji4];unfold mx;(repeat' split) <;> omega)))
 (try (have hji4m : 0 ≤ ji4:=by omega))
 have hji4_ : (if 0 < a2 then a2 else 0) = ji4:=hji4
 replace H:=Option.bind_eq_some_iff.mp H
 obtain ⟨t128,A50,H⟩:=H
 replace H : (some (mx a1 a0_0,IntKind.u64.wrap ((mn (IntKind.u64.wrap (a1 + (IntKind.u64.wrap (ji4)))) t128) - 1),decide ((mx a1 a0_0) < (mn (IntKind.u64.wrap (a1 + (IntKind.u64.wrap (ji4)))) t128)))) = some (r1,r2,r3):=H
 have A5:=am_ A50
 clear A50
 obtain ⟨ji6,hji6⟩ : ∃ j_ : Int,(mn (IntKind.u64.wrap (a1 + (IntKind.u64.wrap (ji4)))) t128) = j_:=⟨_,rfl⟩
 replace H : (some (mx a1 a0_0,IntKind.u64.wrap ((ji6) - 1),decide ((mx a1 a0_0) < (ji6)))) = some (r1,r2,r3):=by first|(rw [hji6] at H;exact H)|(simp only [hji6] at H ⊢;exact H)
 (try rw [hji6] at A5)
 have hji6_ : (if t128 < (IntKind.u64.wrap (a1 + (IntKind.u64.wrap (ji4)))) then t128 else (IntKind.u64.wrap (a1 + (IntKind.u64.wrap (ji4))))) = ji6:=hji6
 obtain ⟨ji7,hji7⟩ : ∃ j_ : Int,(mx a1 a0_0) = j_:=⟨_,rfl⟩
 replace H : (some (ji7,IntKind.u64.wrap ((ji6) - 1),decide ((ji7) < (ji6)))) = some (r1,r2,r3):=by first|(rw [hji7] at H;exact H)|(simp only [hji7] at H ⊢;exact H)
 (try rw [hji7] at A5)
 have hji7_ : (if a1 < a0_0 then a0_0 else a1) = ji7:=hji7
 simp only [Option.some.injEq,Prod.mk.injEq] at H
 obtain ⟨rfl,rfl,rfl⟩:=H
 go_enter Try.func32,Try.ntmps32
 go_wp2_with (first|((with_reducible refine gate_dst (N:=3) rfl ?_);refine box_event ?hg (N:=3) ?hd (cs:=#[.int .u64 a0_0,.int .u64 a0_1,.string a0_2,.slice A0_3 l0_3.length c0_3,.slice A0_4 l0_4.length c0_4,.bool a0_5,.bool a0_6,.bool a0_7]) (t:=29) ?hr ?_;(case hd => rfl);(case hg => rfl);(case hr => first|(go_simp;done)|(go_simp;rfl));intro gb126 hg w8 hbox hb;have n0_:=am_ (below_step (by repeat (first|(with_reducible first|exact HB.out|apply ba_|apply pn_|apply pd_)|exact HB.out)) hb);have n1_:=am_ (hbox);have n2_:=am_ ((by rw [hg];exact (below_size (by repeat (first|(with_reducible first|exact HB.out|apply ba_|apply pn_|apply pd_)|exact HB.out))) : w.heap.size ≤ gb126));have n3_:=am_ ((by rw [hg];exact (below_size (by repeat (first|(with_reducible first|exact HB.out|apply ba_|apply pn_|apply pd_)|exact HB.out))) : w.heap.size ≤ gb126));clear HB;have HB:=n0_;have BK126:=n1_;have GW126:=n2_;have GE126:=n3_;clear n0_ n1_ n2_ n3_;clear hb hbox hg)|((with_reducible refine gate_dst (N:=6) rfl ?_);refine box_event ?hg (N:=6) ?hd (cs:=kk1_) (t:=67) ?hr ?_;(case hd => rfl);(case hg => rfl);(case hr => first|(go_simp;done)|(go_simp;rfl));intro gb127 hg w9 hbox hb;have n0_:=am_ (blk_below (g:=gb126) (o:=.cells #[.int .u64 a0_0,.int .u64 a0_1,.string a0_2,.slice A0_3 l0_3.length c0_3,.slice A0_4 l0_4.length c0_4,.bool a0_5,.bool a0_6,.bool a0_7] 29 (0,0)) (by (with_reducible repeat (first|refine kn_ ?_ _|refine kd_ ?_|refine ka_ ?_ _));exact BK126.out) hb);have n1_:=am_ (below_step (by repeat (first|(with_reducible first|exact HB.out|apply ba_|apply pn_|apply pd_|refine bs_ ?_ GE126.out)|exact HB.out)) hb);have n2_:=am_ (hbox);have n3_:=am_ ((by rw [hg];exact (below_size (by repeat (first|(with_reducible first|exact HB.out|apply ba_|apply pn_|apply pd_|refine bs_ ?_ GE126.out)|exact HB.out))) : w.heap.size ≤ gb127));have n4_:=am_ ((by rw [hg];exact (below_size (by repeat (first|(with_reducible first|exact HB.out|apply ba_|apply pn_|apply pd_|refine bs_ ?_ GE126.out)|exact HB.out))) : w.heap.size ≤ gb127));have n5_:=am_ ((by rw [hg];exact Nat.ne_of_lt (blk_lt (g:=gb126) (o:=.cells #[.int .u64 a0_0,.int .u64 a0_1,.string a0_2,.slice A0_3 l0_3.length c0_3,.slice A0_4 l0_4.length c0_4,.bool a0_5,.bool a0_6,.bool a0_7] 29 (0,0)) (by (with_reducible repeat (first|refine kn_ ?_ _|refine kd_ ?_|refine ka_ ?_ _));exact BK126.out)) : gb126 ≠ gb127));have n6_:=am_ ((by rw [hg];exact Nat.ne_of_gt (blk_lt (g:=gb126) (o:=.cells #[.int .u64 a0_0,.int .u64 a0_1,.string a0_2,.slice A0_3 l0_3.length c0_3,.slice A0_4 l0_4.length c0_4,.bool a0_5,.bool a0_6,.bool a0_7] 29 (0,0)) (by (with_reducible repeat (first|refine kn_ ?_ _|refine kd_ ?_|refine ka_ ?_ _));exact BK126.out)) : gb127 ≠ gb126));clear BK126;clear HB;have BK126:=n0_;have HB:=n1_;have BK127:=n2_;have GW127:=n3_;have GE127:=n4_;have NB126_127:=n5_;have NB127_126:=n6_;clear n0_ n1_ n2_ n3_ n4_ n5_ n6_;clear hb hbox hg;have hnb10:=NB126_127.out;have hnc10:=NB127_126.out;have hcz11_0 : w9.cell? ⟨gb126,0,none⟩ = some (.int .u64 a0_0):=(kc_ BK126.out 0).trans rfl;have hcz11_1 : w9.cell? ⟨gb126,1,none⟩ = some (.int .u64 a0_1):=(kc_ BK126.out 1).trans rfl;have hcz11_2 : w9.cell? ⟨gb126,2,none⟩ = some (.string a0_2):=(kc_ BK126.out 2).trans rfl;have hcz11_3 : w9.cell? ⟨gb126,3,none⟩ = some (.slice A0_3 l0_3.length c0_3):=(kc_ BK126.out 3).trans rfl;have hcz11_4 : w9.cell? ⟨gb126,4,none⟩ = some (.slice A0_4 l0_4.length c0_4):=(kc_ BK126.out 4).trans rfl;have hcz11_5 : w9.cell? ⟨gb126,5,none⟩ = some (.bool a0_5):=(kc_ BK126.out 5).trans rfl;have hcz11_6 : w9.cell? ⟨gb126,6,none⟩ = some (.bool a0_6):=(kc_ BK126.out 6).trans rfl;have hcz11_7 : w9.cell? ⟨gb126,7,none⟩ = some (.bool a0_7):=(kc_ BK126.out 7).trans rfl;have hfz11_0:=blk_frozen BK126.out 0;have hfz11_1:=blk_frozen BK126.out 1;have hfz11_2:=blk_frozen BK126.out 2;have hfz11_3:=blk_frozen BK126.out 3;have hfz11_4:=blk_frozen BK126.out 4;have hfz11_5:=blk_frozen BK126.out 5;have hfz11_6:=blk_frozen BK126.out 6;have hfz11_7:=blk_frozen BK126.out 7; skip)|((with_reducible refine gate_callee (f:=29) rfl ?_);refine goesL_ (some 16) rfl rfl Try.func29 (by kernel_rfl) rfl #[.agg #[.int .u64 a0_0,.int .u64 a0_1,.string a0_2,.slice A0_3 l0_3.length c0_3,.slice A0_4 l0_4.length c0_4,.bool a0_5,.bool a0_6,.bool a0_7]] rfl (by (try simp only [List.map_toArray,List.map_cons,List.map_nil]);first|done|rfl|(simp only [List.length_drop,List.length_take];rfl)) ?_;(with_reducible refine (sendq_State_end.calls a0_0 a0_1 a0_2 _ _ l0_3 _ _ l0_4 a0_5 a0_6 a0_7 t128 _ ?side1 ?side2 ?side3 ?side4 A5.out).mono ?_);(case side1 => repeat (first|exact (Kd.C_below HR0_3.out HB.out)|(with_reducible refine Kd.C_alloc ?_ _)|(with_reducible refine Kd.C_drewN ?_ _)|(with_reducible refine Kd.C_drew ?_)));(case side2 => exact HC0_3.out);(case side3 => repeat (first|exact (Kd.C_below HR0_4.out HB.out)|(with_reducible refine Kd.C_alloc ?_ _)|(with_reducible refine Kd.C_drewN ?_ _)|(with_reducible refine Kd.C_drew ?_)));(case side4 => exact HC0_4.out);rintro e w12 ⟨rfl,hb⟩;refine ⟨_,rfl,?_⟩;have n0_:=am_ (blk_below (g:=gb126) (o:=.cells #[.int .u64 a0_0,.int .u64 a0_1,.string a0_2,.slice A0_3 l0_3.length c0_3,.slice A0_4 l0_4.length c0_4,.bool a0_5,.bool a0_6,.bool a0_7] 29 (0,0)) (by (with_reducible repeat (first|refine kn_ ?_ _|refine kd_ ?_|refine ka_ ?_ _));exact BK126.out) hb);have n1_:=am_ (blk_below (g:=gb127) (o:=.cells kk1_ 67 (0,0)) (by (with_reducible repeat (first|refine kn_ ?_ _|refine kd_ ?_|refine ka_ ?_ _));exact BK127.out) hb);have n2_:=am_ (below_step (by repeat (first|(with_reducible first|exact HB.out|apply ba_|apply pn_|apply pd_|refine bs_ ?_ GE126.out|refine bs_ ?_ GE127.out)|exact HB.out)) hb);clear BK126;clear BK127;clear HB;have BK126:=n0_;have BK127:=n1_;have HB:=n2_;clear n0_ n1_ n2_;(try clear hb);(try clear hb2);(try clear hk);(try clear hi);have hcz13_0 : w12.cell? ⟨gb126,0,none⟩ = some (.int .u64 a0_0):=(kc_ BK126.out 0).trans rfl;have hcz13_1 : w12.cell? ⟨gb126,1,none⟩ = some (.int .u64 a0_1):=(kc_ BK126.out 1).trans rfl;have hcz13_2 : w12.cell? ⟨gb126,2,none⟩ = some (.string a0_2):=(kc_ BK126.out 2).trans rfl;have hcz13_3 : w12.cell? ⟨gb126,3,none⟩ = some (.slice A0_3 l0_3.length c0_3):=(kc_ BK126.out 3).trans rfl;have hcz13_4 : w12.cell? ⟨gb126,4,none⟩ = some (.slice A0_4 l0_4.length c0_4):=(kc_ BK126.out 4).trans rfl;have hcz13_5 : w12.cell? ⟨gb126,5,none⟩ = some (.bool a0_5):=(kc_ BK126.out 5).trans rfl;have hcz13_6 : w12.cell? ⟨gb126,6,none⟩ = some (.bool a0_6):=(kc_ BK126.out 6).trans rfl;have hcz13_7 : w12.cell? ⟨gb126,7,none⟩ = some (.bool a0_7):=(kc_ BK126.out 7).trans rfl;have hfz13_0:=blk_frozen BK126.out 0;have hfz13_1:=blk_frozen BK126.out 1;have hfz13_2:=blk_frozen BK126.out 2;have hfz13_3:=blk_frozen BK126.out 3;have hfz13_4:=blk_frozen BK126.out 4;have hfz13_5:=blk_frozen BK126.out 5;have hfz13_6:=blk_frozen BK126.out 6;have hfz13_7:=blk_frozen BK126.out 7;have hcz14_0 : w12.cell? ⟨gb127,0,none⟩ = some (.int .u64 0):=(kc_ BK127.out 0).trans rfl;have hcz14_1 : w12.cell? ⟨gb127,1,none⟩ = some (.int .u64 0):=(kc_ BK127.out 1).trans rfl;have hfz14_0:=blk_frozen BK127.out 0;have hfz14_1:=blk_frozen BK127.out 1; skip))
 refine bodyPost_ret (results_ct rfl _ _ gb127 67 #[.int .u64 ji7,.int .u64 (IntKind.u64.wrap ((ji6) - 1))] (0,0) _ rfl (by (with_reducible repeat (first|refine kn_ ?_ _|refine kd_ ?_|refine ka_ ?_ _));refine blk_put (cs:=#[.int .u64 ji7,.int .u64 0]) ?_ 1 _ rfl;(with_reducible repeat (first|refine kn_ ?_ _|refine kd_ ?_|refine ka_ ?_ _));refine blk_put (cs:=kk1_) ?_ 0 _ rfl;(with_reducible repeat (first|refine kn_ ?_ _|refine kd_ ?_|refine ka_ ?_ _));exact BK127.out) Try.underlying67 rfl (by kernel_rfl)) rfl ?_
 exact ⟨by first|rfl|(simp [errW_none,errW_some] <;> rfl)|(simp only [← hji4,← hji6,← hji7];first|rfl|(simp [errW_none,errW_some] <;> rfl))|(simp [*,errW_none,errW_some] <;> rfl),by repeat (first|(with_reducible first|exact HB.out|apply ba_|apply pn_|apply pd_|refine bs_ ?_ GE126.out|refine bs_ ?_ GE127.out)|exact HB.out)⟩

/-! ### ranges_Cut: function 33 -/
def ranges_Cut.f (k : Nat) (l0 : List S67) (a1_0 a1_1 : Int) : Option (List S67):=(ranges_edges.f k l0 1).bind fun e1 => (ranges_edges.f k [⟨a1_0,a1_1⟩] (-1)).bind fun e2 => if e1.length + e2.length ≤ 549755813888 then some (sweepF (wantIs 1) (e1 ++ e2)) else none
theorem ranges_Cut.mono : ∀ l0 a1_0 a1_1 k,LeO (ranges_Cut.f k l0 a1_0 a1_1) (ranges_Cut.f (k + 1) l0 a1_0 a1_1):=fun l0 a1_0 a1_1 k => LeO.bind (ranges_edges.mono l0 1 k) fun _ => LeO.bind (ranges_edges.mono _ (-1) k) fun _ => LeO.refl _
set_option maxHeartbeats 400000 in
theorem ranges_Cut_w (x : Int) (W : World) : Calls Try.prog 44 #[.int .i64 x] W fun e w' => e = .returned (.bool ((wantIs 1) x)) ∧ w' = W:=by
 obtain ⟨b,hb⟩ : ∃ b,(wantIs 1) x = b:=⟨_,rfl⟩
 rw [hb]
 have hb2 : (x == 1) = b:=hb
 clear hb
 go_enter Try.func44,Try.ntmps44
 go_wp2
 go_ret
 exact ⟨by first|rfl|rw [hb2]|simp [hb2],rfl⟩
theorem ranges_Cut_e : ∀ args w,(callFunc 44 args).run Try.prog w = .ok (.enter 44 args) w:=enters_of Try.func44 (by kernel_rfl) rfl
set_option maxHeartbeats 4000000 in
set_option maxRecDepth 100000 in
theorem ranges_Cut.calls (k : Nat) (A0 : Option Addr) (c0 : Nat) (l0 : List S67) (a1_0 a1_1 : Int) (r : List S67) (w : World) (hr0 : Kd.C k67 w A0 l0.length l0) (hc0 : l0.length ≤ c0) (h : ranges_Cut.f k l0 a1_0 a1_1 = some r) :
  Calls Try.prog 33 #[.slice A0 l0.length c0,.agg #[.int .u64 a1_0,.int .u64 a1_1]] w fun e w' => ∃ v0_ : Value,e = .returned (v0_) ∧ Kd.R k67 67 w' w.heap.size (fun _ => True) v0_ r ∧ Below w.heap.size w w':=by
 obtain ⟨e1,h1,h2⟩:=Option.bind_eq_some_iff.1 h
 obtain ⟨e2,h4,h3⟩:=Option.bind_eq_some_iff.1 h2
 by_cases c : e1.length + e2.length ≤ 549755813888
 ·rw [if_pos c] at h3
  obtain rfl:=Option.some.inj h3
  have H1:=am_ h1
  have H2:=am_ h4
  have HR:=am_ hr0
  have HC:=am_ hc0
  clear h h1 h2 h4 h3 hr0 hc0
  have HBx : Aside0 (Below w.heap.size w (w.alloc (.cells #[.int .u64 a1_0,.int .u64 a1_1] 67)).drew):=⟨pd_ (ba_ (Below.refl _ _) _)⟩
  have HSx : RS w.heap.size a1_0 a1_1 (w.alloc (.cells #[.int .u64 a1_0,.int .u64 a1_1] 67)).drew:=RS.new w a1_0 a1_1 67
  have HSY:=am_ HSx
  clear HSx
  go_enter Try.func33,Try.ntmps33
  go_wp2_with fail
  refine start_ (n:=8) (S:=RS w.heap.size a1_0 a1_1) (ds:=[]) #[F_,F_,F_,F_,F_,F_,F_,F_] (by kernel_rfl) rfl rfl HSY.out (fun hHeld => ?_)
  generalize (w.alloc (.cells #[.int .u64 a1_0,.int .u64 a1_1] 67)).drew = w1 at hHeld HBx HSY ⊢
  clear HSY
  refine pure_ (i:=0) (N:=some 5) (v:=?_) (a':=?_) #[T_,F_,F_,F_,F_,F_,F_,F_] rfl rfl (by kernel_rfl) (fun _ _ _ h => h) (Or.inl ⟨by rfl,?_⟩) ?_ ?_
  rotate_left;(intro w';go_simp;with_reducible rfl);rotate_left;(simp only [Act.put,ps_,i64_w,i32_w];rfl)
  refine take_ (i:=2) (N:=some 7) (v:=?_) (a':=?_) #[T_,F_,T_,F_,F_,F_,F_,F_] rfl rfl (by kernel_rfl) (fun _ _ _ h => h) (Or.inl ⟨by rfl,?_⟩) hHeld ?_ ?_
  rotate_left
  ·rintro w' ⟨s0,s1⟩
   go_simp
   with_reducible rfl
  rotate_left
  ·simp only [Act.put,ps_,i64_w,i32_w]
   rfl
  refine two_ (i:=1) (j:=3) (Ni:=some 6) (Nj:=some 8) #[T_,T_,T_,F_,F_,F_,F_,F_] #[T_,F_,T_,T_,F_,F_,F_,F_] rfl rfl rfl rfl (by kernel_rfl) (by decide) (by decide) (fun K hK => ?_) (fun K hK => ?_)
  ·skip
   refine goes_ (N:=some 6) Try.func43 (by kernel_rfl) rfl #[.slice A0 l0.length c0,.int .i64 1] (by rfl) rfl rfl (by (try simp only [List.map_toArray,List.map_cons,List.map_nil]);first|done|rfl) ?_
   refine (ranges_edges.calls k A0 c0 l0 1 e1 _ (Kd.C_below HR.out HBx.out) HC.out H1.out).mono ?_
   rintro e w2 ⟨v,rfl,ho,hb⟩
   obtain ⟨B1,d1,rfl,hl1,hC1⟩:=Kd.R_reads ho
   refine ⟨_,rfl,?_⟩
   have HB2:=am_ (below_step HBx.out hb)
   have HS2:=hHeld.below hb
   have HC1 : Aside0 (Kd.C k90 (w2.alloc (.cells #[.int .u64 a1_0,.int .u64 a1_1] 67)) B1 e1.length e1):=⟨Kd.C_below hC1 (ba_ (Below.refl _ _) _)⟩
   clear ho hC1 hl1 hb hHeld
   refine hK.out _ _ (HS2) (fun hHeld => ?_)
   clear hK K
   refine norm_ (a':=?_) ?_ ?_
   rotate_left
   ·show Act.put _ (some 6) _ = _
    simp only [Act.put,ps_,i64_w,i32_w]
    rfl
   clear HS2
   refine one_ (i:=3) (N:=some 8) #[T_,T_,T_,T_,F_,F_,F_,F_] rfl rfl (by kernel_rfl) (by decide) (fun K hK => ?_)
   refine value_ (w1:=?_) (v:=?_) (by rfl) rfl ?_ ?_
   rotate_left 2
   ·go_simp
    constructor
    ·rfl
    ·rfl
   refine hK.out _ _ (hHeld.alloc _) (fun hHeld => ?_)
   clear hK K
   refine norm_ (a':=?_) ?_ ?_
   rotate_left
   ·show Act.put _ (some 8) _ = _
    simp only [Act.put,ps_,i64_w,i32_w]
    rfl
   have HO : Aside0 (Kd.C k67 (w2.alloc (.cells #[.int .u64 a1_0,.int .u64 a1_1] 67)) (some ⟨w2.heap.size,0,none⟩) 1 [(⟨a1_0,a1_1⟩ : S67)]):=⟨one_range (heap_alloc_new w2 _)⟩
   have HB3:=am_ (ba_ HB2.out (.cells #[.int .u64 a1_0,.int .u64 a1_1] 67))
   refine one_ (i:=4) (N:=some 9) #[T_,T_,T_,T_,T_,F_,F_,F_] rfl rfl (by kernel_rfl) (by decide) (fun K hK => ?_)
   refine goes_ (N:=some 9) Try.func43 (by kernel_rfl) rfl #[.slice (some ⟨w2.heap.size,0,none⟩) 1 1,.int .i64 (-1)] (by rfl) rfl rfl (by (try simp only [List.map_toArray,List.map_cons,List.map_nil]);first|done|rfl) ?_
   refine (ranges_edges.calls k _ 1 [(⟨a1_0,a1_1⟩ : S67)] (-1) e2 _ HO.out (Nat.le_refl _) H2.out).mono ?_
   rintro e w8 ⟨v,rfl,ho,hb⟩
   obtain ⟨B2,d2,rfl,hl2,hC3⟩:=Kd.R_reads ho
   refine ⟨_,rfl,?_⟩
   have HC4:=am_ (Kd.C_below HC1.out hb)
   have HC5:=am_ hC3
   have HB8:=am_ (below_step HB3.out hb)
   have HS8:=hHeld.below hb
   clear ho hC3 hl2 hb hHeld
   refine hK.out _ _ (HS8) (fun hHeld => ?_)
   clear hK K
   refine norm_ (a':=?_) ?_ ?_
   rotate_left
   ·show Act.put _ (some 9) _ = _
    simp only [Act.put,ps_,i64_w,i32_w]
    rfl
   clear HS8
   refine one_ (i:=5) (N:=some 10) #[T_,T_,T_,T_,T_,T_,F_,F_] rfl rfl (by kernel_rfl) (by decide) (fun K hK => ?_)
   refine value_ (w1:=?_) (v:=?_) (by rfl) rfl ?_ ?_
   rotate_left 2
   ·go_simp
    constructor
    ·rfl
    ·rfl
   refine hK.out _ _ (hHeld.alloc _) (fun hHeld => ?_)
   clear hK K
   refine norm_ (a':=?_) ?_ ?_
   rotate_left
   ·show Act.put _ (some 10) _ = _
    simp only [Act.put,ps_,i64_w,i32_w]
    rfl
   have hb2 : Below w8.heap.size w8 (w8.alloc (.cells #[.slice B1 e1.length d1,.slice B2 e2.length d2] 82)):=ba_ (Below.refl _ _) _
   have HS:=am_ (swept2 44 (wantIs 1) ranges_Cut_e ranges_Cut_w w8.heap.size B1 B2 d1 d2 e1 e2 (w8.alloc (.cells #[.slice B1 e1.length d1,.slice B2 e2.length d2] 82)) ((kc_ (heap_alloc_new w8 _) 0).trans rfl) ((kc_ (heap_alloc_new w8 _) 1).trans rfl) (Kd.C_below HC4.out hb2) (Kd.C_below HC5.out hb2) c)
   have HB9:=am_ (ba_ HB8.out (.cells #[.slice B1 e1.length d1,.slice B2 e2.length d2] 82))
   clear hb2
   refine one_ (i:=6) (N:=some 11) #[T_,T_,T_,T_,T_,T_,T_,F_] rfl rfl (by kernel_rfl) (by decide) (fun K hK => ?_)
   refine goes_ (N:=some 11) Try.func41 (by kernel_rfl) rfl #[.func (.func 44) #[] #[],.slice (some ⟨w8.heap.size,0,none⟩) 2 2] (by rfl) rfl rfl (by (try simp only [List.map_toArray,List.map_cons,List.map_nil]);first|done|rfl) ?_
   refine HS.out.mono ?_
   rintro e w9 ⟨v,rfl,ho,hb⟩
   refine ⟨_,rfl,?_⟩
   have HO9:=am_ ho
   have HBZ:=am_ (below_step HB9.out hb)
   have HS9:=hHeld.below hb
   clear ho hb hHeld
   refine hK.out _ _ (HS9) (fun hHeld => ?_)
   clear hK K
   refine norm_ (a':=?_) ?_ ?_
   rotate_left
   ·show Act.put _ (some 11) _ = _
    simp only [Act.put,ps_,i64_w,i32_w]
    rfl
   clear HS9
   refine pure_ (i:=7) (N:=some 4) (v:=?_) (a':=?_) #[T_,T_,T_,T_,T_,T_,T_,T_] rfl rfl (by kernel_rfl) (fun _ _ _ h => h) (Or.inl ⟨by rfl,?_⟩) ?_ ?_
   rotate_left;(intro w';go_simp;with_reducible rfl);rotate_left;(simp only [Act.put,ps_,i64_w,i32_w];rfl)
   refine done_ (by kernel_rfl) ?_
   go_wp2
   go_ret
   exact ⟨_,rfl,Kd.R_lower HO9.out HB9.out.size,HBZ.out⟩
  ·skip
   refine value_ (w1:=?_) (v:=?_) (by rfl) rfl ?_ ?_
   rotate_left 2
   ·go_simp
    constructor
    ·rfl
    ·rfl
   refine hK.out _ _ (hHeld.alloc _) (fun hHeld => ?_)
   clear hK K
   refine norm_ (a':=?_) ?_ ?_
   rotate_left
   ·show Act.put _ (some 8) _ = _
    simp only [Act.put,ps_,i64_w,i32_w]
    rfl
   have HO0 : Aside0 (Kd.C k67 (w1.alloc (.cells #[.int .u64 a1_0,.int .u64 a1_1] 67)) (some ⟨w1.heap.size,0,none⟩) 1 [(⟨a1_0,a1_1⟩ : S67)]):=⟨one_range (heap_alloc_new w1 _)⟩
   have HB2:=am_ (ba_ HBx.out (.cells #[.int .u64 a1_0,.int .u64 a1_1] 67))
   refine one_ (i:=1) (N:=some 6) #[T_,T_,T_,T_,F_,F_,F_,F_] rfl rfl (by kernel_rfl) (by decide) (fun K hK => ?_)
   refine goes_ (N:=some 6) Try.func43 (by kernel_rfl) rfl #[.slice A0 l0.length c0,.int .i64 1] (by rfl) rfl rfl (by (try simp only [List.map_toArray,List.map_cons,List.map_nil]);first|done|rfl) ?_
   refine (ranges_edges.calls k A0 c0 l0 1 e1 _ (Kd.C_below HR.out HB2.out) HC.out H1.out).mono ?_
   rintro e w2 ⟨v,rfl,ho,hb⟩
   obtain ⟨B1,d1,rfl,hl1,hC1⟩:=Kd.R_reads ho
   refine ⟨_,rfl,?_⟩
   have HB3:=am_ (below_step HB2.out hb)
   have HS2:=hHeld.below hb
   have HC1:=am_ hC1
   have HO:=am_ (Kd.C_below HO0.out hb)
   clear ho hC1 hl1 hb hHeld
   refine hK.out _ _ (HS2) (fun hHeld => ?_)
   clear hK K
   refine norm_ (a':=?_) ?_ ?_
   rotate_left
   ·show Act.put _ (some 6) _ = _
    simp only [Act.put,ps_,i64_w,i32_w]
    rfl
   clear HS2
   refine one_ (i:=4) (N:=some 9) #[T_,T_,T_,T_,T_,F_,F_,F_] rfl rfl (by kernel_rfl) (by decide) (fun K hK => ?_)
   refine goes_ (N:=some 9) Try.func43 (by kernel_rfl) rfl #[.slice (some ⟨w1.heap.size,0,none⟩) 1 1,.int .i64 (-1)] (by rfl) rfl rfl (by (try simp only [List.map_toArray,List.map_cons,List.map_nil]);first|done|rfl) ?_
   refine (ranges_edges.calls k _ 1 [(⟨a1_0,a1_1⟩ : S67)] (-1) e2 _ HO.out (Nat.le_refl _) H2.out).mono ?_
   rintro e w8 ⟨v,rfl,ho,hb⟩
   obtain ⟨B2,d2,rfl,hl2,hC3⟩:=Kd.R_reads ho
   refine ⟨_,rfl,?_⟩
   have HC4:=am_ (Kd.C_below HC1.out hb)
   have HC5:=am_ hC3
   have HB8:=am_ (below_step HB3.out hb)
   have HS8:=hHeld.below hb
   clear ho hC3 hl2 hb hHeld
   refine hK.out _ _ (HS8) (fun hHeld => ?_)
   clear hK K
   refine norm_ (a':=?_) ?_ ?_
   rotate_left
   ·show Act.put _ (some 9) _ = _
    simp only [Act.put,ps_,i64_w,i32_w]
    rfl
   clear HS8
   refine one_ (i:=5) (N:=some 10) #[T_,T_,T_,T_,T_,T_,F_,F_] rfl rfl (by kernel_rfl) (by decide) (fun K hK => ?_)
   refine value_ (w1:=?_) (v:=?_) (by rfl) rfl ?_ ?_
   rotate_left 2
   ·go_simp
    constructor
    ·rfl
    ·rfl
   refine hK.out _ _ (hHeld.alloc _) (fun hHeld => ?_)
   clear hK K
   refine norm_ (a':=?_) ?_ ?_
   rotate_left
   ·show Act.put _ (some 10) _ = _
    simp only [Act.put,ps_,i64_w,i32_w]
    rfl
   have hb2 : Below w8.heap.size w8 (w8.alloc (.cells #[.slice B1 e1.length d1,.slice B2 e2.length d2] 82)):=ba_ (Below.refl _ _) _
   have HS:=am_ (swept2 44 (wantIs 1) ranges_Cut_e ranges_Cut_w w8.heap.size B1 B2 d1 d2 e1 e2 (w8.alloc (.cells #[.slice B1 e1.length d1,.slice B2 e2.length d2] 82)) ((kc_ (heap_alloc_new w8 _) 0).trans rfl) ((kc_ (heap_alloc_new w8 _) 1).trans rfl) (Kd.C_below HC4.out hb2) (Kd.C_below HC5.out hb2) c)
   have HB9:=am_ (ba_ HB8.out (.cells #[.slice B1 e1.length d1,.slice B2 e2.length d2] 82))
   clear hb2
   refine one_ (i:=6) (N:=some 11) #[T_,T_,T_,T_,T_,T_,T_,F_] rfl rfl (by kernel_rfl) (by decide) (fun K hK => ?_)
   refine goes_ (N:=some 11) Try.func41 (by kernel_rfl) rfl #[.func (.func 44) #[] #[],.slice (some ⟨w8.heap.size,0,none⟩) 2 2] (by rfl) rfl rfl (by (try simp only [List.map_toArray,List.map_cons,List.map_nil]);first|done|rfl) ?_
   refine HS.out.mono ?_
   rintro e w9 ⟨v,rfl,ho,hb⟩
   refine ⟨_,rfl,?_⟩
   have HO9:=am_ ho
   have HBZ:=am_ (below_step HB9.out hb)
   have HS9:=hHeld.below hb
   clear ho hb hHeld
   refine hK.out _ _ (HS9) (fun hHeld => ?_)
   clear hK K
   refine norm_ (a':=?_) ?_ ?_
   rotate_left
   ·show Act.put _ (some 11) _ = _
    simp only [Act.put,ps_,i64_w,i32_w]
    rfl
   clear HS9
   refine pure_ (i:=7) (N:=some 4) (v:=?_) (a':=?_) #[T_,T_,T_,T_,T_,T_,T_,T_] rfl rfl (by kernel_rfl) (fun _ _ _ h => h) (Or.inl ⟨by rfl,?_⟩) ?_ ?_
   rotate_left;(intro w';go_simp;with_reducible rfl);rotate_left;(simp only [Act.put,ps_,i64_w,i32_w];rfl)
   refine done_ (by kernel_rfl) ?_
   go_wp2
   go_ret
   exact ⟨_,rfl,Kd.R_lower HO9.out HB9.out.size,HBZ.out⟩
 ·rw [if_neg c] at h3
  exact absurd h3 (by simp)

end Go.Proofs.Ytocagkmnefkniaa.PSqx
