-- printed for this claim by a program of the claim (wip/tools/pp.py over the kit's print)
import Derived.Test.YtocagkmnefkniaaPSqxx0
import Derived.Test.YtocagkmnefkniaaPSqxx1
import Derived.Test.YtocagkmnefkniaaPSqxx3
namespace Go.Proofs.Ytocagkmnefkniaa.PSqx
open Go.RowKit Go.Proofs.YtocagkmnefkniaaW.PrintWords Go.Proofs.YtocagkmnefkniaaW.PrintLast Go.Proofs.YtocagkmnefkniaaW.PrintMore
attribute [local go_sem] max2_int min2_int max_two min_two max_three min_three max_four min_four   -- for this text's walks alone
set_option linter.unusedVariables false
set_option linter.unusedSimpArgs false

attribute [local go_sem] isSome_setCell_
/-! ### sendq_Sent: function 16 -/
def sendq_Sent.f (k : Nat) (a0_0 : Int) (a0_1 : Int) (a0_2 : ByteArray) (l0_3 : List (S67)) (l0_4 : List (S67)) (a0_5 : Bool) (a0_6 : Bool) (a0_7 : Bool) (a1 : Int) (a2 : Int) (a3 : Bool) : Option (Int × Int × ByteArray × (List (S67)) × (List (S67)) × Bool × Bool × Bool):=(sendq_State_window.f a0_0 a0_1 a0_2 l0_3 l0_4 a0_5 a0_6 a0_7 a1 a2).bind fun bt131 => (if bt131.2.2 = true then ((ranges_Cut.f k l0_4 bt131.1 bt131.2.1).bind fun t135 => ((sendq_State_end.f a0_0 a0_1 a0_2 l0_3 t135 a0_5 a0_6 a0_7).bind fun t138 => (if a0_6 = true then (some (a0_0,mx a0_1 (mn (IntKind.u64.wrap (a1 + (IntKind.u64.wrap (mx 0 a2)))) t138),a0_2,l0_3,t135,a0_5,!a3,a0_7)) else (some (a0_0,mx a0_1 (mn (IntKind.u64.wrap (a1 + (IntKind.u64.wrap (mx 0 a2)))) t138),a0_2,l0_3,t135,a0_5,false,a0_7))))) else ((sendq_State_end.f a0_0 a0_1 a0_2 l0_3 l0_4 a0_5 a0_6 a0_7).bind fun t139 => (if a0_6 = true then (some (a0_0,mx a0_1 (mn (IntKind.u64.wrap (a1 + (IntKind.u64.wrap (mx 0 a2)))) t139),a0_2,l0_3,l0_4,a0_5,!a3,a0_7)) else (some (a0_0,mx a0_1 (mn (IntKind.u64.wrap (a1 + (IntKind.u64.wrap (mx 0 a2)))) t139),a0_2,l0_3,l0_4,a0_5,false,a0_7)))))
theorem sendq_Sent.mono : ∀ a0 a1 a2 a3 a4 a5 a6 a7 a8 a9 a10 k,LeO (sendq_Sent.f k a0 a1 a2 a3 a4 a5 a6 a7 a8 a9 a10) (sendq_Sent.f (k + 1) a0 a1 a2 a3 a4 a5 a6 a7 a8 a9 a10):=by
 intro a0 a1 a2 a3 a4 a5 a6 a7 a8 a9 a10 k
 unfold sendq_Sent.f
 repeat' first
   | (with_reducible exact ranges_Cut.mono _ _ _ _)
   | (with_reducible exact LeO.refl _)
   | (with_reducible exact LeO.none _)
   | (with_reducible refine LeO.ite ?_ ?_)
   | (with_reducible refine LeO.bind ?_ (fun _ => ?_))
   | exact ranges_Cut.mono _ _ _ _
   | exact LeO.none _
   | refine LeO.ite ?_ ?_
   | refine LeO.bind ?_ (fun _ => ?_)
def sendq_Sent.T4 : Bool × List (List Nat × List Nat):=(true,[([],[]),([0],[0]),([],[]),([],[]),([3],[3]),([4],[4]),([2,5],[2,5]),([],[]),([7],[7]),([6,8],[6,8]),([1,9],[1,9]),([0,1,2,3,4,5,6,7,8,9,10],[]),([11,10,8,0,1,2,3,4,5,6,7,8,9,10],[10,11])])
def sendq_Sent.B4 : List Nat:=[0,1,0,0,8,24,60,0,128,508,1023,2047,4095]
theorem sendq_Sent.tab4 : rtab .any (opsOf Try.f16 4) = sendq_Sent.T4:=by kernel_rfl
theorem sendq_Sent.bits4 : waitsOk sendq_Sent.T4.2 sendq_Sent.B4 = true:=by kernel_rfl
set_option maxHeartbeats 8000000 in
set_option maxRecDepth 100000 in
theorem sendq_Sent.calls (k : Nat) (a0_0 : Int) (a0_1 : Int) (a0_2 : ByteArray) (P0_3_ : Nat → Prop) (A0_3 : Option Addr) (c0_3 : Nat) (l0_3 : List (S67)) (P0_4_ : Nat → Prop) (A0_4 : Option Addr) (c0_4 : Nat) (l0_4 : List (S67)) (a0_5 : Bool) (a0_6 : Bool) (a0_7 : Bool) (a1 : Int) (a2 : Int) (a3 : Bool) (r1 : Int) (r2 : Int) (r3 : ByteArray) (r4 : List (S67)) (r5 : List (S67)) (r6 : Bool) (r7 : Bool) (r8 : Bool) (w : World) (hs0_3 : Kd.V k67 67 w w.heap.size (fun k_ => P0_3_ k_) (.slice A0_3 l0_3.length c0_3) l0_3) (hs0_4 : Kd.V k67 67 w w.heap.size (fun k_ => P0_4_ k_) (.slice A0_4 l0_4.length c0_4) l0_4) (h : sendq_Sent.f k a0_0 a0_1 a0_2 l0_3 l0_4 a0_5 a0_6 a0_7 a1 a2 a3 = some (r1,r2,r3,r4,r5,r6,r7,r8)) :
  Calls Try.prog 16 #[.agg #[.int .u64 a0_0,.int .u64 a0_1,.string a0_2,.slice A0_3 l0_3.length c0_3,.slice A0_4 l0_4.length c0_4,.bool a0_5,.bool a0_6,.bool a0_7],.int .u64 a1,.int .i64 a2,.bool a3] w fun e w' => ∃ v3_ v4_ : Value,e = .returned (.agg #[.int .u64 r1,.int .u64 r2,.string r3,v3_,v4_,.bool r6,.bool r7,.bool r8]) ∧ Kd.V k67 67 w' w.heap.size (fun k_ => ((P0_3_ k_ ∨ P0_4_ k_) ∨ w.heap.size ≤ k_)) v3_ r4 ∧ Kd.V k67 67 w' w.heap.size (fun k_ => ((P0_3_ k_ ∨ P0_4_ k_) ∨ w.heap.size ≤ k_)) v4_ r5 ∧ Below w.heap.size w w':=by
 have hu29:=Try.underlying29
 have hu67:=Try.underlying67
 have HO0_3:=am_ (show Kd.V k67 67 w w.heap.size (fun k_ => ((P0_3_ k_ ∨ P0_4_ k_) ∨ w.heap.size ≤ k_)) (.slice A0_3 l0_3.length c0_3) l0_3 from Kd.V_mono hs0_3 (fun k_ hk => .inl (.inl hk)))
 have HO0_4:=am_ (show Kd.V k67 67 w w.heap.size (fun k_ => ((P0_3_ k_ ∨ P0_4_ k_) ∨ w.heap.size ≤ k_)) (.slice A0_4 l0_4.length c0_4) l0_4 from Kd.V_mono hs0_4 (fun k_ hk => .inl (.inr hk)))
 have HB:=am_ (Below.refl w.heap.size w)
 have H : ((sendq_State_window.f a0_0 a0_1 a0_2 l0_3 l0_4 a0_5 a0_6 a0_7 a1 a2).bind fun bt131 => (if bt131.2.2 = true then ((ranges_Cut.f k l0_4 bt131.1 bt131.2.1).bind fun t135 => ((sendq_State_end.f a0_0 a0_1 a0_2 l0_3 t135 a0_5 a0_6 a0_7).bind fun t138 => (if a0_6 = true then (some (a0_0,mx a0_1 (mn (IntKind.u64.wrap (a1 + (IntKind.u64.wrap (mx 0 a2)))) t138),a0_2,l0_3,t135,a0_5,!a3,a0_7)) else (some (a0_0,mx a0_1 (mn (IntKind.u64.wrap (a1 + (IntKind.u64.wrap (mx 0 a2)))) t138),a0_2,l0_3,t135,a0_5,false,a0_7))))) else ((sendq_State_end.f a0_0 a0_1 a0_2 l0_3 l0_4 a0_5 a0_6 a0_7).bind fun t139 => (if a0_6 = true then (some (a0_0,mx a0_1 (mn (IntKind.u64.wrap (a1 + (IntKind.u64.wrap (mx 0 a2)))) t139),a0_2,l0_3,l0_4,a0_5,!a3,a0_7)) else (some (a0_0,mx a0_1 (mn (IntKind.u64.wrap (a1 + (IntKind.u64.wrap (mx 0 a2)))) t139),a0_2,l0_3,l0_4,a0_5,false,a0_7)))))) = some (r1,r2,r3,r4,r5,r6,r7,r8):=h
 clear h
 replace H:=Option.bind_eq_some_iff.mp H
 obtain ⟨⟨t131,t132,t133⟩,A50,H⟩:=H
 replace H : (if t133 = true then ((ranges_Cut.f k l0_4 t131 t132).bind fun t135 => ((sendq_State_end.f a0_0 a0_1 a0_2 l0_3 t135 a0_5 a0_6 a0_7).bind fun t138 => (if a0_6 = true then (some (a0_0,mx a0_1 (mn (IntKind.u64.wrap (a1 + (IntKind.u64.wrap (mx 0 a2)))) t138),a0_2,l0_3,t135,a0_5,!a3,a0_7)) else (some (a0_0,mx a0_1 (mn (IntKind.u64.wrap (a1 + (IntKind.u64.wrap (mx 0 a2)))) t138),a0_2,l0_3,t135,a0_5,false,a0_7))))) else ((sendq_State_end.f a0_0 a0_1 a0_2 l0_3 l0_4 a0_5 a0_6 a0_7).bind fun t139 => (if a0_6 = true then (some (a0_0,mx a0_1 (mn (IntKind.u64.wrap (a1 + (IntKind.u64.wrap (mx 0 a2)))) t139),a0_2,l0_3,l0_4,a0_5,!a3,a0_7)) else (some (a0_0,mx a0_1 (mn (IntKind.u64.wrap (a1 + (IntKind.u64.wrap (mx 0 a2)))) t139),a0_2,l0_3,l0_4,a0_5,false,a0_7))))) = some (r1,r2,r3,r4,r5,r6,r7,r8):=H
 have A5:=am_ A50
 clear A50
 by_cases c6 : t133 = true
 ·subst c6
  have H1 : ((ranges_Cut.f k l0_4 t131 t132).bind fun t135 => ((sendq_State_end.f a0_0 a0_1 a0_2 l0_3 t135 a0_5 a0_6 a0_7).bind fun t138 => (if a0_6 = true then (some (a0_0,mx a0_1 (mn (IntKind.u64.wrap (a1 + (IntKind.u64.wrap (mx 0 a2)))) t138),a0_2,l0_3,t135,a0_5,!a3,a0_7)) else (some (a0_0,mx a0_1 (mn (IntKind.u64.wrap (a1 + (IntKind.u64.wrap (mx 0 a2)))) t138),a0_2,l0_3,t135,a0_5,false,a0_7))))) = some (r1,r2,r3,r4,r5,r6,r7,r8):=by rw [if_pos rfl] at H;exact H
  clear H
  have H:=H1
  clear H1
  replace H:=Option.bind_eq_some_iff.mp H
  obtain ⟨t135,A70,H⟩:=H
  replace H : ((sendq_State_end.f a0_0 a0_1 a0_2 l0_3 t135 a0_5 a0_6 a0_7).bind fun t138 => (if a0_6 = true then (some (a0_0,mx a0_1 (mn (IntKind.u64.wrap (a1 + (IntKind.u64.wrap (mx 0 a2)))) t138),a0_2,l0_3,t135,a0_5,!a3,a0_7)) else (some (a0_0,mx a0_1 (mn (IntKind.u64.wrap (a1 + (IntKind.u64.wrap (mx 0 a2)))) t138),a0_2,l0_3,t135,a0_5,false,a0_7)))) = some (r1,r2,r3,r4,r5,r6,r7,r8):=H
  have A7:=am_ A70
  clear A70
  obtain ⟨ji8,hji8⟩ : ∃ j_ : Int,(mx 0 a2) = j_:=⟨_,rfl⟩
  replace H : ((sendq_State_end.f a0_0 a0_1 a0_2 l0_3 t135 a0_5 a0_6 a0_7).bind fun t138 => (if a0_6 = true then (some (a0_0,mx a0_1 (mn (IntKind.u64.wrap (a1 + (IntKind.u64.wrap (ji8)))) t138),a0_2,l0_3,t135,a0_5,!a3,a0_7)) else (some (a0_0,mx a0_1 (mn (IntKind.u64.wrap (a1 + (IntKind.u64.wrap (ji8)))) t138),a0_2,l0_3,t135,a0_5,false,a0_7)))) = some (r1,r2,r3,r4,r5,r6,r7,r8):=by first|(rw [hji8] at H;exact H)|(simp only [hji8] at H ⊢;exact H)
  (try rw [hji8] at A5)
  (try rw [hji8] at A7)
  (try (have hji8l : 0 ≤ ji8:=by (rw [← hji8];unfold mx;(repeat' split) <;> omega)))
  (try (have hji8m : 0 ≤ ji8:=by omega))
  have hji8_ : (if 0 < a2 then a2 else 0) = ji8:=hji8
  replace H:=Option.bind_eq_some_iff.mp H
  obtain ⟨t138,A90,H⟩:=H
  replace H : (if a0_6 = true then (some (a0_0,mx a0_1 (mn (IntKind.u64.wrap (a1 + (IntKind.u64.wrap (ji8)))) t138),a0_2,l0_3,t135,a0_5,!a3,a0_7)) else (some (a0_0,mx a0_1 (mn (IntKind.u64.wrap (a1 + (IntKind.u64.wrap (ji8)))) t138),a0_2,l0_3,t135,a0_5,false,a0_7))) = some (r1,r2,r3,r4,r5,r6,r7,r8):=H
  have A9:=am_ A90
  clear A90
  obtain ⟨ji10,hji10⟩ : ∃ j_ : Int,(mn (IntKind.u64.wrap (a1 + (IntKind.u64.wrap (ji8)))) t138) = j_:=⟨_,rfl⟩
  replace H : (if a0_6 = true then (some (a0_0,mx a0_1 (ji10),a0_2,l0_3,t135,a0_5,!a3,a0_7)) else (some (a0_0,mx a0_1 (ji10),a0_2,l0_3,t135,a0_5,false,a0_7))) = some (r1,r2,r3,r4,r5,r6,r7,r8):=by first|(rw [hji10] at H;exact H)|(simp only [hji10] at H ⊢;exact H)
  (try rw [hji10] at A5)
  (try rw [hji10] at A7)
  (try rw [hji10] at A9)
  have hji10_ : (if t138 < (IntKind.u64.wrap (a1 + (IntKind.u64.wrap (ji8)))) then t138 else (IntKind.u64.wrap (a1 + (IntKind.u64.wrap (ji8))))) = ji10:=hji10
  obtain ⟨ji11,hji11⟩ : ∃ j_ : Int,(mx a0_1 (ji10)) = j_:=⟨_,rfl⟩
  replace H : (if a0_6 = true then (some (a0_0,ji11,a0_2,l0_3,t135,a0_5,!a3,a0_7)) else (some (a0_0,ji11,a0_2,l0_3,t135,a0_5,false,a0_7))) = some (r1,r2,r3,r4,r5,r6,r7,r8):=by first|(rw [hji11] at H;exact H)|(simp only [hji11] at H ⊢;exact H)
  (try rw [hji11] at A5)
  (try rw [hji11] at A7)
  (try rw [hji11] at A9)
  have hji11_ : (if a0_1 < (ji10) then (ji10) else a0_1) = ji11:=hji11
  by_cases c12 : a0_6 = true
  ·subst c12
   have H1 : (some (a0_0,ji11,a0_2,l0_3,t135,a0_5,!a3,a0_7)) = some (r1,r2,r3,r4,r5,r6,r7,r8):=by rw [if_pos rfl] at H;exact H
   clear H
   have H:=H1
   clear H1
   simp only [Option.some.injEq,Prod.mk.injEq] at H
   obtain ⟨rfl,rfl,rfl,rfl,rfl,rfl,rfl,rfl⟩:=H
   go_enter Try.func16,Try.ntmps16
   try go_wp2_with (first|((with_reducible refine gate_dst (N:=4) rfl ?_);refine box_event ?hg (N:=4) ?hd (cs:=#[.int .u64 a0_0,.int .u64 a0_1,.string a0_2,.slice A0_3 l0_3.length c0_3,.slice A0_4 l0_4.length c0_4,.bool a0_5,.bool true,.bool a0_7]) (t:=29) ?hr ?_;(case hd => rfl);(case hg => rfl);(case hr => first|(go_simp;done)|(go_simp;rfl));intro gb129 hg w13 hbox hb;have n0_:=am_ (Kd.V_below (Kd.V_elderB (by (with_reducible repeat (first|apply Kd.V_alloc|apply Kd.V_drewN|apply Kd.V_drew));exact HO0_3.out) gb129 (Nat.le_of_eq hg.symm)) hb);have n1_:=am_ (Kd.V_below (Kd.V_elderB (by (with_reducible repeat (first|apply Kd.V_alloc|apply Kd.V_drewN|apply Kd.V_drew));exact HO0_4.out) gb129 (Nat.le_of_eq hg.symm)) hb);have n2_:=am_ (below_step (by repeat (first|(with_reducible first|exact HB.out|apply ba_|apply pn_|apply pd_)|exact HB.out)) hb);have n3_:=am_ (hbox);have n4_:=am_ ((by rw [hg];exact (below_size (by repeat (first|(with_reducible first|exact HB.out|apply ba_|apply pn_|apply pd_)|exact HB.out))) : w.heap.size ≤ gb129));have n5_:=am_ ((by rw [hg];exact (below_size (by repeat (first|(with_reducible first|exact HB.out|apply ba_|apply pn_|apply pd_)|exact HB.out))) : w.heap.size ≤ gb129));clear HO0_3;clear HO0_4;clear HB;have HO0_3:=n0_;have HO0_4:=n1_;have HB:=n2_;have BK129:=n3_;have GW129:=n4_;have GE129:=n5_;clear n0_ n1_ n2_ n3_ n4_ n5_;clear hb hbox hg)|((with_reducible refine gate_dst (N:=8) rfl ?_);refine box_event ?hg (N:=8) ?hd (cs:=kk0_) (t:=29) ?hr ?_;(case hd => rfl);(case hg => rfl);(case hr => first|(go_simp;done)|(go_simp;rfl));intro gb130 hg w14 hbox hb;have n0_:=am_ (Kd.V_below (Kd.V_elderB (by (with_reducible repeat (first|apply Kd.V_alloc|apply Kd.V_drewN|apply Kd.V_drew));exact HO0_3.out) gb130 (Nat.le_of_eq hg.symm)) hb);have n1_:=am_ (Kd.V_below (Kd.V_elderB (by (with_reducible repeat (first|apply Kd.V_alloc|apply Kd.V_drewN|apply Kd.V_drew));exact HO0_4.out) gb130 (Nat.le_of_eq hg.symm)) hb);have n2_:=am_ (blk_below (g:=gb129) (o:=.cells #[.int .u64 a0_0,.int .u64 a0_1,.string a0_2,.slice A0_3 l0_3.length c0_3,.slice A0_4 l0_4.length c0_4,.bool a0_5,.bool true,.bool a0_7] 29 (0,0)) (by (with_reducible repeat (first|refine kn_ ?_ _|refine kd_ ?_|refine ka_ ?_ _));exact BK129.out) hb);have n3_:=am_ (below_step (by repeat (first|(with_reducible first|exact HB.out|apply ba_|apply pn_|apply pd_|refine bs_ ?_ GE129.out)|exact HB.out)) hb);have n4_:=am_ (hbox);have n5_:=am_ ((by rw [hg];exact (below_size (by repeat (first|(with_reducible first|exact HB.out|apply ba_|apply pn_|apply pd_|refine bs_ ?_ GE129.out)|exact HB.out))) : w.heap.size ≤ gb130));have n6_:=am_ ((by rw [hg];exact (below_size (by repeat (first|(with_reducible first|exact HB.out|apply ba_|apply pn_|apply pd_|refine bs_ ?_ GE129.out)|exact HB.out))) : w.heap.size ≤ gb130));have n7_:=am_ ((by rw [hg];exact Nat.ne_of_lt (blk_lt (g:=gb129) (o:=.cells #[.int .u64 a0_0,.int .u64 a0_1,.string a0_2,.slice A0_3 l0_3.length c0_3,.slice A0_4 l0_4.length c0_4,.bool a0_5,.bool true,.bool a0_7] 29 (0,0)) (by (with_reducible repeat (first|refine kn_ ?_ _|refine kd_ ?_|refine ka_ ?_ _));exact BK129.out)) : gb129 ≠ gb130));have n8_:=am_ ((by rw [hg];exact Nat.ne_of_gt (blk_lt (g:=gb129) (o:=.cells #[.int .u64 a0_0,.int .u64 a0_1,.string a0_2,.slice A0_3 l0_3.length c0_3,.slice A0_4 l0_4.length c0_4,.bool a0_5,.bool true,.bool a0_7] 29 (0,0)) (by (with_reducible repeat (first|refine kn_ ?_ _|refine kd_ ?_|refine ka_ ?_ _));exact BK129.out)) : gb130 ≠ gb129));clear HO0_3;clear HO0_4;clear BK129;clear HB;have HO0_3:=n0_;have HO0_4:=n1_;have BK129:=n2_;have HB:=n3_;have BK130:=n4_;have GW130:=n5_;have GE130:=n6_;have NB129_130:=n7_;have NB130_129:=n8_;clear n0_ n1_ n2_ n3_ n4_ n5_ n6_ n7_ n8_;clear hb hbox hg;have hnb15:=NB129_130.out;have hnc15:=NB130_129.out;have hcz16_0 : w14.cell? ⟨gb129,0,none⟩ = some (.int .u64 a0_0):=(kc_ BK129.out 0).trans rfl;have hcz16_1 : w14.cell? ⟨gb129,1,none⟩ = some (.int .u64 a0_1):=(kc_ BK129.out 1).trans rfl;have hcz16_2 : w14.cell? ⟨gb129,2,none⟩ = some (.string a0_2):=(kc_ BK129.out 2).trans rfl;have hcz16_3 : w14.cell? ⟨gb129,3,none⟩ = some (.slice A0_3 l0_3.length c0_3):=(kc_ BK129.out 3).trans rfl;have hcz16_4 : w14.cell? ⟨gb129,4,none⟩ = some (.slice A0_4 l0_4.length c0_4):=(kc_ BK129.out 4).trans rfl;have hcz16_5 : w14.cell? ⟨gb129,5,none⟩ = some (.bool a0_5):=(kc_ BK129.out 5).trans rfl;have hcz16_6 : w14.cell? ⟨gb129,6,none⟩ = some (.bool true):=(kc_ BK129.out 6).trans rfl;have hcz16_7 : w14.cell? ⟨gb129,7,none⟩ = some (.bool a0_7):=(kc_ BK129.out 7).trans rfl;have hfz16_0:=blk_frozen BK129.out 0;have hfz16_1:=blk_frozen BK129.out 1;have hfz16_2:=blk_frozen BK129.out 2;have hfz16_3:=blk_frozen BK129.out 3;have hfz16_4:=blk_frozen BK129.out 4;have hfz16_5:=blk_frozen BK129.out 5;have hfz16_6:=blk_frozen BK129.out 6;have hfz16_7:=blk_frozen BK129.out 7; skip)|((with_reducible refine gate_callee (f:=32) rfl ?_);refine goesL_ (some 15) rfl rfl Try.func32 (by kernel_rfl) rfl #[.agg #[.int .u64 a0_0,.int .u64 a0_1,.string a0_2,.slice A0_3 l0_3.length c0_3,.slice A0_4 l0_4.length c0_4,.bool a0_5,.bool true,.bool a0_7],.int .u64 a1,.int .i64 a2] rfl (by (try simp only [List.map_toArray,List.map_cons,List.map_nil]);first|done|rfl|(simp only [List.length_drop,List.length_take];rfl)) ?_;(with_reducible refine (sendq_State_window.calls a0_0 a0_1 a0_2 _ _ l0_3 _ _ l0_4 a0_5 true a0_7 a1 a2 t131 t132 true _ ?side1 ?side2 ?side3 ?side4 A5.out).mono ?_);(case side1 => repeat (first|exact (Kd.V_reads' HO0_3.out).2.2|(with_reducible refine Kd.C_alloc ?_ _)|(with_reducible refine Kd.C_drewN ?_ _)|(with_reducible refine Kd.C_drew ?_)));(case side2 => exact (Kd.V_reads' HO0_3.out).2.1);(case side3 => repeat (first|exact (Kd.V_reads' HO0_4.out).2.2|(with_reducible refine Kd.C_alloc ?_ _)|(with_reducible refine Kd.C_drewN ?_ _)|(with_reducible refine Kd.C_drew ?_)));(case side4 => exact (Kd.V_reads' HO0_4.out).2.1);rintro e w17 ⟨rfl,hb⟩;refine ⟨_,rfl,?_⟩;have n0_:=am_ (Kd.V_below (by (with_reducible repeat (first|apply Kd.V_alloc|apply Kd.V_drewN|apply Kd.V_drew));exact HO0_3.out) hb);have n1_:=am_ (Kd.V_below (by (with_reducible repeat (first|apply Kd.V_alloc|apply Kd.V_drewN|apply Kd.V_drew));exact HO0_4.out) hb);have n2_:=am_ (blk_below (g:=gb129) (o:=.cells #[.int .u64 a0_0,.int .u64 a0_1,.string a0_2,.slice A0_3 l0_3.length c0_3,.slice A0_4 l0_4.length c0_4,.bool a0_5,.bool true,.bool a0_7] 29 (0,0)) (by (with_reducible repeat (first|refine kn_ ?_ _|refine kd_ ?_|refine ka_ ?_ _));exact BK129.out) hb);have n3_:=am_ (blk_below (g:=gb130) (o:=.cells kk0_ 29 (0,0)) (by (with_reducible repeat (first|refine kn_ ?_ _|refine kd_ ?_|refine ka_ ?_ _));exact BK130.out) hb);have n4_:=am_ (below_step (by repeat (first|(with_reducible first|exact HB.out|apply ba_|apply pn_|apply pd_|refine bs_ ?_ GE129.out|refine bs_ ?_ GE130.out)|exact HB.out)) hb);clear HO0_3;clear HO0_4;clear BK129;clear BK130;clear HB;have HO0_3:=n0_;have HO0_4:=n1_;have BK129:=n2_;have BK130:=n3_;have HB:=n4_;clear n0_ n1_ n2_ n3_ n4_;(try clear hb);(try clear hb2);(try clear hk);(try clear hi))|((with_reducible refine gate_dst (N:=9) rfl ?_);refine box_event ?hg (N:=9) ?hd (cs:=kk1_) (t:=67) ?hr ?_;(case hd => rfl);(case hg => rfl);(case hr => first|(go_simp;done)|(go_simp;rfl));intro gb134 hg w18 hbox hb;have n0_:=am_ (Kd.V_below (Kd.V_elderB (by (with_reducible repeat (first|apply Kd.V_alloc|apply Kd.V_drewN|apply Kd.V_drew));exact HO0_3.out) gb134 (Nat.le_of_eq hg.symm)) hb);have n1_:=am_ (Kd.V_below (Kd.V_elderB (by (with_reducible repeat (first|apply Kd.V_alloc|apply Kd.V_drewN|apply Kd.V_drew));exact HO0_4.out) gb134 (Nat.le_of_eq hg.symm)) hb);have n2_:=am_ (blk_below (g:=gb129) (o:=.cells #[.int .u64 a0_0,.int .u64 a0_1,.string a0_2,.slice A0_3 l0_3.length c0_3,.slice A0_4 l0_4.length c0_4,.bool a0_5,.bool true,.bool a0_7] 29 (0,0)) (by (with_reducible repeat (first|refine kn_ ?_ _|refine kd_ ?_|refine ka_ ?_ _));exact BK129.out) hb);have n3_:=am_ (blk_below (g:=gb130) (o:=.cells kk0_ 29 (0,0)) (by (with_reducible repeat (first|refine kn_ ?_ _|refine kd_ ?_|refine ka_ ?_ _));exact BK130.out) hb);have n4_:=am_ (below_step (by repeat (first|(with_reducible first|exact HB.out|apply ba_|apply pn_|apply pd_|refine bs_ ?_ GE129.out|refine bs_ ?_ GE130.out)|exact HB.out)) hb);have n5_:=am_ (hbox);have n6_:=am_ ((by rw [hg];exact (below_size (by repeat (first|(with_reducible first|exact HB.out|apply ba_|apply pn_|apply pd_|refine bs_ ?_ GE129.out|refine bs_ ?_ GE130.out)|exact HB.out))) : w.heap.size ≤ gb134));have n7_:=am_ ((by rw [hg];exact (below_size (by repeat (first|(with_reducible first|exact HB.out|apply ba_|apply pn_|apply pd_|refine bs_ ?_ GE129.out|refine bs_ ?_ GE130.out)|exact HB.out))) : w.heap.size ≤ gb134));have n8_:=am_ ((by rw [hg];exact Nat.ne_of_lt (blk_lt (g:=gb129) (o:=.cells #[.int .u64 a0_0,.int .u64 a0_1,.string a0_2,.slice A0_3 l0_3.length c0_3,.slice A0_4 l0_4.length c0_4,.bool a0_5,.bool true,.bool a0_7] 29 (0,0)) (by (with_reducible repeat (first|refine kn_ ?_ _|refine kd_ ?_|refine ka_ ?_ _));exact BK129.out)) : gb129 ≠ gb134));have n9_:=am_ ((by rw [hg];exact Nat.ne_of_gt (blk_lt (g:=gb129) (o:=.cells #[.int .u64 a0_0,.int .u64 a0_1,.string a0_2,.slice A0_3 l0_3.length c0_3,.slice A0_4 l0_4.length c0_4,.bool a0_5,.bool true,.bool a0_7] 29 (0,0)) (by (with_reducible repeat (first|refine kn_ ?_ _|refine kd_ ?_|refine ka_ ?_ _));exact BK129.out)) : gb134 ≠ gb129));have n10_:=am_ ((by rw [hg];exact Nat.ne_of_lt (blk_lt (g:=gb130) (o:=.cells kk0_ 29 (0,0)) (by (with_reducible repeat (first|refine kn_ ?_ _|refine kd_ ?_|refine ka_ ?_ _));exact BK130.out)) : gb130 ≠ gb134));have n11_:=am_ ((by rw [hg];exact Nat.ne_of_gt (blk_lt (g:=gb130) (o:=.cells kk0_ 29 (0,0)) (by (with_reducible repeat (first|refine kn_ ?_ _|refine kd_ ?_|refine ka_ ?_ _));exact BK130.out)) : gb134 ≠ gb130));clear HO0_3;clear HO0_4;clear BK129;clear BK130;clear HB;have HO0_3:=n0_;have HO0_4:=n1_;have BK129:=n2_;have BK130:=n3_;have HB:=n4_;have BK134:=n5_;have GW134:=n6_;have GE134:=n7_;have NB129_134:=n8_;have NB134_129:=n9_;have NB130_134:=n10_;have NB134_130:=n11_;clear n0_ n1_ n2_ n3_ n4_ n5_ n6_ n7_ n8_ n9_ n10_ n11_;clear hb hbox hg;have hnb19:=NB134_129.out;have hnc19:=NB129_134.out;have hnb20:=NB134_130.out;have hnc20:=NB130_134.out;have hcz21_0 : w18.cell? ⟨gb134,0,none⟩ = some (.int .u64 0):=(kc_ BK134.out 0).trans rfl;have hcz21_1 : w18.cell? ⟨gb134,1,none⟩ = some (.int .u64 0):=(kc_ BK134.out 1).trans rfl;have hfz21_0:=blk_frozen BK134.out 0;have hfz21_1:=blk_frozen BK134.out 1;have hcz22_0 : w18.cell? ⟨gb129,0,none⟩ = some (.int .u64 a0_0):=(kc_ BK129.out 0).trans rfl;have hcz22_1 : w18.cell? ⟨gb129,1,none⟩ = some (.int .u64 a0_1):=(kc_ BK129.out 1).trans rfl;have hcz22_2 : w18.cell? ⟨gb129,2,none⟩ = some (.string a0_2):=(kc_ BK129.out 2).trans rfl;have hcz22_3 : w18.cell? ⟨gb129,3,none⟩ = some (.slice A0_3 l0_3.length c0_3):=(kc_ BK129.out 3).trans rfl;have hcz22_4 : w18.cell? ⟨gb129,4,none⟩ = some (.slice A0_4 l0_4.length c0_4):=(kc_ BK129.out 4).trans rfl;have hcz22_5 : w18.cell? ⟨gb129,5,none⟩ = some (.bool a0_5):=(kc_ BK129.out 5).trans rfl;have hcz22_6 : w18.cell? ⟨gb129,6,none⟩ = some (.bool true):=(kc_ BK129.out 6).trans rfl;have hcz22_7 : w18.cell? ⟨gb129,7,none⟩ = some (.bool a0_7):=(kc_ BK129.out 7).trans rfl;have hfz22_0:=blk_frozen BK129.out 0;have hfz22_1:=blk_frozen BK129.out 1;have hfz22_2:=blk_frozen BK129.out 2;have hfz22_3:=blk_frozen BK129.out 3;have hfz22_4:=blk_frozen BK129.out 4;have hfz22_5:=blk_frozen BK129.out 5;have hfz22_6:=blk_frozen BK129.out 6;have hfz22_7:=blk_frozen BK129.out 7; skip)|((with_reducible refine gate_callee (f:=33) rfl ?_);refine goesL_ (some 22) rfl rfl Try.func33 (by kernel_rfl) rfl #[.slice A0_4 l0_4.length c0_4,.agg #[.int .u64 t131,.int .u64 t132]] rfl (by (try simp only [List.map_toArray,List.map_cons,List.map_nil]);first|done|rfl|(simp only [List.length_drop,List.length_take];rfl)) ?_;(with_reducible refine (ranges_Cut.calls k _ _ l0_4 t131 t132 t135 _ ?side1 ?side2 A7.out).mono ?_);(case side1 => refine (Kd.V_reads' (e:=67) (base:=w.heap.size) (ok:=fun _ => True) (n:=l0_4.length) (c:=c0_4) ?_).2.2;exact (by (with_reducible repeat (first|apply Kd.V_alloc|apply Kd.V_drewN|apply Kd.V_drew));exact (Kd.V_mono (Kd.V_far (p:=⟨gb134,1,none⟩) (Kd.V_far (p:=⟨gb134,0,none⟩) (Kd.V_mono HO0_4.out (fun k_ hk => (⟨hk,hk.2⟩ : _ ∧ k_ ≠ gb134))) (fun _ hk => hk.2) (.int .u64 t131)) (fun _ hk => hk.2) (.int .u64 t132)) (fun _ _ => trivial))));(case side2 => exact (Kd.V_reads' HO0_4.out).2.1);rintro e w23 ⟨v136,rfl,ho0,hb⟩;refine ⟨_,rfl,?_⟩;have n0_:=am_ (Kd.V_elder' (by (with_reducible repeat (first|apply Kd.V_alloc|apply Kd.V_drewN|apply Kd.V_drew));exact (Kd.V_mono (Kd.V_far (p:=⟨gb134,1,none⟩) (Kd.V_far (p:=⟨gb134,0,none⟩) (Kd.V_mono HO0_3.out (fun k_ hk => (⟨hk,hk.2⟩ : _ ∧ k_ ≠ gb134))) (fun _ hk => hk.2) (.int .u64 t131)) (fun _ hk => hk.2) (.int .u64 t132)) (fun _ h_ => h_.1))) (Kd.R_base ho0) hb);have n1_:=am_ (Kd.V_elder' (by (with_reducible repeat (first|apply Kd.V_alloc|apply Kd.V_drewN|apply Kd.V_drew));exact (Kd.V_mono (Kd.V_far (p:=⟨gb134,1,none⟩) (Kd.V_far (p:=⟨gb134,0,none⟩) (Kd.V_mono HO0_4.out (fun k_ hk => (⟨hk,hk.2⟩ : _ ∧ k_ ≠ gb134))) (fun _ hk => hk.2) (.int .u64 t131)) (fun _ hk => hk.2) (.int .u64 t132)) (fun _ h_ => h_.1))) (Kd.R_base ho0) hb);have n2_:=am_ (Kd.R_lower (Kd.R_newB (Kd.R_newM (M:=fun k_ => (w.heap.size ≤ k_)) ho0 (below_size (by repeat (first|(with_reducible first|exact HB.out|apply ba_|apply pn_|apply pd_|refine bs_ ?_ GE129.out|refine bs_ ?_ GE130.out|refine bs_ ?_ GE134.out)|exact HB.out))) (fun k_ h_ => h_)) (g:=gb134) (o:=.cells #[.int .u64 t131,.int .u64 t132] 67 (0,0)) (by (with_reducible repeat (first|refine kn_ ?_ _|refine kd_ ?_|refine ka_ ?_ _));refine blk_put (cs:=#[.int .u64 t131,.int .u64 0]) ?_ 1 _ rfl;(with_reducible repeat (first|refine kn_ ?_ _|refine kd_ ?_|refine ka_ ?_ _));refine blk_put (cs:=kk1_) ?_ 0 _ rfl;(with_reducible repeat (first|refine kn_ ?_ _|refine kd_ ?_|refine ka_ ?_ _));exact BK134.out)) (below_size (by repeat (first|(with_reducible first|exact HB.out|apply ba_|apply pn_|apply pd_|refine bs_ ?_ GE129.out|refine bs_ ?_ GE130.out|refine bs_ ?_ GE134.out)|exact HB.out))));have n3_:=am_ (blk_below (g:=gb129) (o:=.cells #[.int .u64 a0_0,.int .u64 a0_1,.string a0_2,.slice A0_3 l0_3.length c0_3,.slice A0_4 l0_4.length c0_4,.bool a0_5,.bool true,.bool a0_7] 29 (0,0)) (by (with_reducible repeat (first|refine kn_ ?_ _|refine kd_ ?_|refine ka_ ?_ _));refine blk_far ?_ NB129_134.out _;(with_reducible repeat (first|refine kn_ ?_ _|refine kd_ ?_|refine ka_ ?_ _));refine blk_far ?_ NB129_134.out _;(with_reducible repeat (first|refine kn_ ?_ _|refine kd_ ?_|refine ka_ ?_ _));exact BK129.out) hb);have n4_:=am_ (blk_below (g:=gb130) (o:=.cells kk0_ 29 (0,0)) (by (with_reducible repeat (first|refine kn_ ?_ _|refine kd_ ?_|refine ka_ ?_ _));refine blk_far ?_ NB130_134.out _;(with_reducible repeat (first|refine kn_ ?_ _|refine kd_ ?_|refine ka_ ?_ _));refine blk_far ?_ NB130_134.out _;(with_reducible repeat (first|refine kn_ ?_ _|refine kd_ ?_|refine ka_ ?_ _));exact BK130.out) hb);have n5_:=am_ (blk_below (g:=gb134) (o:=.cells #[.int .u64 t131,.int .u64 t132] 67 (0,0)) (by (with_reducible repeat (first|refine kn_ ?_ _|refine kd_ ?_|refine ka_ ?_ _));refine blk_put (cs:=#[.int .u64 t131,.int .u64 0]) ?_ 1 _ rfl;(with_reducible repeat (first|refine kn_ ?_ _|refine kd_ ?_|refine ka_ ?_ _));refine blk_put (cs:=kk1_) ?_ 0 _ rfl;(with_reducible repeat (first|refine kn_ ?_ _|refine kd_ ?_|refine ka_ ?_ _));exact BK134.out) hb);have n6_:=am_ (below_step (by repeat (first|(with_reducible first|exact HB.out|apply ba_|apply pn_|apply pd_|refine bs_ ?_ GE129.out|refine bs_ ?_ GE130.out|refine bs_ ?_ GE134.out)|exact HB.out)) hb);clear HO0_3;clear HO0_4;clear BK129;clear BK130;clear BK134;clear HB;have HO0_3:=n0_;have HO0_4:=n1_;have HO137:=n2_;have BK129:=n3_;have BK130:=n4_;have BK134:=n5_;have HB:=n6_;clear n0_ n1_ n2_ n3_ n4_ n5_ n6_;(try clear hb);(try clear hb2);(try clear hk);(try clear hi);(try clear ho0);obtain ⟨Ao24,co24,eo24⟩:=Kd.R_slice HO137.out;subst eo24;have hcz25_0 : w23.cell? ⟨gb129,0,none⟩ = some (.int .u64 a0_0):=(kc_ BK129.out 0).trans rfl;have hcz25_1 : w23.cell? ⟨gb129,1,none⟩ = some (.int .u64 a0_1):=(kc_ BK129.out 1).trans rfl;have hcz25_2 : w23.cell? ⟨gb129,2,none⟩ = some (.string a0_2):=(kc_ BK129.out 2).trans rfl;have hcz25_3 : w23.cell? ⟨gb129,3,none⟩ = some (.slice A0_3 l0_3.length c0_3):=(kc_ BK129.out 3).trans rfl;have hcz25_4 : w23.cell? ⟨gb129,4,none⟩ = some (.slice A0_4 l0_4.length c0_4):=(kc_ BK129.out 4).trans rfl;have hcz25_5 : w23.cell? ⟨gb129,5,none⟩ = some (.bool a0_5):=(kc_ BK129.out 5).trans rfl;have hcz25_6 : w23.cell? ⟨gb129,6,none⟩ = some (.bool true):=(kc_ BK129.out 6).trans rfl;have hcz25_7 : w23.cell? ⟨gb129,7,none⟩ = some (.bool a0_7):=(kc_ BK129.out 7).trans rfl;have hfz25_0:=blk_frozen BK129.out 0;have hfz25_1:=blk_frozen BK129.out 1;have hfz25_2:=blk_frozen BK129.out 2;have hfz25_3:=blk_frozen BK129.out 3;have hfz25_4:=blk_frozen BK129.out 4;have hfz25_5:=blk_frozen BK129.out 5;have hfz25_6:=blk_frozen BK129.out 6;have hfz25_7:=blk_frozen BK129.out 7; skip))
   have n0_ : Aside0 (Kd.V k67 67 (w23.setCell ⟨gb129,4,none⟩ (.slice Ao24 t135.length co24)) w.heap.size (fun k_ => ((P0_3_ k_ ∨ P0_4_ k_) ∨ w.heap.size ≤ k_) ∧ some k_ ≠ (.slice Ao24 t135.length co24 : Value).ownBlock ∧ k_ ≠ gb129 ∧ k_ ≠ gb130 ∧ k_ ≠ gb134) (.slice A0_3 l0_3.length c0_3) l0_3):=⟨by (with_reducible repeat (first|apply Kd.V_alloc|apply Kd.V_drewN|apply Kd.V_drew));exact Kd.V_mono (Kd.V_far (p:=⟨gb129,4,none⟩) (Kd.V_mono HO0_3.out (fun k_ hk => (⟨hk,hk.1.1.1.2⟩ : _ ∧ k_ ≠ gb129))) (fun _ hk => hk.2) (.slice Ao24 t135.length co24)) (fun _ hk => ⟨hk.1.1.1.1.1,⟨hk.1.2,⟨hk.1.1.1.1.2,⟨hk.1.1.1.2,hk.1.1.2⟩⟩⟩⟩)⟩
   have n1_ : Aside0 (Kd.V k67 67 (w23.setCell ⟨gb129,4,none⟩ (.slice Ao24 t135.length co24)) w.heap.size (fun k_ => ((P0_3_ k_ ∨ P0_4_ k_) ∨ w.heap.size ≤ k_) ∧ some k_ ≠ (.slice Ao24 t135.length co24 : Value).ownBlock ∧ k_ ≠ gb129 ∧ k_ ≠ gb130 ∧ k_ ≠ gb134) (.slice A0_4 l0_4.length c0_4) l0_4):=⟨by (with_reducible repeat (first|apply Kd.V_alloc|apply Kd.V_drewN|apply Kd.V_drew));exact Kd.V_mono (Kd.V_far (p:=⟨gb129,4,none⟩) (Kd.V_mono HO0_4.out (fun k_ hk => (⟨hk,hk.1.1.1.2⟩ : _ ∧ k_ ≠ gb129))) (fun _ hk => hk.2) (.slice Ao24 t135.length co24)) (fun _ hk => ⟨hk.1.1.1.1.1,⟨hk.1.2,⟨hk.1.1.1.1.2,⟨hk.1.1.1.2,hk.1.1.2⟩⟩⟩⟩)⟩
   have n2_ : Aside0 (Kd.R k67 67 (w23.setCell ⟨gb129,4,none⟩ (.slice Ao24 t135.length co24)) w.heap.size (fun k_ => (w.heap.size ≤ k_) ∧ k_ ≠ gb134) (.slice Ao24 t135.length co24) t135):=⟨by (with_reducible repeat (first|apply ra_|apply rn_|apply rd_));exact Kd.R_mono (Kd.R_far (p:=⟨gb129,4,none⟩) (Kd.R_types HO137.out BK129.out (by decide)) (fun _ hk => hk.2) (.slice Ao24 t135.length co24)) (fun _ hk => ⟨hk.1.1.1,hk.1.2⟩)⟩
   have n3_ : Aside0 ((w23.setCell ⟨gb129,4,none⟩ (.slice Ao24 t135.length co24)).heap[gb129]? = some (.cells #[.int .u64 a0_0,.int .u64 a0_1,.string a0_2,.slice A0_3 l0_3.length c0_3,.slice Ao24 t135.length co24,.bool a0_5,.bool true,.bool a0_7] 29 (0,0))):=⟨by (with_reducible repeat (first|refine kn_ ?_ _|refine kd_ ?_|refine ka_ ?_ _));refine blk_put (cs:=#[.int .u64 a0_0,.int .u64 a0_1,.string a0_2,.slice A0_3 l0_3.length c0_3,.slice A0_4 l0_4.length c0_4,.bool a0_5,.bool true,.bool a0_7]) ?_ 4 _ rfl;(with_reducible repeat (first|refine kn_ ?_ _|refine kd_ ?_|refine ka_ ?_ _));exact BK129.out⟩
   have n4_ : Aside0 ((w23.setCell ⟨gb129,4,none⟩ (.slice Ao24 t135.length co24)).heap[gb130]? = some (.cells kk0_ 29 (0,0))):=⟨by (with_reducible repeat (first|refine kn_ ?_ _|refine kd_ ?_|refine ka_ ?_ _));refine blk_far ?_ NB130_129.out _;(with_reducible repeat (first|refine kn_ ?_ _|refine kd_ ?_|refine ka_ ?_ _));exact BK130.out⟩
   have n5_ : Aside0 ((w23.setCell ⟨gb129,4,none⟩ (.slice Ao24 t135.length co24)).heap[gb134]? = some (.cells #[.int .u64 t131,.int .u64 t132] 67 (0,0))):=⟨by (with_reducible repeat (first|refine kn_ ?_ _|refine kd_ ?_|refine ka_ ?_ _));refine blk_far ?_ NB134_129.out _;(with_reducible repeat (first|refine kn_ ?_ _|refine kd_ ?_|refine ka_ ?_ _));exact BK134.out⟩
   have n6_ : Aside0 (Below w.heap.size w (w23.setCell ⟨gb129,4,none⟩ (.slice Ao24 t135.length co24))):=⟨by repeat (first|(with_reducible first|exact HB.out|apply ba_|apply pn_|apply pd_|refine bs_ ?_ GE129.out|refine bs_ ?_ GE130.out|refine bs_ ?_ GE134.out)|exact HB.out)⟩
   (try clear HO0_3)
   (try clear HO0_4)
   (try clear HO137)
   (try clear BK129)
   (try clear BK130)
   (try clear BK134)
   (try clear HB)
   generalize (w23.setCell ⟨gb129,4,none⟩ (.slice Ao24 t135.length co24)) = w26 at n0_ n1_ n2_ n3_ n4_ n5_ n6_ ⊢
   have HO0_3:=n0_
   have HO0_4:=n1_
   have HO137:=n2_
   have BK129:=n3_
   have BK130:=n4_
   have BK134:=n5_
   have HB:=n6_
   clear n0_ n1_ n2_ n3_ n4_ n5_ n6_
   have n0_:=am_ (Kd.V_drew HO0_3.out)
   have n1_:=am_ (Kd.V_drew HO0_4.out)
   have n2_:=am_ (rd_ HO137.out)
   have n3_:=am_ (kd_ BK129.out)
   have n4_:=am_ (kd_ BK130.out)
   have n5_:=am_ (kd_ BK134.out)
   have n6_:=am_ (pd_ HB.out)
   clear HO0_3
   clear HO0_4
   clear HO137
   clear BK129
   clear BK130
   clear BK134
   clear HB
   have HO0_3:=n0_
   have HO0_4:=n1_
   have HO137:=n2_
   have BK129:=n3_
   have BK130:=n4_
   have BK134:=n5_
   have HB:=n6_
   clear n0_ n1_ n2_ n3_ n4_ n5_ n6_
   refine start_ (n:=13) (S:=fun w' => w'.cell? ⟨gb129,0,none⟩ = some (.int .u64 a0_0) ∧ w'.cell? ⟨gb129,1,none⟩ = some (.int .u64 a0_1) ∧ w'.cell? ⟨gb129,2,none⟩ = some (.string a0_2) ∧ w'.cell? ⟨gb129,3,none⟩ = some (.slice A0_3 l0_3.length c0_3) ∧ w'.cell? ⟨gb129,4,none⟩ = some (.slice Ao24 t135.length co24) ∧ w'.cell? ⟨gb129,5,none⟩ = some (.bool a0_5) ∧ w'.cell? ⟨gb129,6,none⟩ = some (.bool true) ∧ w'.cell? ⟨gb129,7,none⟩ = some (.bool a0_7)) (ds:=[12]) #[F_,F_,F_,F_,F_,F_,F_,F_,F_,F_,F_,F_,F_] (by kernel_rfl) rfl rfl ⟨(kc_ BK129.out 0).trans rfl,(kc_ BK129.out 1).trans rfl,(kc_ BK129.out 2).trans rfl,(kc_ BK129.out 3).trans rfl,(kc_ BK129.out 4).trans rfl,(kc_ BK129.out 5).trans rfl,(kc_ BK129.out 6).trans rfl,(kc_ BK129.out 7).trans rfl⟩ (fun hHeld => ?_);refine with_tabW sendq_Sent.tab4 sendq_Sent.bits4 (fun HT_ HW_ => ?_)
   generalize w26.drew = w27 at HO0_3 HO0_4 HO137 BK129 BK130 BK134 HB hHeld ⊢
   refine pure_ (i:=0) (N:=some 24) (v:=?_) (a':=?_) #[T_,F_,F_,F_,F_,F_,F_,F_,F_,F_,F_,F_,F_] rfl rfl (any_of HT_.out (by kernel_rfl)) (fun _ _ _ h => h) (Or.inl ⟨by rfl,?_⟩) ?_ ?_
   rotate_left;(intro w';go_simp;with_reducible rfl);rotate_left;(simp only [Act.put,ps_,i64_w,i32_w];rfl)
   refine pure_ (i:=2) (N:=some 26) (v:=?_) (a':=?_) #[T_,F_,T_,F_,F_,F_,F_,F_,F_,F_,F_,F_,F_] rfl rfl (any_of HT_.out (by kernel_rfl)) (fun _ _ _ h => h) (Or.inl ⟨by rfl,?_⟩) ?_ ?_
   rotate_left;(intro w';go_simp;with_reducible rfl);rotate_left;(simp only [Act.put,ps_,i64_w,i32_w];rfl)
   refine pure_ (i:=3) (N:=some 27) (v:=?_) (a':=?_) #[T_,F_,T_,T_,F_,F_,F_,F_,F_,F_,F_,F_,F_] rfl rfl (any_of HT_.out (by kernel_rfl)) (fun _ _ _ h => h) (Or.inl ⟨by rfl,?_⟩) ?_ ?_
   rotate_left;(intro w';go_simp;with_reducible rfl);rotate_left;(simp only [Act.put,ps_,i64_w,i32_w];rfl)
   refine pure_ (i:=4) (N:=some 28) (v:=?_) (a':=?_) #[T_,F_,T_,T_,T_,F_,F_,F_,F_,F_,F_,F_,F_] rfl rfl (any_of HT_.out (by kernel_rfl)) (fun _ _ _ h => h) (Or.inl ⟨by rfl,?_⟩) ?_ ?_
   rotate_left;(intro w';go_simp;with_reducible rfl);rotate_left;(simp only [Act.put,ps_,i64_w,i32_w];rfl)
   refine pure_ (i:=5) (N:=some 29) (v:=?_) (a':=?_) #[T_,F_,T_,T_,T_,T_,F_,F_,F_,F_,F_,F_,F_] rfl rfl (any_of HT_.out (by kernel_rfl)) (fun _ _ _ h => h) (Or.inl ⟨by rfl,?_⟩) ?_ ?_
   rotate_left;(intro w';go_simp;with_reducible rfl);rotate_left;(simp only [Act.put,ps_,i64_w,i32_w];rfl)
   refine pure_ (i:=6) (N:=some 30) (v:=?_) (a':=?_) #[T_,F_,T_,T_,T_,T_,T_,F_,F_,F_,F_,F_,F_] rfl rfl (any_of HT_.out (by kernel_rfl)) (fun _ _ _ h => h) (Or.inl ⟨by rfl,?_⟩) ?_ ?_
   rotate_left;(intro w';go_simp;with_reducible rfl);rotate_left;(simp only [Act.put,ps_,i64_w,i32_w];rfl)
   refine take_ (i:=1) (N:=some 25) (v:=?_) (a':=?_) #[T_,T_,T_,T_,T_,T_,T_,F_,F_,F_,F_,F_,F_] rfl rfl (take_ofW HT_.out HW_.out (by kernel_rfl)) (fun _ _ _ h => h) (Or.inl ⟨by rfl,?_⟩) hHeld ?_ ?_
   rotate_left
   ·rintro w' ⟨s0,s1,s2,s3,s4,s5,s6,s7⟩
    go_simp
    with_reducible rfl
   rotate_left
   ·simp only [Act.put,ps_,i64_w,i32_w]
    rfl
   refine take_ (i:=7) (N:=some 31) (v:=?_) (a':=?_) #[T_,T_,T_,T_,T_,T_,T_,T_,F_,F_,F_,F_,F_] rfl rfl (take_ofW HT_.out HW_.out (by kernel_rfl)) (fun _ _ _ h => h) (Or.inl ⟨by rfl,?_⟩) hHeld ?_ ?_
   rotate_left
   ·rintro w' ⟨s0,s1,s2,s3,s4,s5,s6,s7⟩
    go_simp
    with_reducible rfl
   rotate_left
   ·simp only [Act.put,ps_,i64_w,i32_w]
    rfl
   refine one_ (i:=8) (N:=some 32) #[T_,T_,T_,T_,T_,T_,T_,T_,T_,F_,F_,F_,F_] rfl rfl (one_of HT_.out (by kernel_rfl)) (by decide) (fun K hK => ?_)
   refine goes_ Try.func29 (by kernel_rfl) rfl #[.agg #[.int .u64 a0_0,.int .u64 a0_1,.string a0_2,.slice A0_3 l0_3.length c0_3,.slice Ao24 t135.length co24,.bool a0_5,.bool true,.bool a0_7]] (by rfl) rfl rfl (by (try simp only [List.map_toArray,List.map_cons,List.map_nil]);first|done|rfl|(simp only [List.length_drop,List.length_take];rfl)) ?_
   with_reducible refine (sendq_State_end.calls a0_0 a0_1 a0_2 _ _ l0_3 _ _ t135 a0_5 true a0_7 t138 _ ?side1 ?side2 ?side3 ?side4 A9.out).mono ?_
   (case side1 => repeat (first|exact (Kd.V_reads' HO0_3.out).2.2|(with_reducible refine Kd.C_alloc ?_ _)|(with_reducible refine Kd.C_drewN ?_ _)|(with_reducible refine Kd.C_drew ?_)))
   (case side2 => exact (Kd.V_reads' HO0_3.out).2.1)
   (case side3 => repeat (first|exact (Kd.R_reads' HO137.out).2.2|(with_reducible refine Kd.C_alloc ?_ _)|(with_reducible refine Kd.C_drewN ?_ _)|(with_reducible refine Kd.C_drew ?_)))
   (case side4 => exact (Kd.R_reads' HO137.out).2.1)
   rintro e w28 ⟨rfl,hb⟩
   refine ⟨_,rfl,?_⟩
   have n0_:=am_ (Kd.V_below (by (with_reducible repeat (first|apply Kd.V_alloc|apply Kd.V_drewN|apply Kd.V_drew));exact HO0_3.out) hb)
   have n1_:=am_ (Kd.V_below (by (with_reducible repeat (first|apply Kd.V_alloc|apply Kd.V_drewN|apply Kd.V_drew));exact HO0_4.out) hb)
   have n2_:=am_ (Kd.R_below (by (with_reducible repeat (first|apply ra_|apply rn_|apply rd_));exact HO137.out) hb)
   have n3_:=am_ (blk_below (g:=gb129) (o:=.cells #[.int .u64 a0_0,.int .u64 a0_1,.string a0_2,.slice A0_3 l0_3.length c0_3,.slice Ao24 t135.length co24,.bool a0_5,.bool true,.bool a0_7] 29 (0,0)) (by (with_reducible repeat (first|refine kn_ ?_ _|refine kd_ ?_|refine ka_ ?_ _));exact BK129.out) hb)
   have n4_:=am_ (blk_below (g:=gb130) (o:=.cells kk0_ 29 (0,0)) (by (with_reducible repeat (first|refine kn_ ?_ _|refine kd_ ?_|refine ka_ ?_ _));exact BK130.out) hb)
   have n5_:=am_ (blk_below (g:=gb134) (o:=.cells #[.int .u64 t131,.int .u64 t132] 67 (0,0)) (by (with_reducible repeat (first|refine kn_ ?_ _|refine kd_ ?_|refine ka_ ?_ _));exact BK134.out) hb)
   have n6_:=am_ (below_step (by repeat (first|(with_reducible first|exact HB.out|apply ba_|apply pn_|apply pd_|refine bs_ ?_ GE129.out|refine bs_ ?_ GE130.out|refine bs_ ?_ GE134.out)|exact HB.out)) hb)
   clear HO0_3
   clear HO0_4
   clear HO137
   clear BK129
   clear BK130
   clear BK134
   clear HB
   have HO0_3:=n0_
   have HO0_4:=n1_
   have HO137:=n2_
   have BK129:=n3_
   have BK130:=n4_
   have BK134:=n5_
   have HB:=n6_
   clear n0_ n1_ n2_ n3_ n4_ n5_ n6_
   (try clear hb)
   (try clear hb2)
   (try clear hk)
   (try clear hi)
   refine hK.out _ _ ⟨(kc_ BK129.out 0).trans rfl,(kc_ BK129.out 1).trans rfl,(kc_ BK129.out 2).trans rfl,(kc_ BK129.out 3).trans rfl,(kc_ BK129.out 4).trans rfl,(kc_ BK129.out 5).trans rfl,(kc_ BK129.out 6).trans rfl,(kc_ BK129.out 7).trans rfl⟩ (fun hHeld => ?_)
   clear hK K
   refine norm_ (a':=?_) ?_ ?_
   rotate_left
   ·show Act.put _ (some 32) _ = _
    simp only [Act.put,ps_,i64_w,i32_w]
    rfl
   refine pure_ (i:=9) (N:=some 33) (v:=?_) (a':=?_) #[T_,T_,T_,T_,T_,T_,T_,T_,T_,T_,F_,F_,F_] rfl rfl (any_of HT_.out (by kernel_rfl)) (fun _ _ _ h => h) (Or.inl ⟨by rfl,?_⟩) ?_ ?_
   rotate_left;(intro w';go_simp;with_reducible rfl);rotate_left;(simp only [Act.put,ps_,i64_w,i32_w];rfl)
   refine pure_ (i:=10) (N:=some 34) (v:=?_) (a':=?_) #[T_,T_,T_,T_,T_,T_,T_,T_,T_,T_,T_,F_,F_] rfl rfl (any_of HT_.out (by kernel_rfl)) (fun _ _ _ h => h) (Or.inl ⟨by rfl,?_⟩) ?_ ?_
   rotate_left;(intro w';go_simp;with_reducible rfl);rotate_left;(simp only [Act.put,ps_,i64_w,i32_w];rfl)
   refine pure_ (i:=11) (N:=some 35) (v:=?_) (a':=?_) #[T_,T_,T_,T_,T_,T_,T_,T_,T_,T_,T_,T_,F_] rfl rfl (any_of HT_.out (by kernel_rfl)) (fun _ _ _ h => h) (Or.inl ⟨by rfl,?_⟩) ?_ ?_
   rotate_left;(intro w';go_simp;with_reducible rfl);rotate_left;(simp only [Act.put,ps_,i64_w,i32_w];rfl)
   refine last_ (i:=12) (N:=none) #[T_,T_,T_,T_,T_,T_,T_,T_,T_,T_,T_,T_,T_] rfl rfl (one_of HT_.out (by kernel_rfl)) (by decide) (fun K hK => ?_)
   have hs29 : w28.cell? ⟨gb129,1,none⟩ = some (.int .u64 a0_1):=(kc_ BK129.out 1).trans rfl
   have hfs29:=blk_frozen BK129.out 1
   have hns29_1:=NB130_129.out
   have hns29_2:=NB134_129.out
   have hms29_1:=NB129_130.out
   have hms29_2:=NB129_134.out
   refine skip_ (w1:=?_) (by rfl) rfl ?_ ?_
   rotate_left
   ·go_simp
    rfl
   refine hK.out _ _ ?_
   clear hK K
   refine done_ (done_of HT_.out (by kernel_rfl)) ?_
   have hcz30_0 : w28.cell? ⟨gb129,0,none⟩ = some (.int .u64 a0_0):=(kc_ BK129.out 0).trans rfl
   have hcz30_1 : w28.cell? ⟨gb129,1,none⟩ = some (.int .u64 a0_1):=(kc_ BK129.out 1).trans rfl
   have hcz30_2 : w28.cell? ⟨gb129,2,none⟩ = some (.string a0_2):=(kc_ BK129.out 2).trans rfl
   have hcz30_3 : w28.cell? ⟨gb129,3,none⟩ = some (.slice A0_3 l0_3.length c0_3):=(kc_ BK129.out 3).trans rfl
   have hcz30_4 : w28.cell? ⟨gb129,4,none⟩ = some (.slice Ao24 t135.length co24):=(kc_ BK129.out 4).trans rfl
   have hcz30_5 : w28.cell? ⟨gb129,5,none⟩ = some (.bool a0_5):=(kc_ BK129.out 5).trans rfl
   have hcz30_6 : w28.cell? ⟨gb129,6,none⟩ = some (.bool true):=(kc_ BK129.out 6).trans rfl
   have hcz30_7 : w28.cell? ⟨gb129,7,none⟩ = some (.bool a0_7):=(kc_ BK129.out 7).trans rfl
   have hfz30_0:=blk_frozen BK129.out 0
   have hfz30_1:=blk_frozen BK129.out 1
   have hfz30_2:=blk_frozen BK129.out 2
   have hfz30_3:=blk_frozen BK129.out 3
   have hfz30_4:=blk_frozen BK129.out 4
   have hfz30_5:=blk_frozen BK129.out 5
   have hfz30_6:=blk_frozen BK129.out 6
   have hfz30_7:=blk_frozen BK129.out 7
   have hcz31_0 : w28.cell? ⟨gb130,0,none⟩ = some (.int .u64 0):=(kc_ BK130.out 0).trans rfl
   have hcz31_1 : w28.cell? ⟨gb130,1,none⟩ = some (.int .u64 0):=(kc_ BK130.out 1).trans rfl
   have hcz31_2 : w28.cell? ⟨gb130,2,none⟩ = some (.string (⟨#[]⟩ : ByteArray)):=(kc_ BK130.out 2).trans rfl
   have hcz31_3 : w28.cell? ⟨gb130,3,none⟩ = some (.slice none 0 0):=(kc_ BK130.out 3).trans rfl
   have hcz31_4 : w28.cell? ⟨gb130,4,none⟩ = some (.slice none 0 0):=(kc_ BK130.out 4).trans rfl
   have hcz31_5 : w28.cell? ⟨gb130,5,none⟩ = some (.bool false):=(kc_ BK130.out 5).trans rfl
   have hcz31_6 : w28.cell? ⟨gb130,6,none⟩ = some (.bool false):=(kc_ BK130.out 6).trans rfl
   have hcz31_7 : w28.cell? ⟨gb130,7,none⟩ = some (.bool false):=(kc_ BK130.out 7).trans rfl
   have hfz31_0:=blk_frozen BK130.out 0
   have hfz31_1:=blk_frozen BK130.out 1
   have hfz31_2:=blk_frozen BK130.out 2
   have hfz31_3:=blk_frozen BK130.out 3
   have hfz31_4:=blk_frozen BK130.out 4
   have hfz31_5:=blk_frozen BK130.out 5
   have hfz31_6:=blk_frozen BK130.out 6
   have hfz31_7:=blk_frozen BK130.out 7
   try go_wp2
   refine bodyPost_ret (results_cell_row rfl _ _ gb130 29 #[.int .u64 a0_0,.int .u64 ji11,.string a0_2,.slice A0_3 l0_3.length c0_3,.slice Ao24 t135.length co24,.bool a0_5,.bool (!a3),.bool a0_7] (0,0) _ rfl (by (with_reducible repeat (first|refine kn_ ?_ _|refine kd_ ?_|refine ka_ ?_ _));refine blk_put (cs:=#[.int .u64 a0_0,.int .u64 ji11,.string a0_2,.slice A0_3 l0_3.length c0_3,.slice Ao24 t135.length co24,.bool a0_5,.bool (!a3),.bool false]) ?_ 7 _ rfl;(with_reducible repeat (first|refine kn_ ?_ _|refine kd_ ?_|refine ka_ ?_ _));refine blk_put (cs:=#[.int .u64 a0_0,.int .u64 ji11,.string a0_2,.slice A0_3 l0_3.length c0_3,.slice Ao24 t135.length co24,.bool a0_5,.bool false,.bool false]) ?_ 6 _ rfl;(with_reducible repeat (first|refine kn_ ?_ _|refine kd_ ?_|refine ka_ ?_ _));refine blk_put (cs:=#[.int .u64 a0_0,.int .u64 ji11,.string a0_2,.slice A0_3 l0_3.length c0_3,.slice Ao24 t135.length co24,.bool false,.bool false,.bool false]) ?_ 5 _ rfl;(with_reducible repeat (first|refine kn_ ?_ _|refine kd_ ?_|refine ka_ ?_ _));refine blk_put (cs:=#[.int .u64 a0_0,.int .u64 ji11,.string a0_2,.slice A0_3 l0_3.length c0_3,.slice none 0 0,.bool false,.bool false,.bool false]) ?_ 4 _ rfl;(with_reducible repeat (first|refine kn_ ?_ _|refine kd_ ?_|refine ka_ ?_ _));refine blk_put (cs:=#[.int .u64 a0_0,.int .u64 ji11,.string a0_2,.slice none 0 0,.slice none 0 0,.bool false,.bool false,.bool false]) ?_ 3 _ rfl;(with_reducible repeat (first|refine kn_ ?_ _|refine kd_ ?_|refine ka_ ?_ _));refine blk_put (cs:=#[.int .u64 a0_0,.int .u64 ji11,.string (⟨#[]⟩ : ByteArray),.slice none 0 0,.slice none 0 0,.bool false,.bool false,.bool false]) ?_ 2 _ rfl;(with_reducible repeat (first|refine kn_ ?_ _|refine kd_ ?_|refine ka_ ?_ _));refine blk_put (cs:=#[.int .u64 a0_0,.int .u64 0,.string (⟨#[]⟩ : ByteArray),.slice none 0 0,.slice none 0 0,.bool false,.bool false,.bool false]) ?_ 1 _ rfl;(with_reducible repeat (first|refine kn_ ?_ _|refine kd_ ?_|refine ka_ ?_ _));refine blk_put (cs:=kk0_) ?_ 0 _ rfl;(with_reducible repeat (first|refine kn_ ?_ _|refine kd_ ?_|refine ka_ ?_ _));refine blk_far ?_ NB130_129.out _;(with_reducible repeat (first|refine kn_ ?_ _|refine kd_ ?_|refine ka_ ?_ _));refine blk_far ?_ NB130_129.out _;(with_reducible repeat (first|refine kn_ ?_ _|refine kd_ ?_|refine ka_ ?_ _));exact BK130.out) Try.underlying29 rfl (by kernel_rfl)) rfl ?_
   exact ⟨_,_,by first|rfl|(simp [errW_none,errW_some] <;> rfl)|(simp only [← hji8,← hji10,← hji11];first|rfl|(simp [errW_none,errW_some] <;> rfl))|(simp [*,errW_none,errW_some] <;> rfl),by (with_reducible repeat (first|apply Kd.V_alloc|apply Kd.V_drewN|apply Kd.V_drew));exact Kd.V_mono (Kd.V_far (p:=⟨gb130,7,none⟩) (Kd.V_far (p:=⟨gb130,6,none⟩) (Kd.V_far (p:=⟨gb130,5,none⟩) (Kd.V_far (p:=⟨gb130,4,none⟩) (Kd.V_far (p:=⟨gb130,3,none⟩) (Kd.V_far (p:=⟨gb130,2,none⟩) (Kd.V_far (p:=⟨gb130,1,none⟩) (Kd.V_far (p:=⟨gb130,0,none⟩) (Kd.V_far (p:=⟨gb129,6,none⟩) (Kd.V_far (p:=⟨gb129,1,none⟩) (Kd.V_mono (Kd.V_mono HO0_3.out (fun k_ hk => (⟨hk,hk.2.2.1⟩ : _ ∧ k_ ≠ gb129))) (fun k_ hk => (⟨hk,hk.1.2.2.2.1⟩ : _ ∧ k_ ≠ gb130))) (fun _ hk => hk.1.2) (.int .u64 ji11)) (fun _ hk => hk.1.2) (.bool (!a3))) (fun _ hk => hk.2) (.int .u64 a0_0)) (fun _ hk => hk.2) (.int .u64 ji11)) (fun _ hk => hk.2) (.string a0_2)) (fun _ hk => hk.2) (.slice A0_3 l0_3.length c0_3)) (fun _ hk => hk.2) (.slice Ao24 t135.length co24)) (fun _ hk => hk.2) (.bool a0_5)) (fun _ hk => hk.2) (.bool (!a3))) (fun _ hk => hk.2) (.bool a0_7)) (fun _ hk => hk.1.1.1),Kd.V_mono (Kd.R_V (by (with_reducible repeat (first|apply ra_|apply rn_|apply rd_));exact Kd.R_mono (Kd.R_far (p:=⟨gb130,7,none⟩) (Kd.R_far (p:=⟨gb130,6,none⟩) (Kd.R_far (p:=⟨gb130,5,none⟩) (Kd.R_far (p:=⟨gb130,4,none⟩) (Kd.R_far (p:=⟨gb130,3,none⟩) (Kd.R_far (p:=⟨gb130,2,none⟩) (Kd.R_far (p:=⟨gb130,1,none⟩) (Kd.R_far (p:=⟨gb130,0,none⟩) (Kd.R_far (p:=⟨gb129,6,none⟩) (Kd.R_far (p:=⟨gb129,1,none⟩) (Kd.R_types (Kd.R_types HO137.out BK129.out (by decide)) BK130.out (by decide)) (fun _ hk => hk.1.2) (.int .u64 ji11)) (fun _ hk => hk.1.2) (.bool (!a3))) (fun _ hk => hk.2) (.int .u64 a0_0)) (fun _ hk => hk.2) (.int .u64 ji11)) (fun _ hk => hk.2) (.string a0_2)) (fun _ hk => hk.2) (.slice A0_3 l0_3.length c0_3)) (fun _ hk => hk.2) (.slice Ao24 t135.length co24)) (fun _ hk => hk.2) (.bool a0_5)) (fun _ hk => hk.2) (.bool (!a3))) (fun _ hk => hk.2) (.bool a0_7)) (fun _ hk => hk.1.1.1))) (fun k_ hk => by first|exact ⟨(.inr (hk.1)),hk.2⟩|exact (.inr (hk))),by repeat (first|(with_reducible first|exact HB.out|apply ba_|apply pn_|apply pd_|refine bs_ ?_ GE129.out|refine bs_ ?_ GE130.out|refine bs_ ?_ GE134.out)|exact HB.out)⟩
  ·replace c12:=Bool.eq_false_iff.mpr c12
   subst c12
   have H1 : (some (a0_0,ji11,a0_2,l0_3,t135,a0_5,false,a0_7)) = some (r1,r2,r3,r4,r5,r6,r7,r8):=by rw [if_neg (show ¬ (false = true) by decide)] at H;exact H
   clear H
   have H:=H1
   clear H1
   simp only [Option.some.injEq,Prod.mk.injEq] at H
   obtain ⟨rfl,rfl,rfl,rfl,rfl,rfl,rfl,rfl⟩:=H
   go_enter Try.func16,Try.ntmps16
   try go_wp2_with (first|((with_reducible refine gate_dst (N:=4) rfl ?_);refine box_event ?hg (N:=4) ?hd (cs:=#[.int .u64 a0_0,.int .u64 a0_1,.string a0_2,.slice A0_3 l0_3.length c0_3,.slice A0_4 l0_4.length c0_4,.bool a0_5,.bool false,.bool a0_7]) (t:=29) ?hr ?_;(case hd => rfl);(case hg => rfl);(case hr => first|(go_simp;done)|(go_simp;rfl));intro gb129 hg w32 hbox hb;have n0_:=am_ (Kd.V_below (Kd.V_elderB (by (with_reducible repeat (first|apply Kd.V_alloc|apply Kd.V_drewN|apply Kd.V_drew));exact HO0_3.out) gb129 (Nat.le_of_eq hg.symm)) hb);have n1_:=am_ (Kd.V_below (Kd.V_elderB (by (with_reducible repeat (first|apply Kd.V_alloc|apply Kd.V_drewN|apply Kd.V_drew));exact HO0_4.out) gb129 (Nat.le_of_eq hg.symm)) hb);have n2_:=am_ (below_step (by repeat (first|(with_reducible first|exact HB.out|apply ba_|apply pn_|apply pd_)|exact HB.out)) hb);have n3_:=am_ (hbox);have n4_:=am_ ((by rw [hg];exact (below_size (by repeat (first|(with_reducible first|exact HB.out|apply ba_|apply pn_|apply pd_)|exact HB.out))) : w.heap.size ≤ gb129));have n5_:=am_ ((by rw [hg];exact (below_size (by repeat (first|(with_reducible first|exact HB.out|apply ba_|apply pn_|apply pd_)|exact HB.out))) : w.heap.size ≤ gb129));clear HO0_3;clear HO0_4;clear HB;have HO0_3:=n0_;have HO0_4:=n1_;have HB:=n2_;have BK129:=n3_;have GW129:=n4_;have GE129:=n5_;clear n0_ n1_ n2_ n3_ n4_ n5_;clear hb hbox hg)|((with_reducible refine gate_dst (N:=8) rfl ?_);refine box_event ?hg (N:=8) ?hd (cs:=kk0_) (t:=29) ?hr ?_;(case hd => rfl);(case hg => rfl);(case hr => first|(go_simp;done)|(go_simp;rfl));intro gb130 hg w33 hbox hb;have n0_:=am_ (Kd.V_below (Kd.V_elderB (by (with_reducible repeat (first|apply Kd.V_alloc|apply Kd.V_drewN|apply Kd.V_drew));exact HO0_3.out) gb130 (Nat.le_of_eq hg.symm)) hb);have n1_:=am_ (Kd.V_below (Kd.V_elderB (by (with_reducible repeat (first|apply Kd.V_alloc|apply Kd.V_drewN|apply Kd.V_drew));exact HO0_4.out) gb130 (Nat.le_of_eq hg.symm)) hb);have n2_:=am_ (blk_below (g:=gb129) (o:=.cells #[.int .u64 a0_0,.int .u64 a0_1,.string a0_2,.slice A0_3 l0_3.length c0_3,.slice A0_4 l0_4.length c0_4,.bool a0_5,.bool false,.bool a0_7] 29 (0,0)) (by (with_reducible repeat (first|refine kn_ ?_ _|refine kd_ ?_|refine ka_ ?_ _));exact BK129.out) hb);have n3_:=am_ (below_step (by repeat (first|(with_reducible first|exact HB.out|apply ba_|apply pn_|apply pd_|refine bs_ ?_ GE129.out)|exact HB.out)) hb);have n4_:=am_ (hbox);have n5_:=am_ ((by rw [hg];exact (below_size (by repeat (first|(with_reducible first|exact HB.out|apply ba_|apply pn_|apply pd_|refine bs_ ?_ GE129.out)|exact HB.out))) : w.heap.size ≤ gb130));have n6_:=am_ ((by rw [hg];exact (below_size (by repeat (first|(with_reducible first|exact HB.out|apply ba_|apply pn_|apply pd_|refine bs_ ?_ GE129.out)|exact HB.out))) : w.heap.size ≤ gb130));have n7_:=am_ ((by rw [hg];exact Nat.ne_of_lt (blk_lt (g:=gb129) (o:=.cells #[.int .u64 a0_0,.int .u64 a0_1,.string a0_2,.slice A0_3 l0_3.length c0_3,.slice A0_4 l0_4.length c0_4,.bool a0_5,.bool false,.bool a0_7] 29 (0,0)) (by (with_reducible repeat (first|refine kn_ ?_ _|refine kd_ ?_|refine ka_ ?_ _));exact BK129.out)) : gb129 ≠ gb130));have n8_:=am_ ((by rw [hg];exact Nat.ne_of_gt (blk_lt (g:=gb129) (o:=.cells #[.int .u64 a0_0,.int .u64 a0_1,.string a0_2,.slice A0_3 l0_3.length c0_3,.slice A0_4 l0_4.length c0_4,.bool a0_5,.bool false,.bool a0_7] 29 (0,0)) (by (with_reducible repeat (first|refine kn_ ?_ _|refine kd_ ?_|refine ka_ ?_ _));exact BK129.out)) : gb130 ≠ gb129));clear HO0_3;clear HO0_4;clear BK129;clear HB;have HO0_3:=n0_;have HO0_4:=n1_;have BK129:=n2_;have HB:=n3_;have BK130:=n4_;have GW130:=n5_;have GE130:=n6_;have NB129_130:=n7_;have NB130_129:=n8_;clear n0_ n1_ n2_ n3_ n4_ n5_ n6_ n7_ n8_;clear hb hbox hg;have hnb34:=NB129_130.out;have hnc34:=NB130_129.out;have hcz35_0 : w33.cell? ⟨gb129,0,none⟩ = some (.int .u64 a0_0):=(kc_ BK129.out 0).trans rfl;have hcz35_1 : w33.cell? ⟨gb129,1,none⟩ = some (.int .u64 a0_1):=(kc_ BK129.out 1).trans rfl;have hcz35_2 : w33.cell? ⟨gb129,2,none⟩ = some (.string a0_2):=(kc_ BK129.out 2).trans rfl;have hcz35_3 : w33.cell? ⟨gb129,3,none⟩ = some (.slice A0_3 l0_3.length c0_3):=(kc_ BK129.out 3).trans rfl;have hcz35_4 : w33.cell? ⟨gb129,4,none⟩ = some (.slice A0_4 l0_4.length c0_4):=(kc_ BK129.out 4).trans rfl;have hcz35_5 : w33.cell? ⟨gb129,5,none⟩ = some (.bool a0_5):=(kc_ BK129.out 5).trans rfl;have hcz35_6 : w33.cell? ⟨gb129,6,none⟩ = some (.bool false):=(kc_ BK129.out 6).trans rfl;have hcz35_7 : w33.cell? ⟨gb129,7,none⟩ = some (.bool a0_7):=(kc_ BK129.out 7).trans rfl;have hfz35_0:=blk_frozen BK129.out 0;have hfz35_1:=blk_frozen BK129.out 1;have hfz35_2:=blk_frozen BK129.out 2;have hfz35_3:=blk_frozen BK129.out 3;have hfz35_4:=blk_frozen BK129.out 4;have hfz35_5:=blk_frozen BK129.out 5;have hfz35_6:=blk_frozen BK129.out 6;have hfz35_7:=blk_frozen BK129.out 7; skip)|((with_reducible refine gate_callee (f:=32) rfl ?_);refine goesL_ (some 15) rfl rfl Try.func32 (by kernel_rfl) rfl #[.agg #[.int .u64 a0_0,.int .u64 a0_1,.string a0_2,.slice A0_3 l0_3.length c0_3,.slice A0_4 l0_4.length c0_4,.bool a0_5,.bool false,.bool a0_7],.int .u64 a1,.int .i64 a2] rfl (by (try simp only [List.map_toArray,List.map_cons,List.map_nil]);first|done|rfl|(simp only [List.length_drop,List.length_take];rfl)) ?_;(with_reducible refine (sendq_State_window.calls a0_0 a0_1 a0_2 _ _ l0_3 _ _ l0_4 a0_5 false a0_7 a1 a2 t131 t132 true _ ?side1 ?side2 ?side3 ?side4 A5.out).mono ?_);(case side1 => repeat (first|exact (Kd.V_reads' HO0_3.out).2.2|(with_reducible refine Kd.C_alloc ?_ _)|(with_reducible refine Kd.C_drewN ?_ _)|(with_reducible refine Kd.C_drew ?_)));(case side2 => exact (Kd.V_reads' HO0_3.out).2.1);(case side3 => repeat (first|exact (Kd.V_reads' HO0_4.out).2.2|(with_reducible refine Kd.C_alloc ?_ _)|(with_reducible refine Kd.C_drewN ?_ _)|(with_reducible refine Kd.C_drew ?_)));(case side4 => exact (Kd.V_reads' HO0_4.out).2.1);rintro e w36 ⟨rfl,hb⟩;refine ⟨_,rfl,?_⟩;have n0_:=am_ (Kd.V_below (by (with_reducible repeat (first|apply Kd.V_alloc|apply Kd.V_drewN|apply Kd.V_drew));exact HO0_3.out) hb);have n1_:=am_ (Kd.V_below (by (with_reducible repeat (first|apply Kd.V_alloc|apply Kd.V_drewN|apply Kd.V_drew));exact HO0_4.out) hb);have n2_:=am_ (blk_below (g:=gb129) (o:=.cells #[.int .u64 a0_0,.int .u64 a0_1,.string a0_2,.slice A0_3 l0_3.length c0_3,.slice A0_4 l0_4.length c0_4,.bool a0_5,.bool false,.bool a0_7] 29 (0,0)) (by (with_reducible repeat (first|refine kn_ ?_ _|refine kd_ ?_|refine ka_ ?_ _));exact BK129.out) hb);have n3_:=am_ (blk_below (g:=gb130) (o:=.cells kk0_ 29 (0,0)) (by (with_reducible repeat (first|refine kn_ ?_ _|refine kd_ ?_|refine ka_ ?_ _));exact BK130.out) hb);have n4_:=am_ (below_step (by repeat (first|(with_reducible first|exact HB.out|apply ba_|apply pn_|apply pd_|refine bs_ ?_ GE129.out|refine bs_ ?_ GE130.out)|exact HB.out)) hb);clear HO0_3;clear HO0_4;clear BK129;clear BK130;clear HB;have HO0_3:=n0_;have HO0_4:=n1_;have BK129:=n2_;have BK130:=n3_;have HB:=n4_;clear n0_ n1_ n2_ n3_ n4_;(try clear hb);(try clear hb2);(try clear hk);(try clear hi))|((with_reducible refine gate_dst (N:=9) rfl ?_);refine box_event ?hg (N:=9) ?hd (cs:=kk1_) (t:=67) ?hr ?_;(case hd => rfl);(case hg => rfl);(case hr => first|(go_simp;done)|(go_simp;rfl));intro gb134 hg w37 hbox hb;have n0_:=am_ (Kd.V_below (Kd.V_elderB (by (with_reducible repeat (first|apply Kd.V_alloc|apply Kd.V_drewN|apply Kd.V_drew));exact HO0_3.out) gb134 (Nat.le_of_eq hg.symm)) hb);have n1_:=am_ (Kd.V_below (Kd.V_elderB (by (with_reducible repeat (first|apply Kd.V_alloc|apply Kd.V_drewN|apply Kd.V_drew));exact HO0_4.out) gb134 (Nat.le_of_eq hg.symm)) hb);have n2_:=am_ (blk_below (g:=gb129) (o:=.cells #[.int .u64 a0_0,.int .u64 a0_1,.string a0_2,.slice A0_3 l0_3.length c0_3,.slice A0_4 l0_4.length c0_4,.bool a0_5,.bool false,.bool a0_7] 29 (0,0)) (by (with_reducible repeat (first|refine kn_ ?_ _|refine kd_ ?_|refine ka_ ?_ _));exact BK129.out) hb);have n3_:=am_ (blk_below (g:=gb130) (o:=.cells kk0_ 29 (0,0)) (by (with_reducible repeat (first|refine kn_ ?_ _|refine kd_ ?_|refine ka_ ?_ _));exact BK130.out) hb);have n4_:=am_ (below_step (by repeat (first|(with_reducible first|exact HB.out|apply ba_|apply pn_|apply pd_|refine bs_ ?_ GE129.out|refine bs_ ?_ GE130.out)|exact HB.out)) hb);have n5_:=am_ (hbox);have n6_:=am_ ((by rw [hg];exact (below_size (by repeat (first|(with_reducible first|exact HB.out|apply ba_|apply pn_|apply pd_|refine bs_ ?_ GE129.out|refine bs_ ?_ GE130.out)|exact HB.out))) : w.heap.size ≤ gb134));have n7_:=am_ ((by rw [hg];exact (below_size (by repeat (first|(with_reducible first|exact HB.out|apply ba_|apply pn_|apply pd_|refine bs_ ?_ GE129.out|refine bs_ ?_ GE130.out)|exact HB.out))) : w.heap.size ≤ gb134));have n8_:=am_ ((by rw [hg];exact Nat.ne_of_lt (blk_lt (g:=gb129) (o:=.cells #[.int .u64 a0_0,.int .u64 a0_1,.string a0_2,.slice A0_3 l0_3.length c0_3,.slice A0_4 l0_4.length c0_4,.bool a0_5,.bool false,.bool a0_7] 29 (0,0)) (by (with_reducible repeat (first|refine kn_ ?_ _|refine kd_ ?_|refine ka_ ?_ _));exact BK129.out)) : gb129 ≠ gb134));have n9_:=am_ ((by rw [hg];exact Nat.ne_of_gt (blk_lt (g:=gb129) (o:=.cells #[.int .u64 a0_0,.int .u64 a0_1,.string a0_2,.slice A0_3 l0_3.length c0_3,.slice A0_4 l0_4.length c0_4,.bool a0_5,.bool false,.bool a0_7] 29 (0,0)) (by (with_reducible repeat (first|refine kn_ ?_ _|refine kd_ ?_|refine ka_ ?_ _));exact BK129.out)) : gb134 ≠ gb129));have n10_:=am_ ((by rw [hg];exact Nat.ne_of_lt (blk_lt (g:=gb130) (o:=.cells kk0_ 29 (0,0)) (by (with_reducible repeat (first|refine kn_ ?_ _|refine kd_ ?_|refine ka_ ?_ _));exact BK130.out)) : gb130 ≠ gb134));have n11_:=am_ ((by rw [hg];exact Nat.ne_of_gt (blk_lt (g:=gb130) (o:=.cells kk0_ 29 (0,0)) (by (with_reducible repeat (first|refine kn_ ?_ _|refine kd_ ?_|refine ka_ ?_ _));exact BK130.out)) : gb134 ≠ gb130));clear HO0_3;clear HO0_4;clear BK129;clear BK130;clear HB;have HO0_3:=n0_;have HO0_4:=n1_;have BK129:=n2_;have BK130:=n3_;have HB:=n4_;have BK134:=n5_;have GW134:=n6_;have GE134:=n7_;have NB129_134:=n8_;have NB134_129:=n9_;have NB130_134:=n10_;have NB134_130:=n11_;clear n0_ n1_ n2_ n3_ n4_ n5_ n6_ n7_ n8_ n9_ n10_ n11_;clear hb hbox hg;have hnb38:=NB134_129.out;have hnc38:=NB129_134.out;have hnb39:=NB134_130.out;have hnc39:=NB130_134.out;have hcz40_0 : w37.cell? ⟨gb134,0,none⟩ = some (.int .u64 0):=(kc_ BK134.out 0).trans rfl;have hcz40_1 : w37.cell? ⟨gb134,1,none⟩ = some (.int .u64 0):=(kc_ BK134.out 1).trans rfl;have hfz40_0:=blk_frozen BK134.out 0;have hfz40_1:=blk_frozen BK134.out 1;have hcz41_0 : w37.cell? ⟨gb129,0,none⟩ = some (.int .u64 a0_0):=(kc_ BK129.out 0).trans rfl;have hcz41_1 : w37.cell? ⟨gb129,1,none⟩ = some (.int .u64 a0_1):=(kc_ BK129.out 1).trans rfl;have hcz41_2 : w37.cell? ⟨gb129,2,none⟩ = some (.string a0_2):=(kc_ BK129.out 2).trans rfl;have hcz41_3 : w37.cell? ⟨gb129,3,none⟩ = some (.slice A0_3 l0_3.length c0_3):=(kc_ BK129.out 3).trans rfl;have hcz41_4 : w37.cell? ⟨gb129,4,none⟩ = some (.slice A0_4 l0_4.length c0_4):=(kc_ BK129.out 4).trans rfl;have hcz41_5 : w37.cell? ⟨gb129,5,none⟩ = some (.bool a0_5):=(kc_ BK129.out 5).trans rfl;have hcz41_6 : w37.cell? ⟨gb129,6,none⟩ = some (.bool false):=(kc_ BK129.out 6).trans rfl;have hcz41_7 : w37.cell? ⟨gb129,7,none⟩ = some (.bool a0_7):=(kc_ BK129.out 7).trans rfl;have hfz41_0:=blk_frozen BK129.out 0;have hfz41_1:=blk_frozen BK129.out 1;have hfz41_2:=blk_frozen BK129.out 2;have hfz41_3:=blk_frozen BK129.out 3;have hfz41_4:=blk_frozen BK129.out 4;have hfz41_5:=blk_frozen BK129.out 5;have hfz41_6:=blk_frozen BK129.out 6;have hfz41_7:=blk_frozen BK129.out 7; skip)|((with_reducible refine gate_callee (f:=33) rfl ?_);refine goesL_ (some 22) rfl rfl Try.func33 (by kernel_rfl) rfl #[.slice A0_4 l0_4.length c0_4,.agg #[.int .u64 t131,.int .u64 t132]] rfl (by (try simp only [List.map_toArray,List.map_cons,List.map_nil]);first|done|rfl|(simp only [List.length_drop,List.length_take];rfl)) ?_;(with_reducible refine (ranges_Cut.calls k _ _ l0_4 t131 t132 t135 _ ?side1 ?side2 A7.out).mono ?_);(case side1 => refine (Kd.V_reads' (e:=67) (base:=w.heap.size) (ok:=fun _ => True) (n:=l0_4.length) (c:=c0_4) ?_).2.2;exact (by (with_reducible repeat (first|apply Kd.V_alloc|apply Kd.V_drewN|apply Kd.V_drew));exact (Kd.V_mono (Kd.V_far (p:=⟨gb134,1,none⟩) (Kd.V_far (p:=⟨gb134,0,none⟩) (Kd.V_mono HO0_4.out (fun k_ hk => (⟨hk,hk.2⟩ : _ ∧ k_ ≠ gb134))) (fun _ hk => hk.2) (.int .u64 t131)) (fun _ hk => hk.2) (.int .u64 t132)) (fun _ _ => trivial))));(case side2 => exact (Kd.V_reads' HO0_4.out).2.1);rintro e w42 ⟨v136,rfl,ho0,hb⟩;refine ⟨_,rfl,?_⟩;have n0_:=am_ (Kd.V_elder' (by (with_reducible repeat (first|apply Kd.V_alloc|apply Kd.V_drewN|apply Kd.V_drew));exact (Kd.V_mono (Kd.V_far (p:=⟨gb134,1,none⟩) (Kd.V_far (p:=⟨gb134,0,none⟩) (Kd.V_mono HO0_3.out (fun k_ hk => (⟨hk,hk.2⟩ : _ ∧ k_ ≠ gb134))) (fun _ hk => hk.2) (.int .u64 t131)) (fun _ hk => hk.2) (.int .u64 t132)) (fun _ h_ => h_.1))) (Kd.R_base ho0) hb);have n1_:=am_ (Kd.V_elder' (by (with_reducible repeat (first|apply Kd.V_alloc|apply Kd.V_drewN|apply Kd.V_drew));exact (Kd.V_mono (Kd.V_far (p:=⟨gb134,1,none⟩) (Kd.V_far (p:=⟨gb134,0,none⟩) (Kd.V_mono HO0_4.out (fun k_ hk => (⟨hk,hk.2⟩ : _ ∧ k_ ≠ gb134))) (fun _ hk => hk.2) (.int .u64 t131)) (fun _ hk => hk.2) (.int .u64 t132)) (fun _ h_ => h_.1))) (Kd.R_base ho0) hb);have n2_:=am_ (Kd.R_lower (Kd.R_newB (Kd.R_newM (M:=fun k_ => (w.heap.size ≤ k_)) ho0 (below_size (by repeat (first|(with_reducible first|exact HB.out|apply ba_|apply pn_|apply pd_|refine bs_ ?_ GE129.out|refine bs_ ?_ GE130.out|refine bs_ ?_ GE134.out)|exact HB.out))) (fun k_ h_ => h_)) (g:=gb134) (o:=.cells #[.int .u64 t131,.int .u64 t132] 67 (0,0)) (by (with_reducible repeat (first|refine kn_ ?_ _|refine kd_ ?_|refine ka_ ?_ _));refine blk_put (cs:=#[.int .u64 t131,.int .u64 0]) ?_ 1 _ rfl;(with_reducible repeat (first|refine kn_ ?_ _|refine kd_ ?_|refine ka_ ?_ _));refine blk_put (cs:=kk1_) ?_ 0 _ rfl;(with_reducible repeat (first|refine kn_ ?_ _|refine kd_ ?_|refine ka_ ?_ _));exact BK134.out)) (below_size (by repeat (first|(with_reducible first|exact HB.out|apply ba_|apply pn_|apply pd_|refine bs_ ?_ GE129.out|refine bs_ ?_ GE130.out|refine bs_ ?_ GE134.out)|exact HB.out))));have n3_:=am_ (blk_below (g:=gb129) (o:=.cells #[.int .u64 a0_0,.int .u64 a0_1,.string a0_2,.slice A0_3 l0_3.length c0_3,.slice A0_4 l0_4.length c0_4,.bool a0_5,.bool false,.bool a0_7] 29 (0,0)) (by (with_reducible repeat (first|refine kn_ ?_ _|refine kd_ ?_|refine ka_ ?_ _));refine blk_far ?_ NB129_134.out _;(with_reducible repeat (first|refine kn_ ?_ _|refine kd_ ?_|refine ka_ ?_ _));refine blk_far ?_ NB129_134.out _;(with_reducible repeat (first|refine kn_ ?_ _|refine kd_ ?_|refine ka_ ?_ _));exact BK129.out) hb);have n4_:=am_ (blk_below (g:=gb130) (o:=.cells kk0_ 29 (0,0)) (by (with_reducible repeat (first|refine kn_ ?_ _|refine kd_ ?_|refine ka_ ?_ _));refine blk_far ?_ NB130_134.out _;(with_reducible repeat (first|refine kn_ ?_ _|refine kd_ ?_|refine ka_ ?_ _));refine blk_far ?_ NB130_134.out _;(with_reducible repeat (first|refine kn_ ?_ _|refine kd_ ?_|refine ka_ ?_ _));exact BK130.out) hb);have n5_:=am_ (blk_below (g:=gb134) (o:=.cells #[.int .u64 t131,.int .u64 t132] 67 (0,0)) (by (with_reducible repeat (first|refine kn_ ?_ _|refine kd_ ?_|refine ka_ ?_ _));refine blk_put (cs:=#[.int .u64 t131,.int .u64 0]) ?_ 1 _ rfl;(with_reducible repeat (first|refine kn_ ?_ _|refine kd_ ?_|refine ka_ ?_ _));refine blk_put (cs:=kk1_) ?_ 0 _ rfl;(with_reducible repeat (first|refine kn_ ?_ _|refine kd_ ?_|refine ka_ ?_ _));exact BK134.out) hb);have n6_:=am_ (below_step (by repeat (first|(with_reducible first|exact HB.out|apply ba_|apply pn_|apply pd_|refine bs_ ?_ GE129.out|refine bs_ ?_ GE130.out|refine bs_ ?_ GE134.out)|exact HB.out)) hb);clear HO0_3;clear HO0_4;clear BK129;clear BK130;clear BK134;clear HB;have HO0_3:=n0_;have HO0_4:=n1_;have HO137:=n2_;have BK129:=n3_;have BK130:=n4_;have BK134:=n5_;have HB:=n6_;clear n0_ n1_ n2_ n3_ n4_ n5_ n6_;(try clear hb);(try clear hb2);(try clear hk);(try clear hi);(try clear ho0);obtain ⟨Ao43,co43,eo43⟩:=Kd.R_slice HO137.out;subst eo43;have hcz44_0 : w42.cell? ⟨gb129,0,none⟩ = some (.int .u64 a0_0):=(kc_ BK129.out 0).trans rfl;have hcz44_1 : w42.cell? ⟨gb129,1,none⟩ = some (.int .u64 a0_1):=(kc_ BK129.out 1).trans rfl;have hcz44_2 : w42.cell? ⟨gb129,2,none⟩ = some (.string a0_2):=(kc_ BK129.out 2).trans rfl;have hcz44_3 : w42.cell? ⟨gb129,3,none⟩ = some (.slice A0_3 l0_3.length c0_3):=(kc_ BK129.out 3).trans rfl;have hcz44_4 : w42.cell? ⟨gb129,4,none⟩ = some (.slice A0_4 l0_4.length c0_4):=(kc_ BK129.out 4).trans rfl;have hcz44_5 : w42.cell? ⟨gb129,5,none⟩ = some (.bool a0_5):=(kc_ BK129.out 5).trans rfl;have hcz44_6 : w42.cell? ⟨gb129,6,none⟩ = some (.bool false):=(kc_ BK129.out 6).trans rfl;have hcz44_7 : w42.cell? ⟨gb129,7,none⟩ = some (.bool a0_7):=(kc_ BK129.out 7).trans rfl;have hfz44_0:=blk_frozen BK129.out 0;have hfz44_1:=blk_frozen BK129.out 1;have hfz44_2:=blk_frozen BK129.out 2;have hfz44_3:=blk_frozen BK129.out 3;have hfz44_4:=blk_frozen BK129.out 4;have hfz44_5:=blk_frozen BK129.out 5;have hfz44_6:=blk_frozen BK129.out 6;have hfz44_7:=blk_frozen BK129.out 7; skip))
   have n0_ : Aside0 (Kd.V k67 67 (w42.setCell ⟨gb129,4,none⟩ (.slice Ao43 t135.length co43)) w.heap.size (fun k_ => ((P0_3_ k_ ∨ P0_4_ k_) ∨ w.heap.size ≤ k_) ∧ some k_ ≠ (.slice Ao43 t135.length co43 : Value).ownBlock ∧ k_ ≠ gb129 ∧ k_ ≠ gb130 ∧ k_ ≠ gb134) (.slice A0_3 l0_3.length c0_3) l0_3):=⟨by (with_reducible repeat (first|apply Kd.V_alloc|apply Kd.V_drewN|apply Kd.V_drew));exact Kd.V_mono (Kd.V_far (p:=⟨gb129,4,none⟩) (Kd.V_mono HO0_3.out (fun k_ hk => (⟨hk,hk.1.1.1.2⟩ : _ ∧ k_ ≠ gb129))) (fun _ hk => hk.2) (.slice Ao43 t135.length co43)) (fun _ hk => ⟨hk.1.1.1.1.1,⟨hk.1.2,⟨hk.1.1.1.1.2,⟨hk.1.1.1.2,hk.1.1.2⟩⟩⟩⟩)⟩
   have n1_ : Aside0 (Kd.V k67 67 (w42.setCell ⟨gb129,4,none⟩ (.slice Ao43 t135.length co43)) w.heap.size (fun k_ => ((P0_3_ k_ ∨ P0_4_ k_) ∨ w.heap.size ≤ k_) ∧ some k_ ≠ (.slice Ao43 t135.length co43 : Value).ownBlock ∧ k_ ≠ gb129 ∧ k_ ≠ gb130 ∧ k_ ≠ gb134) (.slice A0_4 l0_4.length c0_4) l0_4):=⟨by (with_reducible repeat (first|apply Kd.V_alloc|apply Kd.V_drewN|apply Kd.V_drew));exact Kd.V_mono (Kd.V_far (p:=⟨gb129,4,none⟩) (Kd.V_mono HO0_4.out (fun k_ hk => (⟨hk,hk.1.1.1.2⟩ : _ ∧ k_ ≠ gb129))) (fun _ hk => hk.2) (.slice Ao43 t135.length co43)) (fun _ hk => ⟨hk.1.1.1.1.1,⟨hk.1.2,⟨hk.1.1.1.1.2,⟨hk.1.1.1.2,hk.1.1.2⟩⟩⟩⟩)⟩
   have n2_ : Aside0 (Kd.R k67 67 (w42.setCell ⟨gb129,4,none⟩ (.slice Ao43 t135.length co43)) w.heap.size (fun k_ => (w.heap.size ≤ k_) ∧ k_ ≠ gb134) (.slice Ao43 t135.length co43) t135):=⟨by (with_reducible repeat (first|apply ra_|apply rn_|apply rd_));exact Kd.R_mono (Kd.R_far (p:=⟨gb129,4,none⟩) (Kd.R_types HO137.out BK129.out (by decide)) (fun _ hk => hk.2) (.slice Ao43 t135.length co43)) (fun _ hk => ⟨hk.1.1.1,hk.1.2⟩)⟩
   have n3_ : Aside0 ((w42.setCell ⟨gb129,4,none⟩ (.slice Ao43 t135.length co43)).heap[gb129]? = some (.cells #[.int .u64 a0_0,.int .u64 a0_1,.string a0_2,.slice A0_3 l0_3.length c0_3,.slice Ao43 t135.length co43,.bool a0_5,.bool false,.bool a0_7] 29 (0,0))):=⟨by (with_reducible repeat (first|refine kn_ ?_ _|refine kd_ ?_|refine ka_ ?_ _));refine blk_put (cs:=#[.int .u64 a0_0,.int .u64 a0_1,.string a0_2,.slice A0_3 l0_3.length c0_3,.slice A0_4 l0_4.length c0_4,.bool a0_5,.bool false,.bool a0_7]) ?_ 4 _ rfl;(with_reducible repeat (first|refine kn_ ?_ _|refine kd_ ?_|refine ka_ ?_ _));exact BK129.out⟩
   have n4_ : Aside0 ((w42.setCell ⟨gb129,4,none⟩ (.slice Ao43 t135.length co43)).heap[gb130]? = some (.cells kk0_ 29 (0,0))):=⟨by (with_reducible repeat (first|refine kn_ ?_ _|refine kd_ ?_|refine ka_ ?_ _));refine blk_far ?_ NB130_129.out _;(with_reducible repeat (first|refine kn_ ?_ _|refine kd_ ?_|refine ka_ ?_ _));exact BK130.out⟩
   have n5_ : Aside0 ((w42.setCell ⟨gb129,4,none⟩ (.slice Ao43 t135.length co43)).heap[gb134]? = some (.cells #[.int .u64 t131,.int .u64 t132] 67 (0,0))):=⟨by (with_reducible repeat (first|refine kn_ ?_ _|refine kd_ ?_|refine ka_ ?_ _));refine blk_far ?_ NB134_129.out _;(with_reducible repeat (first|refine kn_ ?_ _|refine kd_ ?_|refine ka_ ?_ _));exact BK134.out⟩
   have n6_ : Aside0 (Below w.heap.size w (w42.setCell ⟨gb129,4,none⟩ (.slice Ao43 t135.length co43))):=⟨by repeat (first|(with_reducible first|exact HB.out|apply ba_|apply pn_|apply pd_|refine bs_ ?_ GE129.out|refine bs_ ?_ GE130.out|refine bs_ ?_ GE134.out)|exact HB.out)⟩
   (try clear HO0_3)
   (try clear HO0_4)
   (try clear HO137)
   (try clear BK129)
   (try clear BK130)
   (try clear BK134)
   (try clear HB)
   generalize (w42.setCell ⟨gb129,4,none⟩ (.slice Ao43 t135.length co43)) = w45 at n0_ n1_ n2_ n3_ n4_ n5_ n6_ ⊢
   have HO0_3:=n0_
   have HO0_4:=n1_
   have HO137:=n2_
   have BK129:=n3_
   have BK130:=n4_
   have BK134:=n5_
   have HB:=n6_
   clear n0_ n1_ n2_ n3_ n4_ n5_ n6_
   have n0_:=am_ (Kd.V_drew HO0_3.out)
   have n1_:=am_ (Kd.V_drew HO0_4.out)
   have n2_:=am_ (rd_ HO137.out)
   have n3_:=am_ (kd_ BK129.out)
   have n4_:=am_ (kd_ BK130.out)
   have n5_:=am_ (kd_ BK134.out)
   have n6_:=am_ (pd_ HB.out)
   clear HO0_3
   clear HO0_4
   clear HO137
   clear BK129
   clear BK130
   clear BK134
   clear HB
   have HO0_3:=n0_
   have HO0_4:=n1_
   have HO137:=n2_
   have BK129:=n3_
   have BK130:=n4_
   have BK134:=n5_
   have HB:=n6_
   clear n0_ n1_ n2_ n3_ n4_ n5_ n6_
   refine start_ (n:=13) (S:=fun w' => w'.cell? ⟨gb129,0,none⟩ = some (.int .u64 a0_0) ∧ w'.cell? ⟨gb129,1,none⟩ = some (.int .u64 a0_1) ∧ w'.cell? ⟨gb129,2,none⟩ = some (.string a0_2) ∧ w'.cell? ⟨gb129,3,none⟩ = some (.slice A0_3 l0_3.length c0_3) ∧ w'.cell? ⟨gb129,4,none⟩ = some (.slice Ao43 t135.length co43) ∧ w'.cell? ⟨gb129,5,none⟩ = some (.bool a0_5) ∧ w'.cell? ⟨gb129,6,none⟩ = some (.bool false) ∧ w'.cell? ⟨gb129,7,none⟩ = some (.bool a0_7)) (ds:=[12]) #[F_,F_,F_,F_,F_,F_,F_,F_,F_,F_,F_,F_,F_] (by kernel_rfl) rfl rfl ⟨(kc_ BK129.out 0).trans rfl,(kc_ BK129.out 1).trans rfl,(kc_ BK129.out 2).trans rfl,(kc_ BK129.out 3).trans rfl,(kc_ BK129.out 4).trans rfl,(kc_ BK129.out 5).trans rfl,(kc_ BK129.out 6).trans rfl,(kc_ BK129.out 7).trans rfl⟩ (fun hHeld => ?_);refine with_tabW sendq_Sent.tab4 sendq_Sent.bits4 (fun HT_ HW_ => ?_)
   generalize w45.drew = w46 at HO0_3 HO0_4 HO137 BK129 BK130 BK134 HB hHeld ⊢
   refine pure_ (i:=0) (N:=some 24) (v:=?_) (a':=?_) #[T_,F_,F_,F_,F_,F_,F_,F_,F_,F_,F_,F_,F_] rfl rfl (any_of HT_.out (by kernel_rfl)) (fun _ _ _ h => h) (Or.inl ⟨by rfl,?_⟩) ?_ ?_
   rotate_left;(intro w';go_simp;with_reducible rfl);rotate_left;(simp only [Act.put,ps_,i64_w,i32_w];rfl)
   refine pure_ (i:=2) (N:=some 26) (v:=?_) (a':=?_) #[T_,F_,T_,F_,F_,F_,F_,F_,F_,F_,F_,F_,F_] rfl rfl (any_of HT_.out (by kernel_rfl)) (fun _ _ _ h => h) (Or.inl ⟨by rfl,?_⟩) ?_ ?_
   rotate_left;(intro w';go_simp;with_reducible rfl);rotate_left;(simp only [Act.put,ps_,i64_w,i32_w];rfl)
   refine pure_ (i:=3) (N:=some 27) (v:=?_) (a':=?_) #[T_,F_,T_,T_,F_,F_,F_,F_,F_,F_,F_,F_,F_] rfl rfl (any_of HT_.out (by kernel_rfl)) (fun _ _ _ h => h) (Or.inl ⟨by rfl,?_⟩) ?_ ?_
   rotate_left;(intro w';go_simp;with_reducible rfl);rotate_left;(simp only [Act.put,ps_,i64_w,i32_w];rfl)
   refine pure_ (i:=4) (N:=some 28) (v:=?_) (a':=?_) #[T_,F_,T_,T_,T_,F_,F_,F_,F_,F_,F_,F_,F_] rfl rfl (any_of HT_.out (by kernel_rfl)) (fun _ _ _ h => h) (Or.inl ⟨by rfl,?_⟩) ?_ ?_
   rotate_left;(intro w';go_simp;with_reducible rfl);rotate_left;(simp only [Act.put,ps_,i64_w,i32_w];rfl)
   refine pure_ (i:=5) (N:=some 29) (v:=?_) (a':=?_) #[T_,F_,T_,T_,T_,T_,F_,F_,F_,F_,F_,F_,F_] rfl rfl (any_of HT_.out (by kernel_rfl)) (fun _ _ _ h => h) (Or.inl ⟨by rfl,?_⟩) ?_ ?_
   rotate_left;(intro w';go_simp;with_reducible rfl);rotate_left;(simp only [Act.put,ps_,i64_w,i32_w];rfl)
   refine pure_ (i:=6) (N:=some 30) (v:=?_) (a':=?_) #[T_,F_,T_,T_,T_,T_,T_,F_,F_,F_,F_,F_,F_] rfl rfl (any_of HT_.out (by kernel_rfl)) (fun _ _ _ h => h) (Or.inl ⟨by rfl,?_⟩) ?_ ?_
   rotate_left;(intro w';go_simp;with_reducible rfl);rotate_left;(simp only [Act.put,ps_,i64_w,i32_w];rfl)
   refine take_ (i:=1) (N:=some 25) (v:=?_) (a':=?_) #[T_,T_,T_,T_,T_,T_,T_,F_,F_,F_,F_,F_,F_] rfl rfl (take_ofW HT_.out HW_.out (by kernel_rfl)) (fun _ _ _ h => h) (Or.inl ⟨by rfl,?_⟩) hHeld ?_ ?_
   rotate_left
   ·rintro w' ⟨s0,s1,s2,s3,s4,s5,s6,s7⟩
    go_simp
    with_reducible rfl
   rotate_left
   ·simp only [Act.put,ps_,i64_w,i32_w]
    rfl
   refine take_ (i:=7) (N:=some 31) (v:=?_) (a':=?_) #[T_,T_,T_,T_,T_,T_,T_,T_,F_,F_,F_,F_,F_] rfl rfl (take_ofW HT_.out HW_.out (by kernel_rfl)) (fun _ _ _ h => h) (Or.inl ⟨by rfl,?_⟩) hHeld ?_ ?_
   rotate_left
   ·rintro w' ⟨s0,s1,s2,s3,s4,s5,s6,s7⟩
    go_simp
    with_reducible rfl
   rotate_left
   ·simp only [Act.put,ps_,i64_w,i32_w]
    rfl
   refine one_ (i:=8) (N:=some 32) #[T_,T_,T_,T_,T_,T_,T_,T_,T_,F_,F_,F_,F_] rfl rfl (one_of HT_.out (by kernel_rfl)) (by decide) (fun K hK => ?_)
   refine goes_ Try.func29 (by kernel_rfl) rfl #[.agg #[.int .u64 a0_0,.int .u64 a0_1,.string a0_2,.slice A0_3 l0_3.length c0_3,.slice Ao43 t135.length co43,.bool a0_5,.bool false,.bool a0_7]] (by rfl) rfl rfl (by (try simp only [List.map_toArray,List.map_cons,List.map_nil]);first|done|rfl|(simp only [List.length_drop,List.length_take];rfl)) ?_
   with_reducible refine (sendq_State_end.calls a0_0 a0_1 a0_2 _ _ l0_3 _ _ t135 a0_5 false a0_7 t138 _ ?side1 ?side2 ?side3 ?side4 A9.out).mono ?_
   (case side1 => repeat (first|exact (Kd.V_reads' HO0_3.out).2.2|(with_reducible refine Kd.C_alloc ?_ _)|(with_reducible refine Kd.C_drewN ?_ _)|(with_reducible refine Kd.C_drew ?_)))
   (case side2 => exact (Kd.V_reads' HO0_3.out).2.1)
   (case side3 => repeat (first|exact (Kd.R_reads' HO137.out).2.2|(with_reducible refine Kd.C_alloc ?_ _)|(with_reducible refine Kd.C_drewN ?_ _)|(with_reducible refine Kd.C_drew ?_)))
   (case side4 => exact (Kd.R_reads' HO137.out).2.1)
   rintro e w47 ⟨rfl,hb⟩
   refine ⟨_,rfl,?_⟩
   have n0_:=am_ (Kd.V_below (by (with_reducible repeat (first|apply Kd.V_alloc|apply Kd.V_drewN|apply Kd.V_drew));exact HO0_3.out) hb)
   have n1_:=am_ (Kd.V_below (by (with_reducible repeat (first|apply Kd.V_alloc|apply Kd.V_drewN|apply Kd.V_drew));exact HO0_4.out) hb)
   have n2_:=am_ (Kd.R_below (by (with_reducible repeat (first|apply ra_|apply rn_|apply rd_));exact HO137.out) hb)
   have n3_:=am_ (blk_below (g:=gb129) (o:=.cells #[.int .u64 a0_0,.int .u64 a0_1,.string a0_2,.slice A0_3 l0_3.length c0_3,.slice Ao43 t135.length co43,.bool a0_5,.bool false,.bool a0_7] 29 (0,0)) (by (with_reducible repeat (first|refine kn_ ?_ _|refine kd_ ?_|refine ka_ ?_ _));exact BK129.out) hb)
   have n4_:=am_ (blk_below (g:=gb130) (o:=.cells kk0_ 29 (0,0)) (by (with_reducible repeat (first|refine kn_ ?_ _|refine kd_ ?_|refine ka_ ?_ _));exact BK130.out) hb)
   have n5_:=am_ (blk_below (g:=gb134) (o:=.cells #[.int .u64 t131,.int .u64 t132] 67 (0,0)) (by (with_reducible repeat (first|refine kn_ ?_ _|refine kd_ ?_|refine ka_ ?_ _));exact BK134.out) hb)
   have n6_:=am_ (below_step (by repeat (first|(with_reducible first|exact HB.out|apply ba_|apply pn_|apply pd_|refine bs_ ?_ GE129.out|refine bs_ ?_ GE130.out|refine bs_ ?_ GE134.out)|exact HB.out)) hb)
   clear HO0_3
   clear HO0_4
   clear HO137
   clear BK129
   clear BK130
   clear BK134
   clear HB
   have HO0_3:=n0_
   have HO0_4:=n1_
   have HO137:=n2_
   have BK129:=n3_
   have BK130:=n4_
   have BK134:=n5_
   have HB:=n6_
   clear n0_ n1_ n2_ n3_ n4_ n5_ n6_
   (try clear hb)
   (try clear hb2)
   (try clear hk)
   (try clear hi)
   refine hK.out _ _ ⟨(kc_ BK129.out 0).trans rfl,(kc_ BK129.out 1).trans rfl,(kc_ BK129.out 2).trans rfl,(kc_ BK129.out 3).trans rfl,(kc_ BK129.out 4).trans rfl,(kc_ BK129.out 5).trans rfl,(kc_ BK129.out 6).trans rfl,(kc_ BK129.out 7).trans rfl⟩ (fun hHeld => ?_)
   clear hK K
   refine norm_ (a':=?_) ?_ ?_
   rotate_left
   ·show Act.put _ (some 32) _ = _
    simp only [Act.put,ps_,i64_w,i32_w]
    rfl
   refine pure_ (i:=9) (N:=some 33) (v:=?_) (a':=?_) #[T_,T_,T_,T_,T_,T_,T_,T_,T_,T_,F_,F_,F_] rfl rfl (any_of HT_.out (by kernel_rfl)) (fun _ _ _ h => h) (Or.inl ⟨by rfl,?_⟩) ?_ ?_
   rotate_left;(intro w';go_simp;with_reducible rfl);rotate_left;(simp only [Act.put,ps_,i64_w,i32_w];rfl)
   refine pure_ (i:=10) (N:=some 34) (v:=?_) (a':=?_) #[T_,T_,T_,T_,T_,T_,T_,T_,T_,T_,T_,F_,F_] rfl rfl (any_of HT_.out (by kernel_rfl)) (fun _ _ _ h => h) (Or.inl ⟨by rfl,?_⟩) ?_ ?_
   rotate_left;(intro w';go_simp;with_reducible rfl);rotate_left;(simp only [Act.put,ps_,i64_w,i32_w];rfl)
   refine pure_ (i:=11) (N:=some 35) (v:=?_) (a':=?_) #[T_,T_,T_,T_,T_,T_,T_,T_,T_,T_,T_,T_,F_] rfl rfl (any_of HT_.out (by kernel_rfl)) (fun _ _ _ h => h) (Or.inl ⟨by rfl,?_⟩) ?_ ?_
   rotate_left;(intro w';go_simp;with_reducible rfl);rotate_left;(simp only [Act.put,ps_,i64_w,i32_w];rfl)
   refine last_ (i:=12) (N:=none) #[T_,T_,T_,T_,T_,T_,T_,T_,T_,T_,T_,T_,T_] rfl rfl (one_of HT_.out (by kernel_rfl)) (by decide) (fun K hK => ?_)
   have hs48 : w47.cell? ⟨gb129,1,none⟩ = some (.int .u64 a0_1):=(kc_ BK129.out 1).trans rfl
   have hfs48:=blk_frozen BK129.out 1
   have hns48_1:=NB130_129.out
   have hns48_2:=NB134_129.out
   have hms48_1:=NB129_130.out
   have hms48_2:=NB129_134.out
   refine skip_ (w1:=?_) (by rfl) rfl ?_ ?_
   rotate_left
   ·go_simp
    rfl
   refine hK.out _ _ ?_
   clear hK K
   refine done_ (done_of HT_.out (by kernel_rfl)) ?_
   have hcz49_0 : w47.cell? ⟨gb129,0,none⟩ = some (.int .u64 a0_0):=(kc_ BK129.out 0).trans rfl
   have hcz49_1 : w47.cell? ⟨gb129,1,none⟩ = some (.int .u64 a0_1):=(kc_ BK129.out 1).trans rfl
   have hcz49_2 : w47.cell? ⟨gb129,2,none⟩ = some (.string a0_2):=(kc_ BK129.out 2).trans rfl
   have hcz49_3 : w47.cell? ⟨gb129,3,none⟩ = some (.slice A0_3 l0_3.length c0_3):=(kc_ BK129.out 3).trans rfl
   have hcz49_4 : w47.cell? ⟨gb129,4,none⟩ = some (.slice Ao43 t135.length co43):=(kc_ BK129.out 4).trans rfl
   have hcz49_5 : w47.cell? ⟨gb129,5,none⟩ = some (.bool a0_5):=(kc_ BK129.out 5).trans rfl
   have hcz49_6 : w47.cell? ⟨gb129,6,none⟩ = some (.bool false):=(kc_ BK129.out 6).trans rfl
   have hcz49_7 : w47.cell? ⟨gb129,7,none⟩ = some (.bool a0_7):=(kc_ BK129.out 7).trans rfl
   have hfz49_0:=blk_frozen BK129.out 0
   have hfz49_1:=blk_frozen BK129.out 1
   have hfz49_2:=blk_frozen BK129.out 2
   have hfz49_3:=blk_frozen BK129.out 3
   have hfz49_4:=blk_frozen BK129.out 4
   have hfz49_5:=blk_frozen BK129.out 5
   have hfz49_6:=blk_frozen BK129.out 6
   have hfz49_7:=blk_frozen BK129.out 7
   have hcz50_0 : w47.cell? ⟨gb130,0,none⟩ = some (.int .u64 0):=(kc_ BK130.out 0).trans rfl
   have hcz50_1 : w47.cell? ⟨gb130,1,none⟩ = some (.int .u64 0):=(kc_ BK130.out 1).trans rfl
   have hcz50_2 : w47.cell? ⟨gb130,2,none⟩ = some (.string (⟨#[]⟩ : ByteArray)):=(kc_ BK130.out 2).trans rfl
   have hcz50_3 : w47.cell? ⟨gb130,3,none⟩ = some (.slice none 0 0):=(kc_ BK130.out 3).trans rfl
   have hcz50_4 : w47.cell? ⟨gb130,4,none⟩ = some (.slice none 0 0):=(kc_ BK130.out 4).trans rfl
   have hcz50_5 : w47.cell? ⟨gb130,5,none⟩ = some (.bool false):=(kc_ BK130.out 5).trans rfl
   have hcz50_6 : w47.cell? ⟨gb130,6,none⟩ = some (.bool false):=(kc_ BK130.out 6).trans rfl
   have hcz50_7 : w47.cell? ⟨gb130,7,none⟩ = some (.bool false):=(kc_ BK130.out 7).trans rfl
   have hfz50_0:=blk_frozen BK130.out 0
   have hfz50_1:=blk_frozen BK130.out 1
   have hfz50_2:=blk_frozen BK130.out 2
   have hfz50_3:=blk_frozen BK130.out 3
   have hfz50_4:=blk_frozen BK130.out 4
   have hfz50_5:=blk_frozen BK130.out 5
   have hfz50_6:=blk_frozen BK130.out 6
   have hfz50_7:=blk_frozen BK130.out 7
   try go_wp2
   refine bodyPost_ret (results_cell_row rfl _ _ gb130 29 #[.int .u64 a0_0,.int .u64 ji11,.string a0_2,.slice A0_3 l0_3.length c0_3,.slice Ao43 t135.length co43,.bool a0_5,.bool false,.bool a0_7] (0,0) _ rfl (by (with_reducible repeat (first|refine kn_ ?_ _|refine kd_ ?_|refine ka_ ?_ _));refine blk_put (cs:=#[.int .u64 a0_0,.int .u64 ji11,.string a0_2,.slice A0_3 l0_3.length c0_3,.slice Ao43 t135.length co43,.bool a0_5,.bool false,.bool false]) ?_ 7 _ rfl;(with_reducible repeat (first|refine kn_ ?_ _|refine kd_ ?_|refine ka_ ?_ _));refine blk_put (cs:=#[.int .u64 a0_0,.int .u64 ji11,.string a0_2,.slice A0_3 l0_3.length c0_3,.slice Ao43 t135.length co43,.bool a0_5,.bool false,.bool false]) ?_ 6 _ rfl;(with_reducible repeat (first|refine kn_ ?_ _|refine kd_ ?_|refine ka_ ?_ _));refine blk_put (cs:=#[.int .u64 a0_0,.int .u64 ji11,.string a0_2,.slice A0_3 l0_3.length c0_3,.slice Ao43 t135.length co43,.bool false,.bool false,.bool false]) ?_ 5 _ rfl;(with_reducible repeat (first|refine kn_ ?_ _|refine kd_ ?_|refine ka_ ?_ _));refine blk_put (cs:=#[.int .u64 a0_0,.int .u64 ji11,.string a0_2,.slice A0_3 l0_3.length c0_3,.slice none 0 0,.bool false,.bool false,.bool false]) ?_ 4 _ rfl;(with_reducible repeat (first|refine kn_ ?_ _|refine kd_ ?_|refine ka_ ?_ _));refine blk_put (cs:=#[.int .u64 a0_0,.int .u64 ji11,.string a0_2,.slice none 0 0,.slice none 0 0,.bool false,.bool false,.bool false]) ?_ 3 _ rfl;(with_reducible repeat (first|refine kn_ ?_ _|refine kd_ ?_|refine ka_ ?_ _));refine blk_put (cs:=#[.int .u64 a0_0,.int .u64 ji11,.string (⟨#[]⟩ : ByteArray),.slice none 0 0,.slice none 0 0,.bool false,.bool false,.bool false]) ?_ 2 _ rfl;(with_reducible repeat (first|refine kn_ ?_ _|refine kd_ ?_|refine ka_ ?_ _));refine blk_put (cs:=#[.int .u64 a0_0,.int .u64 0,.string (⟨#[]⟩ : ByteArray),.slice none 0 0,.slice none 0 0,.bool false,.bool false,.bool false]) ?_ 1 _ rfl;(with_reducible repeat (first|refine kn_ ?_ _|refine kd_ ?_|refine ka_ ?_ _));refine blk_put (cs:=kk0_) ?_ 0 _ rfl;(with_reducible repeat (first|refine kn_ ?_ _|refine kd_ ?_|refine ka_ ?_ _));refine blk_far ?_ NB130_129.out _;(with_reducible repeat (first|refine kn_ ?_ _|refine kd_ ?_|refine ka_ ?_ _));refine blk_far ?_ NB130_129.out _;(with_reducible repeat (first|refine kn_ ?_ _|refine kd_ ?_|refine ka_ ?_ _));exact BK130.out) Try.underlying29 rfl (by kernel_rfl)) rfl ?_
   exact ⟨_,_,by first|rfl|(simp [errW_none,errW_some] <;> rfl)|(simp only [← hji8,← hji10,← hji11];first|rfl|(simp [errW_none,errW_some] <;> rfl))|(simp [*,errW_none,errW_some] <;> rfl),by (with_reducible repeat (first|apply Kd.V_alloc|apply Kd.V_drewN|apply Kd.V_drew));exact Kd.V_mono (Kd.V_far (p:=⟨gb130,7,none⟩) (Kd.V_far (p:=⟨gb130,6,none⟩) (Kd.V_far (p:=⟨gb130,5,none⟩) (Kd.V_far (p:=⟨gb130,4,none⟩) (Kd.V_far (p:=⟨gb130,3,none⟩) (Kd.V_far (p:=⟨gb130,2,none⟩) (Kd.V_far (p:=⟨gb130,1,none⟩) (Kd.V_far (p:=⟨gb130,0,none⟩) (Kd.V_far (p:=⟨gb129,6,none⟩) (Kd.V_far (p:=⟨gb129,1,none⟩) (Kd.V_mono (Kd.V_mono HO0_3.out (fun k_ hk => (⟨hk,hk.2.2.1⟩ : _ ∧ k_ ≠ gb129))) (fun k_ hk => (⟨hk,hk.1.2.2.2.1⟩ : _ ∧ k_ ≠ gb130))) (fun _ hk => hk.1.2) (.int .u64 ji11)) (fun _ hk => hk.1.2) (.bool false)) (fun _ hk => hk.2) (.int .u64 a0_0)) (fun _ hk => hk.2) (.int .u64 ji11)) (fun _ hk => hk.2) (.string a0_2)) (fun _ hk => hk.2) (.slice A0_3 l0_3.length c0_3)) (fun _ hk => hk.2) (.slice Ao43 t135.length co43)) (fun _ hk => hk.2) (.bool a0_5)) (fun _ hk => hk.2) (.bool false)) (fun _ hk => hk.2) (.bool a0_7)) (fun _ hk => hk.1.1.1),Kd.V_mono (Kd.R_V (by (with_reducible repeat (first|apply ra_|apply rn_|apply rd_));exact Kd.R_mono (Kd.R_far (p:=⟨gb130,7,none⟩) (Kd.R_far (p:=⟨gb130,6,none⟩) (Kd.R_far (p:=⟨gb130,5,none⟩) (Kd.R_far (p:=⟨gb130,4,none⟩) (Kd.R_far (p:=⟨gb130,3,none⟩) (Kd.R_far (p:=⟨gb130,2,none⟩) (Kd.R_far (p:=⟨gb130,1,none⟩) (Kd.R_far (p:=⟨gb130,0,none⟩) (Kd.R_far (p:=⟨gb129,6,none⟩) (Kd.R_far (p:=⟨gb129,1,none⟩) (Kd.R_types (Kd.R_types HO137.out BK129.out (by decide)) BK130.out (by decide)) (fun _ hk => hk.1.2) (.int .u64 ji11)) (fun _ hk => hk.1.2) (.bool false)) (fun _ hk => hk.2) (.int .u64 a0_0)) (fun _ hk => hk.2) (.int .u64 ji11)) (fun _ hk => hk.2) (.string a0_2)) (fun _ hk => hk.2) (.slice A0_3 l0_3.length c0_3)) (fun _ hk => hk.2) (.slice Ao43 t135.length co43)) (fun _ hk => hk.2) (.bool a0_5)) (fun _ hk => hk.2) (.bool false)) (fun _ hk => hk.2) (.bool a0_7)) (fun _ hk => hk.1.1.1))) (fun k_ hk => by first|exact ⟨(.inr (hk.1)),hk.2⟩|exact (.inr (hk))),by repeat (first|(with_reducible first|exact HB.out|apply ba_|apply pn_|apply pd_|refine bs_ ?_ GE129.out|refine bs_ ?_ GE130.out|refine bs_ ?_ GE134.out)|exact HB.out)⟩
 ·replace c6:=Bool.eq_false_iff.mpr c6
  subst c6
  have H1 : ((sendq_State_end.f a0_0 a0_1 a0_2 l0_3 l0_4 a0_5 a0_6 a0_7).bind fun t139 => (if a0_6 = true then (some (a0_0,mx a0_1 (mn (IntKind.u64.wrap (a1 + (IntKind.u64.wrap (mx 0 a2)))) t139),a0_2,l0_3,l0_4,a0_5,!a3,a0_7)) else (some (a0_0,mx a0_1 (mn (IntKind.u64.wrap (a1 + (IntKind.u64.wrap (mx 0 a2)))) t139),a0_2,l0_3,l0_4,a0_5,false,a0_7)))) = some (r1,r2,r3,r4,r5,r6,r7,r8):=by rw [if_neg (show ¬ (false = true) by decide)] at H;exact H
  clear H
  have H:=H1
  clear H1
  obtain ⟨ji51,hji51⟩ : ∃ j_ : Int,(mx 0 a2) = j_:=⟨_,rfl⟩
  replace H : ((sendq_State_end.f a0_0 a0_1 a0_2 l0_3 l0_4 a0_5 a0_6 a0_7).bind fun t139 => (if a0_6 = true then (some (a0_0,mx a0_1 (mn (IntKind.u64.wrap (a1 + (IntKind.u64.wrap (ji51)))) t139),a0_2,l0_3,l0_4,a0_5,!a3,a0_7)) else (some (a0_0,mx a0_1 (mn (IntKind.u64.wrap (a1 + (IntKind.u64.wrap (ji51)))) t139),a0_2,l0_3,l0_4,a0_5,false,a0_7)))) = some (r1,r2,r3,r4,r5,r6,r7,r8):=by first|(rw [hji51] at H;exact H)|(simp only [hji51] at H ⊢;exact H)
  (try rw [hji51] at A5)
  (try (have hji51l : 0 ≤ ji51:=by (rw [← hji51];unfold mx;(repeat' split) <;> omega)))
  (try (have hji51m : 0 ≤ ji51:=by omega))
  have hji51_ : (if 0 < a2 then a2 else 0) = ji51:=hji51
  replace H:=Option.bind_eq_some_iff.mp H
  obtain ⟨t139,A520,H⟩:=H
  replace H : (if a0_6 = true then (some (a0_0,mx a0_1 (mn (IntKind.u64.wrap (a1 + (IntKind.u64.wrap (ji51)))) t139),a0_2,l0_3,l0_4,a0_5,!a3,a0_7)) else (some (a0_0,mx a0_1 (mn (IntKind.u64.wrap (a1 + (IntKind.u64.wrap (ji51)))) t139),a0_2,l0_3,l0_4,a0_5,false,a0_7))) = some (r1,r2,r3,r4,r5,r6,r7,r8):=H
  have A52:=am_ A520
  clear A520
  obtain ⟨ji53,hji53⟩ : ∃ j_ : Int,(mn (IntKind.u64.wrap (a1 + (IntKind.u64.wrap (ji51)))) t139) = j_:=⟨_,rfl⟩
  replace H : (if a0_6 = true then (some (a0_0,mx a0_1 (ji53),a0_2,l0_3,l0_4,a0_5,!a3,a0_7)) else (some (a0_0,mx a0_1 (ji53),a0_2,l0_3,l0_4,a0_5,false,a0_7))) = some (r1,r2,r3,r4,r5,r6,r7,r8):=by first|(rw [hji53] at H;exact H)|(simp only [hji53] at H ⊢;exact H)
  (try rw [hji53] at A5)
  (try rw [hji53] at A52)
  have hji53_ : (if t139 < (IntKind.u64.wrap (a1 + (IntKind.u64.wrap (ji51)))) then t139 else (IntKind.u64.wrap (a1 + (IntKind.u64.wrap (ji51))))) = ji53:=hji53
  obtain ⟨ji54,hji54⟩ : ∃ j_ : Int,(mx a0_1 (ji53)) = j_:=⟨_,rfl⟩
  replace H : (if a0_6 = true then (some (a0_0,ji54,a0_2,l0_3,l0_4,a0_5,!a3,a0_7)) else (some (a0_0,ji54,a0_2,l0_3,l0_4,a0_5,false,a0_7))) = some (r1,r2,r3,r4,r5,r6,r7,r8):=by first|(rw [hji54] at H;exact H)|(simp only [hji54] at H ⊢;exact H)
  (try rw [hji54] at A5)
  (try rw [hji54] at A52)
  have hji54_ : (if a0_1 < (ji53) then (ji53) else a0_1) = ji54:=hji54
  by_cases c55 : a0_6 = true
  ·subst c55
   have H1 : (some (a0_0,ji54,a0_2,l0_3,l0_4,a0_5,!a3,a0_7)) = some (r1,r2,r3,r4,r5,r6,r7,r8):=by rw [if_pos rfl] at H;exact H
   clear H
   have H:=H1
   clear H1
   simp only [Option.some.injEq,Prod.mk.injEq] at H
   obtain ⟨rfl,rfl,rfl,rfl,rfl,rfl,rfl,rfl⟩:=H
   go_enter Try.func16,Try.ntmps16
   try go_wp2_with (first|((with_reducible refine gate_dst (N:=4) rfl ?_);refine box_event ?hg (N:=4) ?hd (cs:=#[.int .u64 a0_0,.int .u64 a0_1,.string a0_2,.slice A0_3 l0_3.length c0_3,.slice A0_4 l0_4.length c0_4,.bool a0_5,.bool true,.bool a0_7]) (t:=29) ?hr ?_;(case hd => rfl);(case hg => rfl);(case hr => first|(go_simp;done)|(go_simp;rfl));intro gb129 hg w56 hbox hb;have n0_:=am_ (Kd.V_below (Kd.V_elderB (by (with_reducible repeat (first|apply Kd.V_alloc|apply Kd.V_drewN|apply Kd.V_drew));exact HO0_3.out) gb129 (Nat.le_of_eq hg.symm)) hb);have n1_:=am_ (Kd.V_below (Kd.V_elderB (by (with_reducible repeat (first|apply Kd.V_alloc|apply Kd.V_drewN|apply Kd.V_drew));exact HO0_4.out) gb129 (Nat.le_of_eq hg.symm)) hb);have n2_:=am_ (below_step (by repeat (first|(with_reducible first|exact HB.out|apply ba_|apply pn_|apply pd_)|exact HB.out)) hb);have n3_:=am_ (hbox);have n4_:=am_ ((by rw [hg];exact (below_size (by repeat (first|(with_reducible first|exact HB.out|apply ba_|apply pn_|apply pd_)|exact HB.out))) : w.heap.size ≤ gb129));have n5_:=am_ ((by rw [hg];exact (below_size (by repeat (first|(with_reducible first|exact HB.out|apply ba_|apply pn_|apply pd_)|exact HB.out))) : w.heap.size ≤ gb129));clear HO0_3;clear HO0_4;clear HB;have HO0_3:=n0_;have HO0_4:=n1_;have HB:=n2_;have BK129:=n3_;have GW129:=n4_;have GE129:=n5_;clear n0_ n1_ n2_ n3_ n4_ n5_;clear hb hbox hg)|((with_reducible refine gate_dst (N:=8) rfl ?_);refine box_event ?hg (N:=8) ?hd (cs:=kk0_) (t:=29) ?hr ?_;(case hd => rfl);(case hg => rfl);(case hr => first|(go_simp;done)|(go_simp;rfl));intro gb130 hg w57 hbox hb;have n0_:=am_ (Kd.V_below (Kd.V_elderB (by (with_reducible repeat (first|apply Kd.V_alloc|apply Kd.V_drewN|apply Kd.V_drew));exact HO0_3.out) gb130 (Nat.le_of_eq hg.symm)) hb);have n1_:=am_ (Kd.V_below (Kd.V_elderB (by (with_reducible repeat (first|apply Kd.V_alloc|apply Kd.V_drewN|apply Kd.V_drew));exact HO0_4.out) gb130 (Nat.le_of_eq hg.symm)) hb);have n2_:=am_ (blk_below (g:=gb129) (o:=.cells #[.int .u64 a0_0,.int .u64 a0_1,.string a0_2,.slice A0_3 l0_3.length c0_3,.slice A0_4 l0_4.length c0_4,.bool a0_5,.bool true,.bool a0_7] 29 (0,0)) (by (with_reducible repeat (first|refine kn_ ?_ _|refine kd_ ?_|refine ka_ ?_ _));exact BK129.out) hb);have n3_:=am_ (below_step (by repeat (first|(with_reducible first|exact HB.out|apply ba_|apply pn_|apply pd_|refine bs_ ?_ GE129.out)|exact HB.out)) hb);have n4_:=am_ (hbox);have n5_:=am_ ((by rw [hg];exact (below_size (by repeat (first|(with_reducible first|exact HB.out|apply ba_|apply pn_|apply pd_|refine bs_ ?_ GE129.out)|exact HB.out))) : w.heap.size ≤ gb130));have n6_:=am_ ((by rw [hg];exact (below_size (by repeat (first|(with_reducible first|exact HB.out|apply ba_|apply pn_|apply pd_|refine bs_ ?_ GE129.out)|exact HB.out))) : w.heap.size ≤ gb130));have n7_:=am_ ((by rw [hg];exact Nat.ne_of_lt (blk_lt (g:=gb129) (o:=.cells #[.int .u64 a0_0,.int .u64 a0_1,.string a0_2,.slice A0_3 l0_3.length c0_3,.slice A0_4 l0_4.length c0_4,.bool a0_5,.bool true,.bool a0_7] 29 (0,0)) (by (with_reducible repeat (first|refine kn_ ?_ _|refine kd_ ?_|refine ka_ ?_ _));exact BK129.out)) : gb129 ≠ gb130));have n8_:=am_ ((by rw [hg];exact Nat.ne_of_gt (blk_lt (g:=gb129) (o:=.cells #[.int .u64 a0_0,.int .u64 a0_1,.string a0_2,.slice A0_3 l0_3.length c0_3,.slice A0_4 l0_4.length c0_4,.bool a0_5,.bool true,.bool a0_7] 29 (0,0)) (by (with_reducible repeat (first|refine kn_ ?_ _|refine kd_ ?_|refine ka_ ?_ _));exact BK129.out)) : gb130 ≠ gb129));clear HO0_3;clear HO0_4;clear BK129;clear HB;have HO0_3:=n0_;have HO0_4:=n1_;have BK129:=n2_;have HB:=n3_;have BK130:=n4_;have GW130:=n5_;have GE130:=n6_;have NB129_130:=n7_;have NB130_129:=n8_;clear n0_ n1_ n2_ n3_ n4_ n5_ n6_ n7_ n8_;clear hb hbox hg;have hnb58:=NB129_130.out;have hnc58:=NB130_129.out;have hcz59_0 : w57.cell? ⟨gb129,0,none⟩ = some (.int .u64 a0_0):=(kc_ BK129.out 0).trans rfl;have hcz59_1 : w57.cell? ⟨gb129,1,none⟩ = some (.int .u64 a0_1):=(kc_ BK129.out 1).trans rfl;have hcz59_2 : w57.cell? ⟨gb129,2,none⟩ = some (.string a0_2):=(kc_ BK129.out 2).trans rfl;have hcz59_3 : w57.cell? ⟨gb129,3,none⟩ = some (.slice A0_3 l0_3.length c0_3):=(kc_ BK129.out 3).trans rfl;have hcz59_4 : w57.cell? ⟨gb129,4,none⟩ = some (.slice A0_4 l0_4.length c0_4):=(kc_ BK129.out 4).trans rfl;have hcz59_5 : w57.cell? ⟨gb129,5,none⟩ = some (.bool a0_5):=(kc_ BK129.out 5).trans rfl;have hcz59_6 : w57.cell? ⟨gb129,6,none⟩ = some (.bool true):=(kc_ BK129.out 6).trans rfl;have hcz59_7 : w57.cell? ⟨gb129,7,none⟩ = some (.bool a0_7):=(kc_ BK129.out 7).trans rfl;have hfz59_0:=blk_frozen BK129.out 0;have hfz59_1:=blk_frozen BK129.out 1;have hfz59_2:=blk_frozen BK129.out 2;have hfz59_3:=blk_frozen BK129.out 3;have hfz59_4:=blk_frozen BK129.out 4;have hfz59_5:=blk_frozen BK129.out 5;have hfz59_6:=blk_frozen BK129.out 6;have hfz59_7:=blk_frozen BK129.out 7; skip)|((with_reducible refine gate_callee (f:=32) rfl ?_);refine goesL_ (some 15) rfl rfl Try.func32 (by kernel_rfl) rfl #[.agg #[.int .u64 a0_0,.int .u64 a0_1,.string a0_2,.slice A0_3 l0_3.length c0_3,.slice A0_4 l0_4.length c0_4,.bool a0_5,.bool true,.bool a0_7],.int .u64 a1,.int .i64 a2] rfl (by (try simp only [List.map_toArray,List.map_cons,List.map_nil]);first|done|rfl|(simp only [List.length_drop,List.length_take];rfl)) ?_;(with_reducible refine (sendq_State_window.calls a0_0 a0_1 a0_2 _ _ l0_3 _ _ l0_4 a0_5 true a0_7 a1 a2 t131 t132 false _ ?side1 ?side2 ?side3 ?side4 A5.out).mono ?_);(case side1 => repeat (first|exact (Kd.V_reads' HO0_3.out).2.2|(with_reducible refine Kd.C_alloc ?_ _)|(with_reducible refine Kd.C_drewN ?_ _)|(with_reducible refine Kd.C_drew ?_)));(case side2 => exact (Kd.V_reads' HO0_3.out).2.1);(case side3 => repeat (first|exact (Kd.V_reads' HO0_4.out).2.2|(with_reducible refine Kd.C_alloc ?_ _)|(with_reducible refine Kd.C_drewN ?_ _)|(with_reducible refine Kd.C_drew ?_)));(case side4 => exact (Kd.V_reads' HO0_4.out).2.1);rintro e w60 ⟨rfl,hb⟩;refine ⟨_,rfl,?_⟩;have n0_:=am_ (Kd.V_below (by (with_reducible repeat (first|apply Kd.V_alloc|apply Kd.V_drewN|apply Kd.V_drew));exact HO0_3.out) hb);have n1_:=am_ (Kd.V_below (by (with_reducible repeat (first|apply Kd.V_alloc|apply Kd.V_drewN|apply Kd.V_drew));exact HO0_4.out) hb);have n2_:=am_ (blk_below (g:=gb129) (o:=.cells #[.int .u64 a0_0,.int .u64 a0_1,.string a0_2,.slice A0_3 l0_3.length c0_3,.slice A0_4 l0_4.length c0_4,.bool a0_5,.bool true,.bool a0_7] 29 (0,0)) (by (with_reducible repeat (first|refine kn_ ?_ _|refine kd_ ?_|refine ka_ ?_ _));exact BK129.out) hb);have n3_:=am_ (blk_below (g:=gb130) (o:=.cells kk0_ 29 (0,0)) (by (with_reducible repeat (first|refine kn_ ?_ _|refine kd_ ?_|refine ka_ ?_ _));exact BK130.out) hb);have n4_:=am_ (below_step (by repeat (first|(with_reducible first|exact HB.out|apply ba_|apply pn_|apply pd_|refine bs_ ?_ GE129.out|refine bs_ ?_ GE130.out)|exact HB.out)) hb);clear HO0_3;clear HO0_4;clear BK129;clear BK130;clear HB;have HO0_3:=n0_;have HO0_4:=n1_;have BK129:=n2_;have BK130:=n3_;have HB:=n4_;clear n0_ n1_ n2_ n3_ n4_;(try clear hb);(try clear hb2);(try clear hk);(try clear hi))|((with_reducible refine gate_dst (N:=9) rfl ?_);refine box_event ?hg (N:=9) ?hd (cs:=kk1_) (t:=67) ?hr ?_;(case hd => rfl);(case hg => rfl);(case hr => first|(go_simp;done)|(go_simp;rfl));intro gb134 hg w61 hbox hb;have n0_:=am_ (Kd.V_below (Kd.V_elderB (by (with_reducible repeat (first|apply Kd.V_alloc|apply Kd.V_drewN|apply Kd.V_drew));exact HO0_3.out) gb134 (Nat.le_of_eq hg.symm)) hb);have n1_:=am_ (Kd.V_below (Kd.V_elderB (by (with_reducible repeat (first|apply Kd.V_alloc|apply Kd.V_drewN|apply Kd.V_drew));exact HO0_4.out) gb134 (Nat.le_of_eq hg.symm)) hb);have n2_:=am_ (blk_below (g:=gb129) (o:=.cells #[.int .u64 a0_0,.int .u64 a0_1,.string a0_2,.slice A0_3 l0_3.length c0_3,.slice A0_4 l0_4.length c0_4,.bool a0_5,.bool true,.bool a0_7] 29 (0,0)) (by (with_reducible repeat (first|refine kn_ ?_ _|refine kd_ ?_|refine ka_ ?_ _));exact BK129.out) hb);have n3_:=am_ (blk_below (g:=gb130) (o:=.cells kk0_ 29 (0,0)) (by (with_reducible repeat (first|refine kn_ ?_ _|refine kd_ ?_|refine ka_ ?_ _));exact BK130.out) hb);have n4_:=am_ (below_step (by repeat (first|(with_reducible first|exact HB.out|apply ba_|apply pn_|apply pd_|refine bs_ ?_ GE129.out|refine bs_ ?_ GE130.out)|exact HB.out)) hb);have n5_:=am_ (hbox);have n6_:=am_ ((by rw [hg];exact (below_size (by repeat (first|(with_reducible first|exact HB.out|apply ba_|apply pn_|apply pd_|refine bs_ ?_ GE129.out|refine bs_ ?_ GE130.out)|exact HB.out))) : w.heap.size ≤ gb134));have n7_:=am_ ((by rw [hg];exact (below_size (by repeat (first|(with_reducible first|exact HB.out|apply ba_|apply pn_|apply pd_|refine bs_ ?_ GE129.out|refine bs_ ?_ GE130.out)|exact HB.out))) : w.heap.size ≤ gb134));have n8_:=am_ ((by rw [hg];exact Nat.ne_of_lt (blk_lt (g:=gb129) (o:=.cells #[.int .u64 a0_0,.int .u64 a0_1,.string a0_2,.slice A0_3 l0_3.length c0_3,.slice A0_4 l0_4.length c0_4,.bool a0_5,.bool true,.bool a0_7] 29 (0,0)) (by (with_reducible repeat (first|refine kn_ ?_ _|refine kd_ ?_|refine ka_ ?_ _));exact BK129.out)) : gb129 ≠ gb134));have n9_:=am_ ((by rw [hg];exact Nat.ne_of_gt (blk_lt (g:=gb129) (o:=.cells #[.int .u64 a0_0,.int .u64 a0_1,.string a0_2,.slice A0_3 l0_3.length c0_3,.slice A0_4 l0_4.length c0_4,.bool a0_5,.bool true,.bool a0_7] 29 (0,0)) (by (with_reducible repeat (first|refine kn_ ?_ _|refine kd_ ?_|refine ka_ ?_ _));exact BK129.out)) : gb134 ≠ gb129));have n10_:=am_ ((by rw [hg];exact Nat.ne_of_lt (blk_lt (g:=gb130) (o:=.cells kk0_ 29 (0,0)) (by (with_reducible repeat (first|refine kn_ ?_ _|refine kd_ ?_|refine ka_ ?_ _));exact BK130.out)) : gb130 ≠ gb134));have n11_:=am_ ((by rw [hg];exact Nat.ne_of_gt (blk_lt (g:=gb130) (o:=.cells kk0_ 29 (0,0)) (by (with_reducible repeat (first|refine kn_ ?_ _|refine kd_ ?_|refine ka_ ?_ _));exact BK130.out)) : gb134 ≠ gb130));clear HO0_3;clear HO0_4;clear BK129;clear BK130;clear HB;have HO0_3:=n0_;have HO0_4:=n1_;have BK129:=n2_;have BK130:=n3_;have HB:=n4_;have BK134:=n5_;have GW134:=n6_;have GE134:=n7_;have NB129_134:=n8_;have NB134_129:=n9_;have NB130_134:=n10_;have NB134_130:=n11_;clear n0_ n1_ n2_ n3_ n4_ n5_ n6_ n7_ n8_ n9_ n10_ n11_;clear hb hbox hg;have hnb62:=NB134_129.out;have hnc62:=NB129_134.out;have hnb63:=NB134_130.out;have hnc63:=NB130_134.out;have hcz64_0 : w61.cell? ⟨gb134,0,none⟩ = some (.int .u64 0):=(kc_ BK134.out 0).trans rfl;have hcz64_1 : w61.cell? ⟨gb134,1,none⟩ = some (.int .u64 0):=(kc_ BK134.out 1).trans rfl;have hfz64_0:=blk_frozen BK134.out 0;have hfz64_1:=blk_frozen BK134.out 1; skip))
   have n0_ : Aside0 (Kd.V k67 67 ((w61.setCell ⟨gb134,0,none⟩ (.int .u64 t131)).setCell ⟨gb134,1,none⟩ (.int .u64 t132)) w.heap.size (fun k_ => ((P0_3_ k_ ∨ P0_4_ k_) ∨ w.heap.size ≤ k_) ∧ k_ ≠ gb129 ∧ k_ ≠ gb130 ∧ k_ ≠ gb134) (.slice A0_3 l0_3.length c0_3) l0_3):=⟨by (with_reducible repeat (first|apply Kd.V_alloc|apply Kd.V_drewN|apply Kd.V_drew));exact Kd.V_mono (Kd.V_far (p:=⟨gb134,1,none⟩) (Kd.V_far (p:=⟨gb134,0,none⟩) (Kd.V_mono HO0_3.out (fun k_ hk => (⟨hk,hk.2⟩ : _ ∧ k_ ≠ gb134))) (fun _ hk => hk.2) (.int .u64 t131)) (fun _ hk => hk.2) (.int .u64 t132)) (fun _ hk => ⟨hk.1.1.1.1,⟨hk.1.1.1.2,⟨hk.1.1.2,hk.1.2⟩⟩⟩)⟩
   have n1_ : Aside0 (Kd.V k67 67 ((w61.setCell ⟨gb134,0,none⟩ (.int .u64 t131)).setCell ⟨gb134,1,none⟩ (.int .u64 t132)) w.heap.size (fun k_ => ((P0_3_ k_ ∨ P0_4_ k_) ∨ w.heap.size ≤ k_) ∧ k_ ≠ gb129 ∧ k_ ≠ gb130 ∧ k_ ≠ gb134) (.slice A0_4 l0_4.length c0_4) l0_4):=⟨by (with_reducible repeat (first|apply Kd.V_alloc|apply Kd.V_drewN|apply Kd.V_drew));exact Kd.V_mono (Kd.V_far (p:=⟨gb134,1,none⟩) (Kd.V_far (p:=⟨gb134,0,none⟩) (Kd.V_mono HO0_4.out (fun k_ hk => (⟨hk,hk.2⟩ : _ ∧ k_ ≠ gb134))) (fun _ hk => hk.2) (.int .u64 t131)) (fun _ hk => hk.2) (.int .u64 t132)) (fun _ hk => ⟨hk.1.1.1.1,⟨hk.1.1.1.2,⟨hk.1.1.2,hk.1.2⟩⟩⟩)⟩
   have n2_ : Aside0 (((w61.setCell ⟨gb134,0,none⟩ (.int .u64 t131)).setCell ⟨gb134,1,none⟩ (.int .u64 t132)).heap[gb129]? = some (.cells #[.int .u64 a0_0,.int .u64 a0_1,.string a0_2,.slice A0_3 l0_3.length c0_3,.slice A0_4 l0_4.length c0_4,.bool a0_5,.bool true,.bool a0_7] 29 (0,0))):=⟨by (with_reducible repeat (first|refine kn_ ?_ _|refine kd_ ?_|refine ka_ ?_ _));refine blk_far ?_ NB129_134.out _;(with_reducible repeat (first|refine kn_ ?_ _|refine kd_ ?_|refine ka_ ?_ _));refine blk_far ?_ NB129_134.out _;(with_reducible repeat (first|refine kn_ ?_ _|refine kd_ ?_|refine ka_ ?_ _));exact BK129.out⟩
   have n3_ : Aside0 (((w61.setCell ⟨gb134,0,none⟩ (.int .u64 t131)).setCell ⟨gb134,1,none⟩ (.int .u64 t132)).heap[gb130]? = some (.cells kk0_ 29 (0,0))):=⟨by (with_reducible repeat (first|refine kn_ ?_ _|refine kd_ ?_|refine ka_ ?_ _));refine blk_far ?_ NB130_134.out _;(with_reducible repeat (first|refine kn_ ?_ _|refine kd_ ?_|refine ka_ ?_ _));refine blk_far ?_ NB130_134.out _;(with_reducible repeat (first|refine kn_ ?_ _|refine kd_ ?_|refine ka_ ?_ _));exact BK130.out⟩
   have n4_ : Aside0 (((w61.setCell ⟨gb134,0,none⟩ (.int .u64 t131)).setCell ⟨gb134,1,none⟩ (.int .u64 t132)).heap[gb134]? = some (.cells #[.int .u64 t131,.int .u64 t132] 67 (0,0))):=⟨by (with_reducible repeat (first|refine kn_ ?_ _|refine kd_ ?_|refine ka_ ?_ _));refine blk_put (cs:=#[.int .u64 t131,.int .u64 0]) ?_ 1 _ rfl;(with_reducible repeat (first|refine kn_ ?_ _|refine kd_ ?_|refine ka_ ?_ _));refine blk_put (cs:=kk1_) ?_ 0 _ rfl;(with_reducible repeat (first|refine kn_ ?_ _|refine kd_ ?_|refine ka_ ?_ _));exact BK134.out⟩
   have n5_ : Aside0 (Below w.heap.size w ((w61.setCell ⟨gb134,0,none⟩ (.int .u64 t131)).setCell ⟨gb134,1,none⟩ (.int .u64 t132))):=⟨by repeat (first|(with_reducible first|exact HB.out|apply ba_|apply pn_|apply pd_|refine bs_ ?_ GE129.out|refine bs_ ?_ GE130.out|refine bs_ ?_ GE134.out)|exact HB.out)⟩
   (try clear HO0_3)
   (try clear HO0_4)
   (try clear BK129)
   (try clear BK130)
   (try clear BK134)
   (try clear HB)
   generalize ((w61.setCell ⟨gb134,0,none⟩ (.int .u64 t131)).setCell ⟨gb134,1,none⟩ (.int .u64 t132)) = w65 at n0_ n1_ n2_ n3_ n4_ n5_ ⊢
   have HO0_3:=n0_
   have HO0_4:=n1_
   have BK129:=n2_
   have BK130:=n3_
   have BK134:=n4_
   have HB:=n5_
   clear n0_ n1_ n2_ n3_ n4_ n5_
   have n0_:=am_ (Kd.V_drew HO0_3.out)
   have n1_:=am_ (Kd.V_drew HO0_4.out)
   have n2_:=am_ (kd_ BK129.out)
   have n3_:=am_ (kd_ BK130.out)
   have n4_:=am_ (kd_ BK134.out)
   have n5_:=am_ (pd_ HB.out)
   clear HO0_3
   clear HO0_4
   clear BK129
   clear BK130
   clear BK134
   clear HB
   have HO0_3:=n0_
   have HO0_4:=n1_
   have BK129:=n2_
   have BK130:=n3_
   have BK134:=n4_
   have HB:=n5_
   clear n0_ n1_ n2_ n3_ n4_ n5_
   refine start_ (n:=13) (S:=fun w' => w'.cell? ⟨gb129,0,none⟩ = some (.int .u64 a0_0) ∧ w'.cell? ⟨gb129,1,none⟩ = some (.int .u64 a0_1) ∧ w'.cell? ⟨gb129,2,none⟩ = some (.string a0_2) ∧ w'.cell? ⟨gb129,3,none⟩ = some (.slice A0_3 l0_3.length c0_3) ∧ w'.cell? ⟨gb129,4,none⟩ = some (.slice A0_4 l0_4.length c0_4) ∧ w'.cell? ⟨gb129,5,none⟩ = some (.bool a0_5) ∧ w'.cell? ⟨gb129,6,none⟩ = some (.bool true) ∧ w'.cell? ⟨gb129,7,none⟩ = some (.bool a0_7)) (ds:=[12]) #[F_,F_,F_,F_,F_,F_,F_,F_,F_,F_,F_,F_,F_] (by kernel_rfl) rfl rfl ⟨(kc_ BK129.out 0).trans rfl,(kc_ BK129.out 1).trans rfl,(kc_ BK129.out 2).trans rfl,(kc_ BK129.out 3).trans rfl,(kc_ BK129.out 4).trans rfl,(kc_ BK129.out 5).trans rfl,(kc_ BK129.out 6).trans rfl,(kc_ BK129.out 7).trans rfl⟩ (fun hHeld => ?_);refine with_tabW sendq_Sent.tab4 sendq_Sent.bits4 (fun HT_ HW_ => ?_)
   generalize w65.drew = w66 at HO0_3 HO0_4 BK129 BK130 BK134 HB hHeld ⊢
   refine pure_ (i:=0) (N:=some 24) (v:=?_) (a':=?_) #[T_,F_,F_,F_,F_,F_,F_,F_,F_,F_,F_,F_,F_] rfl rfl (any_of HT_.out (by kernel_rfl)) (fun _ _ _ h => h) (Or.inl ⟨by rfl,?_⟩) ?_ ?_
   rotate_left;(intro w';go_simp;with_reducible rfl);rotate_left;(simp only [Act.put,ps_,i64_w,i32_w];rfl)
   refine pure_ (i:=2) (N:=some 26) (v:=?_) (a':=?_) #[T_,F_,T_,F_,F_,F_,F_,F_,F_,F_,F_,F_,F_] rfl rfl (any_of HT_.out (by kernel_rfl)) (fun _ _ _ h => h) (Or.inl ⟨by rfl,?_⟩) ?_ ?_
   rotate_left;(intro w';go_simp;with_reducible rfl);rotate_left;(simp only [Act.put,ps_,i64_w,i32_w];rfl)
   refine pure_ (i:=3) (N:=some 27) (v:=?_) (a':=?_) #[T_,F_,T_,T_,F_,F_,F_,F_,F_,F_,F_,F_,F_] rfl rfl (any_of HT_.out (by kernel_rfl)) (fun _ _ _ h => h) (Or.inl ⟨by rfl,?_⟩) ?_ ?_
   rotate_left;(intro w';go_simp;with_reducible rfl);rotate_left;(simp only [Act.put,ps_,i64_w,i32_w];rfl)
   refine pure_ (i:=4) (N:=some 28) (v:=?_) (a':=?_) #[T_,F_,T_,T_,T_,F_,F_,F_,F_,F_,F_,F_,F_] rfl rfl (any_of HT_.out (by kernel_rfl)) (fun _ _ _ h => h) (Or.inl ⟨by rfl,?_⟩) ?_ ?_
   rotate_left;(intro w';go_simp;with_reducible rfl);rotate_left;(simp only [Act.put,ps_,i64_w,i32_w];rfl)
   refine pure_ (i:=5) (N:=some 29) (v:=?_) (a':=?_) #[T_,F_,T_,T_,T_,T_,F_,F_,F_,F_,F_,F_,F_] rfl rfl (any_of HT_.out (by kernel_rfl)) (fun _ _ _ h => h) (Or.inl ⟨by rfl,?_⟩) ?_ ?_
   rotate_left;(intro w';go_simp;with_reducible rfl);rotate_left;(simp only [Act.put,ps_,i64_w,i32_w];rfl)
   refine pure_ (i:=6) (N:=some 30) (v:=?_) (a':=?_) #[T_,F_,T_,T_,T_,T_,T_,F_,F_,F_,F_,F_,F_] rfl rfl (any_of HT_.out (by kernel_rfl)) (fun _ _ _ h => h) (Or.inl ⟨by rfl,?_⟩) ?_ ?_
   rotate_left;(intro w';go_simp;with_reducible rfl);rotate_left;(simp only [Act.put,ps_,i64_w,i32_w];rfl)
   refine take_ (i:=1) (N:=some 25) (v:=?_) (a':=?_) #[T_,T_,T_,T_,T_,T_,T_,F_,F_,F_,F_,F_,F_] rfl rfl (take_ofW HT_.out HW_.out (by kernel_rfl)) (fun _ _ _ h => h) (Or.inl ⟨by rfl,?_⟩) hHeld ?_ ?_
   rotate_left
   ·rintro w' ⟨s0,s1,s2,s3,s4,s5,s6,s7⟩
    go_simp
    with_reducible rfl
   rotate_left
   ·simp only [Act.put,ps_,i64_w,i32_w]
    rfl
   refine take_ (i:=7) (N:=some 31) (v:=?_) (a':=?_) #[T_,T_,T_,T_,T_,T_,T_,T_,F_,F_,F_,F_,F_] rfl rfl (take_ofW HT_.out HW_.out (by kernel_rfl)) (fun _ _ _ h => h) (Or.inl ⟨by rfl,?_⟩) hHeld ?_ ?_
   rotate_left
   ·rintro w' ⟨s0,s1,s2,s3,s4,s5,s6,s7⟩
    go_simp
    with_reducible rfl
   rotate_left
   ·simp only [Act.put,ps_,i64_w,i32_w]
    rfl
   refine one_ (i:=8) (N:=some 32) #[T_,T_,T_,T_,T_,T_,T_,T_,T_,F_,F_,F_,F_] rfl rfl (one_of HT_.out (by kernel_rfl)) (by decide) (fun K hK => ?_)
   refine goes_ Try.func29 (by kernel_rfl) rfl #[.agg #[.int .u64 a0_0,.int .u64 a0_1,.string a0_2,.slice A0_3 l0_3.length c0_3,.slice A0_4 l0_4.length c0_4,.bool a0_5,.bool true,.bool a0_7]] (by rfl) rfl rfl (by (try simp only [List.map_toArray,List.map_cons,List.map_nil]);first|done|rfl|(simp only [List.length_drop,List.length_take];rfl)) ?_
   with_reducible refine (sendq_State_end.calls a0_0 a0_1 a0_2 _ _ l0_3 _ _ l0_4 a0_5 true a0_7 t139 _ ?side1 ?side2 ?side3 ?side4 A52.out).mono ?_
   (case side1 => repeat (first|exact (Kd.V_reads' HO0_3.out).2.2|(with_reducible refine Kd.C_alloc ?_ _)|(with_reducible refine Kd.C_drewN ?_ _)|(with_reducible refine Kd.C_drew ?_)))
   (case side2 => exact (Kd.V_reads' HO0_3.out).2.1)
   (case side3 => repeat (first|exact (Kd.V_reads' HO0_4.out).2.2|(with_reducible refine Kd.C_alloc ?_ _)|(with_reducible refine Kd.C_drewN ?_ _)|(with_reducible refine Kd.C_drew ?_)))
   (case side4 => exact (Kd.V_reads' HO0_4.out).2.1)
   rintro e w67 ⟨rfl,hb⟩
   refine ⟨_,rfl,?_⟩
   have n0_:=am_ (Kd.V_below (by (with_reducible repeat (first|apply Kd.V_alloc|apply Kd.V_drewN|apply Kd.V_drew));exact HO0_3.out) hb)
   have n1_:=am_ (Kd.V_below (by (with_reducible repeat (first|apply Kd.V_alloc|apply Kd.V_drewN|apply Kd.V_drew));exact HO0_4.out) hb)
   have n2_:=am_ (blk_below (g:=gb129) (o:=.cells #[.int .u64 a0_0,.int .u64 a0_1,.string a0_2,.slice A0_3 l0_3.length c0_3,.slice A0_4 l0_4.length c0_4,.bool a0_5,.bool true,.bool a0_7] 29 (0,0)) (by (with_reducible repeat (first|refine kn_ ?_ _|refine kd_ ?_|refine ka_ ?_ _));exact BK129.out) hb)
   have n3_:=am_ (blk_below (g:=gb130) (o:=.cells kk0_ 29 (0,0)) (by (with_reducible repeat (first|refine kn_ ?_ _|refine kd_ ?_|refine ka_ ?_ _));exact BK130.out) hb)
   have n4_:=am_ (blk_below (g:=gb134) (o:=.cells #[.int .u64 t131,.int .u64 t132] 67 (0,0)) (by (with_reducible repeat (first|refine kn_ ?_ _|refine kd_ ?_|refine ka_ ?_ _));exact BK134.out) hb)
   have n5_:=am_ (below_step (by repeat (first|(with_reducible first|exact HB.out|apply ba_|apply pn_|apply pd_|refine bs_ ?_ GE129.out|refine bs_ ?_ GE130.out|refine bs_ ?_ GE134.out)|exact HB.out)) hb)
   clear HO0_3
   clear HO0_4
   clear BK129
   clear BK130
   clear BK134
   clear HB
   have HO0_3:=n0_
   have HO0_4:=n1_
   have BK129:=n2_
   have BK130:=n3_
   have BK134:=n4_
   have HB:=n5_
   clear n0_ n1_ n2_ n3_ n4_ n5_
   (try clear hb)
   (try clear hb2)
   (try clear hk)
   (try clear hi)
   refine hK.out _ _ ⟨(kc_ BK129.out 0).trans rfl,(kc_ BK129.out 1).trans rfl,(kc_ BK129.out 2).trans rfl,(kc_ BK129.out 3).trans rfl,(kc_ BK129.out 4).trans rfl,(kc_ BK129.out 5).trans rfl,(kc_ BK129.out 6).trans rfl,(kc_ BK129.out 7).trans rfl⟩ (fun hHeld => ?_)
   clear hK K
   refine norm_ (a':=?_) ?_ ?_
   rotate_left
   ·show Act.put _ (some 32) _ = _
    simp only [Act.put,ps_,i64_w,i32_w]
    rfl
   refine pure_ (i:=9) (N:=some 33) (v:=?_) (a':=?_) #[T_,T_,T_,T_,T_,T_,T_,T_,T_,T_,F_,F_,F_] rfl rfl (any_of HT_.out (by kernel_rfl)) (fun _ _ _ h => h) (Or.inl ⟨by rfl,?_⟩) ?_ ?_
   rotate_left;(intro w';go_simp;with_reducible rfl);rotate_left;(simp only [Act.put,ps_,i64_w,i32_w];rfl)
   refine pure_ (i:=10) (N:=some 34) (v:=?_) (a':=?_) #[T_,T_,T_,T_,T_,T_,T_,T_,T_,T_,T_,F_,F_] rfl rfl (any_of HT_.out (by kernel_rfl)) (fun _ _ _ h => h) (Or.inl ⟨by rfl,?_⟩) ?_ ?_
   rotate_left;(intro w';go_simp;with_reducible rfl);rotate_left;(simp only [Act.put,ps_,i64_w,i32_w];rfl)
   refine pure_ (i:=11) (N:=some 35) (v:=?_) (a':=?_) #[T_,T_,T_,T_,T_,T_,T_,T_,T_,T_,T_,T_,F_] rfl rfl (any_of HT_.out (by kernel_rfl)) (fun _ _ _ h => h) (Or.inl ⟨by rfl,?_⟩) ?_ ?_
   rotate_left;(intro w';go_simp;with_reducible rfl);rotate_left;(simp only [Act.put,ps_,i64_w,i32_w];rfl)
   refine last_ (i:=12) (N:=none) #[T_,T_,T_,T_,T_,T_,T_,T_,T_,T_,T_,T_,T_] rfl rfl (one_of HT_.out (by kernel_rfl)) (by decide) (fun K hK => ?_)
   have hs68 : w67.cell? ⟨gb129,1,none⟩ = some (.int .u64 a0_1):=(kc_ BK129.out 1).trans rfl
   have hfs68:=blk_frozen BK129.out 1
   have hns68_1:=NB130_129.out
   have hns68_2:=NB134_129.out
   have hms68_1:=NB129_130.out
   have hms68_2:=NB129_134.out
   refine skip_ (w1:=?_) (by rfl) rfl ?_ ?_
   rotate_left
   ·go_simp
    rfl
   refine hK.out _ _ ?_
   clear hK K
   refine done_ (done_of HT_.out (by kernel_rfl)) ?_
   have hcz69_0 : w67.cell? ⟨gb129,0,none⟩ = some (.int .u64 a0_0):=(kc_ BK129.out 0).trans rfl
   have hcz69_1 : w67.cell? ⟨gb129,1,none⟩ = some (.int .u64 a0_1):=(kc_ BK129.out 1).trans rfl
   have hcz69_2 : w67.cell? ⟨gb129,2,none⟩ = some (.string a0_2):=(kc_ BK129.out 2).trans rfl
   have hcz69_3 : w67.cell? ⟨gb129,3,none⟩ = some (.slice A0_3 l0_3.length c0_3):=(kc_ BK129.out 3).trans rfl
   have hcz69_4 : w67.cell? ⟨gb129,4,none⟩ = some (.slice A0_4 l0_4.length c0_4):=(kc_ BK129.out 4).trans rfl
   have hcz69_5 : w67.cell? ⟨gb129,5,none⟩ = some (.bool a0_5):=(kc_ BK129.out 5).trans rfl
   have hcz69_6 : w67.cell? ⟨gb129,6,none⟩ = some (.bool true):=(kc_ BK129.out 6).trans rfl
   have hcz69_7 : w67.cell? ⟨gb129,7,none⟩ = some (.bool a0_7):=(kc_ BK129.out 7).trans rfl
   have hfz69_0:=blk_frozen BK129.out 0
   have hfz69_1:=blk_frozen BK129.out 1
   have hfz69_2:=blk_frozen BK129.out 2
   have hfz69_3:=blk_frozen BK129.out 3
   have hfz69_4:=blk_frozen BK129.out 4
   have hfz69_5:=blk_frozen BK129.out 5
   have hfz69_6:=blk_frozen BK129.out 6
   have hfz69_7:=blk_frozen BK129.out 7
   have hcz70_0 : w67.cell? ⟨gb130,0,none⟩ = some (.int .u64 0):=(kc_ BK130.out 0).trans rfl
   have hcz70_1 : w67.cell? ⟨gb130,1,none⟩ = some (.int .u64 0):=(kc_ BK130.out 1).trans rfl
   have hcz70_2 : w67.cell? ⟨gb130,2,none⟩ = some (.string (⟨#[]⟩ : ByteArray)):=(kc_ BK130.out 2).trans rfl
   have hcz70_3 : w67.cell? ⟨gb130,3,none⟩ = some (.slice none 0 0):=(kc_ BK130.out 3).trans rfl
   have hcz70_4 : w67.cell? ⟨gb130,4,none⟩ = some (.slice none 0 0):=(kc_ BK130.out 4).trans rfl
   have hcz70_5 : w67.cell? ⟨gb130,5,none⟩ = some (.bool false):=(kc_ BK130.out 5).trans rfl
   have hcz70_6 : w67.cell? ⟨gb130,6,none⟩ = some (.bool false):=(kc_ BK130.out 6).trans rfl
   have hcz70_7 : w67.cell? ⟨gb130,7,none⟩ = some (.bool false):=(kc_ BK130.out 7).trans rfl
   have hfz70_0:=blk_frozen BK130.out 0
   have hfz70_1:=blk_frozen BK130.out 1
   have hfz70_2:=blk_frozen BK130.out 2
   have hfz70_3:=blk_frozen BK130.out 3
   have hfz70_4:=blk_frozen BK130.out 4
   have hfz70_5:=blk_frozen BK130.out 5
   have hfz70_6:=blk_frozen BK130.out 6
   have hfz70_7:=blk_frozen BK130.out 7
   try go_wp2
   refine bodyPost_ret (results_cell_row rfl _ _ gb130 29 #[.int .u64 a0_0,.int .u64 ji54,.string a0_2,.slice A0_3 l0_3.length c0_3,.slice A0_4 l0_4.length c0_4,.bool a0_5,.bool (!a3),.bool a0_7] (0,0) _ rfl (by (with_reducible repeat (first|refine kn_ ?_ _|refine kd_ ?_|refine ka_ ?_ _));refine blk_put (cs:=#[.int .u64 a0_0,.int .u64 ji54,.string a0_2,.slice A0_3 l0_3.length c0_3,.slice A0_4 l0_4.length c0_4,.bool a0_5,.bool (!a3),.bool false]) ?_ 7 _ rfl;(with_reducible repeat (first|refine kn_ ?_ _|refine kd_ ?_|refine ka_ ?_ _));refine blk_put (cs:=#[.int .u64 a0_0,.int .u64 ji54,.string a0_2,.slice A0_3 l0_3.length c0_3,.slice A0_4 l0_4.length c0_4,.bool a0_5,.bool false,.bool false]) ?_ 6 _ rfl;(with_reducible repeat (first|refine kn_ ?_ _|refine kd_ ?_|refine ka_ ?_ _));refine blk_put (cs:=#[.int .u64 a0_0,.int .u64 ji54,.string a0_2,.slice A0_3 l0_3.length c0_3,.slice A0_4 l0_4.length c0_4,.bool false,.bool false,.bool false]) ?_ 5 _ rfl;(with_reducible repeat (first|refine kn_ ?_ _|refine kd_ ?_|refine ka_ ?_ _));refine blk_put (cs:=#[.int .u64 a0_0,.int .u64 ji54,.string a0_2,.slice A0_3 l0_3.length c0_3,.slice none 0 0,.bool false,.bool false,.bool false]) ?_ 4 _ rfl;(with_reducible repeat (first|refine kn_ ?_ _|refine kd_ ?_|refine ka_ ?_ _));refine blk_put (cs:=#[.int .u64 a0_0,.int .u64 ji54,.string a0_2,.slice none 0 0,.slice none 0 0,.bool false,.bool false,.bool false]) ?_ 3 _ rfl;(with_reducible repeat (first|refine kn_ ?_ _|refine kd_ ?_|refine ka_ ?_ _));refine blk_put (cs:=#[.int .u64 a0_0,.int .u64 ji54,.string (⟨#[]⟩ : ByteArray),.slice none 0 0,.slice none 0 0,.bool false,.bool false,.bool false]) ?_ 2 _ rfl;(with_reducible repeat (first|refine kn_ ?_ _|refine kd_ ?_|refine ka_ ?_ _));refine blk_put (cs:=#[.int .u64 a0_0,.int .u64 0,.string (⟨#[]⟩ : ByteArray),.slice none 0 0,.slice none 0 0,.bool false,.bool false,.bool false]) ?_ 1 _ rfl;(with_reducible repeat (first|refine kn_ ?_ _|refine kd_ ?_|refine ka_ ?_ _));refine blk_put (cs:=kk0_) ?_ 0 _ rfl;(with_reducible repeat (first|refine kn_ ?_ _|refine kd_ ?_|refine ka_ ?_ _));refine blk_far ?_ NB130_129.out _;(with_reducible repeat (first|refine kn_ ?_ _|refine kd_ ?_|refine ka_ ?_ _));refine blk_far ?_ NB130_129.out _;(with_reducible repeat (first|refine kn_ ?_ _|refine kd_ ?_|refine ka_ ?_ _));exact BK130.out) Try.underlying29 rfl (by kernel_rfl)) rfl ?_
   exact ⟨_,_,by first|rfl|(simp [errW_none,errW_some] <;> rfl)|(simp only [← hji51,← hji53,← hji54];first|rfl|(simp [errW_none,errW_some] <;> rfl))|(simp [*,errW_none,errW_some] <;> rfl),by (with_reducible repeat (first|apply Kd.V_alloc|apply Kd.V_drewN|apply Kd.V_drew));exact Kd.V_mono (Kd.V_far (p:=⟨gb130,7,none⟩) (Kd.V_far (p:=⟨gb130,6,none⟩) (Kd.V_far (p:=⟨gb130,5,none⟩) (Kd.V_far (p:=⟨gb130,4,none⟩) (Kd.V_far (p:=⟨gb130,3,none⟩) (Kd.V_far (p:=⟨gb130,2,none⟩) (Kd.V_far (p:=⟨gb130,1,none⟩) (Kd.V_far (p:=⟨gb130,0,none⟩) (Kd.V_far (p:=⟨gb129,6,none⟩) (Kd.V_far (p:=⟨gb129,1,none⟩) (Kd.V_mono (Kd.V_mono HO0_3.out (fun k_ hk => (⟨hk,hk.2.1⟩ : _ ∧ k_ ≠ gb129))) (fun k_ hk => (⟨hk,hk.1.2.2.1⟩ : _ ∧ k_ ≠ gb130))) (fun _ hk => hk.1.2) (.int .u64 ji54)) (fun _ hk => hk.1.2) (.bool (!a3))) (fun _ hk => hk.2) (.int .u64 a0_0)) (fun _ hk => hk.2) (.int .u64 ji54)) (fun _ hk => hk.2) (.string a0_2)) (fun _ hk => hk.2) (.slice A0_3 l0_3.length c0_3)) (fun _ hk => hk.2) (.slice A0_4 l0_4.length c0_4)) (fun _ hk => hk.2) (.bool a0_5)) (fun _ hk => hk.2) (.bool (!a3))) (fun _ hk => hk.2) (.bool a0_7)) (fun _ hk => hk.1.1.1),by (with_reducible repeat (first|apply Kd.V_alloc|apply Kd.V_drewN|apply Kd.V_drew));exact Kd.V_mono (Kd.V_far (p:=⟨gb130,7,none⟩) (Kd.V_far (p:=⟨gb130,6,none⟩) (Kd.V_far (p:=⟨gb130,5,none⟩) (Kd.V_far (p:=⟨gb130,4,none⟩) (Kd.V_far (p:=⟨gb130,3,none⟩) (Kd.V_far (p:=⟨gb130,2,none⟩) (Kd.V_far (p:=⟨gb130,1,none⟩) (Kd.V_far (p:=⟨gb130,0,none⟩) (Kd.V_far (p:=⟨gb129,6,none⟩) (Kd.V_far (p:=⟨gb129,1,none⟩) (Kd.V_mono (Kd.V_mono HO0_4.out (fun k_ hk => (⟨hk,hk.2.1⟩ : _ ∧ k_ ≠ gb129))) (fun k_ hk => (⟨hk,hk.1.2.2.1⟩ : _ ∧ k_ ≠ gb130))) (fun _ hk => hk.1.2) (.int .u64 ji54)) (fun _ hk => hk.1.2) (.bool (!a3))) (fun _ hk => hk.2) (.int .u64 a0_0)) (fun _ hk => hk.2) (.int .u64 ji54)) (fun _ hk => hk.2) (.string a0_2)) (fun _ hk => hk.2) (.slice A0_3 l0_3.length c0_3)) (fun _ hk => hk.2) (.slice A0_4 l0_4.length c0_4)) (fun _ hk => hk.2) (.bool a0_5)) (fun _ hk => hk.2) (.bool (!a3))) (fun _ hk => hk.2) (.bool a0_7)) (fun _ hk => hk.1.1.1),by repeat (first|(with_reducible first|exact HB.out|apply ba_|apply pn_|apply pd_|refine bs_ ?_ GE129.out|refine bs_ ?_ GE130.out|refine bs_ ?_ GE134.out)|exact HB.out)⟩
  ·replace c55:=Bool.eq_false_iff.mpr c55
   subst c55
   have H1 : (some (a0_0,ji54,a0_2,l0_3,l0_4,a0_5,false,a0_7)) = some (r1,r2,r3,r4,r5,r6,r7,r8):=by rw [if_neg (show ¬ (false = true) by decide)] at H;exact H
   clear H
   have H:=H1
   clear H1
   simp only [Option.some.injEq,Prod.mk.injEq] at H
   obtain ⟨rfl,rfl,rfl,rfl,rfl,rfl,rfl,rfl⟩:=H
   go_enter Try.func16,Try.ntmps16
   try go_wp2_with (first|((with_reducible refine gate_dst (N:=4) rfl ?_);refine box_event ?hg (N:=4) ?hd (cs:=#[.int .u64 a0_0,.int .u64 a0_1,.string a0_2,.slice A0_3 l0_3.length c0_3,.slice A0_4 l0_4.length c0_4,.bool a0_5,.bool false,.bool a0_7]) (t:=29) ?hr ?_;(case hd => rfl);(case hg => rfl);(case hr => first|(go_simp;done)|(go_simp;rfl));intro gb129 hg w71 hbox hb;have n0_:=am_ (Kd.V_below (Kd.V_elderB (by (with_reducible repeat (first|apply Kd.V_alloc|apply Kd.V_drewN|apply Kd.V_drew));exact HO0_3.out) gb129 (Nat.le_of_eq hg.symm)) hb);have n1_:=am_ (Kd.V_below (Kd.V_elderB (by (with_reducible repeat (first|apply Kd.V_alloc|apply Kd.V_drewN|apply Kd.V_drew));exact HO0_4.out) gb129 (Nat.le_of_eq hg.symm)) hb);have n2_:=am_ (below_step (by repeat (first|(with_reducible first|exact HB.out|apply ba_|apply pn_|apply pd_)|exact HB.out)) hb);have n3_:=am_ (hbox);have n4_:=am_ ((by rw [hg];exact (below_size (by repeat (first|(with_reducible first|exact HB.out|apply ba_|apply pn_|apply pd_)|exact HB.out))) : w.heap.size ≤ gb129));have n5_:=am_ ((by rw [hg];exact (below_size (by repeat (first|(with_reducible first|exact HB.out|apply ba_|apply pn_|apply pd_)|exact HB.out))) : w.heap.size ≤ gb129));clear HO0_3;clear HO0_4;clear HB;have HO0_3:=n0_;have HO0_4:=n1_;have HB:=n2_;have BK129:=n3_;have GW129:=n4_;have GE129:=n5_;clear n0_ n1_ n2_ n3_ n4_ n5_;clear hb hbox hg)|((with_reducible refine gate_dst (N:=8) rfl ?_);refine box_event ?hg (N:=8) ?hd (cs:=kk0_) (t:=29) ?hr ?_;(case hd => rfl);(case hg => rfl);(case hr => first|(go_simp;done)|(go_simp;rfl));intro gb130 hg w72 hbox hb;have n0_:=am_ (Kd.V_below (Kd.V_elderB (by (with_reducible repeat (first|apply Kd.V_alloc|apply Kd.V_drewN|apply Kd.V_drew));exact HO0_3.out) gb130 (Nat.le_of_eq hg.symm)) hb);have n1_:=am_ (Kd.V_below (Kd.V_elderB (by (with_reducible repeat (first|apply Kd.V_alloc|apply Kd.V_drewN|apply Kd.V_drew));exact HO0_4.out) gb130 (Nat.le_of_eq hg.symm)) hb);have n2_:=am_ (blk_below (g:=gb129) (o:=.cells #[.int .u64 a0_0,.int .u64 a0_1,.string a0_2,.slice A0_3 l0_3.length c0_3,.slice A0_4 l0_4.length c0_4,.bool a0_5,.bool false,.bool a0_7] 29 (0,0)) (by (with_reducible repeat (first|refine kn_ ?_ _|refine kd_ ?_|refine ka_ ?_ _));exact BK129.out) hb);have n3_:=am_ (below_step (by repeat (first|(with_reducible first|exact HB.out|apply ba_|apply pn_|apply pd_|refine bs_ ?_ GE129.out)|exact HB.out)) hb);have n4_:=am_ (hbox);have n5_:=am_ ((by rw [hg];exact (below_size (by repeat (first|(with_reducible first|exact HB.out|apply ba_|apply pn_|apply pd_|refine bs_ ?_ GE129.out)|exact HB.out))) : w.heap.size ≤ gb130));have n6_:=am_ ((by rw [hg];exact (below_size (by repeat (first|(with_reducible first|exact HB.out|apply ba_|apply pn_|apply pd_|refine bs_ ?_ GE129.out)|exact HB.out))) : w.heap.size ≤ gb130));have n7_:=am_ ((by rw [hg];exact Nat.ne_of_lt (blk_lt (g:=gb129) (o:=.cells #[.int .u64 a0_0,.int .u64 a0_1,.string a0_2,.slice A0_3 l0_3.length c0_3,.slice A0_4 l0_4.length c0_4,.bool a0_5,.bool false,.bool a0_7] 29 (0,0)) (by (with_reducible repeat (first|refine kn_ ?_ _|refine kd_ ?_|refine ka_ ?_ _));exact BK129.out)) : gb129 ≠ gb130));have n8_:=am_ ((by rw [hg];exact Nat.ne_of_gt (blk_lt (g:=gb129) (o:=.cells #[.int .u64 a0_0,.int .u64 a0_1,.string a0_2,.slice A0_3 l0_3.length c0_3,.slice A0_4 l0_4.length c0_4,.bool a0_5,.bool false,.bool a0_7] 29 (0,0)) (by (with_reducible repeat (first|refine kn_ ?_ _|refine kd_ ?_|refine ka_ ?_ _));exact BK129.out)) : gb130 ≠ gb129));clear HO0_3;clear HO0_4;clear BK129;clear HB;have HO0_3:=n0_;have HO0_4:=n1_;have BK129:=n2_;have HB:=n3_;have BK130:=n4_;have GW130:=n5_;have GE130:=n6_;have NB129_130:=n7_;have NB130_129:=n8_;clear n0_ n1_ n2_ n3_ n4_ n5_ n6_ n7_ n8_;clear hb hbox hg;have hnb73:=NB129_130.out;have hnc73:=NB130_129.out;have hcz74_0 : w72.cell? ⟨gb129,0,none⟩ = some (.int .u64 a0_0):=(kc_ BK129.out 0).trans rfl;have hcz74_1 : w72.cell? ⟨gb129,1,none⟩ = some (.int .u64 a0_1):=(kc_ BK129.out 1).trans rfl;have hcz74_2 : w72.cell? ⟨gb129,2,none⟩ = some (.string a0_2):=(kc_ BK129.out 2).trans rfl;have hcz74_3 : w72.cell? ⟨gb129,3,none⟩ = some (.slice A0_3 l0_3.length c0_3):=(kc_ BK129.out 3).trans rfl;have hcz74_4 : w72.cell? ⟨gb129,4,none⟩ = some (.slice A0_4 l0_4.length c0_4):=(kc_ BK129.out 4).trans rfl;have hcz74_5 : w72.cell? ⟨gb129,5,none⟩ = some (.bool a0_5):=(kc_ BK129.out 5).trans rfl;have hcz74_6 : w72.cell? ⟨gb129,6,none⟩ = some (.bool false):=(kc_ BK129.out 6).trans rfl;have hcz74_7 : w72.cell? ⟨gb129,7,none⟩ = some (.bool a0_7):=(kc_ BK129.out 7).trans rfl;have hfz74_0:=blk_frozen BK129.out 0;have hfz74_1:=blk_frozen BK129.out 1;have hfz74_2:=blk_frozen BK129.out 2;have hfz74_3:=blk_frozen BK129.out 3;have hfz74_4:=blk_frozen BK129.out 4;have hfz74_5:=blk_frozen BK129.out 5;have hfz74_6:=blk_frozen BK129.out 6;have hfz74_7:=blk_frozen BK129.out 7; skip)|((with_reducible refine gate_callee (f:=32) rfl ?_);refine goesL_ (some 15) rfl rfl Try.func32 (by kernel_rfl) rfl #[.agg #[.int .u64 a0_0,.int .u64 a0_1,.string a0_2,.slice A0_3 l0_3.length c0_3,.slice A0_4 l0_4.length c0_4,.bool a0_5,.bool false,.bool a0_7],.int .u64 a1,.int .i64 a2] rfl (by (try simp only [List.map_toArray,List.map_cons,List.map_nil]);first|done|rfl|(simp only [List.length_drop,List.length_take];rfl)) ?_;(with_reducible refine (sendq_State_window.calls a0_0 a0_1 a0_2 _ _ l0_3 _ _ l0_4 a0_5 false a0_7 a1 a2 t131 t132 false _ ?side1 ?side2 ?side3 ?side4 A5.out).mono ?_);(case side1 => repeat (first|exact (Kd.V_reads' HO0_3.out).2.2|(with_reducible refine Kd.C_alloc ?_ _)|(with_reducible refine Kd.C_drewN ?_ _)|(with_reducible refine Kd.C_drew ?_)));(case side2 => exact (Kd.V_reads' HO0_3.out).2.1);(case side3 => repeat (first|exact (Kd.V_reads' HO0_4.out).2.2|(with_reducible refine Kd.C_alloc ?_ _)|(with_reducible refine Kd.C_drewN ?_ _)|(with_reducible refine Kd.C_drew ?_)));(case side4 => exact (Kd.V_reads' HO0_4.out).2.1);rintro e w75 ⟨rfl,hb⟩;refine ⟨_,rfl,?_⟩;have n0_:=am_ (Kd.V_below (by (with_reducible repeat (first|apply Kd.V_alloc|apply Kd.V_drewN|apply Kd.V_drew));exact HO0_3.out) hb);have n1_:=am_ (Kd.V_below (by (with_reducible repeat (first|apply Kd.V_alloc|apply Kd.V_drewN|apply Kd.V_drew));exact HO0_4.out) hb);have n2_:=am_ (blk_below (g:=gb129) (o:=.cells #[.int .u64 a0_0,.int .u64 a0_1,.string a0_2,.slice A0_3 l0_3.length c0_3,.slice A0_4 l0_4.length c0_4,.bool a0_5,.bool false,.bool a0_7] 29 (0,0)) (by (with_reducible repeat (first|refine kn_ ?_ _|refine kd_ ?_|refine ka_ ?_ _));exact BK129.out) hb);have n3_:=am_ (blk_below (g:=gb130) (o:=.cells kk0_ 29 (0,0)) (by (with_reducible repeat (first|refine kn_ ?_ _|refine kd_ ?_|refine ka_ ?_ _));exact BK130.out) hb);have n4_:=am_ (below_step (by repeat (first|(with_reducible first|exact HB.out|apply ba_|apply pn_|apply pd_|refine bs_ ?_ GE129.out|refine bs_ ?_ GE130.out)|exact HB.out)) hb);clear HO0_3;clear HO0_4;clear BK129;clear BK130;clear HB;have HO0_3:=n0_;have HO0_4:=n1_;have BK129:=n2_;have BK130:=n3_;have HB:=n4_;clear n0_ n1_ n2_ n3_ n4_;(try clear hb);(try clear hb2);(try clear hk);(try clear hi))|((with_reducible refine gate_dst (N:=9) rfl ?_);refine box_event ?hg (N:=9) ?hd (cs:=kk1_) (t:=67) ?hr ?_;(case hd => rfl);(case hg => rfl);(case hr => first|(go_simp;done)|(go_simp;rfl));intro gb134 hg w76 hbox hb;have n0_:=am_ (Kd.V_below (Kd.V_elderB (by (with_reducible repeat (first|apply Kd.V_alloc|apply Kd.V_drewN|apply Kd.V_drew));exact HO0_3.out) gb134 (Nat.le_of_eq hg.symm)) hb);have n1_:=am_ (Kd.V_below (Kd.V_elderB (by (with_reducible repeat (first|apply Kd.V_alloc|apply Kd.V_drewN|apply Kd.V_drew));exact HO0_4.out) gb134 (Nat.le_of_eq hg.symm)) hb);have n2_:=am_ (blk_below (g:=gb129) (o:=.cells #[.int .u64 a0_0,.int .u64 a0_1,.string a0_2,.slice A0_3 l0_3.length c0_3,.slice A0_4 l0_4.length c0_4,.bool a0_5,.bool false,.bool a0_7] 29 (0,0)) (by (with_reducible repeat (first|refine kn_ ?_ _|refine kd_ ?_|refine ka_ ?_ _));exact BK129.out) hb);have n3_:=am_ (blk_below (g:=gb130) (o:=.cells kk0_ 29 (0,0)) (by (with_reducible repeat (first|refine kn_ ?_ _|refine kd_ ?_|refine ka_ ?_ _));exact BK130.out) hb);have n4_:=am_ (below_step (by repeat (first|(with_reducible first|exact HB.out|apply ba_|apply pn_|apply pd_|refine bs_ ?_ GE129.out|refine bs_ ?_ GE130.out)|exact HB.out)) hb);have n5_:=am_ (hbox);have n6_:=am_ ((by rw [hg];exact (below_size (by repeat (first|(with_reducible first|exact HB.out|apply ba_|apply pn_|apply pd_|refine bs_ ?_ GE129.out|refine bs_ ?_ GE130.out)|exact HB.out))) : w.heap.size ≤ gb134));have n7_:=am_ ((by rw [hg];exact (below_size (by repeat (first|(with_reducible first|exact HB.out|apply ba_|apply pn_|apply pd_|refine bs_ ?_ GE129.out|refine bs_ ?_ GE130.out)|exact HB.out))) : w.heap.size ≤ gb134));have n8_:=am_ ((by rw [hg];exact Nat.ne_of_lt (blk_lt (g:=gb129) (o:=.cells #[.int .u64 a0_0,.int .u64 a0_1,.string a0_2,.slice A0_3 l0_3.length c0_3,.slice A0_4 l0_4.length c0_4,.bool a0_5,.bool false,.bool a0_7] 29 (0,0)) (by (with_reducible repeat (first|refine kn_ ?_ _|refine kd_ ?_|refine ka_ ?_ _));exact BK129.out)) : gb129 ≠ gb134));have n9_:=am_ ((by rw [hg];exact Nat.ne_of_gt (blk_lt (g:=gb129) (o:=.cells #[.int .u64 a0_0,.int .u64 a0_1,.string a0_2,.slice A0_3 l0_3.length c0_3,.slice A0_4 l0_4.length c0_4,.bool a0_5,.bool false,.bool a0_7] 29 (0,0)) (by (with_reducible repeat (first|refine kn_ ?_ _|refine kd_ ?_|refine ka_ ?_ _));exact BK129.out)) : gb134 ≠ gb129));have n10_:=am_ ((by rw [hg];exact Nat.ne_of_lt (blk_lt (g:=gb130) (o:=.cells kk0_ 29 (0,0)) (by (with_reducible repeat (first|refine kn_ ?_ _|refine kd_ ?_|refine ka_ ?_ _));exact BK130.out)) : gb130 ≠ gb134));have n11_:=am_ ((by rw [hg];exact Nat.ne_of_gt (blk_lt (g:=gb130) (o:=.cells kk0_ 29 (0,0)) (by (with_reducible repeat (first|refine kn_ ?_ _|refine kd_ ?_|refine ka_ ?_ _));exact BK130.out)) : gb134 ≠ gb130));clear HO0_3;clear HO0_4;clear BK129;clear BK130;clear HB;have HO0_3:=n0_;have HO0_4:=n1_;have BK129:=n2_;have BK130:=n3_;have HB:=n4_;have BK134:=n5_;have GW134:=n6_;have GE134:=n7_;have NB129_134:=n8_;have NB134_129:=n9_;have NB130_134:=n10_;have NB134_130:=n11_;clear n0_ n1_ n2_ n3_ n4_ n5_ n6_ n7_ n8_ n9_ n10_ n11_;clear hb hbox hg;have hnb77:=NB134_129.out;have hnc77:=NB129_134.out;have hnb78:=NB134_130.out;have hnc78:=NB130_134.out;have hcz79_0 : w76.cell? ⟨gb134,0,none⟩ = some (.int .u64 0):=(kc_ BK134.out 0).trans rfl;have hcz79_1 : w76.cell? ⟨gb134,1,none⟩ = some (.int .u64 0):=(kc_ BK134.out 1).trans rfl;have hfz79_0:=blk_frozen BK134.out 0;have hfz79_1:=blk_frozen BK134.out 1; skip))
   have n0_ : Aside0 (Kd.V k67 67 ((w76.setCell ⟨gb134,0,none⟩ (.int .u64 t131)).setCell ⟨gb134,1,none⟩ (.int .u64 t132)) w.heap.size (fun k_ => ((P0_3_ k_ ∨ P0_4_ k_) ∨ w.heap.size ≤ k_) ∧ k_ ≠ gb129 ∧ k_ ≠ gb130 ∧ k_ ≠ gb134) (.slice A0_3 l0_3.length c0_3) l0_3):=⟨by (with_reducible repeat (first|apply Kd.V_alloc|apply Kd.V_drewN|apply Kd.V_drew));exact Kd.V_mono (Kd.V_far (p:=⟨gb134,1,none⟩) (Kd.V_far (p:=⟨gb134,0,none⟩) (Kd.V_mono HO0_3.out (fun k_ hk => (⟨hk,hk.2⟩ : _ ∧ k_ ≠ gb134))) (fun _ hk => hk.2) (.int .u64 t131)) (fun _ hk => hk.2) (.int .u64 t132)) (fun _ hk => ⟨hk.1.1.1.1,⟨hk.1.1.1.2,⟨hk.1.1.2,hk.1.2⟩⟩⟩)⟩
   have n1_ : Aside0 (Kd.V k67 67 ((w76.setCell ⟨gb134,0,none⟩ (.int .u64 t131)).setCell ⟨gb134,1,none⟩ (.int .u64 t132)) w.heap.size (fun k_ => ((P0_3_ k_ ∨ P0_4_ k_) ∨ w.heap.size ≤ k_) ∧ k_ ≠ gb129 ∧ k_ ≠ gb130 ∧ k_ ≠ gb134) (.slice A0_4 l0_4.length c0_4) l0_4):=⟨by (with_reducible repeat (first|apply Kd.V_alloc|apply Kd.V_drewN|apply Kd.V_drew));exact Kd.V_mono (Kd.V_far (p:=⟨gb134,1,none⟩) (Kd.V_far (p:=⟨gb134,0,none⟩) (Kd.V_mono HO0_4.out (fun k_ hk => (⟨hk,hk.2⟩ : _ ∧ k_ ≠ gb134))) (fun _ hk => hk.2) (.int .u64 t131)) (fun _ hk => hk.2) (.int .u64 t132)) (fun _ hk => ⟨hk.1.1.1.1,⟨hk.1.1.1.2,⟨hk.1.1.2,hk.1.2⟩⟩⟩)⟩
   have n2_ : Aside0 (((w76.setCell ⟨gb134,0,none⟩ (.int .u64 t131)).setCell ⟨gb134,1,none⟩ (.int .u64 t132)).heap[gb129]? = some (.cells #[.int .u64 a0_0,.int .u64 a0_1,.string a0_2,.slice A0_3 l0_3.length c0_3,.slice A0_4 l0_4.length c0_4,.bool a0_5,.bool false,.bool a0_7] 29 (0,0))):=⟨by (with_reducible repeat (first|refine kn_ ?_ _|refine kd_ ?_|refine ka_ ?_ _));refine blk_far ?_ NB129_134.out _;(with_reducible repeat (first|refine kn_ ?_ _|refine kd_ ?_|refine ka_ ?_ _));refine blk_far ?_ NB129_134.out _;(with_reducible repeat (first|refine kn_ ?_ _|refine kd_ ?_|refine ka_ ?_ _));exact BK129.out⟩
   have n3_ : Aside0 (((w76.setCell ⟨gb134,0,none⟩ (.int .u64 t131)).setCell ⟨gb134,1,none⟩ (.int .u64 t132)).heap[gb130]? = some (.cells kk0_ 29 (0,0))):=⟨by (with_reducible repeat (first|refine kn_ ?_ _|refine kd_ ?_|refine ka_ ?_ _));refine blk_far ?_ NB130_134.out _;(with_reducible repeat (first|refine kn_ ?_ _|refine kd_ ?_|refine ka_ ?_ _));refine blk_far ?_ NB130_134.out _;(with_reducible repeat (first|refine kn_ ?_ _|refine kd_ ?_|refine ka_ ?_ _));exact BK130.out⟩
   have n4_ : Aside0 (((w76.setCell ⟨gb134,0,none⟩ (.int .u64 t131)).setCell ⟨gb134,1,none⟩ (.int .u64 t132)).heap[gb134]? = some (.cells #[.int .u64 t131,.int .u64 t132] 67 (0,0))):=⟨by (with_reducible repeat (first|refine kn_ ?_ _|refine kd_ ?_|refine ka_ ?_ _));refine blk_put (cs:=#[.int .u64 t131,.int .u64 0]) ?_ 1 _ rfl;(with_reducible repeat (first|refine kn_ ?_ _|refine kd_ ?_|refine ka_ ?_ _));refine blk_put (cs:=kk1_) ?_ 0 _ rfl;(with_reducible repeat (first|refine kn_ ?_ _|refine kd_ ?_|refine ka_ ?_ _));exact BK134.out⟩
   have n5_ : Aside0 (Below w.heap.size w ((w76.setCell ⟨gb134,0,none⟩ (.int .u64 t131)).setCell ⟨gb134,1,none⟩ (.int .u64 t132))):=⟨by repeat (first|(with_reducible first|exact HB.out|apply ba_|apply pn_|apply pd_|refine bs_ ?_ GE129.out|refine bs_ ?_ GE130.out|refine bs_ ?_ GE134.out)|exact HB.out)⟩
   (try clear HO0_3)
   (try clear HO0_4)
   (try clear BK129)
   (try clear BK130)
   (try clear BK134)
   (try clear HB)
   generalize ((w76.setCell ⟨gb134,0,none⟩ (.int .u64 t131)).setCell ⟨gb134,1,none⟩ (.int .u64 t132)) = w80 at n0_ n1_ n2_ n3_ n4_ n5_ ⊢
   have HO0_3:=n0_
   have HO0_4:=n1_
   have BK129:=n2_
   have BK130:=n3_
   have BK134:=n4_
   have HB:=n5_
   clear n0_ n1_ n2_ n3_ n4_ n5_
   have n0_:=am_ (Kd.V_drew HO0_3.out)
   have n1_:=am_ (Kd.V_drew HO0_4.out)
   have n2_:=am_ (kd_ BK129.out)
   have n3_:=am_ (kd_ BK130.out)
   have n4_:=am_ (kd_ BK134.out)
   have n5_:=am_ (pd_ HB.out)
   clear HO0_3
   clear HO0_4
   clear BK129
   clear BK130
   clear BK134
   clear HB
   have HO0_3:=n0_
   have HO0_4:=n1_
   have BK129:=n2_
   have BK130:=n3_
   have BK134:=n4_
   have HB:=n5_
   clear n0_ n1_ n2_ n3_ n4_ n5_
   refine start_ (n:=13) (S:=fun w' => w'.cell? ⟨gb129,0,none⟩ = some (.int .u64 a0_0) ∧ w'.cell? ⟨gb129,1,none⟩ = some (.int .u64 a0_1) ∧ w'.cell? ⟨gb129,2,none⟩ = some (.string a0_2) ∧ w'.cell? ⟨gb129,3,none⟩ = some (.slice A0_3 l0_3.length c0_3) ∧ w'.cell? ⟨gb129,4,none⟩ = some (.slice A0_4 l0_4.length c0_4) ∧ w'.cell? ⟨gb129,5,none⟩ = some (.bool a0_5) ∧ w'.cell? ⟨gb129,6,none⟩ = some (.bool false) ∧ w'.cell? ⟨gb129,7,none⟩ = some (.bool a0_7)) (ds:=[12]) #[F_,F_,F_,F_,F_,F_,F_,F_,F_,F_,F_,F_,F_] (by kernel_rfl) rfl rfl ⟨(kc_ BK129.out 0).trans rfl,(kc_ BK129.out 1).trans rfl,(kc_ BK129.out 2).trans rfl,(kc_ BK129.out 3).trans rfl,(kc_ BK129.out 4).trans rfl,(kc_ BK129.out 5).trans rfl,(kc_ BK129.out 6).trans rfl,(kc_ BK129.out 7).trans rfl⟩ (fun hHeld => ?_);refine with_tabW sendq_Sent.tab4 sendq_Sent.bits4 (fun HT_ HW_ => ?_)
   generalize w80.drew = w81 at HO0_3 HO0_4 BK129 BK130 BK134 HB hHeld ⊢
   refine pure_ (i:=0) (N:=some 24) (v:=?_) (a':=?_) #[T_,F_,F_,F_,F_,F_,F_,F_,F_,F_,F_,F_,F_] rfl rfl (any_of HT_.out (by kernel_rfl)) (fun _ _ _ h => h) (Or.inl ⟨by rfl,?_⟩) ?_ ?_
   rotate_left;(intro w';go_simp;with_reducible rfl);rotate_left;(simp only [Act.put,ps_,i64_w,i32_w];rfl)
   refine pure_ (i:=2) (N:=some 26) (v:=?_) (a':=?_) #[T_,F_,T_,F_,F_,F_,F_,F_,F_,F_,F_,F_,F_] rfl rfl (any_of HT_.out (by kernel_rfl)) (fun _ _ _ h => h) (Or.inl ⟨by rfl,?_⟩) ?_ ?_
   rotate_left;(intro w';go_simp;with_reducible rfl);rotate_left;(simp only [Act.put,ps_,i64_w,i32_w];rfl)
   refine pure_ (i:=3) (N:=some 27) (v:=?_) (a':=?_) #[T_,F_,T_,T_,F_,F_,F_,F_,F_,F_,F_,F_,F_] rfl rfl (any_of HT_.out (by kernel_rfl)) (fun _ _ _ h => h) (Or.inl ⟨by rfl,?_⟩) ?_ ?_
   rotate_left;(intro w';go_simp;with_reducible rfl);rotate_left;(simp only [Act.put,ps_,i64_w,i32_w];rfl)
   refine pure_ (i:=4) (N:=some 28) (v:=?_) (a':=?_) #[T_,F_,T_,T_,T_,F_,F_,F_,F_,F_,F_,F_,F_] rfl rfl (any_of HT_.out (by kernel_rfl)) (fun _ _ _ h => h) (Or.inl ⟨by rfl,?_⟩) ?_ ?_
   rotate_left;(intro w';go_simp;with_reducible rfl);rotate_left;(simp only [Act.put,ps_,i64_w,i32_w];rfl)
   refine pure_ (i:=5) (N:=some 29) (v:=?_) (a':=?_) #[T_,F_,T_,T_,T_,T_,F_,F_,F_,F_,F_,F_,F_] rfl rfl (any_of HT_.out (by kernel_rfl)) (fun _ _ _ h => h) (Or.inl ⟨by rfl,?_⟩) ?_ ?_
   rotate_left;(intro w';go_simp;with_reducible rfl);rotate_left;(simp only [Act.put,ps_,i64_w,i32_w];rfl)
   refine pure_ (i:=6) (N:=some 30) (v:=?_) (a':=?_) #[T_,F_,T_,T_,T_,T_,T_,F_,F_,F_,F_,F_,F_] rfl rfl (any_of HT_.out (by kernel_rfl)) (fun _ _ _ h => h) (Or.inl ⟨by rfl,?_⟩) ?_ ?_
   rotate_left;(intro w';go_simp;with_reducible rfl);rotate_left;(simp only [Act.put,ps_,i64_w,i32_w];rfl)
   refine take_ (i:=1) (N:=some 25) (v:=?_) (a':=?_) #[T_,T_,T_,T_,T_,T_,T_,F_,F_,F_,F_,F_,F_] rfl rfl (take_ofW HT_.out HW_.out (by kernel_rfl)) (fun _ _ _ h => h) (Or.inl ⟨by rfl,?_⟩) hHeld ?_ ?_
   rotate_left
   ·rintro w' ⟨s0,s1,s2,s3,s4,s5,s6,s7⟩
    go_simp
    with_reducible rfl
   rotate_left
   ·simp only [Act.put,ps_,i64_w,i32_w]
    rfl
   refine take_ (i:=7) (N:=some 31) (v:=?_) (a':=?_) #[T_,T_,T_,T_,T_,T_,T_,T_,F_,F_,F_,F_,F_] rfl rfl (take_ofW HT_.out HW_.out (by kernel_rfl)) (fun _ _ _ h => h) (Or.inl ⟨by rfl,?_⟩) hHeld ?_ ?_
   rotate_left
   ·rintro w' ⟨s0,s1,s2,s3,s4,s5,s6,s7⟩
    go_simp
    with_reducible rfl
   rotate_left
   ·simp only [Act.put,ps_,i64_w,i32_w]
    rfl
   refine one_ (i:=8) (N:=some 32) #[T_,T_,T_,T_,T_,T_,T_,T_,T_,F_,F_,F_,F_] rfl rfl (one_of HT_.out (by kernel_rfl)) (by decide) (fun K hK => ?_)
   refine goes_ Try.func29 (by kernel_rfl) rfl #[.agg #[.int .u64 a0_0,.int .u64 a0_1,.string a0_2,.slice A0_3 l0_3.length c0_3,.slice A0_4 l0_4.length c0_4,.bool a0_5,.bool false,.bool a0_7]] (by rfl) rfl rfl (by (try simp only [List.map_toArray,List.map_cons,List.map_nil]);first|done|rfl|(simp only [List.length_drop,List.length_take];rfl)) ?_
   with_reducible refine (sendq_State_end.calls a0_0 a0_1 a0_2 _ _ l0_3 _ _ l0_4 a0_5 false a0_7 t139 _ ?side1 ?side2 ?side3 ?side4 A52.out).mono ?_
   (case side1 => repeat (first|exact (Kd.V_reads' HO0_3.out).2.2|(with_reducible refine Kd.C_alloc ?_ _)|(with_reducible refine Kd.C_drewN ?_ _)|(with_reducible refine Kd.C_drew ?_)))
   (case side2 => exact (Kd.V_reads' HO0_3.out).2.1)
   (case side3 => repeat (first|exact (Kd.V_reads' HO0_4.out).2.2|(with_reducible refine Kd.C_alloc ?_ _)|(with_reducible refine Kd.C_drewN ?_ _)|(with_reducible refine Kd.C_drew ?_)))
   (case side4 => exact (Kd.V_reads' HO0_4.out).2.1)
   rintro e w82 ⟨rfl,hb⟩
   refine ⟨_,rfl,?_⟩
   have n0_:=am_ (Kd.V_below (by (with_reducible repeat (first|apply Kd.V_alloc|apply Kd.V_drewN|apply Kd.V_drew));exact HO0_3.out) hb)
   have n1_:=am_ (Kd.V_below (by (with_reducible repeat (first|apply Kd.V_alloc|apply Kd.V_drewN|apply Kd.V_drew));exact HO0_4.out) hb)
   have n2_:=am_ (blk_below (g:=gb129) (o:=.cells #[.int .u64 a0_0,.int .u64 a0_1,.string a0_2,.slice A0_3 l0_3.length c0_3,.slice A0_4 l0_4.length c0_4,.bool a0_5,.bool false,.bool a0_7] 29 (0,0)) (by (with_reducible repeat (first|refine kn_ ?_ _|refine kd_ ?_|refine ka_ ?_ _));exact BK129.out) hb)
   have n3_:=am_ (blk_below (g:=gb130) (o:=.cells kk0_ 29 (0,0)) (by (with_reducible repeat (first|refine kn_ ?_ _|refine kd_ ?_|refine ka_ ?_ _));exact BK130.out) hb)
   have n4_:=am_ (blk_below (g:=gb134) (o:=.cells #[.int .u64 t131,.int .u64 t132] 67 (0,0)) (by (with_reducible repeat (first|refine kn_ ?_ _|refine kd_ ?_|refine ka_ ?_ _));exact BK134.out) hb)
   have n5_:=am_ (below_step (by repeat (first|(with_reducible first|exact HB.out|apply ba_|apply pn_|apply pd_|refine bs_ ?_ GE129.out|refine bs_ ?_ GE130.out|refine bs_ ?_ GE134.out)|exact HB.out)) hb)
   clear HO0_3
   clear HO0_4
   clear BK129
   clear BK130
   clear BK134
   clear HB
   have HO0_3:=n0_
   have HO0_4:=n1_
   have BK129:=n2_
   have BK130:=n3_
   have BK134:=n4_
   have HB:=n5_
   clear n0_ n1_ n2_ n3_ n4_ n5_
   (try clear hb)
   (try clear hb2)
   (try clear hk)
   (try clear hi)
   refine hK.out _ _ ⟨(kc_ BK129.out 0).trans rfl,(kc_ BK129.out 1).trans rfl,(kc_ BK129.out 2).trans rfl,(kc_ BK129.out 3).trans rfl,(kc_ BK129.out 4).trans rfl,(kc_ BK129.out 5).trans rfl,(kc_ BK129.out 6).trans rfl,(kc_ BK129.out 7).trans rfl⟩ (fun hHeld => ?_)
   clear hK K
   refine norm_ (a':=?_) ?_ ?_
   rotate_left
   ·show Act.put _ (some 32) _ = _
    simp only [Act.put,ps_,i64_w,i32_w]
    rfl
   refine pure_ (i:=9) (N:=some 33) (v:=?_) (a':=?_) #[T_,T_,T_,T_,T_,T_,T_,T_,T_,T_,F_,F_,F_] rfl rfl (any_of HT_.out (by kernel_rfl)) (fun _ _ _ h => h) (Or.inl ⟨by rfl,?_⟩) ?_ ?_
   rotate_left;(intro w';go_simp;with_reducible rfl);rotate_left;(simp only [Act.put,ps_,i64_w,i32_w];rfl)
   refine pure_ (i:=10) (N:=some 34) (v:=?_) (a':=?_) #[T_,T_,T_,T_,T_,T_,T_,T_,T_,T_,T_,F_,F_] rfl rfl (any_of HT_.out (by kernel_rfl)) (fun _ _ _ h => h) (Or.inl ⟨by rfl,?_⟩) ?_ ?_
   rotate_left;(intro w';go_simp;with_reducible rfl);rotate_left;(simp only [Act.put,ps_,i64_w,i32_w];rfl)
   refine pure_ (i:=11) (N:=some 35) (v:=?_) (a':=?_) #[T_,T_,T_,T_,T_,T_,T_,T_,T_,T_,T_,T_,F_] rfl rfl (any_of HT_.out (by kernel_rfl)) (fun _ _ _ h => h) (Or.inl ⟨by rfl,?_⟩) ?_ ?_
   rotate_left;(intro w';go_simp;with_reducible rfl);rotate_left;(simp only [Act.put,ps_,i64_w,i32_w];rfl)
   refine last_ (i:=12) (N:=none) #[T_,T_,T_,T_,T_,T_,T_,T_,T_,T_,T_,T_,T_] rfl rfl (one_of HT_.out (by kernel_rfl)) (by decide) (fun K hK => ?_)
   have hs83 : w82.cell? ⟨gb129,1,none⟩ = some (.int .u64 a0_1):=(kc_ BK129.out 1).trans rfl
   have hfs83:=blk_frozen BK129.out 1
   have hns83_1:=NB130_129.out
   have hns83_2:=NB134_129.out
   have hms83_1:=NB129_130.out
   have hms83_2:=NB129_134.out
   refine skip_ (w1:=?_) (by rfl) rfl ?_ ?_
   rotate_left
   ·go_simp
    rfl
   refine hK.out _ _ ?_
   clear hK K
   refine done_ (done_of HT_.out (by kernel_rfl)) ?_
   have hcz84_0 : w82.cell? ⟨gb129,0,none⟩ = some (.int .u64 a0_0):=(kc_ BK129.out 0).trans rfl
   have hcz84_1 : w82.cell? ⟨gb129,1,none⟩ = some (.int .u64 a0_1):=(kc_ BK129.out 1).trans rfl
   have hcz84_2 : w82.cell? ⟨gb129,2,none⟩ = some (.string a0_2):=(kc_ BK129.out 2).trans rfl
   have hcz84_3 : w82.cell? ⟨gb129,3,none⟩ = some (.slice A0_3 l0_3.length c0_3):=(kc_ BK129.out 3).trans rfl
   have hcz84_4 : w82.cell? ⟨gb129,4,none⟩ = some (.slice A0_4 l0_4.length c0_4):=(kc_ BK129.out 4).trans rfl
   have hcz84_5 : w82.cell? ⟨gb129,5,none⟩ = some (.bool a0_5):=(kc_ BK129.out 5).trans rfl
   have hcz84_6 : w82.cell? ⟨gb129,6,none⟩ = some (.bool false):=(kc_ BK129.out 6).trans rfl
   have hcz84_7 : w82.cell? ⟨gb129,7,none⟩ = some (.bool a0_7):=(kc_ BK129.out 7).trans rfl
   have hfz84_0:=blk_frozen BK129.out 0
   have hfz84_1:=blk_frozen BK129.out 1
   have hfz84_2:=blk_frozen BK129.out 2
   have hfz84_3:=blk_frozen BK129.out 3
   have hfz84_4:=blk_frozen BK129.out 4
   have hfz84_5:=blk_frozen BK129.out 5
   have hfz84_6:=blk_frozen BK129.out 6
   have hfz84_7:=blk_frozen BK129.out 7
   have hcz85_0 : w82.cell? ⟨gb130,0,none⟩ = some (.int .u64 0):=(kc_ BK130.out 0).trans rfl
   have hcz85_1 : w82.cell? ⟨gb130,1,none⟩ = some (.int .u64 0):=(kc_ BK130.out 1).trans rfl
   have hcz85_2 : w82.cell? ⟨gb130,2,none⟩ = some (.string (⟨#[]⟩ : ByteArray)):=(kc_ BK130.out 2).trans rfl
   have hcz85_3 : w82.cell? ⟨gb130,3,none⟩ = some (.slice none 0 0):=(kc_ BK130.out 3).trans rfl
   have hcz85_4 : w82.cell? ⟨gb130,4,none⟩ = some (.slice none 0 0):=(kc_ BK130.out 4).trans rfl
   have hcz85_5 : w82.cell? ⟨gb130,5,none⟩ = some (.bool false):=(kc_ BK130.out 5).trans rfl
   have hcz85_6 : w82.cell? ⟨gb130,6,none⟩ = some (.bool false):=(kc_ BK130.out 6).trans rfl
   have hcz85_7 : w82.cell? ⟨gb130,7,none⟩ = some (.bool false):=(kc_ BK130.out 7).trans rfl
   have hfz85_0:=blk_frozen BK130.out 0
   have hfz85_1:=blk_frozen BK130.out 1
   have hfz85_2:=blk_frozen BK130.out 2
   have hfz85_3:=blk_frozen BK130.out 3
   have hfz85_4:=blk_frozen BK130.out 4
   have hfz85_5:=blk_frozen BK130.out 5
   have hfz85_6:=blk_frozen BK130.out 6
   have hfz85_7:=blk_frozen BK130.out 7
   try go_wp2
   refine bodyPost_ret (results_cell_row rfl _ _ gb130 29 #[.int .u64 a0_0,.int .u64 ji54,.string a0_2,.slice A0_3 l0_3.length c0_3,.slice A0_4 l0_4.length c0_4,.bool a0_5,.bool false,.bool a0_7] (0,0) _ rfl (by (with_reducible repeat (first|refine kn_ ?_ _|refine kd_ ?_|refine ka_ ?_ _));refine blk_put (cs:=#[.int .u64 a0_0,.int .u64 ji54,.string a0_2,.slice A0_3 l0_3.length c0_3,.slice A0_4 l0_4.length c0_4,.bool a0_5,.bool false,.bool false]) ?_ 7 _ rfl;(with_reducible repeat (first|refine kn_ ?_ _|refine kd_ ?_|refine ka_ ?_ _));refine blk_put (cs:=#[.int .u64 a0_0,.int .u64 ji54,.string a0_2,.slice A0_3 l0_3.length c0_3,.slice A0_4 l0_4.length c0_4,.bool a0_5,.bool false,.bool false]) ?_ 6 _ rfl;(with_reducible repeat (first|refine kn_ ?_ _|refine kd_ ?_|refine ka_ ?_ _));refine blk_put (cs:=#[.int .u64 a0_0,.int .u64 ji54,.string a0_2,.slice A0_3 l0_3.length c0_3,.slice A0_4 l0_4.length c0_4,.bool false,.bool false,.bool false]) ?_ 5 _ rfl;(with_reducible repeat (first|refine kn_ ?_ _|refine kd_ ?_|refine ka_ ?_ _));refine blk_put (cs:=#[.int .u64 a0_0,.int .u64 ji54,.string a0_2,.slice A0_3 l0_3.length c0_3,.slice none 0 0,.bool false,.bool false,.bool false]) ?_ 4 _ rfl;(with_reducible repeat (first|refine kn_ ?_ _|refine kd_ ?_|refine ka_ ?_ _));refine blk_put (cs:=#[.int .u64 a0_0,.int .u64 ji54,.string a0_2,.slice none 0 0,.slice none 0 0,.bool false,.bool false,.bool false]) ?_ 3 _ rfl;(with_reducible repeat (first|refine kn_ ?_ _|refine kd_ ?_|refine ka_ ?_ _));refine blk_put (cs:=#[.int .u64 a0_0,.int .u64 ji54,.string (⟨#[]⟩ : ByteArray),.slice none 0 0,.slice none 0 0,.bool false,.bool false,.bool false]) ?_ 2 _ rfl;(with_reducible repeat (first|refine kn_ ?_ _|refine kd_ ?_|refine ka_ ?_ _));refine blk_put (cs:=#[.int .u64 a0_0,.int .u64 0,.string (⟨#[]⟩ : ByteArray),.slice none 0 0,.slice none 0 0,.bool false,.bool false,.bool false]) ?_ 1 _ rfl;(with_reducible repeat (first|refine kn_ ?_ _|refine kd_ ?_|refine ka_ ?_ _));refine blk_put (cs:=kk0_) ?_ 0 _ rfl;(with_reducible repeat (first|refine kn_ ?_ _|refine kd_ ?_|refine ka_ ?_ _));refine blk_far ?_ NB130_129.out _;(with_reducible repeat (first|refine kn_ ?_ _|refine kd_ ?_|refine ka_ ?_ _));refine blk_far ?_ NB130_129.out _;(with_reducible repeat (first|refine kn_ ?_ _|refine kd_ ?_|refine ka_ ?_ _));exact BK130.out) Try.underlying29 rfl (by kernel_rfl)) rfl ?_
   exact ⟨_,_,by first|rfl|(simp [errW_none,errW_some] <;> rfl)|(simp only [← hji51,← hji53,← hji54];first|rfl|(simp [errW_none,errW_some] <;> rfl))|(simp [*,errW_none,errW_some] <;> rfl),by (with_reducible repeat (first|apply Kd.V_alloc|apply Kd.V_drewN|apply Kd.V_drew));exact Kd.V_mono (Kd.V_far (p:=⟨gb130,7,none⟩) (Kd.V_far (p:=⟨gb130,6,none⟩) (Kd.V_far (p:=⟨gb130,5,none⟩) (Kd.V_far (p:=⟨gb130,4,none⟩) (Kd.V_far (p:=⟨gb130,3,none⟩) (Kd.V_far (p:=⟨gb130,2,none⟩) (Kd.V_far (p:=⟨gb130,1,none⟩) (Kd.V_far (p:=⟨gb130,0,none⟩) (Kd.V_far (p:=⟨gb129,6,none⟩) (Kd.V_far (p:=⟨gb129,1,none⟩) (Kd.V_mono (Kd.V_mono HO0_3.out (fun k_ hk => (⟨hk,hk.2.1⟩ : _ ∧ k_ ≠ gb129))) (fun k_ hk => (⟨hk,hk.1.2.2.1⟩ : _ ∧ k_ ≠ gb130))) (fun _ hk => hk.1.2) (.int .u64 ji54)) (fun _ hk => hk.1.2) (.bool false)) (fun _ hk => hk.2) (.int .u64 a0_0)) (fun _ hk => hk.2) (.int .u64 ji54)) (fun _ hk => hk.2) (.string a0_2)) (fun _ hk => hk.2) (.slice A0_3 l0_3.length c0_3)) (fun _ hk => hk.2) (.slice A0_4 l0_4.length c0_4)) (fun _ hk => hk.2) (.bool a0_5)) (fun _ hk => hk.2) (.bool false)) (fun _ hk => hk.2) (.bool a0_7)) (fun _ hk => hk.1.1.1),by (with_reducible repeat (first|apply Kd.V_alloc|apply Kd.V_drewN|apply Kd.V_drew));exact Kd.V_mono (Kd.V_far (p:=⟨gb130,7,none⟩) (Kd.V_far (p:=⟨gb130,6,none⟩) (Kd.V_far (p:=⟨gb130,5,none⟩) (Kd.V_far (p:=⟨gb130,4,none⟩) (Kd.V_far (p:=⟨gb130,3,none⟩) (Kd.V_far (p:=⟨gb130,2,none⟩) (Kd.V_far (p:=⟨gb130,1,none⟩) (Kd.V_far (p:=⟨gb130,0,none⟩) (Kd.V_far (p:=⟨gb129,6,none⟩) (Kd.V_far (p:=⟨gb129,1,none⟩) (Kd.V_mono (Kd.V_mono HO0_4.out (fun k_ hk => (⟨hk,hk.2.1⟩ : _ ∧ k_ ≠ gb129))) (fun k_ hk => (⟨hk,hk.1.2.2.1⟩ : _ ∧ k_ ≠ gb130))) (fun _ hk => hk.1.2) (.int .u64 ji54)) (fun _ hk => hk.1.2) (.bool false)) (fun _ hk => hk.2) (.int .u64 a0_0)) (fun _ hk => hk.2) (.int .u64 ji54)) (fun _ hk => hk.2) (.string a0_2)) (fun _ hk => hk.2) (.slice A0_3 l0_3.length c0_3)) (fun _ hk => hk.2) (.slice A0_4 l0_4.length c0_4)) (fun _ hk => hk.2) (.bool a0_5)) (fun _ hk => hk.2) (.bool false)) (fun _ hk => hk.2) (.bool a0_7)) (fun _ hk => hk.1.1.1),by repeat (first|(with_reducible first|exact HB.out|apply ba_|apply pn_|apply pd_|refine bs_ ?_ GE129.out|refine bs_ ?_ GE130.out|refine bs_ ?_ GE134.out)|exact HB.out)⟩

end Go.Proofs.Ytocagkmnefkniaa.PSqx
