-- printed for this claim by a program of the claim (wip/tools/pp.py over the kit's print)
import Derived.Test.YtocagkmnefkniaaPSqxx0
namespace Go.Proofs.Ytocagkmnefkniaa.PSqx
open Go.RowKit Go.Proofs.YtocagkmnefkniaaW.PrintWords Go.Proofs.YtocagkmnefkniaaW.PrintLast Go.Proofs.YtocagkmnefkniaaW.PrintMore
attribute [local go_sem] max2_int min2_int max_two min_two max_three min_three max_four min_four   -- for this text's walks alone
set_option linter.unusedVariables false
set_option linter.unusedSimpArgs false

attribute [local go_sem] isSome_setCell_
/-! ### sendq_State_end: function 29 -/
def sendq_State_end.f (a0_0 : Int) (a0_1 : Int) (a0_2 : ByteArray) (l0_3 : List (S67)) (l0_4 : List (S67)) (a0_5 : Bool) (a0_6 : Bool) (a0_7 : Bool) : Option (Int):=some (IntKind.u64.wrap (a0_0 + (IntKind.u64.wrap ((a0_2.size : Int)))))
set_option maxHeartbeats 8000000 in
set_option maxRecDepth 100000 in
theorem sendq_State_end.calls (a0_0 : Int) (a0_1 : Int) (a0_2 : ByteArray) (A0_3 : Option Addr) (c0_3 : Nat) (l0_3 : List (S67)) (A0_4 : Option Addr) (c0_4 : Nat) (l0_4 : List (S67)) (a0_5 : Bool) (a0_6 : Bool) (a0_7 : Bool) (r : Int) (w : World) (hr0_3 : Kd.C k67 w A0_3 l0_3.length l0_3) (hc0_3 : l0_3.length ≤ c0_3) (hr0_4 : Kd.C k67 w A0_4 l0_4.length l0_4) (hc0_4 : l0_4.length ≤ c0_4) (h : sendq_State_end.f a0_0 a0_1 a0_2 l0_3 l0_4 a0_5 a0_6 a0_7 = some r) :
  Calls Try.prog 29 #[.agg #[.int .u64 a0_0,.int .u64 a0_1,.string a0_2,.slice A0_3 l0_3.length c0_3,.slice A0_4 l0_4.length c0_4,.bool a0_5,.bool a0_6,.bool a0_7]] w fun e w' => e = .returned (.int .u64 r) ∧ Below w.heap.size w w':=by
 have hu29:=Try.underlying29
 have HR0_3:=am_ hr0_3
 have HC0_3:=am_ hc0_3
 clear hr0_3 hc0_3
 have HR0_4:=am_ hr0_4
 have HC0_4:=am_ hc0_4
 clear hr0_4 hc0_4
 have HB:=am_ (Below.refl w.heap.size w)
 have H : (some (IntKind.u64.wrap (a0_0 + (IntKind.u64.wrap ((a0_2.size : Int)))))) = some r:=h
 clear h
 obtain rfl:=Option.some.inj H
 go_enter Try.func29,Try.ntmps29
 go_wp2_with (first|((with_reducible refine gate_dst (N:=1) rfl ?_);refine box_event ?hg (N:=1) ?hd (cs:=#[.int .u64 a0_0,.int .u64 a0_1,.string a0_2,.slice A0_3 l0_3.length c0_3,.slice A0_4 l0_4.length c0_4,.bool a0_5,.bool a0_6,.bool a0_7]) (t:=29) ?hr ?_;(case hd => rfl);(case hg => rfl);(case hr => first|(go_simp;done)|(go_simp;rfl));intro gb101 hg w2 hbox hb;have n0_:=am_ (below_step (by repeat (first|(with_reducible first|exact HB.out|apply ba_|apply pn_|apply pd_)|exact HB.out)) hb);have n1_:=am_ (hbox);have n2_:=am_ ((by rw [hg];exact (below_size (by repeat (first|(with_reducible first|exact HB.out|apply ba_|apply pn_|apply pd_)|exact HB.out))) : w.heap.size ≤ gb101));have n3_:=am_ ((by rw [hg];exact (below_size (by repeat (first|(with_reducible first|exact HB.out|apply ba_|apply pn_|apply pd_)|exact HB.out))) : w.heap.size ≤ gb101));clear HB;have HB:=n0_;have BK101:=n1_;have GW101:=n2_;have GE101:=n3_;clear n0_ n1_ n2_ n3_;clear hb hbox hg;have hcz3_0 : w2.cell? ⟨gb101,0,none⟩ = some (.int .u64 a0_0):=(kc_ BK101.out 0).trans rfl;have hcz3_1 : w2.cell? ⟨gb101,1,none⟩ = some (.int .u64 a0_1):=(kc_ BK101.out 1).trans rfl;have hcz3_2 : w2.cell? ⟨gb101,2,none⟩ = some (.string a0_2):=(kc_ BK101.out 2).trans rfl;have hcz3_3 : w2.cell? ⟨gb101,3,none⟩ = some (.slice A0_3 l0_3.length c0_3):=(kc_ BK101.out 3).trans rfl;have hcz3_4 : w2.cell? ⟨gb101,4,none⟩ = some (.slice A0_4 l0_4.length c0_4):=(kc_ BK101.out 4).trans rfl;have hcz3_5 : w2.cell? ⟨gb101,5,none⟩ = some (.bool a0_5):=(kc_ BK101.out 5).trans rfl;have hcz3_6 : w2.cell? ⟨gb101,6,none⟩ = some (.bool a0_6):=(kc_ BK101.out 6).trans rfl;have hcz3_7 : w2.cell? ⟨gb101,7,none⟩ = some (.bool a0_7):=(kc_ BK101.out 7).trans rfl;have hfz3_0:=blk_frozen BK101.out 0;have hfz3_1:=blk_frozen BK101.out 1;have hfz3_2:=blk_frozen BK101.out 2;have hfz3_3:=blk_frozen BK101.out 3;have hfz3_4:=blk_frozen BK101.out 4;have hfz3_5:=blk_frozen BK101.out 5;have hfz3_6:=blk_frozen BK101.out 6;have hfz3_7:=blk_frozen BK101.out 7; skip))
 go_ret
 exact ⟨by first|rfl|(simp [errW_none,errW_some] <;> rfl)|(simp [*,errW_none,errW_some] <;> rfl),by repeat (first|(with_reducible first|exact HB.out|apply ba_|apply pn_|apply pd_|refine bs_ ?_ GE101.out)|exact HB.out)⟩

/-! ### sendq_Next: function 10 -/
def sendq_Next.f (a0_0 : Int) (a0_1 : Int) (a0_2 : ByteArray) (l0_3 : List (S67)) (l0_4 : List (S67)) (a0_5 : Bool) (a0_6 : Bool) (a0_7 : Bool) (a1 : Int) (a2 : Int) : Option (Int × ByteArray × Bool × Bool):=if (l0_4.length : Int) = 0 then (if a0_6 = true then ((sendq_State_end.f a0_0 a0_1 a0_2 l0_3 l0_4 a0_5 a0_6 a0_7).bind fun t103 => (some (t103,(⟨#[]⟩ : ByteArray),a0_6,a0_6))) else (some (0,(⟨#[]⟩ : ByteArray),a0_6,a0_6))) else (if 0 < (l0_4.length : Int) then (if (mn (mn (IntKind.u64.wrap (((rd_T67 l0_4 0).f1) + 1)) (IntKind.u64.wrap (((rd_T67 l0_4 0).f0) + (IntKind.u64.wrap (mx 0 a1))))) a2) ≤ ((rd_T67 l0_4 0).f0) then (some (0,(⟨#[]⟩ : ByteArray),false,false)) else (if 0 ≤ (IntKind.u64.wrap (((rd_T67 l0_4 0).f0) - a0_0)) then (if (IntKind.u64.wrap (((rd_T67 l0_4 0).f0) - a0_0)) ≤ (IntKind.u64.wrap ((mn (mn (IntKind.u64.wrap (((rd_T67 l0_4 0).f1) + 1)) (IntKind.u64.wrap (((rd_T67 l0_4 0).f0) + (IntKind.u64.wrap (mx 0 a1))))) a2) - a0_0)) then (if (IntKind.u64.wrap ((mn (mn (IntKind.u64.wrap (((rd_T67 l0_4 0).f1) + 1)) (IntKind.u64.wrap (((rd_T67 l0_4 0).f0) + (IntKind.u64.wrap (mx 0 a1))))) a2) - a0_0)) ≤ (a0_2.size : Int) then (if a0_5 = true then (if a0_6 = true then ((sendq_State_end.f a0_0 a0_1 a0_2 l0_3 l0_4 a0_5 a0_6 a0_7).bind fun t106 => (some ((rd_T67 l0_4 0).f0,a0_2.extract ((IntKind.u64.wrap (((rd_T67 l0_4 0).f0) - a0_0)) : Int).toNat ((IntKind.u64.wrap ((mn (mn (IntKind.u64.wrap (((rd_T67 l0_4 0).f1) + 1)) (IntKind.u64.wrap (((rd_T67 l0_4 0).f0) + (IntKind.u64.wrap (mx 0 a1))))) a2) - a0_0)) : Int).toNat,((mn (mn (IntKind.u64.wrap (((rd_T67 l0_4 0).f1) + 1)) (IntKind.u64.wrap (((rd_T67 l0_4 0).f0) + (IntKind.u64.wrap (mx 0 a1))))) a2) == t106),true))) else (some ((rd_T67 l0_4 0).f0,a0_2.extract ((IntKind.u64.wrap (((rd_T67 l0_4 0).f0) - a0_0)) : Int).toNat ((IntKind.u64.wrap ((mn (mn (IntKind.u64.wrap (((rd_T67 l0_4 0).f1) + 1)) (IntKind.u64.wrap (((rd_T67 l0_4 0).f0) + (IntKind.u64.wrap (mx 0 a1))))) a2) - a0_0)) : Int).toNat,false,true))) else (none)) else (none)) else (none)) else (none))) else (none))
def sendq_Next.T4 : Bool × List (List Nat × List Nat):=(true,[([],[]),([],[]),([1],[1]),([],[]),([3],[3]),([0,0],[0]),([5,0,5],[]),([2,6,0,1,2,5,6],[2]),([4,7,0,1,2,3,4,5,6,7],[4])])
def sendq_Next.B4 : List Nat:=[0,0,2,0,8,1,33,103,255]
theorem sendq_Next.tab4 : rtab .any (opsOf Try.f10 4) = sendq_Next.T4:=by kernel_rfl
theorem sendq_Next.bits4 : waitsOk sendq_Next.T4.2 sendq_Next.B4 = true:=by kernel_rfl
def sendq_Next.T9 : Bool × List (List Nat × List Nat):=(true,[([],[]),([0],[0]),([],[]),([2],[2]),([],[]),([4],[4]),([],[]),([6],[6]),([5,7],[5,7]),([],[]),([],[]),([10],[10]),([9,11],[9,11]),([3,8,12],[3,8,12]),([],[]),([14],[14]),([15],[15]),([16],[16]),([17,16],[16,17]),([16,18],[16,18]),([19,16],[19]),([20],[20]),([20],[20]),([22,20,20],[20,22]),([21,23,20],[20,21,23]),([20,24],[20,24]),([1,23,0,1],[1]),([13,26,0,1,2,3,4,5,6,7,8,9,10,11,12,13,26],[13]),([25,27,0,1,2,3,4,5,6,7,8,9,10,11,12,13,14,15,16,17,18,19,20,21,22,23,24,25,26,27],[25]),([28,0,1,2,3,4,5,6,7,8,9,10,11,12,13,14,15,16,17,18,19,20,21,22,23,24,25,26,27,28],[])])
def sendq_Next.B9 : List Nat:=[0,1,0,4,0,16,0,64,240,0,0,1024,3584,8188,0,16384,49152,114688,245760,507904,1032192,2080768,2080768,6275072,16760832,33538048,14663683,81788927,268435455,536870911]
theorem sendq_Next.tab9 : rtab .any (opsOf Try.f10 9) = sendq_Next.T9:=by kernel_rfl
theorem sendq_Next.bits9 : waitsOk sendq_Next.T9.2 sendq_Next.B9 = true:=by kernel_rfl
set_option maxHeartbeats 8000000 in
set_option maxRecDepth 100000 in
theorem sendq_Next.calls (a0_0 : Int) (a0_1 : Int) (a0_2 : ByteArray) (A0_3 : Option Addr) (c0_3 : Nat) (l0_3 : List (S67)) (A0_4 : Option Addr) (c0_4 : Nat) (l0_4 : List (S67)) (a0_5 : Bool) (a0_6 : Bool) (a0_7 : Bool) (a1 : Int) (a2 : Int) (r1 : Int) (r2 : ByteArray) (r3 : Bool) (r4 : Bool) (w : World) (hr0_3 : Kd.C k67 w A0_3 l0_3.length l0_3) (hc0_3 : l0_3.length ≤ c0_3) (hr0_4 : Kd.C k67 w A0_4 l0_4.length l0_4) (hc0_4 : l0_4.length ≤ c0_4) (h : sendq_Next.f a0_0 a0_1 a0_2 l0_3 l0_4 a0_5 a0_6 a0_7 a1 a2 = some (r1,r2,r3,r4)) :
  Calls Try.prog 10 #[.agg #[.int .u64 a0_0,.int .u64 a0_1,.string a0_2,.slice A0_3 l0_3.length c0_3,.slice A0_4 l0_4.length c0_4,.bool a0_5,.bool a0_6,.bool a0_7],.int .i64 a1,.int .u64 a2] w fun e w' => e = .returned (.tuple #[.int .u64 r1,.string r2,.bool r3,.bool r4]) ∧ Below w.heap.size w w':=by
 have hu29:=Try.underlying29
 have hu67:=Try.underlying67
 have HR0_3:=am_ hr0_3
 have HC0_3:=am_ hc0_3
 clear hr0_3 hc0_3
 have HR0_4:=am_ hr0_4
 have HC0_4:=am_ hc0_4
 clear hr0_4 hc0_4
 have HB:=am_ (Below.refl w.heap.size w)
 have H : (if (l0_4.length : Int) = 0 then (if a0_6 = true then ((sendq_State_end.f a0_0 a0_1 a0_2 l0_3 l0_4 a0_5 a0_6 a0_7).bind fun t103 => (some (t103,(⟨#[]⟩ : ByteArray),a0_6,a0_6))) else (some (0,(⟨#[]⟩ : ByteArray),a0_6,a0_6))) else (if 0 < (l0_4.length : Int) then (if (mn (mn (IntKind.u64.wrap (((rd_T67 l0_4 0).f1) + 1)) (IntKind.u64.wrap (((rd_T67 l0_4 0).f0) + (IntKind.u64.wrap (mx 0 a1))))) a2) ≤ ((rd_T67 l0_4 0).f0) then (some (0,(⟨#[]⟩ : ByteArray),false,false)) else (if 0 ≤ (IntKind.u64.wrap (((rd_T67 l0_4 0).f0) - a0_0)) then (if (IntKind.u64.wrap (((rd_T67 l0_4 0).f0) - a0_0)) ≤ (IntKind.u64.wrap ((mn (mn (IntKind.u64.wrap (((rd_T67 l0_4 0).f1) + 1)) (IntKind.u64.wrap (((rd_T67 l0_4 0).f0) + (IntKind.u64.wrap (mx 0 a1))))) a2) - a0_0)) then (if (IntKind.u64.wrap ((mn (mn (IntKind.u64.wrap (((rd_T67 l0_4 0).f1) + 1)) (IntKind.u64.wrap (((rd_T67 l0_4 0).f0) + (IntKind.u64.wrap (mx 0 a1))))) a2) - a0_0)) ≤ (a0_2.size : Int) then (if a0_5 = true then (if a0_6 = true then ((sendq_State_end.f a0_0 a0_1 a0_2 l0_3 l0_4 a0_5 a0_6 a0_7).bind fun t106 => (some ((rd_T67 l0_4 0).f0,a0_2.extract ((IntKind.u64.wrap (((rd_T67 l0_4 0).f0) - a0_0)) : Int).toNat ((IntKind.u64.wrap ((mn (mn (IntKind.u64.wrap (((rd_T67 l0_4 0).f1) + 1)) (IntKind.u64.wrap (((rd_T67 l0_4 0).f0) + (IntKind.u64.wrap (mx 0 a1))))) a2) - a0_0)) : Int).toNat,((mn (mn (IntKind.u64.wrap (((rd_T67 l0_4 0).f1) + 1)) (IntKind.u64.wrap (((rd_T67 l0_4 0).f0) + (IntKind.u64.wrap (mx 0 a1))))) a2) == t106),true))) else (some ((rd_T67 l0_4 0).f0,a0_2.extract ((IntKind.u64.wrap (((rd_T67 l0_4 0).f0) - a0_0)) : Int).toNat ((IntKind.u64.wrap ((mn (mn (IntKind.u64.wrap (((rd_T67 l0_4 0).f1) + 1)) (IntKind.u64.wrap (((rd_T67 l0_4 0).f0) + (IntKind.u64.wrap (mx 0 a1))))) a2) - a0_0)) : Int).toNat,false,true))) else (none)) else (none)) else (none)) else (none))) else (none))) = some (r1,r2,r3,r4):=h
 clear h
 by_cases c4 : (l0_4.length : Int) = 0
 ·rw [if_pos c4] at H
  have c4b0 : ((l0_4.length : Int) == 0) = true:=beq_iff_eq.mpr c4
  have c4b1 : ((l0_4.length : Int) != 0) = false:=bne_eq_false_iff_eq.mpr c4
  clear c4
  by_cases c5 : a0_6 = true
  ·subst c5
   have H1 : ((sendq_State_end.f a0_0 a0_1 a0_2 l0_3 l0_4 a0_5 true a0_7).bind fun t103 => (some (t103,(⟨#[]⟩ : ByteArray),true,true))) = some (r1,r2,r3,r4):=by rw [if_pos rfl] at H;exact H
   clear H
   have H:=H1
   clear H1
   replace H:=Option.bind_eq_some_iff.mp H
   obtain ⟨t103,A60,H⟩:=H
   replace H : (some (t103,(⟨#[]⟩ : ByteArray),true,true)) = some (r1,r2,r3,r4):=H
   have A6:=am_ A60
   clear A60
   simp only [Option.some.injEq,Prod.mk.injEq] at H
   obtain ⟨rfl,rfl,rfl,rfl⟩:=H
   go_enter Try.func10,Try.ntmps10
   try go_wp2_with (first|((with_reducible refine gate_dst (N:=3) rfl ?_);refine box_event ?hg (N:=3) ?hd (cs:=#[.int .u64 a0_0,.int .u64 a0_1,.string a0_2,.slice A0_3 l0_3.length c0_3,.slice A0_4 l0_4.length c0_4,.bool a0_5,.bool true,.bool a0_7]) (t:=29) ?hr ?_;(case hd => rfl);(case hg => rfl);(case hr => first|(go_simp;done)|(go_simp;rfl));intro gb102 hg w7 hbox hb;have n0_:=am_ (below_step (by repeat (first|(with_reducible first|exact HB.out|apply ba_|apply pn_|apply pd_)|exact HB.out)) hb);have n1_:=am_ (hbox);have n2_:=am_ ((by rw [hg];exact (below_size (by repeat (first|(with_reducible first|exact HB.out|apply ba_|apply pn_|apply pd_)|exact HB.out))) : w.heap.size ≤ gb102));have n3_:=am_ ((by rw [hg];exact (below_size (by repeat (first|(with_reducible first|exact HB.out|apply ba_|apply pn_|apply pd_)|exact HB.out))) : w.heap.size ≤ gb102));clear HB;have HB:=n0_;have BK102:=n1_;have GW102:=n2_;have GE102:=n3_;clear n0_ n1_ n2_ n3_;clear hb hbox hg;have hcz8_0 : w7.cell? ⟨gb102,0,none⟩ = some (.int .u64 a0_0):=(kc_ BK102.out 0).trans rfl;have hcz8_1 : w7.cell? ⟨gb102,1,none⟩ = some (.int .u64 a0_1):=(kc_ BK102.out 1).trans rfl;have hcz8_2 : w7.cell? ⟨gb102,2,none⟩ = some (.string a0_2):=(kc_ BK102.out 2).trans rfl;have hcz8_3 : w7.cell? ⟨gb102,3,none⟩ = some (.slice A0_3 l0_3.length c0_3):=(kc_ BK102.out 3).trans rfl;have hcz8_4 : w7.cell? ⟨gb102,4,none⟩ = some (.slice A0_4 l0_4.length c0_4):=(kc_ BK102.out 4).trans rfl;have hcz8_5 : w7.cell? ⟨gb102,5,none⟩ = some (.bool a0_5):=(kc_ BK102.out 5).trans rfl;have hcz8_6 : w7.cell? ⟨gb102,6,none⟩ = some (.bool true):=(kc_ BK102.out 6).trans rfl;have hcz8_7 : w7.cell? ⟨gb102,7,none⟩ = some (.bool a0_7):=(kc_ BK102.out 7).trans rfl;have hfz8_0:=blk_frozen BK102.out 0;have hfz8_1:=blk_frozen BK102.out 1;have hfz8_2:=blk_frozen BK102.out 2;have hfz8_3:=blk_frozen BK102.out 3;have hfz8_4:=blk_frozen BK102.out 4;have hfz8_5:=blk_frozen BK102.out 5;have hfz8_6:=blk_frozen BK102.out 6;have hfz8_7:=blk_frozen BK102.out 7; skip)|((with_reducible refine gate_callee (f:=29) rfl ?_);refine goesL_ (some 19) rfl rfl Try.func29 (by kernel_rfl) rfl #[.agg #[.int .u64 a0_0,.int .u64 a0_1,.string a0_2,.slice A0_3 l0_3.length c0_3,.slice A0_4 l0_4.length c0_4,.bool a0_5,.bool true,.bool a0_7]] rfl (by (try simp only [List.map_toArray,List.map_cons,List.map_nil]);first|done|rfl|(simp only [List.length_drop,List.length_take];rfl)) ?_;(with_reducible refine (sendq_State_end.calls a0_0 a0_1 a0_2 _ _ l0_3 _ _ l0_4 a0_5 true a0_7 t103 _ ?side1 ?side2 ?side3 ?side4 A6.out).mono ?_);(case side1 => repeat (first|exact (Kd.C_below HR0_3.out HB.out)|(with_reducible refine Kd.C_alloc ?_ _)|(with_reducible refine Kd.C_drewN ?_ _)|(with_reducible refine Kd.C_drew ?_)));(case side2 => exact HC0_3.out);(case side3 => repeat (first|exact (Kd.C_below HR0_4.out HB.out)|(with_reducible refine Kd.C_alloc ?_ _)|(with_reducible refine Kd.C_drewN ?_ _)|(with_reducible refine Kd.C_drew ?_)));(case side4 => exact HC0_4.out);rintro e w9 ⟨rfl,hb⟩;refine ⟨_,rfl,?_⟩;have n0_:=am_ (blk_below (g:=gb102) (o:=.cells #[.int .u64 a0_0,.int .u64 a0_1,.string a0_2,.slice A0_3 l0_3.length c0_3,.slice A0_4 l0_4.length c0_4,.bool a0_5,.bool true,.bool a0_7] 29 (0,0)) (by (with_reducible repeat (first|refine kn_ ?_ _|refine kd_ ?_|refine ka_ ?_ _));exact BK102.out) hb);have n1_:=am_ (below_step (by repeat (first|(with_reducible first|exact HB.out|apply ba_|apply pn_|apply pd_|refine bs_ ?_ GE102.out)|exact HB.out)) hb);clear BK102;clear HB;have BK102:=n0_;have HB:=n1_;clear n0_ n1_;(try clear hb);(try clear hb2);(try clear hk);(try clear hi)))
   have n0_:=am_ (kd_ BK102.out)
   have n1_:=am_ (pd_ HB.out)
   clear BK102
   clear HB
   have BK102:=n0_
   have HB:=n1_
   clear n0_ n1_
   refine start_ (n:=9) (S:=fun w' => w'.cell? ⟨gb102,0,none⟩ = some (.int .u64 a0_0) ∧ w'.cell? ⟨gb102,1,none⟩ = some (.int .u64 a0_1) ∧ w'.cell? ⟨gb102,2,none⟩ = some (.string a0_2) ∧ w'.cell? ⟨gb102,3,none⟩ = some (.slice A0_3 l0_3.length c0_3) ∧ w'.cell? ⟨gb102,4,none⟩ = some (.slice A0_4 l0_4.length c0_4) ∧ w'.cell? ⟨gb102,5,none⟩ = some (.bool a0_5) ∧ w'.cell? ⟨gb102,6,none⟩ = some (.bool true) ∧ w'.cell? ⟨gb102,7,none⟩ = some (.bool a0_7)) (ds:=[]) #[F_,F_,F_,F_,F_,F_,F_,F_,F_] (by kernel_rfl) rfl rfl ⟨(kc_ BK102.out 0).trans rfl,(kc_ BK102.out 1).trans rfl,(kc_ BK102.out 2).trans rfl,(kc_ BK102.out 3).trans rfl,(kc_ BK102.out 4).trans rfl,(kc_ BK102.out 5).trans rfl,(kc_ BK102.out 6).trans rfl,(kc_ BK102.out 7).trans rfl⟩ (fun hHeld => ?_);refine with_tabW sendq_Next.tab4 sendq_Next.bits4 (fun HT_ HW_ => ?_)
   generalize w9.drew = w10 at BK102 HB hHeld ⊢
   refine pure_ (i:=0) (N:=some 20) (v:=?_) (a':=?_) #[T_,F_,F_,F_,F_,F_,F_,F_,F_] rfl rfl (any_of HT_.out (by kernel_rfl)) (fun _ _ _ h => h) (Or.inl ⟨by rfl,?_⟩) ?_ ?_
   rotate_left;(intro w';go_simp;with_reducible rfl);rotate_left;(simp only [Act.put,ps_,i64_w,i32_w];rfl)
   refine pure_ (i:=1) (N:=some 21) (v:=?_) (a':=?_) #[T_,T_,F_,F_,F_,F_,F_,F_,F_] rfl rfl (any_of HT_.out (by kernel_rfl)) (fun _ _ _ h => h) (Or.inl ⟨by rfl,?_⟩) ?_ ?_
   rotate_left;(intro w';go_simp;with_reducible rfl);rotate_left;(simp only [Act.put,ps_,i64_w,i32_w];rfl)
   refine pure_ (i:=3) (N:=some 23) (v:=?_) (a':=?_) #[T_,T_,F_,T_,F_,F_,F_,F_,F_] rfl rfl (any_of HT_.out (by kernel_rfl)) (fun _ _ _ h => h) (Or.inl ⟨by rfl,?_⟩) ?_ ?_
   rotate_left;(intro w';go_simp;with_reducible rfl);rotate_left;(simp only [Act.put,ps_,i64_w,i32_w];rfl)
   refine pure_ (i:=5) (N:=some 6) (v:=?_) (a':=?_) #[T_,T_,F_,T_,F_,T_,F_,F_,F_] rfl rfl (any_of HT_.out (by kernel_rfl)) (fun _ _ _ h => h) (Or.inl ⟨by rfl,?_⟩) ?_ ?_
   rotate_left;(intro w';go_simp;with_reducible rfl);rotate_left;(simp only [Act.put,ps_,i64_w,i32_w];rfl)
   refine pure_ (i:=6) (N:=some 7) (v:=?_) (a':=?_) #[T_,T_,F_,T_,F_,T_,T_,F_,F_] rfl rfl (any_of HT_.out (by kernel_rfl)) (fun _ _ _ h => h) (Or.inl ⟨by rfl,?_⟩) ?_ ?_
   rotate_left;(intro w';go_simp;with_reducible rfl);rotate_left;(simp only [Act.put,ps_,i64_w,i32_w];rfl)
   refine take_ (i:=2) (N:=some 22) (v:=?_) (a':=?_) #[T_,T_,T_,T_,F_,T_,T_,F_,F_] rfl rfl (take_ofW HT_.out HW_.out (by kernel_rfl)) (fun _ _ _ h => h) (Or.inl ⟨by rfl,?_⟩) hHeld ?_ ?_
   rotate_left
   ·rintro w' ⟨s0,s1,s2,s3,s4,s5,s6,s7⟩
    go_simp
    with_reducible rfl
   rotate_left
   ·simp only [Act.put,ps_,i64_w,i32_w]
    rfl
   refine pure_ (i:=7) (N:=some 8) (v:=?_) (a':=?_) #[T_,T_,T_,T_,F_,T_,T_,T_,F_] rfl rfl (any_of HT_.out (by kernel_rfl)) (fun _ _ _ h => h) (Or.inl ⟨by rfl,?_⟩) ?_ ?_
   rotate_left;(intro w';go_simp;with_reducible rfl);rotate_left;(simp only [Act.put,ps_,i64_w,i32_w];rfl)
   refine take_ (i:=4) (N:=some 24) (v:=?_) (a':=?_) #[T_,T_,T_,T_,T_,T_,T_,T_,F_] rfl rfl (take_ofW HT_.out HW_.out (by kernel_rfl)) (fun _ _ _ h => h) (Or.inl ⟨by rfl,?_⟩) hHeld ?_ ?_
   rotate_left
   ·rintro w' ⟨s0,s1,s2,s3,s4,s5,s6,s7⟩
    go_simp
    with_reducible rfl
   rotate_left
   ·simp only [Act.put,ps_,i64_w,i32_w]
    rfl
   refine pure_ (i:=8) (N:=some 9) (v:=?_) (a':=?_) #[T_,T_,T_,T_,T_,T_,T_,T_,T_] rfl rfl (any_of HT_.out (by kernel_rfl)) (fun _ _ _ h => h) (Or.inl ⟨by rfl,?_⟩) ?_ ?_
   rotate_left;(intro w';go_simp;with_reducible rfl);rotate_left;(simp only [Act.put,ps_,i64_w,i32_w];rfl)
   refine done_ (done_of HT_.out (by kernel_rfl)) ?_
   try go_wp2
   refine bodyPost_ret (results_list (rs:=[.tmp 6,.tmp 7,.tmp 8,.tmp 9]) rfl (by simp) (.tmp (.tmp (.tmp (.tmp .nil))))) rfl ?_
   exact ⟨by first|rfl|(simp [errW_none,errW_some] <;> rfl)|(simp [*,errW_none,errW_some] <;> rfl),by repeat (first|(with_reducible first|exact HB.out|apply ba_|apply pn_|apply pd_|refine bs_ ?_ GE102.out)|exact HB.out)⟩
  ·replace c5:=Bool.eq_false_iff.mpr c5
   subst c5
   have H1 : (some (0,(⟨#[]⟩ : ByteArray),false,false)) = some (r1,r2,r3,r4):=by rw [if_neg (show ¬ (false = true) by decide)] at H;exact H
   clear H
   have H:=H1
   clear H1
   simp only [Option.some.injEq,Prod.mk.injEq] at H
   obtain ⟨rfl,rfl,rfl,rfl⟩:=H
   go_enter Try.func10,Try.ntmps10
   try go_wp2_with (first|((with_reducible refine gate_dst (N:=3) rfl ?_);refine box_event ?hg (N:=3) ?hd (cs:=#[.int .u64 a0_0,.int .u64 a0_1,.string a0_2,.slice A0_3 l0_3.length c0_3,.slice A0_4 l0_4.length c0_4,.bool a0_5,.bool false,.bool a0_7]) (t:=29) ?hr ?_;(case hd => rfl);(case hg => rfl);(case hr => first|(go_simp;done)|(go_simp;rfl));intro gb102 hg w11 hbox hb;have n0_:=am_ (below_step (by repeat (first|(with_reducible first|exact HB.out|apply ba_|apply pn_|apply pd_)|exact HB.out)) hb);have n1_:=am_ (hbox);have n2_:=am_ ((by rw [hg];exact (below_size (by repeat (first|(with_reducible first|exact HB.out|apply ba_|apply pn_|apply pd_)|exact HB.out))) : w.heap.size ≤ gb102));have n3_:=am_ ((by rw [hg];exact (below_size (by repeat (first|(with_reducible first|exact HB.out|apply ba_|apply pn_|apply pd_)|exact HB.out))) : w.heap.size ≤ gb102));clear HB;have HB:=n0_;have BK102:=n1_;have GW102:=n2_;have GE102:=n3_;clear n0_ n1_ n2_ n3_;clear hb hbox hg;have hcz12_0 : w11.cell? ⟨gb102,0,none⟩ = some (.int .u64 a0_0):=(kc_ BK102.out 0).trans rfl;have hcz12_1 : w11.cell? ⟨gb102,1,none⟩ = some (.int .u64 a0_1):=(kc_ BK102.out 1).trans rfl;have hcz12_2 : w11.cell? ⟨gb102,2,none⟩ = some (.string a0_2):=(kc_ BK102.out 2).trans rfl;have hcz12_3 : w11.cell? ⟨gb102,3,none⟩ = some (.slice A0_3 l0_3.length c0_3):=(kc_ BK102.out 3).trans rfl;have hcz12_4 : w11.cell? ⟨gb102,4,none⟩ = some (.slice A0_4 l0_4.length c0_4):=(kc_ BK102.out 4).trans rfl;have hcz12_5 : w11.cell? ⟨gb102,5,none⟩ = some (.bool a0_5):=(kc_ BK102.out 5).trans rfl;have hcz12_6 : w11.cell? ⟨gb102,6,none⟩ = some (.bool false):=(kc_ BK102.out 6).trans rfl;have hcz12_7 : w11.cell? ⟨gb102,7,none⟩ = some (.bool a0_7):=(kc_ BK102.out 7).trans rfl;have hfz12_0:=blk_frozen BK102.out 0;have hfz12_1:=blk_frozen BK102.out 1;have hfz12_2:=blk_frozen BK102.out 2;have hfz12_3:=blk_frozen BK102.out 3;have hfz12_4:=blk_frozen BK102.out 4;have hfz12_5:=blk_frozen BK102.out 5;have hfz12_6:=blk_frozen BK102.out 6;have hfz12_7:=blk_frozen BK102.out 7; skip))
   have n0_:=am_ (kd_ BK102.out)
   have n1_:=am_ (pd_ HB.out)
   clear BK102
   clear HB
   have BK102:=n0_
   have HB:=n1_
   clear n0_ n1_
   refine start_ (n:=9) (S:=fun w' => w'.cell? ⟨gb102,0,none⟩ = some (.int .u64 a0_0) ∧ w'.cell? ⟨gb102,1,none⟩ = some (.int .u64 a0_1) ∧ w'.cell? ⟨gb102,2,none⟩ = some (.string a0_2) ∧ w'.cell? ⟨gb102,3,none⟩ = some (.slice A0_3 l0_3.length c0_3) ∧ w'.cell? ⟨gb102,4,none⟩ = some (.slice A0_4 l0_4.length c0_4) ∧ w'.cell? ⟨gb102,5,none⟩ = some (.bool a0_5) ∧ w'.cell? ⟨gb102,6,none⟩ = some (.bool false) ∧ w'.cell? ⟨gb102,7,none⟩ = some (.bool a0_7)) (ds:=[]) #[F_,F_,F_,F_,F_,F_,F_,F_,F_] (by kernel_rfl) rfl rfl ⟨(kc_ BK102.out 0).trans rfl,(kc_ BK102.out 1).trans rfl,(kc_ BK102.out 2).trans rfl,(kc_ BK102.out 3).trans rfl,(kc_ BK102.out 4).trans rfl,(kc_ BK102.out 5).trans rfl,(kc_ BK102.out 6).trans rfl,(kc_ BK102.out 7).trans rfl⟩ (fun hHeld => ?_);refine with_tabW sendq_Next.tab4 sendq_Next.bits4 (fun HT_ HW_ => ?_)
   generalize w11.drew = w13 at BK102 HB hHeld ⊢
   refine pure_ (i:=0) (N:=some 20) (v:=?_) (a':=?_) #[T_,F_,F_,F_,F_,F_,F_,F_,F_] rfl rfl (any_of HT_.out (by kernel_rfl)) (fun _ _ _ h => h) (Or.inl ⟨by rfl,?_⟩) ?_ ?_
   rotate_left;(intro w';go_simp;with_reducible rfl);rotate_left;(simp only [Act.put,ps_,i64_w,i32_w];rfl)
   refine pure_ (i:=1) (N:=some 21) (v:=?_) (a':=?_) #[T_,T_,F_,F_,F_,F_,F_,F_,F_] rfl rfl (any_of HT_.out (by kernel_rfl)) (fun _ _ _ h => h) (Or.inl ⟨by rfl,?_⟩) ?_ ?_
   rotate_left;(intro w';go_simp;with_reducible rfl);rotate_left;(simp only [Act.put,ps_,i64_w,i32_w];rfl)
   refine pure_ (i:=3) (N:=some 23) (v:=?_) (a':=?_) #[T_,T_,F_,T_,F_,F_,F_,F_,F_] rfl rfl (any_of HT_.out (by kernel_rfl)) (fun _ _ _ h => h) (Or.inl ⟨by rfl,?_⟩) ?_ ?_
   rotate_left;(intro w';go_simp;with_reducible rfl);rotate_left;(simp only [Act.put,ps_,i64_w,i32_w];rfl)
   refine pure_ (i:=5) (N:=some 6) (v:=?_) (a':=?_) #[T_,T_,F_,T_,F_,T_,F_,F_,F_] rfl rfl (any_of HT_.out (by kernel_rfl)) (fun _ _ _ h => h) (Or.inl ⟨by rfl,?_⟩) ?_ ?_
   rotate_left;(intro w';go_simp;with_reducible rfl);rotate_left;(simp only [Act.put,ps_,i64_w,i32_w];rfl)
   refine pure_ (i:=6) (N:=some 7) (v:=?_) (a':=?_) #[T_,T_,F_,T_,F_,T_,T_,F_,F_] rfl rfl (any_of HT_.out (by kernel_rfl)) (fun _ _ _ h => h) (Or.inl ⟨by rfl,?_⟩) ?_ ?_
   rotate_left;(intro w';go_simp;with_reducible rfl);rotate_left;(simp only [Act.put,ps_,i64_w,i32_w];rfl)
   refine take_ (i:=2) (N:=some 22) (v:=?_) (a':=?_) #[T_,T_,T_,T_,F_,T_,T_,F_,F_] rfl rfl (take_ofW HT_.out HW_.out (by kernel_rfl)) (fun _ _ _ h => h) (Or.inl ⟨by rfl,?_⟩) hHeld ?_ ?_
   rotate_left
   ·rintro w' ⟨s0,s1,s2,s3,s4,s5,s6,s7⟩
    go_simp
    with_reducible rfl
   rotate_left
   ·simp only [Act.put,ps_,i64_w,i32_w]
    rfl
   refine pure_ (i:=7) (N:=some 8) (v:=?_) (a':=?_) #[T_,T_,T_,T_,F_,T_,T_,T_,F_] rfl rfl (any_of HT_.out (by kernel_rfl)) (fun _ _ _ h => h) (Or.inl ⟨by rfl,?_⟩) ?_ ?_
   rotate_left;(intro w';go_simp;with_reducible rfl);rotate_left;(simp only [Act.put,ps_,i64_w,i32_w];rfl)
   refine take_ (i:=4) (N:=some 24) (v:=?_) (a':=?_) #[T_,T_,T_,T_,T_,T_,T_,T_,F_] rfl rfl (take_ofW HT_.out HW_.out (by kernel_rfl)) (fun _ _ _ h => h) (Or.inl ⟨by rfl,?_⟩) hHeld ?_ ?_
   rotate_left
   ·rintro w' ⟨s0,s1,s2,s3,s4,s5,s6,s7⟩
    go_simp
    with_reducible rfl
   rotate_left
   ·simp only [Act.put,ps_,i64_w,i32_w]
    rfl
   refine pure_ (i:=8) (N:=some 9) (v:=?_) (a':=?_) #[T_,T_,T_,T_,T_,T_,T_,T_,T_] rfl rfl (any_of HT_.out (by kernel_rfl)) (fun _ _ _ h => h) (Or.inl ⟨by rfl,?_⟩) ?_ ?_
   rotate_left;(intro w';go_simp;with_reducible rfl);rotate_left;(simp only [Act.put,ps_,i64_w,i32_w];rfl)
   refine done_ (done_of HT_.out (by kernel_rfl)) ?_
   try go_wp2
   refine bodyPost_ret (results_list (rs:=[.tmp 6,.tmp 7,.tmp 8,.tmp 9]) rfl (by simp) (.tmp (.tmp (.tmp (.tmp .nil))))) rfl ?_
   exact ⟨by first|rfl|(simp [errW_none,errW_some] <;> rfl)|(simp [*,errW_none,errW_some] <;> rfl),by repeat (first|(with_reducible first|exact HB.out|apply ba_|apply pn_|apply pd_|refine bs_ ?_ GE102.out)|exact HB.out)⟩
 ·rw [if_neg c4] at H
  have c4b0 : ((l0_4.length : Int) == 0) = false:=beq_eq_false_iff_ne.mpr c4
  have c4b1 : ((l0_4.length : Int) != 0) = true:=bne_iff_ne.mpr c4
  have c4b2 : ¬ (l0_4 = []):=fun h_ => c4 (by rw [h_];rfl)
  by_cases c14 : 0 < (l0_4.length : Int)
  ·rw [if_pos c14] at H
   have c14b0 : decide (0 < (l0_4.length : Int)) = true:=decide_eq_true c14
   have c14b1 : decide (0 < l0_4.length) = true:=decide_eq_true (by omega)
   clear c14
   obtain ⟨ji15,hji15⟩ : ∃ j_ : Int,(mx 0 a1) = j_:=⟨_,rfl⟩
   replace H : (if (mn (mn (IntKind.u64.wrap (((rd_T67 l0_4 0).f1) + 1)) (IntKind.u64.wrap (((rd_T67 l0_4 0).f0) + (IntKind.u64.wrap (ji15))))) a2) ≤ ((rd_T67 l0_4 0).f0) then (some (0,(⟨#[]⟩ : ByteArray),false,false)) else (if 0 ≤ (IntKind.u64.wrap (((rd_T67 l0_4 0).f0) - a0_0)) then (if (IntKind.u64.wrap (((rd_T67 l0_4 0).f0) - a0_0)) ≤ (IntKind.u64.wrap ((mn (mn (IntKind.u64.wrap (((rd_T67 l0_4 0).f1) + 1)) (IntKind.u64.wrap (((rd_T67 l0_4 0).f0) + (IntKind.u64.wrap (ji15))))) a2) - a0_0)) then (if (IntKind.u64.wrap ((mn (mn (IntKind.u64.wrap (((rd_T67 l0_4 0).f1) + 1)) (IntKind.u64.wrap (((rd_T67 l0_4 0).f0) + (IntKind.u64.wrap (ji15))))) a2) - a0_0)) ≤ (a0_2.size : Int) then (if a0_5 = true then (if a0_6 = true then ((sendq_State_end.f a0_0 a0_1 a0_2 l0_3 l0_4 a0_5 a0_6 a0_7).bind fun t106 => (some ((rd_T67 l0_4 0).f0,a0_2.extract ((IntKind.u64.wrap (((rd_T67 l0_4 0).f0) - a0_0)) : Int).toNat ((IntKind.u64.wrap ((mn (mn (IntKind.u64.wrap (((rd_T67 l0_4 0).f1) + 1)) (IntKind.u64.wrap (((rd_T67 l0_4 0).f0) + (IntKind.u64.wrap (ji15))))) a2) - a0_0)) : Int).toNat,((mn (mn (IntKind.u64.wrap (((rd_T67 l0_4 0).f1) + 1)) (IntKind.u64.wrap (((rd_T67 l0_4 0).f0) + (IntKind.u64.wrap (ji15))))) a2) == t106),true))) else (some ((rd_T67 l0_4 0).f0,a0_2.extract ((IntKind.u64.wrap (((rd_T67 l0_4 0).f0) - a0_0)) : Int).toNat ((IntKind.u64.wrap ((mn (mn (IntKind.u64.wrap (((rd_T67 l0_4 0).f1) + 1)) (IntKind.u64.wrap (((rd_T67 l0_4 0).f0) + (IntKind.u64.wrap (ji15))))) a2) - a0_0)) : Int).toNat,false,true))) else (none)) else (none)) else (none)) else (none))) = some (r1,r2,r3,r4):=by first|(rw [hji15] at H;exact H)|(simp only [hji15] at H ⊢;exact H)
   (try (have hji15l : 0 ≤ ji15:=by (rw [← hji15];unfold mx;(repeat' split) <;> omega)))
   (try (have hji15m : 0 ≤ ji15:=by omega))
   have hji15_ : (if 0 < a1 then a1 else 0) = ji15:=hji15
   obtain ⟨ji16,hji16⟩ : ∃ j_ : Int,(mn (IntKind.u64.wrap (((rd_T67 l0_4 0).f1) + 1)) (IntKind.u64.wrap (((rd_T67 l0_4 0).f0) + (IntKind.u64.wrap (ji15))))) = j_:=⟨_,rfl⟩
   replace H : (if (mn (ji16) a2) ≤ ((rd_T67 l0_4 0).f0) then (some (0,(⟨#[]⟩ : ByteArray),false,false)) else (if 0 ≤ (IntKind.u64.wrap (((rd_T67 l0_4 0).f0) - a0_0)) then (if (IntKind.u64.wrap (((rd_T67 l0_4 0).f0) - a0_0)) ≤ (IntKind.u64.wrap ((mn (ji16) a2) - a0_0)) then (if (IntKind.u64.wrap ((mn (ji16) a2) - a0_0)) ≤ (a0_2.size : Int) then (if a0_5 = true then (if a0_6 = true then ((sendq_State_end.f a0_0 a0_1 a0_2 l0_3 l0_4 a0_5 a0_6 a0_7).bind fun t106 => (some ((rd_T67 l0_4 0).f0,a0_2.extract ((IntKind.u64.wrap (((rd_T67 l0_4 0).f0) - a0_0)) : Int).toNat ((IntKind.u64.wrap ((mn (ji16) a2) - a0_0)) : Int).toNat,((mn (ji16) a2) == t106),true))) else (some ((rd_T67 l0_4 0).f0,a0_2.extract ((IntKind.u64.wrap (((rd_T67 l0_4 0).f0) - a0_0)) : Int).toNat ((IntKind.u64.wrap ((mn (ji16) a2) - a0_0)) : Int).toNat,false,true))) else (none)) else (none)) else (none)) else (none))) = some (r1,r2,r3,r4):=by first|(rw [hji16] at H;exact H)|(simp only [hji16] at H ⊢;exact H)
   have hji16_ : (if (IntKind.u64.wrap (((rd_T67 l0_4 0).f0) + (IntKind.u64.wrap (ji15)))) < (IntKind.u64.wrap (((rd_T67 l0_4 0).f1) + 1)) then (IntKind.u64.wrap (((rd_T67 l0_4 0).f0) + (IntKind.u64.wrap (ji15)))) else (IntKind.u64.wrap (((rd_T67 l0_4 0).f1) + 1))) = ji16:=hji16
   obtain ⟨ji17,hji17⟩ : ∃ j_ : Int,(mn (ji16) a2) = j_:=⟨_,rfl⟩
   replace H : (if (ji17) ≤ ((rd_T67 l0_4 0).f0) then (some (0,(⟨#[]⟩ : ByteArray),false,false)) else (if 0 ≤ (IntKind.u64.wrap (((rd_T67 l0_4 0).f0) - a0_0)) then (if (IntKind.u64.wrap (((rd_T67 l0_4 0).f0) - a0_0)) ≤ (IntKind.u64.wrap ((ji17) - a0_0)) then (if (IntKind.u64.wrap ((ji17) - a0_0)) ≤ (a0_2.size : Int) then (if a0_5 = true then (if a0_6 = true then ((sendq_State_end.f a0_0 a0_1 a0_2 l0_3 l0_4 a0_5 a0_6 a0_7).bind fun t106 => (some ((rd_T67 l0_4 0).f0,a0_2.extract ((IntKind.u64.wrap (((rd_T67 l0_4 0).f0) - a0_0)) : Int).toNat ((IntKind.u64.wrap ((ji17) - a0_0)) : Int).toNat,((ji17) == t106),true))) else (some ((rd_T67 l0_4 0).f0,a0_2.extract ((IntKind.u64.wrap (((rd_T67 l0_4 0).f0) - a0_0)) : Int).toNat ((IntKind.u64.wrap ((ji17) - a0_0)) : Int).toNat,false,true))) else (none)) else (none)) else (none)) else (none))) = some (r1,r2,r3,r4):=by first|(rw [hji17] at H;exact H)|(simp only [hji17] at H ⊢;exact H)
   have hji17_ : (if a2 < (ji16) then a2 else (ji16)) = ji17:=hji17
   by_cases c18 : (ji17) ≤ ((rd_T67 l0_4 0).f0)
   ·rw [if_pos c18] at H
    have c18b0 : decide ((ji17) ≤ ((rd_T67 l0_4 0).f0)) = true:=decide_eq_true c18
    clear c18
    simp only [Option.some.injEq,Prod.mk.injEq] at H
    obtain ⟨rfl,rfl,rfl,rfl⟩:=H
    go_enter Try.func10,Try.ntmps10
    go_wp2_with (first|((with_reducible refine gate_dst (N:=3) rfl ?_);refine box_event ?hg (N:=3) ?hd (cs:=#[.int .u64 a0_0,.int .u64 a0_1,.string a0_2,.slice A0_3 l0_3.length c0_3,.slice A0_4 l0_4.length c0_4,.bool a0_5,.bool a0_6,.bool a0_7]) (t:=29) ?hr ?_;(case hd => rfl);(case hg => rfl);(case hr => first|(go_simp;done)|(go_simp;rfl));intro gb102 hg w19 hbox hb;have n0_:=am_ (below_step (by repeat (first|(with_reducible first|exact HB.out|apply ba_|apply pn_|apply pd_)|exact HB.out)) hb);have n1_:=am_ (hbox);have n2_:=am_ ((by rw [hg];exact (below_size (by repeat (first|(with_reducible first|exact HB.out|apply ba_|apply pn_|apply pd_)|exact HB.out))) : w.heap.size ≤ gb102));have n3_:=am_ ((by rw [hg];exact (below_size (by repeat (first|(with_reducible first|exact HB.out|apply ba_|apply pn_|apply pd_)|exact HB.out))) : w.heap.size ≤ gb102));clear HB;have HB:=n0_;have BK102:=n1_;have GW102:=n2_;have GE102:=n3_;clear n0_ n1_ n2_ n3_;clear hb hbox hg;have hcz20_0 : w19.cell? ⟨gb102,0,none⟩ = some (.int .u64 a0_0):=(kc_ BK102.out 0).trans rfl;have hcz20_1 : w19.cell? ⟨gb102,1,none⟩ = some (.int .u64 a0_1):=(kc_ BK102.out 1).trans rfl;have hcz20_2 : w19.cell? ⟨gb102,2,none⟩ = some (.string a0_2):=(kc_ BK102.out 2).trans rfl;have hcz20_3 : w19.cell? ⟨gb102,3,none⟩ = some (.slice A0_3 l0_3.length c0_3):=(kc_ BK102.out 3).trans rfl;have hcz20_4 : w19.cell? ⟨gb102,4,none⟩ = some (.slice A0_4 l0_4.length c0_4):=(kc_ BK102.out 4).trans rfl;have hcz20_5 : w19.cell? ⟨gb102,5,none⟩ = some (.bool a0_5):=(kc_ BK102.out 5).trans rfl;have hcz20_6 : w19.cell? ⟨gb102,6,none⟩ = some (.bool a0_6):=(kc_ BK102.out 6).trans rfl;have hcz20_7 : w19.cell? ⟨gb102,7,none⟩ = some (.bool a0_7):=(kc_ BK102.out 7).trans rfl;have hfz20_0:=blk_frozen BK102.out 0;have hfz20_1:=blk_frozen BK102.out 1;have hfz20_2:=blk_frozen BK102.out 2;have hfz20_3:=blk_frozen BK102.out 3;have hfz20_4:=blk_frozen BK102.out 4;have hfz20_5:=blk_frozen BK102.out 5;have hfz20_6:=blk_frozen BK102.out 6;have hfz20_7:=blk_frozen BK102.out 7;have p104 : 0 ≤ (0 : Int):=(by omega);have q104 : 0 < (l0_4.length : Int):=of_decide_eq_true (by first|(with_reducible assumption)|assumption);obtain ⟨ad104,e104,hx104_0,hx104_1⟩:=at_T67 HR0_4.out 0 p104 q104;cases e104;have qi104 : (0 < l0_4.length) = True:=eq_true (by omega);(try rw [show ((0 : Int)).toNat = 0 from rfl] at hx104_0);(try rw [show 0 * 2 = 0 from rfl] at hx104_0);(try rw [Addr.add_zero'] at hx104_0);(try rw [show ((0 : Int)).toNat = 0 from rfl] at hx104_1);(try rw [show 0 * 2 = 0 from rfl] at hx104_1);(try rw [Addr.add_zero'] at hx104_1);replace hx104_0:=(HB.out.cell (World.block_lt_of_cell? w _ hx104_0)).trans hx104_0;replace hx104_1:=(HB.out.cell (World.block_lt_of_cell? w _ hx104_1)).trans hx104_1;replace p104:=eq_true p104;replace q104:=eq_true q104)|((with_reducible refine gate_dst (N:=10) rfl ?_);refine box_event ?hg (N:=10) ?hd (cs:=kk1_) (t:=67) ?hr ?_;(case hd => rfl);(case hg => rfl);(case hr => first|(go_simp;done)|(go_simp;rfl));intro gb105 hg w21 hbox hb;have n0_:=am_ (blk_below (g:=gb102) (o:=.cells #[.int .u64 a0_0,.int .u64 a0_1,.string a0_2,.slice A0_3 l0_3.length c0_3,.slice (some ad104) l0_4.length c0_4,.bool a0_5,.bool a0_6,.bool a0_7] 29 (0,0)) (by (with_reducible repeat (first|refine kn_ ?_ _|refine kd_ ?_|refine ka_ ?_ _));exact BK102.out) hb);have n1_:=am_ (below_step (by repeat (first|(with_reducible first|exact HB.out|apply ba_|apply pn_|apply pd_|refine bs_ ?_ GE102.out)|exact HB.out)) hb);have n2_:=am_ (hbox);have n3_:=am_ ((by rw [hg];exact (below_size (by repeat (first|(with_reducible first|exact HB.out|apply ba_|apply pn_|apply pd_|refine bs_ ?_ GE102.out)|exact HB.out))) : w.heap.size ≤ gb105));have n4_:=am_ ((by rw [hg];exact (below_size (by repeat (first|(with_reducible first|exact HB.out|apply ba_|apply pn_|apply pd_|refine bs_ ?_ GE102.out)|exact HB.out))) : w.heap.size ≤ gb105));have n5_:=am_ ((by rw [hg];exact Nat.ne_of_lt (blk_lt (g:=gb102) (o:=.cells #[.int .u64 a0_0,.int .u64 a0_1,.string a0_2,.slice A0_3 l0_3.length c0_3,.slice (some ad104) l0_4.length c0_4,.bool a0_5,.bool a0_6,.bool a0_7] 29 (0,0)) (by (with_reducible repeat (first|refine kn_ ?_ _|refine kd_ ?_|refine ka_ ?_ _));exact BK102.out)) : gb102 ≠ gb105));have n6_:=am_ ((by rw [hg];exact Nat.ne_of_gt (blk_lt (g:=gb102) (o:=.cells #[.int .u64 a0_0,.int .u64 a0_1,.string a0_2,.slice A0_3 l0_3.length c0_3,.slice (some ad104) l0_4.length c0_4,.bool a0_5,.bool a0_6,.bool a0_7] 29 (0,0)) (by (with_reducible repeat (first|refine kn_ ?_ _|refine kd_ ?_|refine ka_ ?_ _));exact BK102.out)) : gb105 ≠ gb102));clear BK102;clear HB;have BK102:=n0_;have HB:=n1_;have BK105:=n2_;have GW105:=n3_;have GE105:=n4_;have NB102_105:=n5_;have NB105_102:=n6_;clear n0_ n1_ n2_ n3_ n4_ n5_ n6_;clear hb hbox hg;have hnb22:=NB105_102.out;have hnc22:=NB102_105.out;have hcz23_0 : w21.cell? ⟨gb105,0,none⟩ = some (.int .u64 0):=(kc_ BK105.out 0).trans rfl;have hcz23_1 : w21.cell? ⟨gb105,1,none⟩ = some (.int .u64 0):=(kc_ BK105.out 1).trans rfl;have hfz23_0:=blk_frozen BK105.out 0;have hfz23_1:=blk_frozen BK105.out 1; skip))
    refine bodyPost_ret (results_list (rs:=[.tmp 6,.tmp 7,.tmp 8,.tmp 9]) rfl (by simp) (.tmp (.tmp (.tmp (.tmp .nil))))) rfl ?_
    exact ⟨by first|rfl|(simp [errW_none,errW_some] <;> rfl)|(simp only [← hji15,← hji16,← hji17];first|rfl|(simp [errW_none,errW_some] <;> rfl))|(simp [*,errW_none,errW_some] <;> rfl),by repeat (first|(with_reducible first|exact HB.out|apply ba_|apply pn_|apply pd_|refine bs_ ?_ GE102.out|refine bs_ ?_ GE105.out)|exact HB.out)⟩
   ·rw [if_neg c18] at H
    have c18b0 : decide ((ji17) ≤ ((rd_T67 l0_4 0).f0)) = false:=decide_eq_false c18
    clear c18
    obtain ⟨ji24,hji24⟩ : ∃ j_ : Int,(IntKind.u64.wrap (((rd_T67 l0_4 0).f0) - a0_0)) = j_:=⟨_,rfl⟩
    replace H : (if 0 ≤ (ji24) then (if (ji24) ≤ (IntKind.u64.wrap ((ji17) - a0_0)) then (if (IntKind.u64.wrap ((ji17) - a0_0)) ≤ (a0_2.size : Int) then (if a0_5 = true then (if a0_6 = true then ((sendq_State_end.f a0_0 a0_1 a0_2 l0_3 l0_4 a0_5 a0_6 a0_7).bind fun t106 => (some ((rd_T67 l0_4 0).f0,a0_2.extract ((ji24) : Int).toNat ((IntKind.u64.wrap ((ji17) - a0_0)) : Int).toNat,((ji17) == t106),true))) else (some ((rd_T67 l0_4 0).f0,a0_2.extract ((ji24) : Int).toNat ((IntKind.u64.wrap ((ji17) - a0_0)) : Int).toNat,false,true))) else (none)) else (none)) else (none)) else (none)) = some (r1,r2,r3,r4):=by first|(rw [hji24] at H;exact H)|(simp only [hji24] at H ⊢;exact H)
    by_cases c25 : 0 ≤ (ji24)
    ·rw [if_pos c25] at H
     have c25b0:=eq_true c25
     have c25b1 : decide (0 ≤ (ji24)) = true:=decide_eq_true c25
     clear c25
     by_cases c26 : (ji24) ≤ (IntKind.u64.wrap ((ji17) - a0_0))
     ·rw [if_pos c26] at H
      have c26b0:=eq_true c26
      have c26b1 : decide ((ji24) ≤ (IntKind.u64.wrap ((ji17) - a0_0))) = true:=decide_eq_true c26
      clear c26
      by_cases c27 : (IntKind.u64.wrap ((ji17) - a0_0)) ≤ (a0_2.size : Int)
      ·rw [if_pos c27] at H
       have c27b0:=eq_true c27
       have c27b1 : decide ((IntKind.u64.wrap ((ji17) - a0_0)) ≤ (a0_2.size : Int)) = true:=decide_eq_true c27
       clear c27
       by_cases c28 : a0_5 = true
       ·subst c28
        have H1 : (if a0_6 = true then ((sendq_State_end.f a0_0 a0_1 a0_2 l0_3 l0_4 true a0_6 a0_7).bind fun t106 => (some ((rd_T67 l0_4 0).f0,a0_2.extract ((ji24) : Int).toNat ((IntKind.u64.wrap ((ji17) - a0_0)) : Int).toNat,((ji17) == t106),true))) else (some ((rd_T67 l0_4 0).f0,a0_2.extract ((ji24) : Int).toNat ((IntKind.u64.wrap ((ji17) - a0_0)) : Int).toNat,false,true))) = some (r1,r2,r3,r4):=by rw [if_pos rfl] at H;exact H
        clear H
        have H:=H1
        clear H1
        by_cases c29 : a0_6 = true
        ·subst c29
         have H1 : ((sendq_State_end.f a0_0 a0_1 a0_2 l0_3 l0_4 true true a0_7).bind fun t106 => (some ((rd_T67 l0_4 0).f0,a0_2.extract ((ji24) : Int).toNat ((IntKind.u64.wrap ((ji17) - a0_0)) : Int).toNat,((ji17) == t106),true))) = some (r1,r2,r3,r4):=by rw [if_pos rfl] at H;exact H
         clear H
         have H:=H1
         clear H1
         replace H:=Option.bind_eq_some_iff.mp H
         obtain ⟨t106,A300,H⟩:=H
         replace H : (some ((rd_T67 l0_4 0).f0,a0_2.extract ((ji24) : Int).toNat ((IntKind.u64.wrap ((ji17) - a0_0)) : Int).toNat,((ji17) == t106),true)) = some (r1,r2,r3,r4):=H
         have A30:=am_ A300
         clear A300
         simp only [Option.some.injEq,Prod.mk.injEq] at H
         obtain ⟨rfl,rfl,rfl,rfl⟩:=H
         go_enter Try.func10,Try.ntmps10
         try go_wp2_with (first|((with_reducible refine gate_dst (N:=3) rfl ?_);refine box_event ?hg (N:=3) ?hd (cs:=#[.int .u64 a0_0,.int .u64 a0_1,.string a0_2,.slice A0_3 l0_3.length c0_3,.slice A0_4 l0_4.length c0_4,.bool true,.bool true,.bool a0_7]) (t:=29) ?hr ?_;(case hd => rfl);(case hg => rfl);(case hr => first|(go_simp;done)|(go_simp;rfl));intro gb102 hg w31 hbox hb;have n0_:=am_ (below_step (by repeat (first|(with_reducible first|exact HB.out|apply ba_|apply pn_|apply pd_)|exact HB.out)) hb);have n1_:=am_ (hbox);have n2_:=am_ ((by rw [hg];exact (below_size (by repeat (first|(with_reducible first|exact HB.out|apply ba_|apply pn_|apply pd_)|exact HB.out))) : w.heap.size ≤ gb102));have n3_:=am_ ((by rw [hg];exact (below_size (by repeat (first|(with_reducible first|exact HB.out|apply ba_|apply pn_|apply pd_)|exact HB.out))) : w.heap.size ≤ gb102));clear HB;have HB:=n0_;have BK102:=n1_;have GW102:=n2_;have GE102:=n3_;clear n0_ n1_ n2_ n3_;clear hb hbox hg;have hcz32_0 : w31.cell? ⟨gb102,0,none⟩ = some (.int .u64 a0_0):=(kc_ BK102.out 0).trans rfl;have hcz32_1 : w31.cell? ⟨gb102,1,none⟩ = some (.int .u64 a0_1):=(kc_ BK102.out 1).trans rfl;have hcz32_2 : w31.cell? ⟨gb102,2,none⟩ = some (.string a0_2):=(kc_ BK102.out 2).trans rfl;have hcz32_3 : w31.cell? ⟨gb102,3,none⟩ = some (.slice A0_3 l0_3.length c0_3):=(kc_ BK102.out 3).trans rfl;have hcz32_4 : w31.cell? ⟨gb102,4,none⟩ = some (.slice A0_4 l0_4.length c0_4):=(kc_ BK102.out 4).trans rfl;have hcz32_5 : w31.cell? ⟨gb102,5,none⟩ = some (.bool true):=(kc_ BK102.out 5).trans rfl;have hcz32_6 : w31.cell? ⟨gb102,6,none⟩ = some (.bool true):=(kc_ BK102.out 6).trans rfl;have hcz32_7 : w31.cell? ⟨gb102,7,none⟩ = some (.bool a0_7):=(kc_ BK102.out 7).trans rfl;have hfz32_0:=blk_frozen BK102.out 0;have hfz32_1:=blk_frozen BK102.out 1;have hfz32_2:=blk_frozen BK102.out 2;have hfz32_3:=blk_frozen BK102.out 3;have hfz32_4:=blk_frozen BK102.out 4;have hfz32_5:=blk_frozen BK102.out 5;have hfz32_6:=blk_frozen BK102.out 6;have hfz32_7:=blk_frozen BK102.out 7;have p104 : 0 ≤ (0 : Int):=(by omega);have q104 : 0 < (l0_4.length : Int):=of_decide_eq_true (by first|(with_reducible assumption)|assumption);obtain ⟨ad104,e104,hx104_0,hx104_1⟩:=at_T67 HR0_4.out 0 p104 q104;cases e104;have qi104 : (0 < l0_4.length) = True:=eq_true (by omega);(try rw [show ((0 : Int)).toNat = 0 from rfl] at hx104_0);(try rw [show 0 * 2 = 0 from rfl] at hx104_0);(try rw [Addr.add_zero'] at hx104_0);(try rw [show ((0 : Int)).toNat = 0 from rfl] at hx104_1);(try rw [show 0 * 2 = 0 from rfl] at hx104_1);(try rw [Addr.add_zero'] at hx104_1);replace hx104_0:=(HB.out.cell (World.block_lt_of_cell? w _ hx104_0)).trans hx104_0;replace hx104_1:=(HB.out.cell (World.block_lt_of_cell? w _ hx104_1)).trans hx104_1;replace p104:=eq_true p104;replace q104:=eq_true q104)|((with_reducible refine gate_dst (N:=10) rfl ?_);refine box_event ?hg (N:=10) ?hd (cs:=kk1_) (t:=67) ?hr ?_;(case hd => rfl);(case hg => rfl);(case hr => first|(go_simp;done)|(go_simp;rfl));intro gb105 hg w33 hbox hb;have n0_:=am_ (blk_below (g:=gb102) (o:=.cells #[.int .u64 a0_0,.int .u64 a0_1,.string a0_2,.slice A0_3 l0_3.length c0_3,.slice (some ad104) l0_4.length c0_4,.bool true,.bool true,.bool a0_7] 29 (0,0)) (by (with_reducible repeat (first|refine kn_ ?_ _|refine kd_ ?_|refine ka_ ?_ _));exact BK102.out) hb);have n1_:=am_ (below_step (by repeat (first|(with_reducible first|exact HB.out|apply ba_|apply pn_|apply pd_|refine bs_ ?_ GE102.out)|exact HB.out)) hb);have n2_:=am_ (hbox);have n3_:=am_ ((by rw [hg];exact (below_size (by repeat (first|(with_reducible first|exact HB.out|apply ba_|apply pn_|apply pd_|refine bs_ ?_ GE102.out)|exact HB.out))) : w.heap.size ≤ gb105));have n4_:=am_ ((by rw [hg];exact (below_size (by repeat (first|(with_reducible first|exact HB.out|apply ba_|apply pn_|apply pd_|refine bs_ ?_ GE102.out)|exact HB.out))) : w.heap.size ≤ gb105));have n5_:=am_ ((by rw [hg];exact Nat.ne_of_lt (blk_lt (g:=gb102) (o:=.cells #[.int .u64 a0_0,.int .u64 a0_1,.string a0_2,.slice A0_3 l0_3.length c0_3,.slice (some ad104) l0_4.length c0_4,.bool true,.bool true,.bool a0_7] 29 (0,0)) (by (with_reducible repeat (first|refine kn_ ?_ _|refine kd_ ?_|refine ka_ ?_ _));exact BK102.out)) : gb102 ≠ gb105));have n6_:=am_ ((by rw [hg];exact Nat.ne_of_gt (blk_lt (g:=gb102) (o:=.cells #[.int .u64 a0_0,.int .u64 a0_1,.string a0_2,.slice A0_3 l0_3.length c0_3,.slice (some ad104) l0_4.length c0_4,.bool true,.bool true,.bool a0_7] 29 (0,0)) (by (with_reducible repeat (first|refine kn_ ?_ _|refine kd_ ?_|refine ka_ ?_ _));exact BK102.out)) : gb105 ≠ gb102));clear BK102;clear HB;have BK102:=n0_;have HB:=n1_;have BK105:=n2_;have GW105:=n3_;have GE105:=n4_;have NB102_105:=n5_;have NB105_102:=n6_;clear n0_ n1_ n2_ n3_ n4_ n5_ n6_;clear hb hbox hg;have hnb34:=NB105_102.out;have hnc34:=NB102_105.out;have hcz35_0 : w33.cell? ⟨gb105,0,none⟩ = some (.int .u64 0):=(kc_ BK105.out 0).trans rfl;have hcz35_1 : w33.cell? ⟨gb105,1,none⟩ = some (.int .u64 0):=(kc_ BK105.out 1).trans rfl;have hfz35_0:=blk_frozen BK105.out 0;have hfz35_1:=blk_frozen BK105.out 1; skip))
         have n0_ : Aside0 (((w33.setCell ⟨gb105,0,none⟩ (.int .u64 ((rd_T67 l0_4 0).f0))).setCell ⟨gb105,1,none⟩ (.int .u64 ((rd_T67 l0_4 0).f1))).heap[gb102]? = some (.cells #[.int .u64 a0_0,.int .u64 a0_1,.string a0_2,.slice A0_3 l0_3.length c0_3,.slice (some ad104) l0_4.length c0_4,.bool true,.bool true,.bool a0_7] 29 (0,0))):=⟨by (with_reducible repeat (first|refine kn_ ?_ _|refine kd_ ?_|refine ka_ ?_ _));refine blk_far ?_ NB102_105.out _;(with_reducible repeat (first|refine kn_ ?_ _|refine kd_ ?_|refine ka_ ?_ _));refine blk_far ?_ NB102_105.out _;(with_reducible repeat (first|refine kn_ ?_ _|refine kd_ ?_|refine ka_ ?_ _));exact BK102.out⟩
         have n1_ : Aside0 (((w33.setCell ⟨gb105,0,none⟩ (.int .u64 ((rd_T67 l0_4 0).f0))).setCell ⟨gb105,1,none⟩ (.int .u64 ((rd_T67 l0_4 0).f1))).heap[gb105]? = some (.cells #[.int .u64 ((rd_T67 l0_4 0).f0),.int .u64 ((rd_T67 l0_4 0).f1)] 67 (0,0))):=⟨by (with_reducible repeat (first|refine kn_ ?_ _|refine kd_ ?_|refine ka_ ?_ _));refine blk_put (cs:=#[.int .u64 ((rd_T67 l0_4 0).f0),.int .u64 0]) ?_ 1 _ rfl;(with_reducible repeat (first|refine kn_ ?_ _|refine kd_ ?_|refine ka_ ?_ _));refine blk_put (cs:=kk1_) ?_ 0 _ rfl;(with_reducible repeat (first|refine kn_ ?_ _|refine kd_ ?_|refine ka_ ?_ _));exact BK105.out⟩
         have n2_ : Aside0 (Below w.heap.size w ((w33.setCell ⟨gb105,0,none⟩ (.int .u64 ((rd_T67 l0_4 0).f0))).setCell ⟨gb105,1,none⟩ (.int .u64 ((rd_T67 l0_4 0).f1)))):=⟨by repeat (first|(with_reducible first|exact HB.out|apply ba_|apply pn_|apply pd_|refine bs_ ?_ GE102.out|refine bs_ ?_ GE105.out)|exact HB.out)⟩
         (try clear BK102)
         (try clear BK105)
         (try clear HB)
         generalize ((w33.setCell ⟨gb105,0,none⟩ (.int .u64 ((rd_T67 l0_4 0).f0))).setCell ⟨gb105,1,none⟩ (.int .u64 ((rd_T67 l0_4 0).f1))) = w36 at n0_ n1_ n2_ ⊢
         have BK102:=n0_
         have BK105:=n1_
         have HB:=n2_
         clear n0_ n1_ n2_
         have n0_:=am_ (kd_ BK102.out)
         have n1_:=am_ (kd_ BK105.out)
         have n2_:=am_ (pd_ HB.out)
         clear BK102
         clear BK105
         clear HB
         have BK102:=n0_
         have BK105:=n1_
         have HB:=n2_
         clear n0_ n1_ n2_
         refine start_ (n:=30) (S:=fun w' => w'.cell? ⟨gb105,0,none⟩ = some (.int .u64 ((rd_T67 l0_4 0).f0)) ∧ w'.cell? ⟨gb105,1,none⟩ = some (.int .u64 ((rd_T67 l0_4 0).f1)) ∧ w'.cell? ⟨gb102,0,none⟩ = some (.int .u64 a0_0) ∧ w'.cell? ⟨gb102,1,none⟩ = some (.int .u64 a0_1) ∧ w'.cell? ⟨gb102,2,none⟩ = some (.string a0_2) ∧ w'.cell? ⟨gb102,3,none⟩ = some (.slice A0_3 l0_3.length c0_3) ∧ w'.cell? ⟨gb102,4,none⟩ = some (.slice (some ad104) l0_4.length c0_4) ∧ w'.cell? ⟨gb102,5,none⟩ = some (.bool true) ∧ w'.cell? ⟨gb102,6,none⟩ = some (.bool true) ∧ w'.cell? ⟨gb102,7,none⟩ = some (.bool a0_7)) (ds:=[]) #[F_,F_,F_,F_,F_,F_,F_,F_,F_,F_,F_,F_,F_,F_,F_,F_,F_,F_,F_,F_,F_,F_,F_,F_,F_,F_,F_,F_,F_,F_] (by kernel_rfl) rfl rfl ⟨(kc_ BK105.out 0).trans rfl,(kc_ BK105.out 1).trans rfl,(kc_ BK102.out 0).trans rfl,(kc_ BK102.out 1).trans rfl,(kc_ BK102.out 2).trans rfl,(kc_ BK102.out 3).trans rfl,(kc_ BK102.out 4).trans rfl,(kc_ BK102.out 5).trans rfl,(kc_ BK102.out 6).trans rfl,(kc_ BK102.out 7).trans rfl⟩ (fun hHeld => ?_);refine with_tabW sendq_Next.tab9 sendq_Next.bits9 (fun HT_ HW_ => ?_)
         generalize w36.drew = w37 at BK102 BK105 HB hHeld ⊢
         refine pure_ (i:=0) (N:=some 44) (v:=?_) (a':=?_) #[T_,F_,F_,F_,F_,F_,F_,F_,F_,F_,F_,F_,F_,F_,F_,F_,F_,F_,F_,F_,F_,F_,F_,F_,F_,F_,F_,F_,F_,F_] rfl rfl (any_of HT_.out (by kernel_rfl)) (fun _ _ _ h => h) (Or.inl ⟨by rfl,?_⟩) ?_ ?_
         rotate_left;(intro w';go_simp;with_reducible rfl);rotate_left;(simp only [Act.put,ps_,i64_w,i32_w];rfl)
         refine pure_ (i:=2) (N:=some 46) (v:=?_) (a':=?_) #[T_,F_,T_,F_,F_,F_,F_,F_,F_,F_,F_,F_,F_,F_,F_,F_,F_,F_,F_,F_,F_,F_,F_,F_,F_,F_,F_,F_,F_,F_] rfl rfl (any_of HT_.out (by kernel_rfl)) (fun _ _ _ h => h) (Or.inl ⟨by rfl,?_⟩) ?_ ?_
         rotate_left;(intro w';go_simp;with_reducible rfl);rotate_left;(simp only [Act.put,ps_,i64_w,i32_w];rfl)
         refine pure_ (i:=4) (N:=some 48) (v:=?_) (a':=?_) #[T_,F_,T_,F_,T_,F_,F_,F_,F_,F_,F_,F_,F_,F_,F_,F_,F_,F_,F_,F_,F_,F_,F_,F_,F_,F_,F_,F_,F_,F_] rfl rfl (any_of HT_.out (by kernel_rfl)) (fun _ _ _ h => h) (Or.inl ⟨by rfl,?_⟩) ?_ ?_
         rotate_left;(intro w';go_simp;with_reducible rfl);rotate_left;(simp only [Act.put,ps_,i64_w,i32_w];rfl)
         refine pure_ (i:=6) (N:=some 50) (v:=?_) (a':=?_) #[T_,F_,T_,F_,T_,F_,T_,F_,F_,F_,F_,F_,F_,F_,F_,F_,F_,F_,F_,F_,F_,F_,F_,F_,F_,F_,F_,F_,F_,F_] rfl rfl (any_of HT_.out (by kernel_rfl)) (fun _ _ _ h => h) (Or.inl ⟨by rfl,?_⟩) ?_ ?_
         rotate_left;(intro w';go_simp;with_reducible rfl);rotate_left;(simp only [Act.put,ps_,i64_w,i32_w];rfl)
         refine pure_ (i:=9) (N:=some 53) (v:=?_) (a':=?_) #[T_,F_,T_,F_,T_,F_,T_,F_,F_,T_,F_,F_,F_,F_,F_,F_,F_,F_,F_,F_,F_,F_,F_,F_,F_,F_,F_,F_,F_,F_] rfl rfl (any_of HT_.out (by kernel_rfl)) (fun _ _ _ h => h) (Or.inl ⟨by rfl,?_⟩) ?_ ?_
         rotate_left;(intro w';go_simp;with_reducible rfl);rotate_left;(simp only [Act.put,ps_,i64_w,i32_w];rfl)
         refine pure_ (i:=10) (N:=some 54) (v:=?_) (a':=?_) #[T_,F_,T_,F_,T_,F_,T_,F_,F_,T_,T_,F_,F_,F_,F_,F_,F_,F_,F_,F_,F_,F_,F_,F_,F_,F_,F_,F_,F_,F_] rfl rfl (any_of HT_.out (by kernel_rfl)) (fun _ _ _ h => h) (Or.inl ⟨by rfl,?_⟩) ?_ ?_
         rotate_left;(intro w';go_simp;with_reducible rfl);rotate_left;(simp only [Act.put,ps_,i64_w,i32_w];rfl)
         refine pure_ (i:=14) (N:=some 58) (v:=?_) (a':=?_) #[T_,F_,T_,F_,T_,F_,T_,F_,F_,T_,T_,F_,F_,F_,T_,F_,F_,F_,F_,F_,F_,F_,F_,F_,F_,F_,F_,F_,F_,F_] rfl rfl (any_of HT_.out (by kernel_rfl)) (fun _ _ _ h => h) (Or.inl ⟨by rfl,?_⟩) ?_ ?_
         rotate_left;(intro w';go_simp;with_reducible rfl);rotate_left;(simp only [Act.put,ps_,i64_w,i32_w];rfl)
         refine take_ (i:=1) (N:=some 45) (v:=?_) (a':=?_) #[T_,T_,T_,F_,T_,F_,T_,F_,F_,T_,T_,F_,F_,F_,T_,F_,F_,F_,F_,F_,F_,F_,F_,F_,F_,F_,F_,F_,F_,F_] rfl rfl (take_ofW HT_.out HW_.out (by kernel_rfl)) (fun _ _ _ h => h) (Or.inl ⟨by rfl,?_⟩) hHeld ?_ ?_
         rotate_left
         ·rintro w' ⟨s0,s1,s2,s3,s4,s5,s6,s7,s8,s9⟩
          go_simp
          with_reducible rfl
         rotate_left
         ·simp only [Act.put,ps_,i64_w,i32_w]
          rfl
         refine take_ (i:=3) (N:=some 47) (v:=?_) (a':=?_) #[T_,T_,T_,T_,T_,F_,T_,F_,F_,T_,T_,F_,F_,F_,T_,F_,F_,F_,F_,F_,F_,F_,F_,F_,F_,F_,F_,F_,F_,F_] rfl rfl (take_ofW HT_.out HW_.out (by kernel_rfl)) (fun _ _ _ h => h) (Or.inl ⟨by rfl,?_⟩) hHeld ?_ ?_
         rotate_left
         ·rintro w' ⟨s0,s1,s2,s3,s4,s5,s6,s7,s8,s9⟩
          go_simp
          with_reducible rfl
         rotate_left
         ·simp only [Act.put,ps_,i64_w,i32_w]
          rfl
         refine take_ (i:=5) (N:=some 49) (v:=?_) (a':=?_) #[T_,T_,T_,T_,T_,T_,T_,F_,F_,T_,T_,F_,F_,F_,T_,F_,F_,F_,F_,F_,F_,F_,F_,F_,F_,F_,F_,F_,F_,F_] rfl rfl (take_ofW HT_.out HW_.out (by kernel_rfl)) (fun _ _ _ h => h) (Or.inl ⟨by rfl,?_⟩) hHeld ?_ ?_
         rotate_left
         ·rintro w' ⟨s0,s1,s2,s3,s4,s5,s6,s7,s8,s9⟩
          go_simp
          with_reducible rfl
         rotate_left
         ·simp only [Act.put,ps_,i64_w,i32_w]
          rfl
         refine take_ (i:=7) (N:=some 51) (v:=?_) (a':=?_) #[T_,T_,T_,T_,T_,T_,T_,T_,F_,T_,T_,F_,F_,F_,T_,F_,F_,F_,F_,F_,F_,F_,F_,F_,F_,F_,F_,F_,F_,F_] rfl rfl (take_ofW HT_.out HW_.out (by kernel_rfl)) (fun _ _ _ h => h) (Or.inl ⟨by rfl,?_⟩) hHeld ?_ ?_
         rotate_left
         ·rintro w' ⟨s0,s1,s2,s3,s4,s5,s6,s7,s8,s9⟩
          go_simp
          with_reducible rfl
         rotate_left
         ·simp only [Act.put,ps_,i64_w,i32_w]
          rfl
         refine pure_ (i:=8) (N:=some 52) (v:=?_) (a':=?_) #[T_,T_,T_,T_,T_,T_,T_,T_,T_,T_,T_,F_,F_,F_,T_,F_,F_,F_,F_,F_,F_,F_,F_,F_,F_,F_,F_,F_,F_,F_] rfl rfl (any_of HT_.out (by kernel_rfl)) (fun _ _ _ h => h) (Or.inl ⟨by rfl,?_⟩) ?_ ?_
         rotate_left;(intro w';go_simp;with_reducible rfl);rotate_left;(simp only [Act.put,ps_,i64_w,i32_w];rfl)
         refine take_ (i:=11) (N:=some 55) (v:=?_) (a':=?_) #[T_,T_,T_,T_,T_,T_,T_,T_,T_,T_,T_,T_,F_,F_,T_,F_,F_,F_,F_,F_,F_,F_,F_,F_,F_,F_,F_,F_,F_,F_] rfl rfl (take_ofW HT_.out HW_.out (by kernel_rfl)) (fun _ _ _ h => h) (Or.inl ⟨by rfl,?_⟩) hHeld ?_ ?_
         rotate_left
         ·rintro w' ⟨s0,s1,s2,s3,s4,s5,s6,s7,s8,s9⟩
          go_simp
          with_reducible rfl
         rotate_left
         ·simp only [Act.put,ps_,i64_w,i32_w]
          rfl
         refine pure_ (i:=12) (N:=some 56) (v:=?_) (a':=?_) #[T_,T_,T_,T_,T_,T_,T_,T_,T_,T_,T_,T_,T_,F_,T_,F_,F_,F_,F_,F_,F_,F_,F_,F_,F_,F_,F_,F_,F_,F_] rfl rfl (any_of HT_.out (by kernel_rfl)) (fun _ _ _ h => h) (Or.inl ⟨by rfl,?_⟩) ?_ ?_
         rotate_left;(intro w';go_simp;with_reducible rfl);rotate_left;(simp only [Act.put,ps_,i64_w,i32_w];rfl)
         refine pure_ (i:=13) (N:=some 57) (v:=?_) (a':=?_) #[T_,T_,T_,T_,T_,T_,T_,T_,T_,T_,T_,T_,T_,T_,T_,F_,F_,F_,F_,F_,F_,F_,F_,F_,F_,F_,F_,F_,F_,F_] rfl rfl (any_of HT_.out (by kernel_rfl)) (fun _ _ _ h => h) (Or.inl ⟨by rfl,?_⟩) ?_ ?_
         rotate_left;(intro w';go_simp;with_reducible rfl);rotate_left;(simp only [Act.put,ps_,i64_w,i32_w];rfl)
         refine take_ (i:=15) (N:=some 59) (v:=?_) (a':=?_) #[T_,T_,T_,T_,T_,T_,T_,T_,T_,T_,T_,T_,T_,T_,T_,T_,F_,F_,F_,F_,F_,F_,F_,F_,F_,F_,F_,F_,F_,F_] rfl rfl (take_ofW HT_.out HW_.out (by kernel_rfl)) (fun _ _ _ h => h) (Or.inl ⟨by rfl,?_⟩) hHeld ?_ ?_
         rotate_left
         ·rintro w' ⟨s0,s1,s2,s3,s4,s5,s6,s7,s8,s9⟩
          go_simp
          with_reducible rfl
         rotate_left
         ·simp only [Act.put,ps_,i64_w,i32_w]
          rfl
         refine pure_ (i:=16) (N:=some 60) (v:=?_) (a':=?_) #[T_,T_,T_,T_,T_,T_,T_,T_,T_,T_,T_,T_,T_,T_,T_,T_,T_,F_,F_,F_,F_,F_,F_,F_,F_,F_,F_,F_,F_,F_] rfl rfl (any_of HT_.out (by kernel_rfl)) (fun _ _ _ h => h) (Or.inl ⟨by rfl,?_⟩) ?_ ?_
         rotate_left;(intro w';go_simp;with_reducible rfl);rotate_left;(simp only [Act.put,ps_,i64_w,i32_w];rfl)
         refine pure_ (i:=17) (N:=some 61) (v:=?_) (a':=?_) #[T_,T_,T_,T_,T_,T_,T_,T_,T_,T_,T_,T_,T_,T_,T_,T_,T_,T_,F_,F_,F_,F_,F_,F_,F_,F_,F_,F_,F_,F_] rfl rfl (any_of HT_.out (by kernel_rfl)) (fun _ _ _ h => h) (Or.inl ⟨by rfl,?_⟩) ?_ ?_
         rotate_left;(intro w';go_simp;with_reducible rfl);rotate_left;(simp only [Act.put,ps_,i64_w,i32_w];rfl)
         refine take_ (i:=18) (N:=some 62) (v:=?_) (a':=?_) #[T_,T_,T_,T_,T_,T_,T_,T_,T_,T_,T_,T_,T_,T_,T_,T_,T_,T_,T_,F_,F_,F_,F_,F_,F_,F_,F_,F_,F_,F_] rfl rfl (take_ofW HT_.out HW_.out (by kernel_rfl)) (fun _ _ _ h => h) (Or.inl ⟨by rfl,?_⟩) hHeld ?_ ?_
         rotate_left
         ·rintro w' ⟨s0,s1,s2,s3,s4,s5,s6,s7,s8,s9⟩
          go_simp
          with_reducible rfl
         rotate_left
         ·simp only [Act.put,ps_,i64_w,i32_w]
          rfl
         refine pure_ (i:=19) (N:=some 63) (v:=?_) (a':=?_) #[T_,T_,T_,T_,T_,T_,T_,T_,T_,T_,T_,T_,T_,T_,T_,T_,T_,T_,T_,T_,F_,F_,F_,F_,F_,F_,F_,F_,F_,F_] rfl rfl (any_of HT_.out (by kernel_rfl)) (fun _ _ _ h => h) (Or.inl ⟨by rfl,?_⟩) ?_ ?_
         rotate_left;(intro w';go_simp;with_reducible rfl);rotate_left;(simp only [Act.put,ps_,i64_w,i32_w];rfl)
         refine pure_ (i:=20) (N:=some 64) (v:=?_) (a':=?_) #[T_,T_,T_,T_,T_,T_,T_,T_,T_,T_,T_,T_,T_,T_,T_,T_,T_,T_,T_,T_,T_,F_,F_,F_,F_,F_,F_,F_,F_,F_] rfl rfl (any_of HT_.out (by kernel_rfl)) (fun _ _ _ h => h) (Or.inl ⟨by rfl,?_⟩) ?_ ?_
         rotate_left;(intro w';go_simp;with_reducible rfl);rotate_left;(simp only [Act.put,ps_,i64_w,i32_w];rfl)
         refine pure_ (i:=21) (N:=some 65) (v:=?_) (a':=?_) #[T_,T_,T_,T_,T_,T_,T_,T_,T_,T_,T_,T_,T_,T_,T_,T_,T_,T_,T_,T_,T_,T_,F_,F_,F_,F_,F_,F_,F_,F_] rfl rfl (any_of HT_.out (by kernel_rfl)) (fun _ _ _ h => h) (Or.inl ⟨by rfl,?_⟩) ?_ ?_
         rotate_left;(intro w';go_simp;with_reducible rfl);rotate_left;(simp only [Act.put,ps_,i64_w,i32_w];rfl)
         refine take_ (i:=22) (N:=some 66) (v:=?_) (a':=?_) #[T_,T_,T_,T_,T_,T_,T_,T_,T_,T_,T_,T_,T_,T_,T_,T_,T_,T_,T_,T_,T_,T_,T_,F_,F_,F_,F_,F_,F_,F_] rfl rfl (take_ofW HT_.out HW_.out (by kernel_rfl)) (fun _ _ _ h => h) (Or.inl ⟨by rfl,?_⟩) hHeld ?_ ?_
         rotate_left
         ·rintro w' ⟨s0,s1,s2,s3,s4,s5,s6,s7,s8,s9⟩
          go_simp
          with_reducible rfl
         rotate_left
         ·simp only [Act.put,ps_,i64_w,i32_w]
          rfl
         refine one_ (i:=23) (N:=some 67) #[T_,T_,T_,T_,T_,T_,T_,T_,T_,T_,T_,T_,T_,T_,T_,T_,T_,T_,T_,T_,T_,T_,T_,T_,F_,F_,F_,F_,F_,F_] rfl rfl (one_of HT_.out (by kernel_rfl)) (by decide) (fun K hK => ?_)
         refine goes_ Try.func29 (by kernel_rfl) rfl #[.agg #[.int .u64 a0_0,.int .u64 a0_1,.string a0_2,.slice A0_3 l0_3.length c0_3,.slice (some ad104) l0_4.length c0_4,.bool true,.bool true,.bool a0_7]] (by rfl) rfl rfl (by (try simp only [List.map_toArray,List.map_cons,List.map_nil]);first|done|rfl|(simp only [List.length_drop,List.length_take];rfl)) ?_
         with_reducible refine (sendq_State_end.calls a0_0 a0_1 a0_2 _ _ l0_3 _ _ l0_4 true true a0_7 t106 _ ?side1 ?side2 ?side3 ?side4 A30.out).mono ?_
         (case side1 => repeat (first|exact (Kd.C_below HR0_3.out HB.out)|(with_reducible refine Kd.C_alloc ?_ _)|(with_reducible refine Kd.C_drewN ?_ _)|(with_reducible refine Kd.C_drew ?_)))
         (case side2 => exact HC0_3.out)
         (case side3 => repeat (first|exact (Kd.C_below HR0_4.out HB.out)|(with_reducible refine Kd.C_alloc ?_ _)|(with_reducible refine Kd.C_drewN ?_ _)|(with_reducible refine Kd.C_drew ?_)))
         (case side4 => exact HC0_4.out)
         rintro e w38 ⟨rfl,hb⟩
         refine ⟨_,rfl,?_⟩
         have n0_:=am_ (blk_below (g:=gb102) (o:=.cells #[.int .u64 a0_0,.int .u64 a0_1,.string a0_2,.slice A0_3 l0_3.length c0_3,.slice (some ad104) l0_4.length c0_4,.bool true,.bool true,.bool a0_7] 29 (0,0)) (by (with_reducible repeat (first|refine kn_ ?_ _|refine kd_ ?_|refine ka_ ?_ _));exact BK102.out) hb)
         have n1_:=am_ (blk_below (g:=gb105) (o:=.cells #[.int .u64 ((rd_T67 l0_4 0).f0),.int .u64 ((rd_T67 l0_4 0).f1)] 67 (0,0)) (by (with_reducible repeat (first|refine kn_ ?_ _|refine kd_ ?_|refine ka_ ?_ _));exact BK105.out) hb)
         have n2_:=am_ (below_step (by repeat (first|(with_reducible first|exact HB.out|apply ba_|apply pn_|apply pd_|refine bs_ ?_ GE102.out|refine bs_ ?_ GE105.out)|exact HB.out)) hb)
         clear BK102
         clear BK105
         clear HB
         have BK102:=n0_
         have BK105:=n1_
         have HB:=n2_
         clear n0_ n1_ n2_
         (try clear hb)
         (try clear hb2)
         (try clear hk)
         (try clear hi)
         refine hK.out _ _ ⟨(kc_ BK105.out 0).trans rfl,(kc_ BK105.out 1).trans rfl,(kc_ BK102.out 0).trans rfl,(kc_ BK102.out 1).trans rfl,(kc_ BK102.out 2).trans rfl,(kc_ BK102.out 3).trans rfl,(kc_ BK102.out 4).trans rfl,(kc_ BK102.out 5).trans rfl,(kc_ BK102.out 6).trans rfl,(kc_ BK102.out 7).trans rfl⟩ (fun hHeld => ?_)
         clear hK K
         refine norm_ (a':=?_) ?_ ?_
         rotate_left
         ·show Act.put _ (some 67) _ = _
          simp only [Act.put,ps_,i64_w,i32_w]
          rfl
         refine pure_ (i:=24) (N:=some 68) (v:=?_) (a':=?_) #[T_,T_,T_,T_,T_,T_,T_,T_,T_,T_,T_,T_,T_,T_,T_,T_,T_,T_,T_,T_,T_,T_,T_,T_,T_,F_,F_,F_,F_,F_] rfl rfl (any_of HT_.out (by kernel_rfl)) (fun _ _ _ h => h) (Or.inl ⟨by rfl,?_⟩) ?_ ?_
         rotate_left;(intro w';go_simp;with_reducible rfl);rotate_left;(simp only [Act.put,ps_,i64_w,i32_w];rfl)
         refine pure_ (i:=25) (N:=some 69) (v:=?_) (a':=?_) #[T_,T_,T_,T_,T_,T_,T_,T_,T_,T_,T_,T_,T_,T_,T_,T_,T_,T_,T_,T_,T_,T_,T_,T_,T_,T_,F_,F_,F_,F_] rfl rfl (any_of HT_.out (by kernel_rfl)) (fun _ _ _ h => h) (Or.inl ⟨by rfl,?_⟩) ?_ ?_
         rotate_left;(intro w';go_simp;with_reducible rfl);rotate_left;(simp only [Act.put,ps_,i64_w,i32_w];rfl)
         refine pure_ (i:=26) (N:=some 6) (v:=?_) (a':=?_) #[T_,T_,T_,T_,T_,T_,T_,T_,T_,T_,T_,T_,T_,T_,T_,T_,T_,T_,T_,T_,T_,T_,T_,T_,T_,T_,T_,F_,F_,F_] rfl rfl (any_of HT_.out (by kernel_rfl)) (fun _ _ _ h => h) (Or.inl ⟨by rfl,?_⟩) ?_ ?_
         rotate_left;(intro w';go_simp;with_reducible rfl);rotate_left;(simp only [Act.put,ps_,i64_w,i32_w];rfl)
         refine pure_ (i:=27) (N:=some 7) (v:=?_) (a':=?_) #[T_,T_,T_,T_,T_,T_,T_,T_,T_,T_,T_,T_,T_,T_,T_,T_,T_,T_,T_,T_,T_,T_,T_,T_,T_,T_,T_,T_,F_,F_] rfl rfl (any_of HT_.out (by kernel_rfl)) (fun _ _ _ h => h) (Or.inl ⟨by rfl,?_⟩) ?_ ?_
         rotate_left;(intro w';go_simp;with_reducible rfl);rotate_left;(simp only [Act.put,ps_,i64_w,i32_w];rfl)
         refine pure_ (i:=28) (N:=some 8) (v:=?_) (a':=?_) #[T_,T_,T_,T_,T_,T_,T_,T_,T_,T_,T_,T_,T_,T_,T_,T_,T_,T_,T_,T_,T_,T_,T_,T_,T_,T_,T_,T_,T_,F_] rfl rfl (any_of HT_.out (by kernel_rfl)) (fun _ _ _ h => h) (Or.inl ⟨by rfl,?_⟩) ?_ ?_
         rotate_left;(intro w';go_simp;with_reducible rfl);rotate_left;(simp only [Act.put,ps_,i64_w,i32_w];rfl)
         refine pure_ (i:=29) (N:=some 9) (v:=?_) (a':=?_) #[T_,T_,T_,T_,T_,T_,T_,T_,T_,T_,T_,T_,T_,T_,T_,T_,T_,T_,T_,T_,T_,T_,T_,T_,T_,T_,T_,T_,T_,T_] rfl rfl (any_of HT_.out (by kernel_rfl)) (fun _ _ _ h => h) (Or.inl ⟨by rfl,?_⟩) ?_ ?_
         rotate_left;(intro w';go_simp;with_reducible rfl);rotate_left;(simp only [Act.put,ps_,i64_w,i32_w];rfl)
         refine done_ (done_of HT_.out (by kernel_rfl)) ?_
         try go_wp2
         refine bodyPost_ret (results_list (rs:=[.tmp 6,.tmp 7,.tmp 8,.tmp 9]) rfl (by simp) (.tmp (.tmp (.tmp (.tmp .nil))))) rfl ?_
         exact ⟨by first|rfl|(simp [errW_none,errW_some] <;> rfl)|(simp only [← hji15,← hji16,← hji17,← hji24];first|rfl|(simp [errW_none,errW_some] <;> rfl))|(simp [*,errW_none,errW_some] <;> rfl),by repeat (first|(with_reducible first|exact HB.out|apply ba_|apply pn_|apply pd_|refine bs_ ?_ GE102.out|refine bs_ ?_ GE105.out)|exact HB.out)⟩
        ·replace c29:=Bool.eq_false_iff.mpr c29
         subst c29
         have H1 : (some ((rd_T67 l0_4 0).f0,a0_2.extract ((ji24) : Int).toNat ((IntKind.u64.wrap ((ji17) - a0_0)) : Int).toNat,false,true)) = some (r1,r2,r3,r4):=by rw [if_neg (show ¬ (false = true) by decide)] at H;exact H
         clear H
         have H:=H1
         clear H1
         simp only [Option.some.injEq,Prod.mk.injEq] at H
         obtain ⟨rfl,rfl,rfl,rfl⟩:=H
         go_enter Try.func10,Try.ntmps10
         try go_wp2_with (first|((with_reducible refine gate_dst (N:=3) rfl ?_);refine box_event ?hg (N:=3) ?hd (cs:=#[.int .u64 a0_0,.int .u64 a0_1,.string a0_2,.slice A0_3 l0_3.length c0_3,.slice A0_4 l0_4.length c0_4,.bool true,.bool false,.bool a0_7]) (t:=29) ?hr ?_;(case hd => rfl);(case hg => rfl);(case hr => first|(go_simp;done)|(go_simp;rfl));intro gb102 hg w39 hbox hb;have n0_:=am_ (below_step (by repeat (first|(with_reducible first|exact HB.out|apply ba_|apply pn_|apply pd_)|exact HB.out)) hb);have n1_:=am_ (hbox);have n2_:=am_ ((by rw [hg];exact (below_size (by repeat (first|(with_reducible first|exact HB.out|apply ba_|apply pn_|apply pd_)|exact HB.out))) : w.heap.size ≤ gb102));have n3_:=am_ ((by rw [hg];exact (below_size (by repeat (first|(with_reducible first|exact HB.out|apply ba_|apply pn_|apply pd_)|exact HB.out))) : w.heap.size ≤ gb102));clear HB;have HB:=n0_;have BK102:=n1_;have GW102:=n2_;have GE102:=n3_;clear n0_ n1_ n2_ n3_;clear hb hbox hg;have hcz40_0 : w39.cell? ⟨gb102,0,none⟩ = some (.int .u64 a0_0):=(kc_ BK102.out 0).trans rfl;have hcz40_1 : w39.cell? ⟨gb102,1,none⟩ = some (.int .u64 a0_1):=(kc_ BK102.out 1).trans rfl;have hcz40_2 : w39.cell? ⟨gb102,2,none⟩ = some (.string a0_2):=(kc_ BK102.out 2).trans rfl;have hcz40_3 : w39.cell? ⟨gb102,3,none⟩ = some (.slice A0_3 l0_3.length c0_3):=(kc_ BK102.out 3).trans rfl;have hcz40_4 : w39.cell? ⟨gb102,4,none⟩ = some (.slice A0_4 l0_4.length c0_4):=(kc_ BK102.out 4).trans rfl;have hcz40_5 : w39.cell? ⟨gb102,5,none⟩ = some (.bool true):=(kc_ BK102.out 5).trans rfl;have hcz40_6 : w39.cell? ⟨gb102,6,none⟩ = some (.bool false):=(kc_ BK102.out 6).trans rfl;have hcz40_7 : w39.cell? ⟨gb102,7,none⟩ = some (.bool a0_7):=(kc_ BK102.out 7).trans rfl;have hfz40_0:=blk_frozen BK102.out 0;have hfz40_1:=blk_frozen BK102.out 1;have hfz40_2:=blk_frozen BK102.out 2;have hfz40_3:=blk_frozen BK102.out 3;have hfz40_4:=blk_frozen BK102.out 4;have hfz40_5:=blk_frozen BK102.out 5;have hfz40_6:=blk_frozen BK102.out 6;have hfz40_7:=blk_frozen BK102.out 7;have p104 : 0 ≤ (0 : Int):=(by omega);have q104 : 0 < (l0_4.length : Int):=of_decide_eq_true (by first|(with_reducible assumption)|assumption);obtain ⟨ad104,e104,hx104_0,hx104_1⟩:=at_T67 HR0_4.out 0 p104 q104;cases e104;have qi104 : (0 < l0_4.length) = True:=eq_true (by omega);(try rw [show ((0 : Int)).toNat = 0 from rfl] at hx104_0);(try rw [show 0 * 2 = 0 from rfl] at hx104_0);(try rw [Addr.add_zero'] at hx104_0);(try rw [show ((0 : Int)).toNat = 0 from rfl] at hx104_1);(try rw [show 0 * 2 = 0 from rfl] at hx104_1);(try rw [Addr.add_zero'] at hx104_1);replace hx104_0:=(HB.out.cell (World.block_lt_of_cell? w _ hx104_0)).trans hx104_0;replace hx104_1:=(HB.out.cell (World.block_lt_of_cell? w _ hx104_1)).trans hx104_1;replace p104:=eq_true p104;replace q104:=eq_true q104)|((with_reducible refine gate_dst (N:=10) rfl ?_);refine box_event ?hg (N:=10) ?hd (cs:=kk1_) (t:=67) ?hr ?_;(case hd => rfl);(case hg => rfl);(case hr => first|(go_simp;done)|(go_simp;rfl));intro gb105 hg w41 hbox hb;have n0_:=am_ (blk_below (g:=gb102) (o:=.cells #[.int .u64 a0_0,.int .u64 a0_1,.string a0_2,.slice A0_3 l0_3.length c0_3,.slice (some ad104) l0_4.length c0_4,.bool true,.bool false,.bool a0_7] 29 (0,0)) (by (with_reducible repeat (first|refine kn_ ?_ _|refine kd_ ?_|refine ka_ ?_ _));exact BK102.out) hb);have n1_:=am_ (below_step (by repeat (first|(with_reducible first|exact HB.out|apply ba_|apply pn_|apply pd_|refine bs_ ?_ GE102.out)|exact HB.out)) hb);have n2_:=am_ (hbox);have n3_:=am_ ((by rw [hg];exact (below_size (by repeat (first|(with_reducible first|exact HB.out|apply ba_|apply pn_|apply pd_|refine bs_ ?_ GE102.out)|exact HB.out))) : w.heap.size ≤ gb105));have n4_:=am_ ((by rw [hg];exact (below_size (by repeat (first|(with_reducible first|exact HB.out|apply ba_|apply pn_|apply pd_|refine bs_ ?_ GE102.out)|exact HB.out))) : w.heap.size ≤ gb105));have n5_:=am_ ((by rw [hg];exact Nat.ne_of_lt (blk_lt (g:=gb102) (o:=.cells #[.int .u64 a0_0,.int .u64 a0_1,.string a0_2,.slice A0_3 l0_3.length c0_3,.slice (some ad104) l0_4.length c0_4,.bool true,.bool false,.bool a0_7] 29 (0,0)) (by (with_reducible repeat (first|refine kn_ ?_ _|refine kd_ ?_|refine ka_ ?_ _));exact BK102.out)) : gb102 ≠ gb105));have n6_:=am_ ((by rw [hg];exact Nat.ne_of_gt (blk_lt (g:=gb102) (o:=.cells #[.int .u64 a0_0,.int .u64 a0_1,.string a0_2,.slice A0_3 l0_3.length c0_3,.slice (some ad104) l0_4.length c0_4,.bool true,.bool false,.bool a0_7] 29 (0,0)) (by (with_reducible repeat (first|refine kn_ ?_ _|refine kd_ ?_|refine ka_ ?_ _));exact BK102.out)) : gb105 ≠ gb102));clear BK102;clear HB;have BK102:=n0_;have HB:=n1_;have BK105:=n2_;have GW105:=n3_;have GE105:=n4_;have NB102_105:=n5_;have NB105_102:=n6_;clear n0_ n1_ n2_ n3_ n4_ n5_ n6_;clear hb hbox hg;have hnb42:=NB105_102.out;have hnc42:=NB102_105.out;have hcz43_0 : w41.cell? ⟨gb105,0,none⟩ = some (.int .u64 0):=(kc_ BK105.out 0).trans rfl;have hcz43_1 : w41.cell? ⟨gb105,1,none⟩ = some (.int .u64 0):=(kc_ BK105.out 1).trans rfl;have hfz43_0:=blk_frozen BK105.out 0;have hfz43_1:=blk_frozen BK105.out 1; skip))
         have n0_ : Aside0 (((w41.setCell ⟨gb105,0,none⟩ (.int .u64 ((rd_T67 l0_4 0).f0))).setCell ⟨gb105,1,none⟩ (.int .u64 ((rd_T67 l0_4 0).f1))).heap[gb102]? = some (.cells #[.int .u64 a0_0,.int .u64 a0_1,.string a0_2,.slice A0_3 l0_3.length c0_3,.slice (some ad104) l0_4.length c0_4,.bool true,.bool false,.bool a0_7] 29 (0,0))):=⟨by (with_reducible repeat (first|refine kn_ ?_ _|refine kd_ ?_|refine ka_ ?_ _));refine blk_far ?_ NB102_105.out _;(with_reducible repeat (first|refine kn_ ?_ _|refine kd_ ?_|refine ka_ ?_ _));refine blk_far ?_ NB102_105.out _;(with_reducible repeat (first|refine kn_ ?_ _|refine kd_ ?_|refine ka_ ?_ _));exact BK102.out⟩
         have n1_ : Aside0 (((w41.setCell ⟨gb105,0,none⟩ (.int .u64 ((rd_T67 l0_4 0).f0))).setCell ⟨gb105,1,none⟩ (.int .u64 ((rd_T67 l0_4 0).f1))).heap[gb105]? = some (.cells #[.int .u64 ((rd_T67 l0_4 0).f0),.int .u64 ((rd_T67 l0_4 0).f1)] 67 (0,0))):=⟨by (with_reducible repeat (first|refine kn_ ?_ _|refine kd_ ?_|refine ka_ ?_ _));refine blk_put (cs:=#[.int .u64 ((rd_T67 l0_4 0).f0),.int .u64 0]) ?_ 1 _ rfl;(with_reducible repeat (first|refine kn_ ?_ _|refine kd_ ?_|refine ka_ ?_ _));refine blk_put (cs:=kk1_) ?_ 0 _ rfl;(with_reducible repeat (first|refine kn_ ?_ _|refine kd_ ?_|refine ka_ ?_ _));exact BK105.out⟩
         have n2_ : Aside0 (Below w.heap.size w ((w41.setCell ⟨gb105,0,none⟩ (.int .u64 ((rd_T67 l0_4 0).f0))).setCell ⟨gb105,1,none⟩ (.int .u64 ((rd_T67 l0_4 0).f1)))):=⟨by repeat (first|(with_reducible first|exact HB.out|apply ba_|apply pn_|apply pd_|refine bs_ ?_ GE102.out|refine bs_ ?_ GE105.out)|exact HB.out)⟩
         (try clear BK102)
         (try clear BK105)
         (try clear HB)
         generalize ((w41.setCell ⟨gb105,0,none⟩ (.int .u64 ((rd_T67 l0_4 0).f0))).setCell ⟨gb105,1,none⟩ (.int .u64 ((rd_T67 l0_4 0).f1))) = w44 at n0_ n1_ n2_ ⊢
         have BK102:=n0_
         have BK105:=n1_
         have HB:=n2_
         clear n0_ n1_ n2_
         have n0_:=am_ (kd_ BK102.out)
         have n1_:=am_ (kd_ BK105.out)
         have n2_:=am_ (pd_ HB.out)
         clear BK102
         clear BK105
         clear HB
         have BK102:=n0_
         have BK105:=n1_
         have HB:=n2_
         clear n0_ n1_ n2_
         refine start_ (n:=30) (S:=fun w' => w'.cell? ⟨gb105,0,none⟩ = some (.int .u64 ((rd_T67 l0_4 0).f0)) ∧ w'.cell? ⟨gb105,1,none⟩ = some (.int .u64 ((rd_T67 l0_4 0).f1)) ∧ w'.cell? ⟨gb102,0,none⟩ = some (.int .u64 a0_0) ∧ w'.cell? ⟨gb102,1,none⟩ = some (.int .u64 a0_1) ∧ w'.cell? ⟨gb102,2,none⟩ = some (.string a0_2) ∧ w'.cell? ⟨gb102,3,none⟩ = some (.slice A0_3 l0_3.length c0_3) ∧ w'.cell? ⟨gb102,4,none⟩ = some (.slice (some ad104) l0_4.length c0_4) ∧ w'.cell? ⟨gb102,5,none⟩ = some (.bool true) ∧ w'.cell? ⟨gb102,6,none⟩ = some (.bool false) ∧ w'.cell? ⟨gb102,7,none⟩ = some (.bool a0_7)) (ds:=[]) #[F_,F_,F_,F_,F_,F_,F_,F_,F_,F_,F_,F_,F_,F_,F_,F_,F_,F_,F_,F_,F_,F_,F_,F_,F_,F_,F_,F_,F_,F_] (by kernel_rfl) rfl rfl ⟨(kc_ BK105.out 0).trans rfl,(kc_ BK105.out 1).trans rfl,(kc_ BK102.out 0).trans rfl,(kc_ BK102.out 1).trans rfl,(kc_ BK102.out 2).trans rfl,(kc_ BK102.out 3).trans rfl,(kc_ BK102.out 4).trans rfl,(kc_ BK102.out 5).trans rfl,(kc_ BK102.out 6).trans rfl,(kc_ BK102.out 7).trans rfl⟩ (fun hHeld => ?_);refine with_tabW sendq_Next.tab9 sendq_Next.bits9 (fun HT_ HW_ => ?_)
         generalize w44.drew = w45 at BK102 BK105 HB hHeld ⊢
         refine pure_ (i:=0) (N:=some 44) (v:=?_) (a':=?_) #[T_,F_,F_,F_,F_,F_,F_,F_,F_,F_,F_,F_,F_,F_,F_,F_,F_,F_,F_,F_,F_,F_,F_,F_,F_,F_,F_,F_,F_,F_] rfl rfl (any_of HT_.out (by kernel_rfl)) (fun _ _ _ h => h) (Or.inl ⟨by rfl,?_⟩) ?_ ?_
         rotate_left;(intro w';go_simp;with_reducible rfl);rotate_left;(simp only [Act.put,ps_,i64_w,i32_w];rfl)
         refine pure_ (i:=2) (N:=some 46) (v:=?_) (a':=?_) #[T_,F_,T_,F_,F_,F_,F_,F_,F_,F_,F_,F_,F_,F_,F_,F_,F_,F_,F_,F_,F_,F_,F_,F_,F_,F_,F_,F_,F_,F_] rfl rfl (any_of HT_.out (by kernel_rfl)) (fun _ _ _ h => h) (Or.inl ⟨by rfl,?_⟩) ?_ ?_
         rotate_left;(intro w';go_simp;with_reducible rfl);rotate_left;(simp only [Act.put,ps_,i64_w,i32_w];rfl)
         refine pure_ (i:=4) (N:=some 48) (v:=?_) (a':=?_) #[T_,F_,T_,F_,T_,F_,F_,F_,F_,F_,F_,F_,F_,F_,F_,F_,F_,F_,F_,F_,F_,F_,F_,F_,F_,F_,F_,F_,F_,F_] rfl rfl (any_of HT_.out (by kernel_rfl)) (fun _ _ _ h => h) (Or.inl ⟨by rfl,?_⟩) ?_ ?_
         rotate_left;(intro w';go_simp;with_reducible rfl);rotate_left;(simp only [Act.put,ps_,i64_w,i32_w];rfl)
         refine pure_ (i:=6) (N:=some 50) (v:=?_) (a':=?_) #[T_,F_,T_,F_,T_,F_,T_,F_,F_,F_,F_,F_,F_,F_,F_,F_,F_,F_,F_,F_,F_,F_,F_,F_,F_,F_,F_,F_,F_,F_] rfl rfl (any_of HT_.out (by kernel_rfl)) (fun _ _ _ h => h) (Or.inl ⟨by rfl,?_⟩) ?_ ?_
         rotate_left;(intro w';go_simp;with_reducible rfl);rotate_left;(simp only [Act.put,ps_,i64_w,i32_w];rfl)
         refine pure_ (i:=9) (N:=some 53) (v:=?_) (a':=?_) #[T_,F_,T_,F_,T_,F_,T_,F_,F_,T_,F_,F_,F_,F_,F_,F_,F_,F_,F_,F_,F_,F_,F_,F_,F_,F_,F_,F_,F_,F_] rfl rfl (any_of HT_.out (by kernel_rfl)) (fun _ _ _ h => h) (Or.inl ⟨by rfl,?_⟩) ?_ ?_
         rotate_left;(intro w';go_simp;with_reducible rfl);rotate_left;(simp only [Act.put,ps_,i64_w,i32_w];rfl)
         refine pure_ (i:=10) (N:=some 54) (v:=?_) (a':=?_) #[T_,F_,T_,F_,T_,F_,T_,F_,F_,T_,T_,F_,F_,F_,F_,F_,F_,F_,F_,F_,F_,F_,F_,F_,F_,F_,F_,F_,F_,F_] rfl rfl (any_of HT_.out (by kernel_rfl)) (fun _ _ _ h => h) (Or.inl ⟨by rfl,?_⟩) ?_ ?_
         rotate_left;(intro w';go_simp;with_reducible rfl);rotate_left;(simp only [Act.put,ps_,i64_w,i32_w];rfl)
         refine pure_ (i:=14) (N:=some 58) (v:=?_) (a':=?_) #[T_,F_,T_,F_,T_,F_,T_,F_,F_,T_,T_,F_,F_,F_,T_,F_,F_,F_,F_,F_,F_,F_,F_,F_,F_,F_,F_,F_,F_,F_] rfl rfl (any_of HT_.out (by kernel_rfl)) (fun _ _ _ h => h) (Or.inl ⟨by rfl,?_⟩) ?_ ?_
         rotate_left;(intro w';go_simp;with_reducible rfl);rotate_left;(simp only [Act.put,ps_,i64_w,i32_w];rfl)
         refine take_ (i:=1) (N:=some 45) (v:=?_) (a':=?_) #[T_,T_,T_,F_,T_,F_,T_,F_,F_,T_,T_,F_,F_,F_,T_,F_,F_,F_,F_,F_,F_,F_,F_,F_,F_,F_,F_,F_,F_,F_] rfl rfl (take_ofW HT_.out HW_.out (by kernel_rfl)) (fun _ _ _ h => h) (Or.inl ⟨by rfl,?_⟩) hHeld ?_ ?_
         rotate_left
         ·rintro w' ⟨s0,s1,s2,s3,s4,s5,s6,s7,s8,s9⟩
          go_simp
          with_reducible rfl
         rotate_left
         ·simp only [Act.put,ps_,i64_w,i32_w]
          rfl
         refine take_ (i:=3) (N:=some 47) (v:=?_) (a':=?_) #[T_,T_,T_,T_,T_,F_,T_,F_,F_,T_,T_,F_,F_,F_,T_,F_,F_,F_,F_,F_,F_,F_,F_,F_,F_,F_,F_,F_,F_,F_] rfl rfl (take_ofW HT_.out HW_.out (by kernel_rfl)) (fun _ _ _ h => h) (Or.inl ⟨by rfl,?_⟩) hHeld ?_ ?_
         rotate_left
         ·rintro w' ⟨s0,s1,s2,s3,s4,s5,s6,s7,s8,s9⟩
          go_simp
          with_reducible rfl
         rotate_left
         ·simp only [Act.put,ps_,i64_w,i32_w]
          rfl
         refine take_ (i:=5) (N:=some 49) (v:=?_) (a':=?_) #[T_,T_,T_,T_,T_,T_,T_,F_,F_,T_,T_,F_,F_,F_,T_,F_,F_,F_,F_,F_,F_,F_,F_,F_,F_,F_,F_,F_,F_,F_] rfl rfl (take_ofW HT_.out HW_.out (by kernel_rfl)) (fun _ _ _ h => h) (Or.inl ⟨by rfl,?_⟩) hHeld ?_ ?_
         rotate_left
         ·rintro w' ⟨s0,s1,s2,s3,s4,s5,s6,s7,s8,s9⟩
          go_simp
          with_reducible rfl
         rotate_left
         ·simp only [Act.put,ps_,i64_w,i32_w]
          rfl
         refine take_ (i:=7) (N:=some 51) (v:=?_) (a':=?_) #[T_,T_,T_,T_,T_,T_,T_,T_,F_,T_,T_,F_,F_,F_,T_,F_,F_,F_,F_,F_,F_,F_,F_,F_,F_,F_,F_,F_,F_,F_] rfl rfl (take_ofW HT_.out HW_.out (by kernel_rfl)) (fun _ _ _ h => h) (Or.inl ⟨by rfl,?_⟩) hHeld ?_ ?_
         rotate_left
         ·rintro w' ⟨s0,s1,s2,s3,s4,s5,s6,s7,s8,s9⟩
          go_simp
          with_reducible rfl
         rotate_left
         ·simp only [Act.put,ps_,i64_w,i32_w]
          rfl
         refine pure_ (i:=8) (N:=some 52) (v:=?_) (a':=?_) #[T_,T_,T_,T_,T_,T_,T_,T_,T_,T_,T_,F_,F_,F_,T_,F_,F_,F_,F_,F_,F_,F_,F_,F_,F_,F_,F_,F_,F_,F_] rfl rfl (any_of HT_.out (by kernel_rfl)) (fun _ _ _ h => h) (Or.inl ⟨by rfl,?_⟩) ?_ ?_
         rotate_left;(intro w';go_simp;with_reducible rfl);rotate_left;(simp only [Act.put,ps_,i64_w,i32_w];rfl)
         refine take_ (i:=11) (N:=some 55) (v:=?_) (a':=?_) #[T_,T_,T_,T_,T_,T_,T_,T_,T_,T_,T_,T_,F_,F_,T_,F_,F_,F_,F_,F_,F_,F_,F_,F_,F_,F_,F_,F_,F_,F_] rfl rfl (take_ofW HT_.out HW_.out (by kernel_rfl)) (fun _ _ _ h => h) (Or.inl ⟨by rfl,?_⟩) hHeld ?_ ?_
         rotate_left
         ·rintro w' ⟨s0,s1,s2,s3,s4,s5,s6,s7,s8,s9⟩
          go_simp
          with_reducible rfl
         rotate_left
         ·simp only [Act.put,ps_,i64_w,i32_w]
          rfl
         refine pure_ (i:=12) (N:=some 56) (v:=?_) (a':=?_) #[T_,T_,T_,T_,T_,T_,T_,T_,T_,T_,T_,T_,T_,F_,T_,F_,F_,F_,F_,F_,F_,F_,F_,F_,F_,F_,F_,F_,F_,F_] rfl rfl (any_of HT_.out (by kernel_rfl)) (fun _ _ _ h => h) (Or.inl ⟨by rfl,?_⟩) ?_ ?_
         rotate_left;(intro w';go_simp;with_reducible rfl);rotate_left;(simp only [Act.put,ps_,i64_w,i32_w];rfl)
         refine pure_ (i:=13) (N:=some 57) (v:=?_) (a':=?_) #[T_,T_,T_,T_,T_,T_,T_,T_,T_,T_,T_,T_,T_,T_,T_,F_,F_,F_,F_,F_,F_,F_,F_,F_,F_,F_,F_,F_,F_,F_] rfl rfl (any_of HT_.out (by kernel_rfl)) (fun _ _ _ h => h) (Or.inl ⟨by rfl,?_⟩) ?_ ?_
         rotate_left;(intro w';go_simp;with_reducible rfl);rotate_left;(simp only [Act.put,ps_,i64_w,i32_w];rfl)
         refine take_ (i:=15) (N:=some 59) (v:=?_) (a':=?_) #[T_,T_,T_,T_,T_,T_,T_,T_,T_,T_,T_,T_,T_,T_,T_,T_,F_,F_,F_,F_,F_,F_,F_,F_,F_,F_,F_,F_,F_,F_] rfl rfl (take_ofW HT_.out HW_.out (by kernel_rfl)) (fun _ _ _ h => h) (Or.inl ⟨by rfl,?_⟩) hHeld ?_ ?_
         rotate_left
         ·rintro w' ⟨s0,s1,s2,s3,s4,s5,s6,s7,s8,s9⟩
          go_simp
          with_reducible rfl
         rotate_left
         ·simp only [Act.put,ps_,i64_w,i32_w]
          rfl
         refine pure_ (i:=16) (N:=some 60) (v:=?_) (a':=?_) #[T_,T_,T_,T_,T_,T_,T_,T_,T_,T_,T_,T_,T_,T_,T_,T_,T_,F_,F_,F_,F_,F_,F_,F_,F_,F_,F_,F_,F_,F_] rfl rfl (any_of HT_.out (by kernel_rfl)) (fun _ _ _ h => h) (Or.inl ⟨by rfl,?_⟩) ?_ ?_
         rotate_left;(intro w';go_simp;with_reducible rfl);rotate_left;(simp only [Act.put,ps_,i64_w,i32_w];rfl)
         refine pure_ (i:=17) (N:=some 61) (v:=?_) (a':=?_) #[T_,T_,T_,T_,T_,T_,T_,T_,T_,T_,T_,T_,T_,T_,T_,T_,T_,T_,F_,F_,F_,F_,F_,F_,F_,F_,F_,F_,F_,F_] rfl rfl (any_of HT_.out (by kernel_rfl)) (fun _ _ _ h => h) (Or.inl ⟨by rfl,?_⟩) ?_ ?_
         rotate_left;(intro w';go_simp;with_reducible rfl);rotate_left;(simp only [Act.put,ps_,i64_w,i32_w];rfl)
         refine take_ (i:=18) (N:=some 62) (v:=?_) (a':=?_) #[T_,T_,T_,T_,T_,T_,T_,T_,T_,T_,T_,T_,T_,T_,T_,T_,T_,T_,T_,F_,F_,F_,F_,F_,F_,F_,F_,F_,F_,F_] rfl rfl (take_ofW HT_.out HW_.out (by kernel_rfl)) (fun _ _ _ h => h) (Or.inl ⟨by rfl,?_⟩) hHeld ?_ ?_
         rotate_left
         ·rintro w' ⟨s0,s1,s2,s3,s4,s5,s6,s7,s8,s9⟩
          go_simp
          with_reducible rfl
         rotate_left
         ·simp only [Act.put,ps_,i64_w,i32_w]
          rfl
         refine pure_ (i:=19) (N:=some 63) (v:=?_) (a':=?_) #[T_,T_,T_,T_,T_,T_,T_,T_,T_,T_,T_,T_,T_,T_,T_,T_,T_,T_,T_,T_,F_,F_,F_,F_,F_,F_,F_,F_,F_,F_] rfl rfl (any_of HT_.out (by kernel_rfl)) (fun _ _ _ h => h) (Or.inl ⟨by rfl,?_⟩) ?_ ?_
         rotate_left;(intro w';go_simp;with_reducible rfl);rotate_left;(simp only [Act.put,ps_,i64_w,i32_w];rfl)
         refine pure_ (i:=20) (N:=some 64) (v:=?_) (a':=?_) #[T_,T_,T_,T_,T_,T_,T_,T_,T_,T_,T_,T_,T_,T_,T_,T_,T_,T_,T_,T_,T_,F_,F_,F_,F_,F_,F_,F_,F_,F_] rfl rfl (any_of HT_.out (by kernel_rfl)) (fun _ _ _ h => h) (Or.inl ⟨by rfl,?_⟩) ?_ ?_
         rotate_left;(intro w';go_simp;with_reducible rfl);rotate_left;(simp only [Act.put,ps_,i64_w,i32_w];rfl)
         refine pure_ (i:=21) (N:=some 65) (v:=undef) (a':=?_) #[T_,T_,T_,T_,T_,T_,T_,T_,T_,T_,T_,T_,T_,T_,T_,T_,T_,T_,T_,T_,T_,T_,F_,F_,F_,F_,F_,F_,F_,F_] rfl rfl (any_of HT_.out (by kernel_rfl)) (fun _ _ _ h => h) (Or.inr ⟨by rfl,rfl⟩) ?_ ?_
         rotate_left
         ·simp only [Act.put,ps_,i64_w,i32_w]
          rfl
         refine pure_ (i:=22) (N:=some 66) (v:=undef) (a':=?_) #[T_,T_,T_,T_,T_,T_,T_,T_,T_,T_,T_,T_,T_,T_,T_,T_,T_,T_,T_,T_,T_,T_,T_,F_,F_,F_,F_,F_,F_,F_] rfl rfl (any_of HT_.out (by kernel_rfl)) (fun _ _ _ h => h) (Or.inr ⟨by rfl,rfl⟩) ?_ ?_
         rotate_left
         ·simp only [Act.put,ps_,i64_w,i32_w]
          rfl
         refine pure_ (i:=23) (N:=some 67) (v:=undef) (a':=?_) #[T_,T_,T_,T_,T_,T_,T_,T_,T_,T_,T_,T_,T_,T_,T_,T_,T_,T_,T_,T_,T_,T_,T_,T_,F_,F_,F_,F_,F_,F_] rfl rfl (any_of HT_.out (by kernel_rfl)) (fun _ _ _ h => h) (Or.inr ⟨by rfl,rfl⟩) ?_ ?_
         rotate_left
         ·simp only [Act.put,ps_,i64_w,i32_w]
          rfl
         refine pure_ (i:=24) (N:=some 68) (v:=undef) (a':=?_) #[T_,T_,T_,T_,T_,T_,T_,T_,T_,T_,T_,T_,T_,T_,T_,T_,T_,T_,T_,T_,T_,T_,T_,T_,T_,F_,F_,F_,F_,F_] rfl rfl (any_of HT_.out (by kernel_rfl)) (fun _ _ _ h => h) (Or.inr ⟨by rfl,rfl⟩) ?_ ?_
         rotate_left
         ·simp only [Act.put,ps_,i64_w,i32_w]
          rfl
         refine pure_ (i:=25) (N:=some 69) (v:=?_) (a':=?_) #[T_,T_,T_,T_,T_,T_,T_,T_,T_,T_,T_,T_,T_,T_,T_,T_,T_,T_,T_,T_,T_,T_,T_,T_,T_,T_,F_,F_,F_,F_] rfl rfl (any_of HT_.out (by kernel_rfl)) (fun _ _ _ h => h) (Or.inl ⟨by rfl,?_⟩) ?_ ?_
         rotate_left;(intro w';go_simp;with_reducible rfl);rotate_left;(simp only [Act.put,ps_,i64_w,i32_w];rfl)
         refine pure_ (i:=26) (N:=some 6) (v:=?_) (a':=?_) #[T_,T_,T_,T_,T_,T_,T_,T_,T_,T_,T_,T_,T_,T_,T_,T_,T_,T_,T_,T_,T_,T_,T_,T_,T_,T_,T_,F_,F_,F_] rfl rfl (any_of HT_.out (by kernel_rfl)) (fun _ _ _ h => h) (Or.inl ⟨by rfl,?_⟩) ?_ ?_
         rotate_left;(intro w';go_simp;with_reducible rfl);rotate_left;(simp only [Act.put,ps_,i64_w,i32_w];rfl)
         refine pure_ (i:=27) (N:=some 7) (v:=?_) (a':=?_) #[T_,T_,T_,T_,T_,T_,T_,T_,T_,T_,T_,T_,T_,T_,T_,T_,T_,T_,T_,T_,T_,T_,T_,T_,T_,T_,T_,T_,F_,F_] rfl rfl (any_of HT_.out (by kernel_rfl)) (fun _ _ _ h => h) (Or.inl ⟨by rfl,?_⟩) ?_ ?_
         rotate_left;(intro w';go_simp;with_reducible rfl);rotate_left;(simp only [Act.put,ps_,i64_w,i32_w];rfl)
         refine pure_ (i:=28) (N:=some 8) (v:=?_) (a':=?_) #[T_,T_,T_,T_,T_,T_,T_,T_,T_,T_,T_,T_,T_,T_,T_,T_,T_,T_,T_,T_,T_,T_,T_,T_,T_,T_,T_,T_,T_,F_] rfl rfl (any_of HT_.out (by kernel_rfl)) (fun _ _ _ h => h) (Or.inl ⟨by rfl,?_⟩) ?_ ?_
         rotate_left;(intro w';go_simp;with_reducible rfl);rotate_left;(simp only [Act.put,ps_,i64_w,i32_w];rfl)
         refine pure_ (i:=29) (N:=some 9) (v:=?_) (a':=?_) #[T_,T_,T_,T_,T_,T_,T_,T_,T_,T_,T_,T_,T_,T_,T_,T_,T_,T_,T_,T_,T_,T_,T_,T_,T_,T_,T_,T_,T_,T_] rfl rfl (any_of HT_.out (by kernel_rfl)) (fun _ _ _ h => h) (Or.inl ⟨by rfl,?_⟩) ?_ ?_
         rotate_left;(intro w';go_simp;with_reducible rfl);rotate_left;(simp only [Act.put,ps_,i64_w,i32_w];rfl)
         refine done_ (done_of HT_.out (by kernel_rfl)) ?_
         try go_wp2
         refine bodyPost_ret (results_list (rs:=[.tmp 6,.tmp 7,.tmp 8,.tmp 9]) rfl (by simp) (.tmp (.tmp (.tmp (.tmp .nil))))) rfl ?_
         exact ⟨by first|rfl|(simp [errW_none,errW_some] <;> rfl)|(simp only [← hji15,← hji16,← hji17,← hji24];first|rfl|(simp [errW_none,errW_some] <;> rfl))|(simp [*,errW_none,errW_some] <;> rfl),by repeat (first|(with_reducible first|exact HB.out|apply ba_|apply pn_|apply pd_|refine bs_ ?_ GE102.out|refine bs_ ?_ GE105.out)|exact HB.out)⟩
       ·replace c28:=Bool.eq_false_iff.mpr c28
        subst c28
        have H1 : (none) = some (r1,r2,r3,r4):=by rw [if_neg (show ¬ (false = true) by decide)] at H;exact H
        clear H
        have H:=H1
        clear H1
        exact absurd H (by simp)
      ·rw [if_neg c27] at H
       exact absurd H (by simp)
     ·rw [if_neg c26] at H
      exact absurd H (by simp)
    ·rw [if_neg c25] at H
     exact absurd H (by simp)
  ·rw [if_neg c14] at H
   exact absurd H (by simp)

-- NOT PRINTED: function 57 (ranges_edge_57)

-- NOT PRINTED: function 67 (ranges_edge_67)

-- NOT PRINTED: function 58 (ranges_edge_58)

-- NOT PRINTED: function 65 (bits_Len32)

end Go.Proofs.Ytocagkmnefkniaa.PSqx
