-- printed for this claim by a program of the claim (wip/tools/pp.py over the kit's print)
import Derived.Test.YtocagkmnefkniaaPSqxx0
namespace Go.Proofs.Ytocagkmnefkniaa.PSqx
open Go.RowKit Go.Proofs.YtocagkmnefkniaaW.PrintWords Go.Proofs.YtocagkmnefkniaaW.PrintLast Go.Proofs.YtocagkmnefkniaaW.PrintMore
attribute [local go_sem] max2_int min2_int max_two min_two max_three min_three max_four min_four   -- for this text's walks alone
set_option linter.unusedVariables false
set_option linter.unusedSimpArgs false

attribute [local go_sem] isSome_setCell_
/-! ### bits_Len64: function 66 -/
def bits_Len64.f (a0 : Int) : Option (Int):=if 0 ≤ a0 then (if a0 ≤ 18446744073709551615 then some (Lib.bitLen a0.toNat : Int) else none) else none
theorem bits_Len64.calls (a0 : Int) (r : Int) (w : World) (h : bits_Len64.f a0 = some r) :
  Calls Try.prog 66 #[.int .u64 a0] w fun e w' => e = .returned (.int .i64 r) ∧ Drawn0 w w':=by
 unfold bits_Len64.f at h
 by_cases h0 : 0 ≤ a0
 ·by_cases h1 : a0 ≤ 18446744073709551615
  ·rw [if_pos h0,if_pos h1] at h
   refine (Go.Proofs.YtocagkmnefkniaaLen64.bits_Len64_core a0 w h0 h1).mono ?_
   rintro e w' ⟨rfl,rfl⟩
   exact ⟨by rw [Option.some.inj h],Drawn0.refl _⟩
  ·rw [if_pos h0,if_neg h1] at h
   exact absurd h (by simp)
 ·rw [if_neg h0] at h
  exact absurd h (by simp)

-- NOT PRINTED: function 56 (bits_Len)

-- NOT PRINTED: function 68 (slices_nextPowerOfTwo)

-- NOT PRINTED: function 69 (slices_xorshift_Next)

-- NOT PRINTED: function 59 (ranges_edge_59)

-- NOT PRINTED: function 72 (ranges_edge_72)

-- NOT PRINTED: function 71 (ranges_edge_71)

-- NOT PRINTED: function 70 (ranges_edge_70)

-- NOT PRINTED: function 60 (ranges_edge_60)

-- NOT PRINTED: function 61 (ranges_edge_61)

-- NOT PRINTED: function 62 (ranges_edge_62)

-- NOT PRINTED: function 63 (ranges_edge_63)

-- NOT PRINTED: function 64 (ranges_edge_64)

-- NOT PRINTED: function 55 (ranges_edge_55)

-- NOT PRINTED: function 51 (ranges_edge_51)

-- NOT PRINTED: function 48 (ranges_runs)

-- NOT PRINTED: function 54 (ranges_edge_54)

-- NOT PRINTED: function 49 (ranges_edge_49)

-- NOT PRINTED: function 41 (ranges_swept)

/-! ### ranges_Range_empty: function 50 -/
def ranges_Range_empty.f (a0_0 : Int) (a0_1 : Int) : Option (Bool):=some (decide (a0_1 < a0_0))
set_option maxHeartbeats 8000000 in
set_option maxRecDepth 100000 in
theorem ranges_Range_empty.calls (a0_0 : Int) (a0_1 : Int) (r : Bool) (w : World) (h : ranges_Range_empty.f a0_0 a0_1 = some r) :
  Calls Try.prog 50 #[.agg #[.int .u64 a0_0,.int .u64 a0_1]] w fun e w' => e = .returned (.bool r) ∧ Below w.heap.size w w':=by
 have hu67:=Try.underlying67
 have HB:=am_ (Below.refl w.heap.size w)
 have H : (some (decide (a0_1 < a0_0))) = some r:=h
 clear h
 obtain rfl:=Option.some.inj H
 go_enter Try.func50,Try.ntmps50
 go_wp2_with (first|((with_reducible refine gate_dst (N:=1) rfl ?_);refine box_event ?hg (N:=1) ?hd (cs:=#[.int .u64 a0_0,.int .u64 a0_1]) (t:=67) ?hr ?_;(case hd => rfl);(case hg => rfl);(case hr => first|(go_simp;done)|(go_simp;rfl));intro gb108 hg w2 hbox hb;have n0_:=am_ (below_step (by repeat (first|(with_reducible first|exact HB.out|apply ba_|apply pn_|apply pd_)|exact HB.out)) hb);have n1_:=am_ (hbox);have n2_:=am_ ((by rw [hg];exact (below_size (by repeat (first|(with_reducible first|exact HB.out|apply ba_|apply pn_|apply pd_)|exact HB.out))) : w.heap.size ≤ gb108));have n3_:=am_ ((by rw [hg];exact (below_size (by repeat (first|(with_reducible first|exact HB.out|apply ba_|apply pn_|apply pd_)|exact HB.out))) : w.heap.size ≤ gb108));clear HB;have HB:=n0_;have BK108:=n1_;have GW108:=n2_;have GE108:=n3_;clear n0_ n1_ n2_ n3_;clear hb hbox hg;have hcz3_0 : w2.cell? ⟨gb108,0,none⟩ = some (.int .u64 a0_0):=(kc_ BK108.out 0).trans rfl;have hcz3_1 : w2.cell? ⟨gb108,1,none⟩ = some (.int .u64 a0_1):=(kc_ BK108.out 1).trans rfl;have hfz3_0:=blk_frozen BK108.out 0;have hfz3_1:=blk_frozen BK108.out 1; skip))
 go_ret
 exact ⟨by first|rfl|(simp [errW_none,errW_some] <;> rfl)|(simp [*,errW_none,errW_some] <;> rfl),by repeat (first|(with_reducible first|exact HB.out|apply ba_|apply pn_|apply pd_|refine bs_ ?_ GE108.out)|exact HB.out)⟩

/-! ### ranges_edges: function 43 -/
def ranges_edges.l0 : Nat → Int → List (S90) → List (S67) → Int → Int → Option ((List (S90)))
 | 0,_,_,_,_,_ => none
 | k + 1,x1,x4,x7,x8,x9 => if x9 < x8 then (if 0 ≤ x9 then (if x9 < (x7.length : Int) then ((ranges_Range_empty.f ((rd_T67 x7 x9).f0) ((rd_T67 x7 x9).f1)).bind fun t111 => (if t111 = true then (ranges_edges.l0 k x1 x4 x7 x8 (wrap64 (x9 + 1))) else ((some (([(⟨(rd_T67 x7 x9).f0,x1⟩ : S90),(⟨IntKind.u64.wrap (((rd_T67 x7 x9).f1) + 1),wrap64 (-x1)⟩ : S90)] : List (S90)) : List (S90))).bind fun y112 => (if x4.length + y112.length < 8796093022208 then (ranges_edges.l0 k x1 (x4 ++ y112) x7 x8 (wrap64 (x9 + 1))) else (none))))) else (none)) else (none)) else (some x4)
def ranges_edges.f (k : Nat) (l0 : List (S67)) (a1 : Int) : Option ((List (S90))):=ranges_edges.l0 k a1 ([] : List (S90)) l0 (l0.length : Int) 0
theorem ranges_edges.mono_l : ∀ k,(∀ y0 y1 y2 y3 y4,LeO (ranges_edges.l0 k y0 y1 y2 y3 y4) (ranges_edges.l0 (k + 1) y0 y1 y2 y3 y4))
 | 0 => fun _ _ _ _ _ r h => by simp [ranges_edges.l0] at h
 | k + 1 => by
  have ih0:=ranges_edges.mono_l k
  ·intro y0 y1 y2 y3 y4
   unfold ranges_edges.l0
   repeat' first
   | (with_reducible exact ih0 _ _ _ _ _)
   | (with_reducible exact LeO.refl _)
   | (with_reducible exact LeO.none _)
   | (with_reducible refine LeO.ite ?_ ?_)
   | (with_reducible refine LeO.bind ?_ (fun _ => ?_))
   | exact ih0 _ _ _ _ _
   | exact LeO.none _
   | refine LeO.ite ?_ ?_
   | refine LeO.bind ?_ (fun _ => ?_)
theorem ranges_edges.mono : ∀ a0 a1 k,LeO (ranges_edges.f k a0 a1) (ranges_edges.f (k + 1) a0 a1):=by
 intro a0 a1 k
 have ih0:=ranges_edges.mono_l k
 unfold ranges_edges.f
 repeat' first
   | (with_reducible exact ih0 _ _ _ _ _)
   | (with_reducible exact LeO.refl _)
   | (with_reducible exact LeO.none _)
   | (with_reducible refine LeO.ite ?_ ?_)
   | (with_reducible refine LeO.bind ?_ (fun _ => ?_))
   | exact ih0 _ _ _ _ _
   | exact LeO.none _
   | refine LeO.ite ?_ ?_
   | refine LeO.bind ?_ (fun _ => ?_)
set_option maxHeartbeats 8000000 in
set_option maxRecDepth 100000 in
theorem ranges_edges.calls (k : Nat) (A0 : Option Addr) (c0 : Nat) (l0 : List (S67)) (a1 : Int) (r : List (S90)) (w : World) (hr0 : Kd.C k67 w A0 l0.length l0) (hc0 : l0.length ≤ c0) (h : ranges_edges.f k l0 a1 = some r) :
  Calls Try.prog 43 #[.slice A0 l0.length c0,.int .i64 a1] w fun e w' => ∃ v0_ : Value,e = .returned (v0_) ∧ Kd.R k90 90 w' w.heap.size (fun _ => True) v0_ r ∧ Below w.heap.size w w':=by
 have hu67:=Try.underlying67
 have hu90:=Try.underlying90
 have HR0:=am_ hr0
 have HC0:=am_ hc0
 clear hr0 hc0
 have HB:=am_ (Below.refl w.heap.size w)
 have H : (ranges_edges.l0 k a1 ([] : List (S90)) l0 (l0.length : Int) 0) = some r:=h
 clear h
 have H':=am_ H
 clear H
 go_enter Try.func43,Try.ntmps43
 go_wp2
 go_loopg [4,9] k (fun kq v4 v9 w' => ∃ (x4_1 : List (S90)) (x9_1 : Int),v9 = .int .i64 x9_1 ∧ Aside0 (ranges_edges.l0 kq a1 x4_1 l0 (l0.length : Int) x9_1 = some r) ∧ Aside0 (kq ≤ k) ∧ Aside0 (Kd.R k90 90 w' w.heap.size (fun _ => True) v4 x4_1) ∧ Aside0 (Below w.heap.size w w'))
 case atStart => exact ⟨(([] : List (S90))),(0),(by first|rfl|(simp;done)|(simp [*];done)),H',⟨Nat.le_refl _⟩,⟨by first|exact Kd.R_nil _ _ _ _ _|exact Kd.N_nil _ _ _ _ _|exact Kd.V_nil _ _ _ _ _|exact Kd.Q_nil _ _ _ _ _|exact Kd.S_nil _ _ _ _ _⟩,⟨by repeat (first|(with_reducible first|exact HB.out|apply ba_|apply pn_|apply pd_)|exact HB.out)⟩⟩
 case round =>
  clear H'
  try clear p2
  obtain ⟨x4_1,x9_1,rfl,HA,HK1,HO_4,HB⟩:=hrel
  cases gk with
  | zero => exact absurd HA.out (by simp [ranges_edges.l0])
  | succ k1 =>
   have H:=HA.out
   clear HA
   simp only [ranges_edges.l0] at H
   by_cases c3 : x9_1 < (l0.length : Int)
   ·rw [if_pos c3] at H
    have c3b0 : decide (x9_1 < (l0.length : Int)) = true:=decide_eq_true c3
    clear c3
    by_cases c4 : 0 ≤ x9_1
    ·rw [if_pos c4] at H
     have c4b0 : decide (0 ≤ x9_1) = true:=decide_eq_true c4
     clear c4
     by_cases c5 : x9_1 < (l0.length : Int)
     ·rw [if_pos c5] at H
      have c5b0 : decide (x9_1 < (l0.length : Int)) = true:=decide_eq_true c5
      clear c5
      replace H:=Option.bind_eq_some_iff.mp H
      obtain ⟨t111,A60,H⟩:=H
      replace H : (if t111 = true then (ranges_edges.l0 k1 a1 x4_1 l0 (l0.length : Int) (wrap64 (x9_1 + 1))) else ((some (([(⟨(rd_T67 l0 x9_1).f0,a1⟩ : S90),(⟨IntKind.u64.wrap (((rd_T67 l0 x9_1).f1) + 1),wrap64 (-a1)⟩ : S90)] : List (S90)) : List (S90))).bind fun y112 => (if x4_1.length + y112.length < 8796093022208 then (ranges_edges.l0 k1 a1 (x4_1 ++ y112) l0 (l0.length : Int) (wrap64 (x9_1 + 1))) else (none)))) = some r:=H
      have A6:=am_ A60
      clear A60
      by_cases c7 : t111 = true
      ·subst c7
       have H1 : (ranges_edges.l0 k1 a1 x4_1 l0 (l0.length : Int) (wrap64 (x9_1 + 1))) = some r:=by rw [if_pos rfl] at H;exact H
       clear H
       have H:=H1
       clear H1
       have H':=am_ H
       clear H
       have p109 : 0 ≤ (x9_1 : Int):=of_decide_eq_true (by first|(with_reducible assumption)|assumption)
       have q109 : x9_1 < (l0.length : Int):=of_decide_eq_true (by first|(with_reducible assumption)|assumption)
       obtain ⟨ad109,e109,hx109_0,hx109_1⟩:=at_T67 HR0.out x9_1 p109 q109
       cases e109
       replace hx109_0:=(HB.out.cell (World.block_lt_of_cell? w _ hx109_0)).trans hx109_0
       replace hx109_1:=(HB.out.cell (World.block_lt_of_cell? w _ hx109_1)).trans hx109_1
       replace p109:=eq_true p109
       replace q109:=eq_true q109
       go_wp2_with (first|((with_reducible refine gate_dst (N:=6) rfl ?_);refine box_event ?hg (N:=6) ?hd (cs:=kk1_) (t:=67) ?hr ?_;(case hd => rfl);(case hg => rfl);(case hr => first|(go_simp;done)|(go_simp;rfl));intro gb110 hg w8 hbox hb;have n0_:=am_ (Kd.R_below (by (with_reducible repeat (first|apply ra_|apply rn_|apply rd_));exact HO_4.out) hb);have n1_:=am_ (below_step (by repeat (first|(with_reducible first|exact HB.out|apply ba_|apply pn_|apply pd_)|exact HB.out)) hb);have n2_:=am_ (hbox);have n3_:=am_ ((by rw [hg];exact (below_size (by repeat (first|(with_reducible first|exact HB.out|apply ba_|apply pn_|apply pd_)|exact HB.out))) : w.heap.size ≤ gb110));have n4_:=am_ ((by rw [hg];exact (below_size (by repeat (first|(with_reducible first|exact HB.out|apply ba_|apply pn_|apply pd_)|exact HB.out))) : w.heap.size ≤ gb110));clear HO_4;clear HB;have HO_4:=n0_;have HB:=n1_;have BK110:=n2_;have GW110:=n3_;have GE110:=n4_;clear n0_ n1_ n2_ n3_ n4_;clear hb hbox hg;have hcz9_0 : w8.cell? ⟨gb110,0,none⟩ = some (.int .u64 0):=(kc_ BK110.out 0).trans rfl;have hcz9_1 : w8.cell? ⟨gb110,1,none⟩ = some (.int .u64 0):=(kc_ BK110.out 1).trans rfl;have hfz9_0:=blk_frozen BK110.out 0;have hfz9_1:=blk_frozen BK110.out 1; skip)|((with_reducible refine gate_callee (f:=50) rfl ?_);refine goesL_ (some 14) rfl rfl Try.func50 (by kernel_rfl) rfl #[.agg #[.int .u64 ((rd_T67 l0 x9_1).f0),.int .u64 ((rd_T67 l0 x9_1).f1)]] rfl (by (try simp only [List.map_toArray,List.map_cons,List.map_nil]);first|done|rfl|(simp only [List.length_drop,List.length_take];rfl)) ?_;(with_reducible refine (ranges_Range_empty.calls ((rd_T67 l0 x9_1).f0) ((rd_T67 l0 x9_1).f1) true _ A6.out).mono ?_);rintro e w10 ⟨rfl,hb⟩;refine ⟨_,rfl,?_⟩;have n0_:=am_ (Kd.R_below (by (with_reducible repeat (first|apply ra_|apply rn_|apply rd_));exact (Kd.R_mono (Kd.R_far (p:=⟨gb110,1,none⟩) (Kd.R_far (p:=⟨gb110,0,none⟩) (Kd.R_types HO_4.out BK110.out (by decide)) (fun _ hk => hk.2) (.int .u64 ((rd_T67 l0 x9_1).f0))) (fun _ hk => hk.2) (.int .u64 ((rd_T67 l0 x9_1).f1))) (fun _ h_ => h_.1))) hb);have n1_:=am_ (blk_below (g:=gb110) (o:=.cells #[.int .u64 ((rd_T67 l0 x9_1).f0),.int .u64 ((rd_T67 l0 x9_1).f1)] 67 (0,0)) (by (with_reducible repeat (first|refine kn_ ?_ _|refine kd_ ?_|refine ka_ ?_ _));refine blk_put (cs:=#[.int .u64 ((rd_T67 l0 x9_1).f0),.int .u64 0]) ?_ 1 _ rfl;(with_reducible repeat (first|refine kn_ ?_ _|refine kd_ ?_|refine ka_ ?_ _));refine blk_put (cs:=kk1_) ?_ 0 _ rfl;(with_reducible repeat (first|refine kn_ ?_ _|refine kd_ ?_|refine ka_ ?_ _));exact BK110.out) hb);have n2_:=am_ (below_step (by repeat (first|(with_reducible first|exact HB.out|apply ba_|apply pn_|apply pd_|refine bs_ ?_ GE110.out)|exact HB.out)) hb);clear HO_4;clear BK110;clear HB;have HO_4:=n0_;have BK110:=n1_;have HB:=n2_;clear n0_ n1_ n2_;(try clear hb);(try clear hb2);(try clear hk);(try clear hi)))
       go_roundg k1
       case measure => have:=HK1.out;omega
       case rel => exact ⟨(x4_1),(wrap64 (x9_1 + 1)),(by first|rfl|(simp;done)|(simp [*];done)),H',⟨by have:=HK1.out;omega⟩,⟨by (with_reducible repeat (first|apply ra_|apply rn_|apply rd_));exact HO_4.out⟩,⟨by repeat (first|(with_reducible first|exact HB.out|apply ba_|apply pn_|apply pd_|refine bs_ ?_ GE110.out)|exact HB.out)⟩⟩
      ·replace c7:=Bool.eq_false_iff.mpr c7
       subst c7
       have H1 : ((some (([(⟨(rd_T67 l0 x9_1).f0,a1⟩ : S90),(⟨IntKind.u64.wrap (((rd_T67 l0 x9_1).f1) + 1),wrap64 (-a1)⟩ : S90)] : List (S90)) : List (S90))).bind fun y112 => (if x4_1.length + y112.length < 8796093022208 then (ranges_edges.l0 k1 a1 (x4_1 ++ y112) l0 (l0.length : Int) (wrap64 (x9_1 + 1))) else (none))) = some r:=by rw [if_neg (show ¬ (false = true) by decide)] at H;exact H
       clear H
       have H:=H1
       clear H1
       obtain ⟨y112,hy112⟩ : ∃ y_ : List (S90),y_ = (([(⟨(rd_T67 l0 x9_1).f0,a1⟩ : S90),(⟨IntKind.u64.wrap (((rd_T67 l0 x9_1).f1) + 1),wrap64 (-a1)⟩ : S90)] : List (S90))):=⟨_,rfl⟩
       replace H : (if x4_1.length + y112.length < 8796093022208 then (ranges_edges.l0 k1 a1 (x4_1 ++ y112) l0 (l0.length : Int) (wrap64 (x9_1 + 1))) else (none)) = some r:=by first|(rw [hy112];with_reducible exact H)|(have H2_:=(Option.bind_some _ _).symm.trans H;rw [hy112];with_reducible exact H2_)|(have H2_:=(Option.bind_some _ _).symm.trans H;with_reducible exact H2_)|with_reducible exact H|(rw [hy112];exact H)|exact H
       have Ny112:=am_ hy112
       clear hy112
       by_cases c11 : x4_1.length + y112.length < 8796093022208
       ·rw [if_pos c11] at H
        have LMc11:=am_ c11
        clear c11
        obtain ⟨y115,hy115⟩ : ∃ y_ : List (S90),y_ = (x4_1 ++ y112):=⟨_,rfl⟩
        replace H : (ranges_edges.l0 k1 a1 y115 l0 (l0.length : Int) (wrap64 (x9_1 + 1))) = some r:=by first|(rw [hy115];with_reducible exact H)|(have H2_:=(Option.bind_some _ _).symm.trans H;rw [hy115];with_reducible exact H2_)|(have H2_:=(Option.bind_some _ _).symm.trans H;with_reducible exact H2_)|with_reducible exact H|(rw [hy115];exact H)|exact H
        have Ny115:=am_ hy115
        clear hy115
        have H':=am_ H
        clear H
        have p109 : 0 ≤ (x9_1 : Int):=of_decide_eq_true (by first|(with_reducible assumption)|assumption)
        have q109 : x9_1 < (l0.length : Int):=of_decide_eq_true (by first|(with_reducible assumption)|assumption)
        obtain ⟨ad109,e109,hx109_0,hx109_1⟩:=at_T67 HR0.out x9_1 p109 q109
        cases e109
        replace hx109_0:=(HB.out.cell (World.block_lt_of_cell? w _ hx109_0)).trans hx109_0
        replace hx109_1:=(HB.out.cell (World.block_lt_of_cell? w _ hx109_1)).trans hx109_1
        replace p109:=eq_true p109
        replace q109:=eq_true q109
        go_wp2_with (first|((with_reducible refine gate_dst (N:=6) rfl ?_);refine box_event ?hg (N:=6) ?hd (cs:=kk1_) (t:=67) ?hr ?_;(case hd => rfl);(case hg => rfl);(case hr => first|(go_simp;done)|(go_simp;rfl));intro gb110 hg w12 hbox hb;have n0_:=am_ (Kd.R_below (by (with_reducible repeat (first|apply ra_|apply rn_|apply rd_));exact HO_4.out) hb);have n1_:=am_ (below_step (by repeat (first|(with_reducible first|exact HB.out|apply ba_|apply pn_|apply pd_)|exact HB.out)) hb);have n2_:=am_ (hbox);have n3_:=am_ ((by rw [hg];exact (below_size (by repeat (first|(with_reducible first|exact HB.out|apply ba_|apply pn_|apply pd_)|exact HB.out))) : w.heap.size ≤ gb110));have n4_:=am_ ((by rw [hg];exact (below_size (by repeat (first|(with_reducible first|exact HB.out|apply ba_|apply pn_|apply pd_)|exact HB.out))) : w.heap.size ≤ gb110));clear HO_4;clear HB;have HO_4:=n0_;have HB:=n1_;have BK110:=n2_;have GW110:=n3_;have GE110:=n4_;clear n0_ n1_ n2_ n3_ n4_;clear hb hbox hg;have hcz13_0 : w12.cell? ⟨gb110,0,none⟩ = some (.int .u64 0):=(kc_ BK110.out 0).trans rfl;have hcz13_1 : w12.cell? ⟨gb110,1,none⟩ = some (.int .u64 0):=(kc_ BK110.out 1).trans rfl;have hfz13_0:=blk_frozen BK110.out 0;have hfz13_1:=blk_frozen BK110.out 1; skip)|((with_reducible refine gate_callee (f:=50) rfl ?_);refine goesL_ (some 14) rfl rfl Try.func50 (by kernel_rfl) rfl #[.agg #[.int .u64 ((rd_T67 l0 x9_1).f0),.int .u64 ((rd_T67 l0 x9_1).f1)]] rfl (by (try simp only [List.map_toArray,List.map_cons,List.map_nil]);first|done|rfl|(simp only [List.length_drop,List.length_take];rfl)) ?_;(with_reducible refine (ranges_Range_empty.calls ((rd_T67 l0 x9_1).f0) ((rd_T67 l0 x9_1).f1) false _ A6.out).mono ?_);rintro e w14 ⟨rfl,hb⟩;refine ⟨_,rfl,?_⟩;have n0_:=am_ (Kd.R_below (by (with_reducible repeat (first|apply ra_|apply rn_|apply rd_));exact (Kd.R_mono (Kd.R_far (p:=⟨gb110,1,none⟩) (Kd.R_far (p:=⟨gb110,0,none⟩) (Kd.R_types HO_4.out BK110.out (by decide)) (fun _ hk => hk.2) (.int .u64 ((rd_T67 l0 x9_1).f0))) (fun _ hk => hk.2) (.int .u64 ((rd_T67 l0 x9_1).f1))) (fun _ h_ => h_.1))) hb);have n1_:=am_ (blk_below (g:=gb110) (o:=.cells #[.int .u64 ((rd_T67 l0 x9_1).f0),.int .u64 ((rd_T67 l0 x9_1).f1)] 67 (0,0)) (by (with_reducible repeat (first|refine kn_ ?_ _|refine kd_ ?_|refine ka_ ?_ _));refine blk_put (cs:=#[.int .u64 ((rd_T67 l0 x9_1).f0),.int .u64 0]) ?_ 1 _ rfl;(with_reducible repeat (first|refine kn_ ?_ _|refine kd_ ?_|refine ka_ ?_ _));refine blk_put (cs:=kk1_) ?_ 0 _ rfl;(with_reducible repeat (first|refine kn_ ?_ _|refine kd_ ?_|refine ka_ ?_ _));exact BK110.out) hb);have n2_:=am_ (below_step (by repeat (first|(with_reducible first|exact HB.out|apply ba_|apply pn_|apply pd_|refine bs_ ?_ GE110.out)|exact HB.out)) hb);clear HO_4;clear BK110;clear HB;have HO_4:=n0_;have BK110:=n1_;have HB:=n2_;clear n0_ n1_ n2_;(try clear hb);(try clear hb2);(try clear hk);(try clear hi);have hcz15_0 : w14.cell? ⟨gb110,0,none⟩ = some (.int .u64 ((rd_T67 l0 x9_1).f0)):=(kc_ BK110.out 0).trans rfl;have hcz15_1 : w14.cell? ⟨gb110,1,none⟩ = some (.int .u64 ((rd_T67 l0 x9_1).f1)):=(kc_ BK110.out 1).trans rfl;have hfz15_0:=blk_frozen BK110.out 0;have hfz15_1:=blk_frozen BK110.out 1; skip)|((with_reducible refine gate_dst (N:=27) rfl ?_);refine Kd.R_lit k90 _ 90 ?hg (N:=27) ?hd (xs:=([(⟨(rd_T67 l0 x9_1).f0,a1⟩ : S90),(⟨IntKind.u64.wrap (((rd_T67 l0 x9_1).f1) + 1),wrap64 (-a1)⟩ : S90)] : List (S90))) (inner:=[.int .u64 ((rd_T67 l0 x9_1).f0),.int .i64 a1,.int .u64 (IntKind.u64.wrap (((rd_T67 l0 x9_1).f1) + 1)),.int .i64 (wrap64 (-a1))]) (ok:=fun _ => True) (okp:=fun _ => True) ?hr ?hp (fun _ hk => hk) trivial (Below.refl _ _) (Nat.le_refl _) (by simp) ?_;(case hd => rfl);(case hg => rfl);(case hr => first|(go_simp;done)|(go_simp;rfl));(case hp => exact (Reps.c2 (show Kd.M k90 _ _ _ (⟨(rd_T67 l0 x9_1).f0,a1⟩ : S90) [.int .u64 ((rd_T67 l0 x9_1).f0),.int .i64 a1] from (k90_mkM _ _ _ (⟨(rd_T67 l0 x9_1).f0,a1⟩ : S90) )) (Reps.c2 (show Kd.M k90 _ _ _ (⟨IntKind.u64.wrap (((rd_T67 l0 x9_1).f1) + 1),wrap64 (-a1)⟩ : S90) [.int .u64 (IntKind.u64.wrap (((rd_T67 l0 x9_1).f1) + 1)),.int .i64 (wrap64 (-a1))] from (k90_mkM _ _ _ (⟨IntKind.u64.wrap (((rd_T67 l0 x9_1).f1) + 1),wrap64 (-a1)⟩ : S90) )) (Reps.none _ _))));intro v113 w16 ho17 hb hg_ hnew_;clear hg_ hnew_;(first|rw [← Ny112.out] at ho17|(simp only [Int.reduceToNat] at ho17;rw [← Ny112.out] at ho17));have n0_:=am_ (Kd.R_elder' (by (with_reducible repeat (first|apply ra_|apply rn_|apply rd_));exact HO_4.out) (Kd.R_base ho17) hb);have n1_:=am_ (Kd.R_lower (Kd.R_new' ho17 (Kd.R_lt (by (with_reducible repeat (first|apply ra_|apply rn_|apply rd_));exact HO_4.out))) (below_size (by repeat (first|(with_reducible first|exact HB.out|apply ba_|apply pn_|apply pd_|refine bs_ ?_ GE110.out)|exact HB.out))));have n2_:=am_ (blk_below (g:=gb110) (o:=.cells #[.int .u64 ((rd_T67 l0 x9_1).f0),.int .u64 ((rd_T67 l0 x9_1).f1)] 67 (0,0)) (by (with_reducible repeat (first|refine kn_ ?_ _|refine kd_ ?_|refine ka_ ?_ _));exact BK110.out) hb);have n3_:=am_ (below_step (by repeat (first|(with_reducible first|exact HB.out|apply ba_|apply pn_|apply pd_|refine bs_ ?_ GE110.out)|exact HB.out)) hb);clear HO_4;clear BK110;clear HB;have HO_4:=n0_;have HO114:=n1_;have BK110:=n2_;have HB:=n3_;clear n0_ n1_ n2_ n3_;clear hb ho17;obtain ⟨Ao19,co19,eo19⟩:=Kd.R_slice HO114.out;subst eo19)|((with_reducible refine gate_builtin (b:=.append) (xs:=#[.tmp 16,.tmp 27]) rfl ?_);at_builtin;refine Kd.R_append_rows k90 (w0:=w) w.heap.size rfl (.tmp 16) (.tmp 27) 82 90 (.agg #[(.int .u64 0),(.int .i64 0)]) 16 rfl Try.underlying82 info90 rfl (by decide) (by omega) u4 x4_1 y112 _ _ _ (fun k_ => some k_ ≠ (.slice Ao19 y112.length co19 : Value).ownBlock) (fun _ => False) rfl rfl ?aO ?aR (fun _ _ h => h) (fun _ h => h.elim) ?aF ?aB ?aS ?aL ?_;(case aR => repeat (first|exact (Kd.R_reads' HO114.out).2.2|(with_reducible refine Kd.C_alloc ?_ _)|(with_reducible refine Kd.C_drewN ?_ _)|(with_reducible refine Kd.C_drew ?_)));(case aB => exact (by repeat (first|(with_reducible first|exact HB.out|apply ba_|apply pn_|apply pd_|refine bs_ ?_ GE110.out)|exact HB.out)));(case aF => exact (fun k_ hk => Kd.fresh' (Kd.R_lt (by (with_reducible repeat (first|apply ra_|apply rn_|apply rd_));exact HO114.out)) k_ hk));(case aO => exact (by (with_reducible repeat (first|apply ra_|apply rn_|apply rd_));exact Kd.R_mono HO_4.out (fun _ hk => hk.2)));(case aS => exact (below_size (by repeat (first|(with_reducible first|exact HB.out|apply ba_|apply pn_|apply pd_|refine bs_ ?_ GE110.out)|exact HB.out))));(case aL => have:=LMc11.out;omega);intro v116 w18 ho hb hg hat;rw [← Ny115.out] at ho;have n0_:=am_ (blk_grown (g:=gb110) (o:=.cells #[.int .u64 ((rd_T67 l0 x9_1).f0),.int .u64 ((rd_T67 l0 x9_1).f1)] 67 (0,0)) (by (with_reducible repeat (first|refine kn_ ?_ _|refine kd_ ?_|refine ka_ ?_ _));exact BK110.out) hg (Kd.R_ne HO_4.out BK110.out (by decide)));have n1_:=am_ (Kd.R_after (ok:=(fun _ => True)) (by (with_reducible repeat (first|apply ra_|apply rn_|apply rd_));exact HO114.out) hg hat);have n2_:=am_ (hb);have n3_:=am_ (ho);clear BK110;clear HO114;clear HB;clear HO_4;have BK110:=n0_;have HO114:=n1_;have HB:=n2_;have HO117:=n3_;clear n0_ n1_ n2_ n3_;clear ho hb hg hat))
        go_roundg k1
        case measure => have:=HK1.out;omega
        case rel => exact ⟨(y115),(wrap64 (x9_1 + 1)),(by first|rfl|(simp;done)|(simp [*];done)),H',⟨by have:=HK1.out;omega⟩,⟨by (with_reducible repeat (first|apply ra_|apply rn_|apply rd_));exact Kd.R_mono HO117.out (fun _ hk => trivial)⟩,⟨by repeat (first|(with_reducible first|exact HB.out|apply ba_|apply pn_|apply pd_|refine bs_ ?_ GE110.out)|exact HB.out)⟩⟩
       ·rw [if_neg c11] at H
        exact absurd H (by simp)
     ·rw [if_neg c5] at H
      exact absurd H (by simp)
    ·rw [if_neg c4] at H
     exact absurd H (by simp)
   ·rw [if_neg c3] at H
    have c3b0 : decide (x9_1 < (l0.length : Int)) = false:=decide_eq_false c3
    clear c3
    obtain rfl:=Option.some.inj H
    go_wp2
    go_ret
    exact ⟨_,by first|rfl|(simp [errW_none,errW_some] <;> rfl)|(simp [*,errW_none,errW_some] <;> rfl),by (with_reducible repeat (first|apply ra_|apply rn_|apply rd_));exact HO_4.out,by repeat (first|(with_reducible first|exact HB.out|apply ba_|apply pn_|apply pd_)|exact HB.out)⟩

-- skip: math/bits.Len32
-- skip: math/bits.Len
-- skip: slices.nextPowerOfTwo
/-! ### rows of edges and of ranges -/
open Go.Proofs.YtocagkmnefkniaaR
def toE (x : S90) : Int × Int:=(x.f0,x.f1)
def ofR (x : Int × Int) : S67:=⟨x.1,x.2⟩
def sweepF (wantF : Int → Bool) (l : List S90) : List S67:=(allW wantF (sortF (l.map toE))).map ofR
theorem edge_cells {w : World} {A : Option Addr} {n : Nat} {xs : List S90} (h : Kd.C k90 w A n xs) (h0 : 0 < n) : ∃ ad,A = some ad ∧ ∀ j (hj : j < xs.length),w.cell? (ad.add (j * 2 + 0)) = some (.int .u64 xs[j].f0) ∧ w.cell? (ad.add (j * 2 + 1)) = some (.int .i64 xs[j].f1):=by
 obtain ⟨ad,ha,hx⟩:=h.2.2 h0
 refine ⟨ad,ha,fun j hj => ?_⟩
 obtain ⟨cs,hl,hk,hc⟩:=hx j xs[j] (by simp [hj])
 obtain ⟨c0,c1,rfl,e0,e1⟩:=hk
 obtain rfl : c0 = [Value.int .u64 xs[j].f0]:=e0
 obtain rfl : c1 = [Value.int .i64 xs[j].f1]:=e1
 exact ⟨hc 0 _ rfl,hc 1 _ rfl⟩
theorem edges_of {w : World} {base : Nat} {ok : Nat → Prop} {v : Value} {xs : List S90} (h : Kd.R k90 90 w base ok v xs) : Edges base w v (xs.map toE):=by
 obtain ⟨inner,ho⟩:=Kd.R_own h
 rcases ho.2 with ⟨rfl,h0⟩|⟨g,cap,cur,rfl,hg,hblk,_⟩
 ·exact Or.inl ⟨rfl,by rw [List.eq_nil_of_length_eq_zero h0];rfl⟩
 ·refine Or.inr ⟨g,cap,by rw [List.length_map],hg,(Array.getElem?_eq_some_iff.1 hblk).1,fun j hj => ?_⟩
  rw [Go.Sort.size_flatK] at hj
  have hn : j / 2 < xs.length:=by simp at hj;omega
  obtain ⟨ad,ha,hx⟩:=edge_cells (Kd.R_reads' h).2.2 (by omega)
  cases ha
  obtain ⟨x0,x1⟩:=hx (j / 2) hn
  rw [Go.Sort.get_flatK _ _ _ _ hj,get_bang _ _ (by simpa using hn),List.getElem_map]
  have ea : ∀ m,(⟨g,0,none⟩ : Addr).add m = ⟨g,m,none⟩:=fun m => by unfold Addr.add;split <;> simp_all
  rw [ea] at x0 x1
  refine ⟨?_,by simp [World.frozen?,hblk]⟩
  rcases Nat.mod_two_eq_zero_or_one j with e|e
  ·rw [e,show 0 + j = j / 2 * 2 + 0 by omega]
   exact x0
  ·rw [e,show 0 + j = j / 2 * 2 + 1 by omega]
   exact x1
theorem reps_flat {w : World} {base : Nat} {ok : Nat → Prop} : ∀ l : List (Int × Int),Reps (Kd.M k67 w base ok) 2 (l.map ofR) (flatR l)
 | [] => Reps.none _ _
 | x :: l => by
  obtain ⟨h1,h2⟩:=reps_flat (w:=w) (base:=base) (ok:=ok) l
  refine ⟨by rw [flatR_len,List.length_map],fun j p hj => ?_⟩
  match j,hj with
  | 0,hj =>
   obtain rfl : ofR x = p:=by simpa using hj
   exact ⟨[.int .u64 x.1],[.int .u64 x.2],rfl,rfl,rfl⟩
  | j + 1,hj =>
   have h:=h2 j p (by simpa using hj)
   have e : ((flatR (x :: l)).drop ((j + 1) * 2)).take 2 = ((flatR l).drop (j * 2)).take 2:=by
    rw [show (j + 1) * 2 = j * 2 + 1 + 1 by omega]
    rfl
   rw [e]
   exact h
theorem ranges_of {w : World} {base : Nat} {v : Value} {rs : List (Int × Int)} (h : w.ownsRow base 67 2 v rs.length (flatR rs)) : Kd.R k67 67 w base (fun _ => True) v (rs.map ofR) :=
 ⟨fun _ _ => trivial,flatR rs,by rw [List.length_map];exact h,reps_flat rs⟩
set_option maxHeartbeats 1000000 in
set_option maxRecDepth 100000 in
theorem grow_e (n : Nat) (hn : n ≤ 1099511627776) (w : World) :
  Calls Try.prog 54 #[.slice none 0 0,.int .i64 (n : Int)] w fun e w' => ∃ v,e = .returned v ∧ Kd.R k90 90 w' w.heap.size (fun _ => True) v [] ∧ Below w.heap.size w w':=by
 rcases Nat.eq_zero_or_pos n with rfl|h0
 ·have h00 : decide ((0 : Int) < 0) = false:=rfl
  go_enter Try.func54,Try.ntmps54
  go_wp2
  go_ret
  exact ⟨_,rfl,Kd.R_nil _ _ _ _ _,Below.refl _ _⟩
 ·have hi5 : (Try.prog.info? 90).map (fun i => (i.zero,i.size,i.bytes)) = some (some (.agg #[.int .u64 0,.int .i64 0]),2,16):=by kernel_rfl
  obtain ⟨i0,hi,hz0,hz1,hz2⟩:=info_parts hi5
  have hcap:=grownCap_ge w n 0 90
  have hcap2:=grownCap_le_maxLen w n 0 90 (by simp only [maxLen];omega)
  have hrun:=Lib.run_append_nil_zeros (P:=Try.prog) w 82 3 82 90 i0 (.agg #[.int .u64 0,.int .i64 0]) .i64 .i64 Try.underlying82 Try.underlying3 hi hz0 n h0 (by omega) (by omega) (by rw [hz2];omega)
  have HO : Aside0 ((w.drew.alloc (.cells (Builtin.zeroCells (Value.agg #[.int .u64 0,.int .i64 0]).cells n ++ Builtin.zeroCells (Value.agg #[.int .u64 0,.int .i64 0]).cells (grownCap w n 0 90 - n)) 90)).ownsRow w.heap.size 90 2 (.slice (some ⟨w.heap.size,0,none⟩) 0 (grownCap w n 0 90)) 0 []) :=
   ⟨⟨rfl,Or.inr ⟨w.heap.size,grownCap w n 0 90,_,rfl,Nat.le_refl _,heap_alloc_new w.drew _,Nat.zero_le _,hcap2,by simp [Builtin.zeroCells,Value.cells];omega,by simp⟩⟩⟩
  have HB : Aside0 (Below w.heap.size w (w.drew.alloc (.cells (Builtin.zeroCells (Value.agg #[.int .u64 0,.int .i64 0]).cells n ++ Builtin.zeroCells (Value.agg #[.int .u64 0,.int .i64 0]).cells (grownCap w n 0 90 - n)) 90))):=⟨ba_ (pd_ (Below.refl _ _)) _⟩
  generalize w.drew.alloc _ = w1 at hrun HO HB
  generalize grownCap w n 0 90 = cap at hrun HO hcap hcap2
  have hn0 : (0 : Int) < (n : Int):=by omega
  go_enter Try.func54,Try.ntmps54
  go_wp2_with (at_builtin;refine Lib.wpList_append_run _ rfl _ _ _ _ rfl _ _ rfl rfl _ _ hrun ?_)
  go_ret
  exact ⟨_,rfl,⟨fun _ _ => trivial,[],HO.out,Reps.none _ _⟩,HB.out⟩
set_option maxHeartbeats 2000000 in
set_option maxRecDepth 100000 in
theorem concat_e2 (gq : Nat) (A1 A2 : Option Addr) (c1 c2 : Nat) (l1 l2 : List S90) (w : World) (hq0 : w.cell? ⟨gq,0,none⟩ = some (.slice A1 l1.length c1)) (hq1 : w.cell? ⟨gq,1,none⟩ = some (.slice A2 l2.length c2))
  (hr1 : Kd.C k90 w A1 l1.length l1) (hr2 : Kd.C k90 w A2 l2.length l2) (hl : l1.length + l2.length ≤ 549755813888) :
  Calls Try.prog 49 #[.slice (some ⟨gq,0,none⟩) 2 2] w fun e w' => ∃ v,e = .returned v ∧ Kd.R k90 90 w' w.heap.size (fun _ => True) v (l1 ++ l2) ∧ Below w.heap.size w w':=by
 have HP:=am_ hr1
 have HR:=am_ hr2
 clear hr1 hr2
 have hne : ((l1.length : Int) + (l2.length : Int)) = ((l1.length + l2.length : Nat) : Int):=by omega
 have HE:=am_ hne
 clear hne
 go_enter Try.func49,Try.ntmps49
 go_wp2
 refine wp_loop_rounds 3 ?_
 rw [rounds_succ]
 go_wp2
 rw [rounds_succ]
 go_wp2
 rw [rounds_succ]
 go_wp2_with fail
 rw [HE.out]
 refine (grow_e (l1.length + l2.length) (by omega) w).mono ?_
 rintro e w1 ⟨v1,rfl,ho,hb⟩
 have HB1:=am_ hb
 have hq0':=pw_cell_below hb hq0
 have hq1':=pw_cell_below hb hq1
 have HP1:=am_ (Kd.C_below HP.out hb)
 have HO1:=am_ ho
 have hbs:=hb.size
 have HQ1:=am_ hq1
 clear ho hb hq0 hq1 HP
 go_wp2_with fail
 refine wp_loop_rounds 3 ?_
 rw [rounds_succ]
 go_wp2_with (at_builtin;refine Kd.R_append_rows k90 (w0:=w) w.heap.size rfl _ _ 82 90 (.agg #[.int .u64 0,.int .i64 0]) 16 rfl Try.underlying82 (by kernel_rfl) rfl (by decide) (by decide) _ [] l1 _ _ _ (fun _ => True) (fun _ => False) rfl rfl HO1.out HP1.out (fun _ _ h => h) (fun _ h => h.elim) (fun _ _ => trivial) HB1.out hbs (by simp;omega) ?_;intro v2 w2 ho hb _ _;have HO2:=am_ ho;have HB2:=am_ hb;clear ho hb)
 clear hq0' hq1' HP1 HO1 HB1 hbs
 have hq1':=pw_cell_below HB2.out HQ1.out
 have HR2:=am_ (Kd.C_below HR.out HB2.out)
 have hbs:=HB2.out.size
 rw [rounds_succ]
 go_wp2_with (at_builtin;refine Kd.R_append_rows k90 (w0:=w) w.heap.size rfl _ _ 82 90 (.agg #[.int .u64 0,.int .i64 0]) 16 rfl Try.underlying82 (by kernel_rfl) rfl (by decide) (by decide) _ ([] ++ l1) l2 _ _ _ (fun _ => True) (fun _ => False) rfl rfl HO2.out HR2.out (fun _ _ h => h) (fun _ h => h.elim) (fun _ _ => trivial) HB2.out hbs (by simp;omega) ?_;intro v3 w3 ho hb _ _;have HO3:=am_ ho;have HB3:=am_ hb;clear ho hb)
 clear hq1' HR2 HO2 HB2 hbs
 rw [rounds_succ]
 obtain ⟨A',c',hv,hl',hC⟩:=Kd.R_reads HO3.out
 subst hv
 clear hC
 go_wp2
 go_ret
 exact ⟨_,rfl,HO3.out,HB3.out⟩
set_option maxHeartbeats 2000000 in
set_option maxRecDepth 100000 in
theorem concat_e1 (gq : Nat) (A1 : Option Addr) (c1 : Nat) (l1 : List S90) (w : World) (hq0 : w.cell? ⟨gq,0,none⟩ = some (.slice A1 l1.length c1))
  (hr1 : Kd.C k90 w A1 l1.length l1) (hl : l1.length ≤ 549755813888) :
  Calls Try.prog 49 #[.slice (some ⟨gq,0,none⟩) 1 1] w fun e w' => ∃ v,e = .returned v ∧ Kd.R k90 90 w' w.heap.size (fun _ => True) v l1 ∧ Below w.heap.size w w':=by
 have HP:=am_ hr1
 clear hr1
 go_enter Try.func49,Try.ntmps49
 go_wp2
 refine wp_loop_rounds 2 ?_
 rw [rounds_succ]
 go_wp2
 rw [rounds_succ]
 go_wp2_with fail
 refine (grow_e l1.length (by omega) w).mono ?_
 rintro e w1 ⟨v1,rfl,ho,hb⟩
 have HB1:=am_ hb
 have hq0':=pw_cell_below hb hq0
 have HP1:=am_ (Kd.C_below HP.out hb)
 have HO1:=am_ ho
 have hbs:=hb.size
 clear ho hb hq0 HP
 go_wp2_with fail
 refine wp_loop_rounds 2 ?_
 rw [rounds_succ]
 go_wp2_with (at_builtin;refine Kd.R_append_rows k90 (w0:=w) w.heap.size rfl _ _ 82 90 (.agg #[.int .u64 0,.int .i64 0]) 16 rfl Try.underlying82 (by kernel_rfl) rfl (by decide) (by decide) _ [] l1 _ _ _ (fun _ => True) (fun _ => False) rfl rfl HO1.out HP1.out (fun _ _ h => h) (fun _ h => h.elim) (fun _ _ => trivial) HB1.out hbs (by simp;omega) ?_;intro v2 w2 ho hb _ _;have HO2:=am_ ho;have HB2:=am_ hb;clear ho hb)
 clear hq0' HP1 HO1 HB1 hbs
 rw [rounds_succ]
 obtain ⟨A',c',hv,hl',hC⟩:=Kd.R_reads HO2.out
 subst hv
 clear hC
 go_wp2
 go_ret
 exact ⟨_,rfl,HO2.out,HB2.out⟩
/-- ranges.swept of two rows of edges,of one. -/
theorem swept2 (wf : Nat) (wantF : Int → Bool) (ew : ∀ args w,(callFunc wf args).run Try.prog w = .ok (.enter wf args) w) (hwant : ∀ x W,Calls Try.prog wf #[.int .i64 x] W fun e w' => e = .returned (.bool (wantF x)) ∧ w' = W)
  (gq : Nat) (A1 A2 : Option Addr) (c1 c2 : Nat) (l1 l2 : List S90) (w : World) (hq0 : w.cell? ⟨gq,0,none⟩ = some (.slice A1 l1.length c1)) (hq1 : w.cell? ⟨gq,1,none⟩ = some (.slice A2 l2.length c2))
  (hr1 : Kd.C k90 w A1 l1.length l1) (hr2 : Kd.C k90 w A2 l2.length l2) (hl : l1.length + l2.length ≤ 549755813888) :
  Calls Try.prog 41 #[.func (.func wf) #[] #[],.slice (some ⟨gq,0,none⟩) 2 2] w fun e w' => ∃ v,e = .returned v ∧ Kd.R k67 67 w' w.heap.size (fun _ => True) v (sweepF wantF (l1 ++ l2)) ∧ Below w.heap.size w w':=by
 have hb : Below w.heap.size w (w.alloc (.cells #[.slice none 0 0] 27)):=ba_ (Below.refl _ _) _
 have hz : (w.alloc (.cells #[.slice none 0 0] 27)).heap.size = w.heap.size + 1:=by simp
 have hc:=concat_e2 gq A1 A2 c1 c2 l1 l2 (w.alloc (.cells #[.slice none 0 0] 27)) (pw_cell_below hb hq0) (pw_cell_below hb hq1) (Kd.C_below hr1 hb) (Kd.C_below hr2 hb) hl
 refine (swept_c wf wantF ew hwant _ _ _ ((l1 ++ l2).map toE) w (by rw [List.length_map,List.length_append];omega) (hc.mono ?_)).mono ?_
 ·rintro e w' ⟨v,rfl,ho,hb⟩
  rw [hz] at ho hb
  exact ⟨v,rfl,edges_of ho,hb⟩
 ·rintro e w' ⟨v,rfl,ho,hb⟩
  exact ⟨v,rfl,ranges_of ho,hb⟩
theorem swept1 (wf : Nat) (wantF : Int → Bool) (ew : ∀ args w,(callFunc wf args).run Try.prog w = .ok (.enter wf args) w) (hwant : ∀ x W,Calls Try.prog wf #[.int .i64 x] W fun e w' => e = .returned (.bool (wantF x)) ∧ w' = W)
  (gq : Nat) (A1 : Option Addr) (c1 : Nat) (l1 : List S90) (w : World) (hq0 : w.cell? ⟨gq,0,none⟩ = some (.slice A1 l1.length c1))
  (hr1 : Kd.C k90 w A1 l1.length l1) (hl : l1.length ≤ 549755813888) :
  Calls Try.prog 41 #[.func (.func wf) #[] #[],.slice (some ⟨gq,0,none⟩) 1 1] w fun e w' => ∃ v,e = .returned v ∧ Kd.R k67 67 w' w.heap.size (fun _ => True) v (sweepF wantF l1) ∧ Below w.heap.size w w':=by
 have hb : Below w.heap.size w (w.alloc (.cells #[.slice none 0 0] 27)):=ba_ (Below.refl _ _) _
 have hz : (w.alloc (.cells #[.slice none 0 0] 27)).heap.size = w.heap.size + 1:=by simp
 have hc:=concat_e1 gq A1 c1 l1 (w.alloc (.cells #[.slice none 0 0] 27)) (pw_cell_below hb hq0) (Kd.C_below hr1 hb) hl
 refine (swept_c wf wantF ew hwant _ _ _ (l1.map toE) w (by rw [List.length_map];omega) (hc.mono ?_)).mono ?_
 ·rintro e w' ⟨v,rfl,ho,hb⟩
  rw [hz] at ho hb
  exact ⟨v,rfl,edges_of ho,hb⟩
 ·rintro e w' ⟨v,rfl,ho,hb⟩
  exact ⟨v,rfl,ranges_of ho,hb⟩
def wantPos (x : Int) : Bool:=decide (0 < x)
def wantIs (n : Int) (x : Int) : Bool:=x == n
theorem one_range {w : World} {g : Nat} {a b : Int} {T : TypeId} (h : w.heap[g]? = some (.cells #[.int .u64 a,.int .u64 b] T (0,0))) : Kd.C k67 w (some ⟨g,0,none⟩) 1 [(⟨a,b⟩ : S67)] :=
 ⟨rfl,by decide,fun _ => ⟨_,rfl,fun j x hj => by
  have hj0 : j = 0:=by
   have:=(List.getElem?_eq_some_iff.1 hj).1
   simp at this
   omega
  subst hj0
  obtain rfl : (⟨a,b⟩ : S67) = x:=by simpa using hj
  refine ⟨[.int .u64 a,.int .u64 b],rfl,⟨[.int .u64 a],[.int .u64 b],rfl,rfl,rfl⟩,fun i u hu => ?_⟩
  have e : (⟨g,0,none⟩ : Addr).add (0 * 2 + i) = ⟨g,i,none⟩:=by unfold Addr.add;split <;> simp_all
  show w.cell? ((⟨g,0,none⟩ : Addr).add (0 * 2 + i)) = _
  rw [e,kc_ h i]
  simpa using hu⟩⟩
/-- What a boxed range holds. -/
def RS (g : Nat) (a b : Int) (w : World) : Prop:=w.cell? ⟨g,0,none⟩ = some (.int .u64 a) ∧ w.cell? ⟨g,1,none⟩ = some (.int .u64 b)
theorem RS.below {g : Nat} {a b : Int} {w w' : World} (h : RS g a b w) (hb : Below w.heap.size w w') : RS g a b w':=⟨up_ hb h.1,up_ hb h.2⟩
theorem RS.alloc {g : Nat} {a b : Int} {w : World} (h : RS g a b w) (o : Obj) : RS g a b (w.alloc o):=h.below (ba_ (Below.refl _ _) _)
theorem RS.new (w : World) (a b : Int) (T : TypeId) : RS w.heap.size a b (w.alloc (.cells #[.int .u64 a,.int .u64 b] T)).drew :=
 ⟨(kc_ (kd_ (heap_alloc_new w _)) 0).trans rfl,(kc_ (kd_ (heap_alloc_new w _)) 1).trans rfl⟩

/-! ### ranges_Add: function 30 -/
def ranges_Add.f (k : Nat) (l0 : List S67) (a1_0 a1_1 : Int) : Option (List S67):=(ranges_edges.f k l0 1).bind fun e1 => (ranges_edges.f k [⟨a1_0,a1_1⟩] 1).bind fun e2 => if e1.length + e2.length ≤ 549755813888 then some (sweepF wantPos (e1 ++ e2)) else none
theorem ranges_Add.mono : ∀ l0 a1_0 a1_1 k,LeO (ranges_Add.f k l0 a1_0 a1_1) (ranges_Add.f (k + 1) l0 a1_0 a1_1):=fun l0 a1_0 a1_1 k => LeO.bind (ranges_edges.mono l0 1 k) fun _ => LeO.bind (ranges_edges.mono _ 1 k) fun _ => LeO.refl _
set_option maxHeartbeats 400000 in
theorem ranges_Add_w (x : Int) (W : World) : Calls Try.prog 42 #[.int .i64 x] W fun e w' => e = .returned (.bool (wantPos x)) ∧ w' = W:=by
 obtain ⟨b,hb⟩ : ∃ b,wantPos x = b:=⟨_,rfl⟩
 rw [hb]
 have hb2 : decide (0 < x) = b:=hb
 clear hb
 go_enter Try.func42,Try.ntmps42
 go_wp2
 go_ret
 exact ⟨by first|rfl|rw [hb2]|simp [hb2],rfl⟩
theorem ranges_Add_e : ∀ args w,(callFunc 42 args).run Try.prog w = .ok (.enter 42 args) w:=enters_of Try.func42 (by kernel_rfl) rfl
set_option maxHeartbeats 4000000 in
set_option maxRecDepth 100000 in
theorem ranges_Add.calls (k : Nat) (A0 : Option Addr) (c0 : Nat) (l0 : List S67) (a1_0 a1_1 : Int) (r : List S67) (w : World) (hr0 : Kd.C k67 w A0 l0.length l0) (hc0 : l0.length ≤ c0) (h : ranges_Add.f k l0 a1_0 a1_1 = some r) :
  Calls Try.prog 30 #[.slice A0 l0.length c0,.agg #[.int .u64 a1_0,.int .u64 a1_1]] w fun e w' => ∃ v0_ : Value,e = .returned (v0_) ∧ Kd.R k67 67 w' w.heap.size (fun _ => True) v0_ r ∧ Below w.heap.size w w':=by
 obtain ⟨e1,h1,h2⟩:=Option.bind_eq_some_iff.1 h
 obtain ⟨e2,h4,h3⟩:=Option.bind_eq_some_iff.1 h2
 by_cases c : e1.length + e2.length ≤ 549755813888
 ·rw [if_pos c] at h3
  obtain rfl:=Option.some.inj h3
  have H1:=am_ h1
  have H2:=am_ h4
  have HR:=am_ hr0
  have HC:=am_ hc0
  clear h h1 h2 h4 h3 hr0 hc0
  have HBx : Aside0 (Below w.heap.size w (w.alloc (.cells #[.int .u64 a1_0,.int .u64 a1_1] 67)).drew):=⟨pd_ (ba_ (Below.refl _ _) _)⟩
  have HSx : RS w.heap.size a1_0 a1_1 (w.alloc (.cells #[.int .u64 a1_0,.int .u64 a1_1] 67)).drew:=RS.new w a1_0 a1_1 67
  have HSY:=am_ HSx
  clear HSx
  go_enter Try.func30,Try.ntmps30
  go_wp2_with fail
  refine start_ (n:=8) (S:=RS w.heap.size a1_0 a1_1) (ds:=[]) #[F_,F_,F_,F_,F_,F_,F_,F_] (by kernel_rfl) rfl rfl HSY.out (fun hHeld => ?_)
  generalize (w.alloc (.cells #[.int .u64 a1_0,.int .u64 a1_1] 67)).drew = w1 at hHeld HBx HSY ⊢
  clear HSY
  refine pure_ (i:=0) (N:=some 5) (v:=?_) (a':=?_) #[T_,F_,F_,F_,F_,F_,F_,F_] rfl rfl (by kernel_rfl) (fun _ _ _ h => h) (Or.inl ⟨by rfl,?_⟩) ?_ ?_
  rotate_left;(intro w';go_simp;with_reducible rfl);rotate_left;(simp only [Act.put,ps_,i64_w,i32_w];rfl)
  refine take_ (i:=2) (N:=some 7) (v:=?_) (a':=?_) #[T_,F_,T_,F_,F_,F_,F_,F_] rfl rfl (by kernel_rfl) (fun _ _ _ h => h) (Or.inl ⟨by rfl,?_⟩) hHeld ?_ ?_
  rotate_left
  ·rintro w' ⟨s0,s1⟩
   go_simp
   with_reducible rfl
  rotate_left
  ·simp only [Act.put,ps_,i64_w,i32_w]
   rfl
  refine two_ (i:=1) (j:=3) (Ni:=some 6) (Nj:=some 8) #[T_,T_,T_,F_,F_,F_,F_,F_] #[T_,F_,T_,T_,F_,F_,F_,F_] rfl rfl rfl rfl (by kernel_rfl) (by decide) (by decide) (fun K hK => ?_) (fun K hK => ?_)
  ·skip
   refine goes_ (N:=some 6) Try.func43 (by kernel_rfl) rfl #[.slice A0 l0.length c0,.int .i64 1] (by rfl) rfl rfl (by (try simp only [List.map_toArray,List.map_cons,List.map_nil]);first|done|rfl) ?_
   refine (ranges_edges.calls k A0 c0 l0 1 e1 _ (Kd.C_below HR.out HBx.out) HC.out H1.out).mono ?_
   rintro e w2 ⟨v,rfl,ho,hb⟩
   obtain ⟨B1,d1,rfl,hl1,hC1⟩:=Kd.R_reads ho
   refine ⟨_,rfl,?_⟩
   have HB2:=am_ (below_step HBx.out hb)
   have HS2:=hHeld.below hb
   have HC1 : Aside0 (Kd.C k90 (w2.alloc (.cells #[.int .u64 a1_0,.int .u64 a1_1] 67)) B1 e1.length e1):=⟨Kd.C_below hC1 (ba_ (Below.refl _ _) _)⟩
   clear ho hC1 hl1 hb hHeld
   refine hK.out _ _ (HS2) (fun hHeld => ?_)
   clear hK K
   refine norm_ (a':=?_) ?_ ?_
   rotate_left
   ·show Act.put _ (some 6) _ = _
    simp only [Act.put,ps_,i64_w,i32_w]
    rfl
   clear HS2
   refine one_ (i:=3) (N:=some 8) #[T_,T_,T_,T_,F_,F_,F_,F_] rfl rfl (by kernel_rfl) (by decide) (fun K hK => ?_)
   refine value_ (w1:=?_) (v:=?_) (by rfl) rfl ?_ ?_
   rotate_left 2
   ·go_simp
    constructor
    ·rfl
    ·rfl
   refine hK.out _ _ (hHeld.alloc _) (fun hHeld => ?_)
   clear hK K
   refine norm_ (a':=?_) ?_ ?_
   rotate_left
   ·show Act.put _ (some 8) _ = _
    simp only [Act.put,ps_,i64_w,i32_w]
    rfl
   have HO : Aside0 (Kd.C k67 (w2.alloc (.cells #[.int .u64 a1_0,.int .u64 a1_1] 67)) (some ⟨w2.heap.size,0,none⟩) 1 [(⟨a1_0,a1_1⟩ : S67)]):=⟨one_range (heap_alloc_new w2 _)⟩
   have HB3:=am_ (ba_ HB2.out (.cells #[.int .u64 a1_0,.int .u64 a1_1] 67))
   refine one_ (i:=4) (N:=some 9) #[T_,T_,T_,T_,T_,F_,F_,F_] rfl rfl (by kernel_rfl) (by decide) (fun K hK => ?_)
   refine goes_ (N:=some 9) Try.func43 (by kernel_rfl) rfl #[.slice (some ⟨w2.heap.size,0,none⟩) 1 1,.int .i64 1] (by rfl) rfl rfl (by (try simp only [List.map_toArray,List.map_cons,List.map_nil]);first|done|rfl) ?_
   refine (ranges_edges.calls k _ 1 [(⟨a1_0,a1_1⟩ : S67)] 1 e2 _ HO.out (Nat.le_refl _) H2.out).mono ?_
   rintro e w8 ⟨v,rfl,ho,hb⟩
   obtain ⟨B2,d2,rfl,hl2,hC3⟩:=Kd.R_reads ho
   refine ⟨_,rfl,?_⟩
   have HC4:=am_ (Kd.C_below HC1.out hb)
   have HC5:=am_ hC3
   have HB8:=am_ (below_step HB3.out hb)
   have HS8:=hHeld.below hb
   clear ho hC3 hl2 hb hHeld
   refine hK.out _ _ (HS8) (fun hHeld => ?_)
   clear hK K
   refine norm_ (a':=?_) ?_ ?_
   rotate_left
   ·show Act.put _ (some 9) _ = _
    simp only [Act.put,ps_,i64_w,i32_w]
    rfl
   clear HS8
   refine one_ (i:=5) (N:=some 10) #[T_,T_,T_,T_,T_,T_,F_,F_] rfl rfl (by kernel_rfl) (by decide) (fun K hK => ?_)
   refine value_ (w1:=?_) (v:=?_) (by rfl) rfl ?_ ?_
   rotate_left 2
   ·go_simp
    constructor
    ·rfl
    ·rfl
   refine hK.out _ _ (hHeld.alloc _) (fun hHeld => ?_)
   clear hK K
   refine norm_ (a':=?_) ?_ ?_
   rotate_left
   ·show Act.put _ (some 10) _ = _
    simp only [Act.put,ps_,i64_w,i32_w]
    rfl
   have hb2 : Below w8.heap.size w8 (w8.alloc (.cells #[.slice B1 e1.length d1,.slice B2 e2.length d2] 82)):=ba_ (Below.refl _ _) _
   have HS:=am_ (swept2 42 wantPos ranges_Add_e ranges_Add_w w8.heap.size B1 B2 d1 d2 e1 e2 (w8.alloc (.cells #[.slice B1 e1.length d1,.slice B2 e2.length d2] 82)) ((kc_ (heap_alloc_new w8 _) 0).trans rfl) ((kc_ (heap_alloc_new w8 _) 1).trans rfl) (Kd.C_below HC4.out hb2) (Kd.C_below HC5.out hb2) c)
   have HB9:=am_ (ba_ HB8.out (.cells #[.slice B1 e1.length d1,.slice B2 e2.length d2] 82))
   clear hb2
   refine one_ (i:=6) (N:=some 11) #[T_,T_,T_,T_,T_,T_,T_,F_] rfl rfl (by kernel_rfl) (by decide) (fun K hK => ?_)
   refine goes_ (N:=some 11) Try.func41 (by kernel_rfl) rfl #[.func (.func 42) #[] #[],.slice (some ⟨w8.heap.size,0,none⟩) 2 2] (by rfl) rfl rfl (by (try simp only [List.map_toArray,List.map_cons,List.map_nil]);first|done|rfl) ?_
   refine HS.out.mono ?_
   rintro e w9 ⟨v,rfl,ho,hb⟩
   refine ⟨_,rfl,?_⟩
   have HO9:=am_ ho
   have HBZ:=am_ (below_step HB9.out hb)
   have HS9:=hHeld.below hb
   clear ho hb hHeld
   refine hK.out _ _ (HS9) (fun hHeld => ?_)
   clear hK K
   refine norm_ (a':=?_) ?_ ?_
   rotate_left
   ·show Act.put _ (some 11) _ = _
    simp only [Act.put,ps_,i64_w,i32_w]
    rfl
   clear HS9
   refine pure_ (i:=7) (N:=some 4) (v:=?_) (a':=?_) #[T_,T_,T_,T_,T_,T_,T_,T_] rfl rfl (by kernel_rfl) (fun _ _ _ h => h) (Or.inl ⟨by rfl,?_⟩) ?_ ?_
   rotate_left;(intro w';go_simp;with_reducible rfl);rotate_left;(simp only [Act.put,ps_,i64_w,i32_w];rfl)
   refine done_ (by kernel_rfl) ?_
   go_wp2
   go_ret
   exact ⟨_,rfl,Kd.R_lower HO9.out HB9.out.size,HBZ.out⟩
  ·skip
   refine value_ (w1:=?_) (v:=?_) (by rfl) rfl ?_ ?_
   rotate_left 2
   ·go_simp
    constructor
    ·rfl
    ·rfl
   refine hK.out _ _ (hHeld.alloc _) (fun hHeld => ?_)
   clear hK K
   refine norm_ (a':=?_) ?_ ?_
   rotate_left
   ·show Act.put _ (some 8) _ = _
    simp only [Act.put,ps_,i64_w,i32_w]
    rfl
   have HO0 : Aside0 (Kd.C k67 (w1.alloc (.cells #[.int .u64 a1_0,.int .u64 a1_1] 67)) (some ⟨w1.heap.size,0,none⟩) 1 [(⟨a1_0,a1_1⟩ : S67)]):=⟨one_range (heap_alloc_new w1 _)⟩
   have HB2:=am_ (ba_ HBx.out (.cells #[.int .u64 a1_0,.int .u64 a1_1] 67))
   refine one_ (i:=1) (N:=some 6) #[T_,T_,T_,T_,F_,F_,F_,F_] rfl rfl (by kernel_rfl) (by decide) (fun K hK => ?_)
   refine goes_ (N:=some 6) Try.func43 (by kernel_rfl) rfl #[.slice A0 l0.length c0,.int .i64 1] (by rfl) rfl rfl (by (try simp only [List.map_toArray,List.map_cons,List.map_nil]);first|done|rfl) ?_
   refine (ranges_edges.calls k A0 c0 l0 1 e1 _ (Kd.C_below HR.out HB2.out) HC.out H1.out).mono ?_
   rintro e w2 ⟨v,rfl,ho,hb⟩
   obtain ⟨B1,d1,rfl,hl1,hC1⟩:=Kd.R_reads ho
   refine ⟨_,rfl,?_⟩
   have HB3:=am_ (below_step HB2.out hb)
   have HS2:=hHeld.below hb
   have HC1:=am_ hC1
   have HO:=am_ (Kd.C_below HO0.out hb)
   clear ho hC1 hl1 hb hHeld
   refine hK.out _ _ (HS2) (fun hHeld => ?_)
   clear hK K
   refine norm_ (a':=?_) ?_ ?_
   rotate_left
   ·show Act.put _ (some 6) _ = _
    simp only [Act.put,ps_,i64_w,i32_w]
    rfl
   clear HS2
   refine one_ (i:=4) (N:=some 9) #[T_,T_,T_,T_,T_,F_,F_,F_] rfl rfl (by kernel_rfl) (by decide) (fun K hK => ?_)
   refine goes_ (N:=some 9) Try.func43 (by kernel_rfl) rfl #[.slice (some ⟨w1.heap.size,0,none⟩) 1 1,.int .i64 1] (by rfl) rfl rfl (by (try simp only [List.map_toArray,List.map_cons,List.map_nil]);first|done|rfl) ?_
   refine (ranges_edges.calls k _ 1 [(⟨a1_0,a1_1⟩ : S67)] 1 e2 _ HO.out (Nat.le_refl _) H2.out).mono ?_
   rintro e w8 ⟨v,rfl,ho,hb⟩
   obtain ⟨B2,d2,rfl,hl2,hC3⟩:=Kd.R_reads ho
   refine ⟨_,rfl,?_⟩
   have HC4:=am_ (Kd.C_below HC1.out hb)
   have HC5:=am_ hC3
   have HB8:=am_ (below_step HB3.out hb)
   have HS8:=hHeld.below hb
   clear ho hC3 hl2 hb hHeld
   refine hK.out _ _ (HS8) (fun hHeld => ?_)
   clear hK K
   refine norm_ (a':=?_) ?_ ?_
   rotate_left
   ·show Act.put _ (some 9) _ = _
    simp only [Act.put,ps_,i64_w,i32_w]
    rfl
   clear HS8
   refine one_ (i:=5) (N:=some 10) #[T_,T_,T_,T_,T_,T_,F_,F_] rfl rfl (by kernel_rfl) (by decide) (fun K hK => ?_)
   refine value_ (w1:=?_) (v:=?_) (by rfl) rfl ?_ ?_
   rotate_left 2
   ·go_simp
    constructor
    ·rfl
    ·rfl
   refine hK.out _ _ (hHeld.alloc _) (fun hHeld => ?_)
   clear hK K
   refine norm_ (a':=?_) ?_ ?_
   rotate_left
   ·show Act.put _ (some 10) _ = _
    simp only [Act.put,ps_,i64_w,i32_w]
    rfl
   have hb2 : Below w8.heap.size w8 (w8.alloc (.cells #[.slice B1 e1.length d1,.slice B2 e2.length d2] 82)):=ba_ (Below.refl _ _) _
   have HS:=am_ (swept2 42 wantPos ranges_Add_e ranges_Add_w w8.heap.size B1 B2 d1 d2 e1 e2 (w8.alloc (.cells #[.slice B1 e1.length d1,.slice B2 e2.length d2] 82)) ((kc_ (heap_alloc_new w8 _) 0).trans rfl) ((kc_ (heap_alloc_new w8 _) 1).trans rfl) (Kd.C_below HC4.out hb2) (Kd.C_below HC5.out hb2) c)
   have HB9:=am_ (ba_ HB8.out (.cells #[.slice B1 e1.length d1,.slice B2 e2.length d2] 82))
   clear hb2
   refine one_ (i:=6) (N:=some 11) #[T_,T_,T_,T_,T_,T_,T_,F_] rfl rfl (by kernel_rfl) (by decide) (fun K hK => ?_)
   refine goes_ (N:=some 11) Try.func41 (by kernel_rfl) rfl #[.func (.func 42) #[] #[],.slice (some ⟨w8.heap.size,0,none⟩) 2 2] (by rfl) rfl rfl (by (try simp only [List.map_toArray,List.map_cons,List.map_nil]);first|done|rfl) ?_
   refine HS.out.mono ?_
   rintro e w9 ⟨v,rfl,ho,hb⟩
   refine ⟨_,rfl,?_⟩
   have HO9:=am_ ho
   have HBZ:=am_ (below_step HB9.out hb)
   have HS9:=hHeld.below hb
   clear ho hb hHeld
   refine hK.out _ _ (HS9) (fun hHeld => ?_)
   clear hK K
   refine norm_ (a':=?_) ?_ ?_
   rotate_left
   ·show Act.put _ (some 11) _ = _
    simp only [Act.put,ps_,i64_w,i32_w]
    rfl
   clear HS9
   refine pure_ (i:=7) (N:=some 4) (v:=?_) (a':=?_) #[T_,T_,T_,T_,T_,T_,T_,T_] rfl rfl (by kernel_rfl) (fun _ _ _ h => h) (Or.inl ⟨by rfl,?_⟩) ?_ ?_
   rotate_left;(intro w';go_simp;with_reducible rfl);rotate_left;(simp only [Act.put,ps_,i64_w,i32_w];rfl)
   refine done_ (by kernel_rfl) ?_
   go_wp2
   go_ret
   exact ⟨_,rfl,Kd.R_lower HO9.out HB9.out.size,HBZ.out⟩
 ·rw [if_neg c] at h3
  exact absurd h3 (by simp)

end Go.Proofs.Ytocagkmnefkniaa.PSqx
