-- printed for this claim by a program of the claim (wip/tools/pp.py over the kit's print)
import Derived.Test.YtjpafikgbnloaaaDoorPHdtx0
import Derived.Test.YtjpafikgbnloaaaDoorPHdtx5
import Derived.Test.YtjpafikgbnloaaaDoorPHdtx12
import Derived.Test.YtjpafikgbnloaaaDoorPHdtx13
namespace Go.Proofs.YtjpafikgbnloaaaDoor.PHdt
open Go.RowKit Go.Proofs.YtjpafikgbnloaaaDoorW.PrintWords Go.Proofs.YtjpafikgbnloaaaDoorW.PrintLast Go.Proofs.YtjpafikgbnloaaaDoorW.PrintMore
attribute [local go_sem] max2_int min2_int max_two min_two max_three min_three max_four min_four   -- for this text's walks alone
set_option linter.unusedVariables false
set_option linter.unusedSimpArgs false

attribute [local go_sem] isSome_setCell_
/-! ### dominoref04_Get: function 15 -/
def gZ : Bool × Bool × Bool × Int × Int × ByteArray × ByteArray × ByteArray × Int × Int × Int × ByteArray × Int:=(false,false,false,0,0,(⟨#[]⟩ : ByteArray),(⟨#[]⟩ : ByteArray),(⟨#[]⟩ : ByteArray),0,0,0,(⟨#[]⟩ : ByteArray),40)
def gEnd (k : Nat) (b : Int) (lg sp : Bool) (ty ver : Int) (d c tk : ByteArray) (len : Int) (r : ByteArray) : Option (Bool × Bool × Bool × Int × Int × ByteArray × ByteArray × ByteArray × Int × Int × Int × ByteArray × Int) :=
 if (r.size : Int) < 1 + b % 4 ∨ (if lg = true then b / 4 % 4 else b / 8 % 4) ≠ 0 then some gZ else (dominoref01_Back.f k (r.extract 0 (1 + b % 4).toNat)).bind fun v => some (lg,sp,!lg && (b / 4 % 2 == 1),ty,ver,d,c,tk,len,1 + b % 4,v,r.extract (1 + b % 4).toNat r.size,0)
def dominoref04_Get.f (k : Nat) (a0 : ByteArray) : Option (Bool × Bool × Bool × Int × Int × ByteArray × ByteArray × ByteArray × Int × Int × Int × ByteArray × Int):=(dominoref04_ahead.f k a0).bind fun x => match x with
 | (lg,sp,_,ty,ver,d,c,tk,len,_,_,r,is) => if is = true then (if 0 < a0.size ∧ r.size ≤ 9223372036854775807 then gEnd k (bt a0 0) lg sp ty ver d c tk len r else none) else some gZ
theorem gEnd.mono (b : Int) (lg sp : Bool) (ty ver : Int) (d c tk : ByteArray) (len : Int) (r : ByteArray) (k : Nat) : LeO (gEnd k b lg sp ty ver d c tk len r) (gEnd (k + 1) b lg sp ty ver d c tk len r):=LeO.ite (LeO.refl _) (LeO.bind (dominoref01_Back.mono _ _) fun _ => LeO.refl _)
theorem dominoref04_Get.mono : ∀ a0 k,LeO (dominoref04_Get.f k a0) (dominoref04_Get.f (k + 1) a0):=fun a0 k => LeO.bind (dominoref04_ahead.mono a0 k) fun ⟨_,_,_,_,_,_,_,_,_,_,_,_,_⟩ => LeO.ite (LeO.ite (gEnd.mono _ _ _ _ _ _ _ _ _ _ _) (LeO.refl _)) (LeO.refl _)
theorem g_bits (a0 : ByteArray) : Int.tmod (bt a0 0) 4 = bt a0 0 % 4 ∧ (Int.tdiv (bt a0 0) 4 % 256 % 2 = bt a0 0 / 4 % 2 ∧ Int.tdiv (bt a0 0) 4 % 2 = bt a0 0 / 4 % 2) ∧ (Int.tdiv (bt a0 0) 8 % 256 % 4 = bt a0 0 / 8 % 4 ∧ Int.tdiv (bt a0 0) 8 % 4 = bt a0 0 / 8 % 4) ∧ (Int.tdiv (bt a0 0) 4 % 256 % 4 = bt a0 0 / 4 % 4 ∧ Int.tdiv (bt a0 0) 4 % 4 = bt a0 0 / 4 % 4) ∧ wrap64 (1 + wrap64 (bt a0 0 % 4)) = 1 + bt a0 0 % 4 ∧ wrap64 (1 + bt a0 0 % 4) = 1 + bt a0 0 % 4 ∧ wrap64 (bt a0 0 % 4) = bt a0 0 % 4:=by
 have hr:=bt_range a0 0
 rw [Int.tdiv_eq_ediv_of_nonneg hr.1,Int.tdiv_eq_ediv_of_nonneg hr.1,Int.tmod_eq_emod_of_nonneg hr.1]
 have w (n : Int) (a : 0 ≤ n) (b : n < 9223372036854775808) : wrap64 n = n:=by unfold wrap64;omega
 refine ⟨rfl,⟨by omega,rfl⟩,⟨by omega,rfl⟩,⟨by omega,rfl⟩,?_,w _ (by omega) (by omega),w _ (by omega) (by omega)⟩
 rw [w (bt a0 0 % 4) (by omega) (by omega),w _ (by omega) (by omega)]
set_option maxHeartbeats 8000000 in
set_option maxRecDepth 100000 in
theorem dominoref04_Get.calls (k : Nat) (a0 : ByteArray) (r1 : Bool) (r2 : Bool) (r3 : Bool) (r4 : Int) (r5 : Int) (r6 : ByteArray) (r7 : ByteArray) (r8 : ByteArray) (r9 : Int) (r10 : Int) (r11 : Int) (r12 : ByteArray) (r13 : Int) (w : World) (h : dominoref04_Get.f k a0 = some (r1,r2,r3,r4,r5,r6,r7,r8,r9,r10,r11,r12,r13)) :
  Calls Tryd.prog 15 #[.string a0] w fun e w' => e = .returned (.tuple #[.agg #[.bool r1,.bool r2,.bool r3,.int .i64 r4,.int .u32 r5,.string r6,.string r7,.string r8,.int .u64 r9,.int .i64 r10,.int .u64 r11],.string r12,.int .i64 r13]) ∧ Below w.heap.size w w':=by
 obtain ⟨⟨lg,sp,ph,ty,ver,d,c,tk,len,wi,nu,r,is⟩,ha,h⟩:=Option.bind_eq_some_iff.1 h
 dsimp only at h
 have HF:=am_ h
 have HA:=am_ ha
 have hu28:=Tryd.underlying28
 clear h ha
 go_enter Tryd.func15,Tryd.ntmps15
 go_wp2_with (((with_reducible refine gate_dst (N:=2) rfl ?_);refine box_event ?hg (N:=2) ?hd (cs:=kk0_) (t:=28) ?hr ?_;(case hd => rfl);(case hg => rfl);(case hr => first|(go_simp;done)|(go_simp;rfl));intro gb hg w1 hbox hb;have R1:=am_ hbox;have B1:=am_ (below_step (Below.refl _ _) hb);have GB:=am_ (Nat.le_of_eq hg.symm);clear hg hb hbox;obtain ⟨d0,d1,d2,d3,d4,d5,d6,d7,d8,d9,d10,df0,df1,df2,df3,df4,df5,df6,df7,df8,df9,df10⟩:=cs11f_ R1.out;skip))
 refine (dominoref04_ahead.calls k _ _ _ _ _ _ _ _ _ _ _ _ _ _ _ HA.out).mono ?_
 rintro e_ w1' ⟨rfl,hb_⟩
 have R1:=am_ (blk_below R1.out hb_)
 have B1:=am_ (below_step B1.out hb_)
 clear hb_ d0 df0 d1 df1 d2 df2 d3 df3 d4 df4 d5 df5 d6 df6 d7 df7 d8 df8 d9 df9 d10 df10
 have d0 : w1'.cell? ⟨gb,0,none⟩ = some (.bool false):=(kc_ R1.out 0).trans rfl
 have df0:=blk_frozen R1.out 0
 have d1 : w1'.cell? ⟨gb,1,none⟩ = some (.bool false):=(kc_ R1.out 1).trans rfl
 have df1:=blk_frozen R1.out 1
 have d2 : w1'.cell? ⟨gb,2,none⟩ = some (.bool false):=(kc_ R1.out 2).trans rfl
 have df2:=blk_frozen R1.out 2
 have d3 : w1'.cell? ⟨gb,3,none⟩ = some (.int .i64 0):=(kc_ R1.out 3).trans rfl
 have df3:=blk_frozen R1.out 3
 have d4 : w1'.cell? ⟨gb,4,none⟩ = some (.int .u32 0):=(kc_ R1.out 4).trans rfl
 have df4:=blk_frozen R1.out 4
 have d5 : w1'.cell? ⟨gb,5,none⟩ = some (.string (⟨#[]⟩ : ByteArray)):=(kc_ R1.out 5).trans rfl
 have df5:=blk_frozen R1.out 5
 have d6 : w1'.cell? ⟨gb,6,none⟩ = some (.string (⟨#[]⟩ : ByteArray)):=(kc_ R1.out 6).trans rfl
 have df6:=blk_frozen R1.out 6
 have d7 : w1'.cell? ⟨gb,7,none⟩ = some (.string (⟨#[]⟩ : ByteArray)):=(kc_ R1.out 7).trans rfl
 have df7:=blk_frozen R1.out 7
 have d8 : w1'.cell? ⟨gb,8,none⟩ = some (.int .u64 0):=(kc_ R1.out 8).trans rfl
 have df8:=blk_frozen R1.out 8
 have d9 : w1'.cell? ⟨gb,9,none⟩ = some (.int .i64 0):=(kc_ R1.out 9).trans rfl
 have df9:=blk_frozen R1.out 9
 have d10 : w1'.cell? ⟨gb,10,none⟩ = some (.int .u64 0):=(kc_ R1.out 10).trans rfl
 have df10:=blk_frozen R1.out 10
 go_upto_region 2 with (((with_reducible refine gate_dst (N:=5) rfl ?_);refine box_event ?hg (N:=5) ?hd (cs:=kk0_) (t:=28) ?hr ?_;(case hd => rfl);(case hg => rfl);(case hr => first|(go_simp;done)|(go_simp;rfl));intro gh hg w2 hbox hb;have R2:=am_ (blk_below R1.out hb);have H2:=am_ hbox;have B2:=am_ (below_step B1.out hb);have GH:=am_ (show w.heap.size ≤ gh from Nat.le_trans B1.out.size (Nat.le_of_eq hg.symm));have n1 : gb ≠ gh:=Nat.ne_of_lt (Nat.lt_of_lt_of_le (blk_lt R1.out) (Nat.le_of_eq hg.symm));have n2 : gh ≠ gb:=n1.symm;clear hg hb hbox d0 df0 d1 df1 d2 df2 d3 df3 d4 df4 d5 df5 d6 df6 d7 df7 d8 df8 d9 df9 d10 df10;obtain ⟨d0,d1,d2,d3,d4,d5,d6,d7,d8,d9,d10,df0,df1,df2,df3,df4,df5,df6,df7,df8,df9,df10⟩:=cs11f_ R2.out;obtain ⟨e0,e1,e2,e3,e4,e5,e6,e7,e8,e9,e10,ef0,ef1,ef2,ef3,ef4,ef5,ef6,ef7,ef8,ef9,ef10⟩:=cs11f_ H2.out;skip))
 have h_:=(blk_put (cs':=#[.bool lg,.bool sp,.bool ph,.int .i64 ty,.int .u32 ver,.string d,.string c,.string tk,.int .u64 len,.int .i64 wi,.int .u64 nu]) (blk_put (cs':=#[.bool lg,.bool sp,.bool ph,.int .i64 ty,.int .u32 ver,.string d,.string c,.string tk,.int .u64 len,.int .i64 wi,.int .u64 0]) (blk_put (cs':=#[.bool lg,.bool sp,.bool ph,.int .i64 ty,.int .u32 ver,.string d,.string c,.string tk,.int .u64 len,.int .i64 0,.int .u64 0]) (blk_put (cs':=#[.bool lg,.bool sp,.bool ph,.int .i64 ty,.int .u32 ver,.string d,.string c,.string tk,.int .u64 0,.int .i64 0,.int .u64 0]) (blk_put (cs':=#[.bool lg,.bool sp,.bool ph,.int .i64 ty,.int .u32 ver,.string d,.string c,.string (⟨#[]⟩ : ByteArray),.int .u64 0,.int .i64 0,.int .u64 0]) (blk_put (cs':=#[.bool lg,.bool sp,.bool ph,.int .i64 ty,.int .u32 ver,.string d,.string (⟨#[]⟩ : ByteArray),.string (⟨#[]⟩ : ByteArray),.int .u64 0,.int .i64 0,.int .u64 0]) (blk_put (cs':=#[.bool lg,.bool sp,.bool ph,.int .i64 ty,.int .u32 ver,.string (⟨#[]⟩ : ByteArray),.string (⟨#[]⟩ : ByteArray),.string (⟨#[]⟩ : ByteArray),.int .u64 0,.int .i64 0,.int .u64 0]) (blk_put (cs':=#[.bool lg,.bool sp,.bool ph,.int .i64 ty,.int .u32 0,.string (⟨#[]⟩ : ByteArray),.string (⟨#[]⟩ : ByteArray),.string (⟨#[]⟩ : ByteArray),.int .u64 0,.int .i64 0,.int .u64 0]) (blk_put (cs':=#[.bool lg,.bool sp,.bool ph,.int .i64 0,.int .u32 0,.string (⟨#[]⟩ : ByteArray),.string (⟨#[]⟩ : ByteArray),.string (⟨#[]⟩ : ByteArray),.int .u64 0,.int .i64 0,.int .u64 0]) (blk_put (cs':=#[.bool lg,.bool sp,.bool false,.int .i64 0,.int .u32 0,.string (⟨#[]⟩ : ByteArray),.string (⟨#[]⟩ : ByteArray),.string (⟨#[]⟩ : ByteArray),.int .u64 0,.int .i64 0,.int .u64 0]) (blk_put (cs':=#[.bool lg,.bool false,.bool false,.int .i64 0,.int .u32 0,.string (⟨#[]⟩ : ByteArray),.string (⟨#[]⟩ : ByteArray),.string (⟨#[]⟩ : ByteArray),.int .u64 0,.int .i64 0,.int .u64 0]) H2.out 0 (.bool lg) rfl) 1 (.bool sp) rfl) 2 (.bool ph) rfl) 3 (.int .i64 ty) rfl) 4 (.int .u32 ver) rfl) 5 (.string d) rfl) 6 (.string c) rfl) 7 (.string tk) rfl) 8 (.int .u64 len) rfl) 9 (.int .i64 wi) rfl) 10 (.int .u64 nu) rfl)
 have b_:=(bs_ (j:=10) (v:=.int .u64 nu) (bs_ (j:=9) (v:=.int .i64 wi) (bs_ (j:=8) (v:=.int .u64 len) (bs_ (j:=7) (v:=.string tk) (bs_ (j:=6) (v:=.string c) (bs_ (j:=5) (v:=.string d) (bs_ (j:=4) (v:=.int .u32 ver) (bs_ (j:=3) (v:=.int .i64 ty) (bs_ (j:=2) (v:=.bool ph) (bs_ (j:=1) (v:=.bool sp) (bs_ (j:=0) (v:=.bool lg) B2.out GH.out) GH.out) GH.out) GH.out) GH.out) GH.out) GH.out) GH.out) GH.out) GH.out) GH.out)
 have r_:=(blk_far (p:=⟨gh,10,none⟩) (blk_far (p:=⟨gh,9,none⟩) (blk_far (p:=⟨gh,8,none⟩) (blk_far (p:=⟨gh,7,none⟩) (blk_far (p:=⟨gh,6,none⟩) (blk_far (p:=⟨gh,5,none⟩) (blk_far (p:=⟨gh,4,none⟩) (blk_far (p:=⟨gh,3,none⟩) (blk_far (p:=⟨gh,2,none⟩) (blk_far (p:=⟨gh,1,none⟩) (blk_far (p:=⟨gh,0,none⟩) R2.out n1 (.bool lg)) n1 (.bool sp)) n1 (.bool ph)) n1 (.int .i64 ty)) n1 (.int .u32 ver)) n1 (.string d)) n1 (.string c)) n1 (.string tk)) n1 (.int .u64 len)) n1 (.int .i64 wi)) n1 (.int .u64 nu))
 clear d0 df0 d1 df1 d2 df2 d3 df3 d4 df4 d5 df5 d6 df6 d7 df7 d8 df8 d9 df9 d10 df10 e0 ef0 e1 ef1 e2 ef2 e3 ef3 e4 ef4 e5 ef5 e6 ef6 e7 ef7 e8 ef8 e9 ef9 e10 ef10
 generalize (((((((((((w2.setCell ⟨gh,0,none⟩ (.bool lg)).setCell ⟨gh,1,none⟩ (.bool sp)).setCell ⟨gh,2,none⟩ (.bool ph)).setCell ⟨gh,3,none⟩ (.int .i64 ty)).setCell ⟨gh,4,none⟩ (.int .u32 ver)).setCell ⟨gh,5,none⟩ (.string d)).setCell ⟨gh,6,none⟩ (.string c)).setCell ⟨gh,7,none⟩ (.string tk)).setCell ⟨gh,8,none⟩ (.int .u64 len)).setCell ⟨gh,9,none⟩ (.int .i64 wi)).setCell ⟨gh,10,none⟩ (.int .u64 nu)) = w3 at h_ b_ r_ ⊢
 have H3:=am_ h_
 have B3:=am_ b_
 have R3:=am_ r_
 clear h_ b_ r_
 obtain ⟨d0,d1,d2,d3,d4,d5,d6,d7,d8,d9,d10,df0,df1,df2,df3,df4,df5,df6,df7,df8,df9,df10⟩:=cs11f_ R3.out
 obtain ⟨e0,e1,e2,e3,e4,e5,e6,e7,e8,e9,e10,ef0,ef1,ef2,ef3,ef4,ef5,ef6,ef7,ef8,ef9,ef10⟩:=cs11f_ H3.out
 cases is with
 | false =>
  have hf:=HF.out
  clear HF
  rw [if_neg (by decide)] at hf
  have HF:=am_ hf
  clear hf
  have hf:=HF.out
  clear HF
  simp only [gZ,Option.some.injEq,Prod.mk.injEq] at hf
  obtain ⟨rfl,rfl,rfl,rfl,rfl,rfl,rfl,rfl,rfl,rfl,rfl,rfl,rfl⟩:=hf
  (try clear HF)
  go_wp2
  refine bodyPost_ret (results_ctt rfl _ _ gb 28 kk0_ (0,0) _ rfl (blk_put (cs':=kk0_) (blk_put (cs':=kk0_) (blk_put (cs':=kk0_) (blk_put (cs':=kk0_) (blk_put (cs':=kk0_) (blk_put (cs':=kk0_) (blk_put (cs':=kk0_) (blk_put (cs':=kk0_) (blk_put (cs':=kk0_) (blk_put (cs':=kk0_) (blk_put (cs':=kk0_) R3.out 0 (.bool false) rfl) 1 (.bool false) rfl) 2 (.bool false) rfl) 3 (.int .i64 0) rfl) 4 (.int .u32 0) rfl) 5 (.string (⟨#[]⟩ : ByteArray)) rfl) 6 (.string (⟨#[]⟩ : ByteArray)) rfl) 7 (.string (⟨#[]⟩ : ByteArray)) rfl) 8 (.int .u64 0) rfl) 9 (.int .i64 0) rfl) 10 (.int .u64 0) rfl) Tryd.underlying28 rfl (by kernel_rfl)) rfl ?_
  exact ⟨rfl,(bs_ (bs_ (bs_ (bs_ (bs_ (bs_ (bs_ (bs_ (bs_ (bs_ (bs_ B3.out GB.out) GB.out) GB.out) GB.out) GB.out) GB.out) GB.out) GB.out) GB.out) GB.out) GB.out)⟩
 | true =>
  have hf:=HF.out
  clear HF
  rw [if_pos rfl] at hf
  by_cases hq : 0 < a0.size ∧ r.size ≤ 9223372036854775807
  rotate_left
  ·rw [if_neg hq] at hf
   simp at hf
  rw [if_pos hq] at hf
  obtain ⟨q10,hs3⟩:=hq
  have HF:=am_ hf
  have hx10 : ∀ h : 0 < a0.size,((a0[0]'h).toNat : Int) = bt a0 0:=bt_at a0 0
  have qi : (0 < a0.size) = True:=eq_true q10
  obtain ⟨k1,⟨k2,k3⟩,⟨k4,k5⟩,⟨k6,k7⟩,k8,k9,k10⟩:=g_bits a0
  have hr:=bt_range a0 0
  have u1 : 0 ≤ 1 + bt a0 0 % 4:=by omega
  have u2 : 1 + bt a0 0 % 4 ≤ 4:=by omega
  have p1 : (Int.tdiv (bt a0 0) 4 % 256 % 2 == 1) = (bt a0 0 / 4 % 2 == 1):=by rw [k2]
  have p2 : (Int.tdiv (bt a0 0) 4 % 2 == 1) = (bt a0 0 / 4 % 2 == 1):=by rw [k3]
  clear hf k2 k3
  generalize hW : 1 + bt a0 0 % 4 = W at k8 k9 u1 u2
  generalize hP : (bt a0 0 / 4 % 2 == 1) = P at p1 p2
  cases lg with
  | true =>
   by_cases c1 : (r.size : Int) < W
   ·have hf:=HF.out
    clear HF
    unfold gEnd at hf
    rw [hW,hP,if_pos (Or.inl c1)] at hf
    have HF:=am_ hf
    have g1 : ((r.size : Int) < W) = True:=eq_true c1
    have g2 : decide ((r.size : Int) < W) = true:=decide_eq_true c1
    clear hf c1
    have hf:=HF.out
    clear HF
    simp only [gZ,Option.some.injEq,Prod.mk.injEq] at hf
    obtain ⟨rfl,rfl,rfl,rfl,rfl,rfl,rfl,rfl,rfl,rfl,rfl,rfl,rfl⟩:=hf
    (try clear HF)
    go_wp2
    refine bodyPost_ret (results_ctt rfl _ _ gb 28 kk0_ (0,0) _ rfl (blk_put (cs':=kk0_) (blk_put (cs':=kk0_) (blk_put (cs':=kk0_) (blk_put (cs':=kk0_) (blk_put (cs':=kk0_) (blk_put (cs':=kk0_) (blk_put (cs':=kk0_) (blk_put (cs':=kk0_) (blk_put (cs':=kk0_) (blk_put (cs':=kk0_) (blk_put (cs':=kk0_) (blk_far (p:=⟨gh,2,none⟩) (blk_far (p:=⟨gh,9,none⟩) R3.out n1 _) n1 _) 0 (.bool false) rfl) 1 (.bool false) rfl) 2 (.bool false) rfl) 3 (.int .i64 0) rfl) 4 (.int .u32 0) rfl) 5 (.string (⟨#[]⟩ : ByteArray)) rfl) 6 (.string (⟨#[]⟩ : ByteArray)) rfl) 7 (.string (⟨#[]⟩ : ByteArray)) rfl) 8 (.int .u64 0) rfl) 9 (.int .i64 0) rfl) 10 (.int .u64 0) rfl) Tryd.underlying28 rfl (by kernel_rfl)) rfl ?_
    exact ⟨rfl,(bs_ (bs_ (bs_ (bs_ (bs_ (bs_ (bs_ (bs_ (bs_ (bs_ (bs_ (bs_ (bs_ B3.out GH.out) GH.out) GB.out) GB.out) GB.out) GB.out) GB.out) GB.out) GB.out) GB.out) GB.out) GB.out) GB.out)⟩
   have g1 : ((r.size : Int) < W) = False:=eq_false c1
   have g2 : decide ((r.size : Int) < W) = false:=decide_eq_false c1
   by_cases c2 : bt a0 0 / 4 % 4 = 0
   rotate_left
   ·have hf:=HF.out
    clear HF
    unfold gEnd at hf
    rw [hW,hP,if_pos (Or.inr (show (if true = true then bt a0 0 / 4 % 4 else bt a0 0 / 8 % 4) ≠ 0 from c2))] at hf
    have HF:=am_ hf
    have g3 : (Int.tdiv (bt a0 0) 4 % 256 % 4 != 0) = true:=by rw [k6];exact bne_iff_ne.mpr c2
    have g4 : (Int.tdiv (bt a0 0) 4 % 4 != 0) = true:=by rw [k7];exact bne_iff_ne.mpr c2
    have g5 : (bt a0 0 / 4 % 4 != 0) = true:=bne_iff_ne.mpr c2
    have g6 : (bt a0 0 / 4 % 4 == 0) = false:=beq_eq_false_iff_ne.mpr c2
    have g7 : (bt a0 0 / 4 % 4 = 0) = False:=eq_false c2
    clear hf c1 c2 k4 k5 k6 k7
    have hf:=HF.out
    clear HF
    simp only [gZ,Option.some.injEq,Prod.mk.injEq] at hf
    obtain ⟨rfl,rfl,rfl,rfl,rfl,rfl,rfl,rfl,rfl,rfl,rfl,rfl,rfl⟩:=hf
    (try clear HF)
    go_wp2
    refine bodyPost_ret (results_ctt rfl _ _ gb 28 kk0_ (0,0) _ rfl (blk_put (cs':=kk0_) (blk_put (cs':=kk0_) (blk_put (cs':=kk0_) (blk_put (cs':=kk0_) (blk_put (cs':=kk0_) (blk_put (cs':=kk0_) (blk_put (cs':=kk0_) (blk_put (cs':=kk0_) (blk_put (cs':=kk0_) (blk_put (cs':=kk0_) (blk_put (cs':=kk0_) (blk_far (p:=⟨gh,2,none⟩) (blk_far (p:=⟨gh,9,none⟩) R3.out n1 _) n1 _) 0 (.bool false) rfl) 1 (.bool false) rfl) 2 (.bool false) rfl) 3 (.int .i64 0) rfl) 4 (.int .u32 0) rfl) 5 (.string (⟨#[]⟩ : ByteArray)) rfl) 6 (.string (⟨#[]⟩ : ByteArray)) rfl) 7 (.string (⟨#[]⟩ : ByteArray)) rfl) 8 (.int .u64 0) rfl) 9 (.int .i64 0) rfl) 10 (.int .u64 0) rfl) Tryd.underlying28 rfl (by kernel_rfl)) rfl ?_
    exact ⟨rfl,(bs_ (bs_ (bs_ (bs_ (bs_ (bs_ (bs_ (bs_ (bs_ (bs_ (bs_ (bs_ (bs_ B3.out GH.out) GH.out) GB.out) GB.out) GB.out) GB.out) GB.out) GB.out) GB.out) GB.out) GB.out) GB.out) GB.out)⟩
   have g3 : (Int.tdiv (bt a0 0) 4 % 256 % 4 != 0) = false:=by rw [k6,c2];rfl
   have g4 : (Int.tdiv (bt a0 0) 4 % 4 != 0) = false:=by rw [k7,c2];rfl
   have g9 : (bt a0 0 / 4 % 4 != 0) = false:=by rw [c2];rfl
   have g10 : (bt a0 0 / 4 % 4 == 0) = true:=by rw [c2];rfl
   have g11 : (bt a0 0 / 4 % 4 = 0) = True:=eq_true c2
   have hf:=HF.out
   clear HF
   unfold gEnd at hf
   rw [hW,hP,if_neg (fun h => h.elim c1 (fun h => h c2))] at hf
   obtain ⟨v,hv,hf⟩:=Option.bind_eq_some_iff.1 hf
   have HF:=am_ hf
   have HV:=am_ hv
   have g5 : (W ≤ (r.size : Int)) = True:=eq_true (by omega)
   have g6 : decide (W ≤ (r.size : Int)) = true:=decide_eq_true (by omega)
   have g7 : (0 ≤ W) = True:=eq_true u1
   have g8 : decide (0 ≤ W) = true:=decide_eq_true u1
   clear hf hv c1 c2 k4 k5 k6 k7
   go_wp2_with fail
   have h_:=(blk_put (cs':=#[.bool true,.bool sp,.bool false,.int .i64 ty,.int .u32 ver,.string d,.string c,.string tk,.int .u64 len,.int .i64 W,.int .u64 nu]) (blk_put (cs':=#[.bool true,.bool sp,.bool ph,.int .i64 ty,.int .u32 ver,.string d,.string c,.string tk,.int .u64 len,.int .i64 W,.int .u64 nu]) H3.out 9 (.int .i64 W) rfl) 2 (.bool false) rfl)
   have b_:=(bs_ (j:=2) (v:=.bool false) (bs_ (j:=9) (v:=.int .i64 W) B3.out GH.out) GH.out)
   have r_:=(blk_far (p:=⟨gh,2,none⟩) (blk_far (p:=⟨gh,9,none⟩) R3.out n1 (.int .i64 W)) n1 (.bool false))
   clear d0 df0 d1 df1 d2 df2 d3 df3 d4 df4 d5 df5 d6 df6 d7 df7 d8 df8 d9 df9 d10 df10 e0 ef0 e1 ef1 e2 ef2 e3 ef3 e4 ef4 e5 ef5 e6 ef6 e7 ef7 e8 ef8 e9 ef9 e10 ef10
   generalize ((w3.setCell ⟨gh,9,none⟩ (.int .i64 W)).setCell ⟨gh,2,none⟩ (.bool false)) = w4 at h_ b_ r_ ⊢
   have H4:=am_ h_
   have B4:=am_ b_
   have R4:=am_ r_
   clear h_ b_ r_
   refine (dominoref01_Back.calls k _ _ _ HV.out).mono ?_
   rintro e_ w_ ⟨rfl,hd_⟩
   obtain ⟨m_,rfl⟩:=hd_
   have H5:=am_ (kn_ H4.out m_)
   have R5:=am_ (kn_ R4.out m_)
   have B5:=am_ (pn_ B4.out m_)
   generalize w4.drewN m_ = w5 at H5 R5 B5 ⊢
   obtain ⟨d0,d1,d2,d3,d4,d5,d6,d7,d8,d9,d10,df0,df1,df2,df3,df4,df5,df6,df7,df8,df9,df10⟩:=cs11f_ R5.out
   obtain ⟨e0,e1,e2,e3,e4,e5,e6,e7,e8,e9,e10,ef0,ef1,ef2,ef3,ef4,ef5,ef6,ef7,ef8,ef9,ef10⟩:=cs11f_ H5.out
   go_upto_region 9 with fail
   have h_:=(blk_put (cs':=#[.bool true,.bool sp,.bool false,.int .i64 ty,.int .u32 ver,.string d,.string c,.string tk,.int .u64 len,.int .i64 W,.int .u64 v]) H5.out 10 (.int .u64 v) rfl)
   have b_:=(bs_ (j:=10) (v:=.int .u64 v) B5.out GH.out)
   have r_:=(blk_far (p:=⟨gh,10,none⟩) R5.out n1 (.int .u64 v))
   clear d0 df0 d1 df1 d2 df2 d3 df3 d4 df4 d5 df5 d6 df6 d7 df7 d8 df8 d9 df9 d10 df10 e0 ef0 e1 ef1 e2 ef2 e3 ef3 e4 ef4 e5 ef5 e6 ef6 e7 ef7 e8 ef8 e9 ef9 e10 ef10
   generalize (w5.setCell ⟨gh,10,none⟩ (.int .u64 v)) = w6 at h_ b_ r_ ⊢
   have H6:=am_ h_
   have B6:=am_ b_
   have R6:=am_ r_
   clear h_ b_ r_
   have H7:=am_ (kd_ H6.out)
   have R7:=am_ (kd_ R6.out)
   have B7:=am_ (pd_ B6.out)
   have hf:=HF.out
   clear HF
   simp only [Option.some.injEq,Prod.mk.injEq] at hf
   obtain ⟨rfl,rfl,rfl,rfl,rfl,rfl,rfl,rfl,rfl,rfl,rfl,rfl,rfl⟩:=hf
   refine start_ (n:=8) (S:=fun W' => W'.cell? ⟨gh,0,none⟩ = some (.bool true) ∧ W'.cell? ⟨gh,1,none⟩ = some (.bool sp) ∧ W'.cell? ⟨gh,2,none⟩ = some (.bool false) ∧ W'.cell? ⟨gh,3,none⟩ = some (.int .i64 ty) ∧ W'.cell? ⟨gh,4,none⟩ = some (.int .u32 ver) ∧ W'.cell? ⟨gh,5,none⟩ = some (.string d) ∧ W'.cell? ⟨gh,6,none⟩ = some (.string c) ∧ W'.cell? ⟨gh,7,none⟩ = some (.string tk) ∧ W'.cell? ⟨gh,8,none⟩ = some (.int .u64 len) ∧ W'.cell? ⟨gh,9,none⟩ = some (.int .i64 W) ∧ W'.cell? ⟨gh,10,none⟩ = some (.int .u64 v)) (ds:=[]) #[F_,F_,F_,F_,F_,F_,F_,F_] (by kernel_rfl) rfl rfl ⟨((kc_ H7.out 0).trans rfl),((kc_ H7.out 1).trans rfl),((kc_ H7.out 2).trans rfl),((kc_ H7.out 3).trans rfl),((kc_ H7.out 4).trans rfl),((kc_ H7.out 5).trans rfl),((kc_ H7.out 6).trans rfl),((kc_ H7.out 7).trans rfl),((kc_ H7.out 8).trans rfl),((kc_ H7.out 9).trans rfl),((kc_ H7.out 10).trans rfl)⟩ (fun hHeld => ?_)
   generalize w6.drew = w7 at H7 R7 B7 hHeld ⊢
   refine pure_ (i:=1) (N:=some 70) (v:=?_) (a':=?_) #[F_,T_,F_,F_,F_,F_,F_,F_] rfl rfl (by kernel_rfl) (fun _ _ _ h => h) (Or.inl ⟨by rfl,?_⟩) ?_ ?_
   rotate_left;(intro w';go_simp;with_reducible rfl);rotate_left;(simp only [Act.put,ps_,i64_w,i32_w];rfl)
   refine pure_ (i:=2) (N:=some 71) (v:=?_) (a':=?_) #[F_,T_,T_,F_,F_,F_,F_,F_] rfl rfl (by kernel_rfl) (fun _ _ _ h => h) (Or.inl ⟨by rfl,?_⟩) ?_ ?_
   rotate_left;(intro w';go_simp;with_reducible rfl);rotate_left;(simp only [Act.put,ps_,i64_w,i32_w];rfl)
   refine take_ (i:=0) (N:=some 69) (v:=?_) (a':=?_) #[T_,T_,T_,F_,F_,F_,F_,F_] rfl rfl (by kernel_rfl) (fun _ _ _ h => h) (Or.inl ⟨by rfl,?_⟩) hHeld ?_ ?_
   rotate_left
   ·rintro w' ⟨s0,s1,s2,s3,s4,s5,s6,s7,s8,s9,s10⟩
    go_simp
    with_reducible rfl
   rotate_left
   ·simp only [Act.put,ps_,i64_w,i32_w]
    rfl
   refine take_ (i:=3) (N:=some 72) (v:=?_) (a':=?_) #[T_,T_,T_,T_,F_,F_,F_,F_] rfl rfl (by kernel_rfl) (fun _ _ _ h => h) (Or.inl ⟨by rfl,?_⟩) hHeld ?_ ?_
   rotate_left
   ·rintro w' ⟨s0,s1,s2,s3,s4,s5,s6,s7,s8,s9,s10⟩
    go_simp
    with_reducible rfl
   rotate_left
   ·simp only [Act.put,ps_,i64_w,i32_w]
    rfl
   refine pure_ (i:=4) (N:=some 73) (v:=?_) (a':=?_) #[T_,T_,T_,T_,T_,F_,F_,F_] rfl rfl (by kernel_rfl) (fun _ _ _ h => h) (Or.inl ⟨by rfl,?_⟩) ?_ ?_
   rotate_left;(intro w';go_simp;with_reducible rfl);rotate_left;(simp only [Act.put,ps_,i64_w,i32_w];rfl)
   obtain ⟨d0,d1,d2,d3,d4,d5,d6,d7,d8,d9,d10,df0,df1,df2,df3,df4,df5,df6,df7,df8,df9,df10⟩:=cs11f_ R7.out
   refine one_ (i:=5) (N:=none) #[T_,T_,T_,T_,T_,T_,F_,F_] rfl rfl (by kernel_rfl) (by decide) (fun K hK => ?_)
   refine skip_ (w1:=?_) (by rfl) rfl ?_ ?_
   rotate_left
   ·go_simp
    rfl
   refine hK.out _ _ ⟨((cell_far (p:=⟨gb,_,none⟩) n2 _).trans ((cell_far (p:=⟨gb,_,none⟩) n2 _).trans ((cell_far (p:=⟨gb,_,none⟩) n2 _).trans ((cell_far (p:=⟨gb,_,none⟩) n2 _).trans ((cell_far (p:=⟨gb,_,none⟩) n2 _).trans ((cell_far (p:=⟨gb,_,none⟩) n2 _).trans ((cell_far (p:=⟨gb,_,none⟩) n2 _).trans ((cell_far (p:=⟨gb,_,none⟩) n2 _).trans ((cell_far (p:=⟨gb,_,none⟩) n2 _).trans ((cell_far (p:=⟨gb,_,none⟩) n2 _).trans ((cell_far (p:=⟨gb,_,none⟩) n2 _).trans hHeld.1))))))))))),((cell_far (p:=⟨gb,_,none⟩) n2 _).trans ((cell_far (p:=⟨gb,_,none⟩) n2 _).trans ((cell_far (p:=⟨gb,_,none⟩) n2 _).trans ((cell_far (p:=⟨gb,_,none⟩) n2 _).trans ((cell_far (p:=⟨gb,_,none⟩) n2 _).trans ((cell_far (p:=⟨gb,_,none⟩) n2 _).trans ((cell_far (p:=⟨gb,_,none⟩) n2 _).trans ((cell_far (p:=⟨gb,_,none⟩) n2 _).trans ((cell_far (p:=⟨gb,_,none⟩) n2 _).trans ((cell_far (p:=⟨gb,_,none⟩) n2 _).trans ((cell_far (p:=⟨gb,_,none⟩) n2 _).trans hHeld.2.1))))))))))),((cell_far (p:=⟨gb,_,none⟩) n2 _).trans ((cell_far (p:=⟨gb,_,none⟩) n2 _).trans ((cell_far (p:=⟨gb,_,none⟩) n2 _).trans ((cell_far (p:=⟨gb,_,none⟩) n2 _).trans ((cell_far (p:=⟨gb,_,none⟩) n2 _).trans ((cell_far (p:=⟨gb,_,none⟩) n2 _).trans ((cell_far (p:=⟨gb,_,none⟩) n2 _).trans ((cell_far (p:=⟨gb,_,none⟩) n2 _).trans ((cell_far (p:=⟨gb,_,none⟩) n2 _).trans ((cell_far (p:=⟨gb,_,none⟩) n2 _).trans ((cell_far (p:=⟨gb,_,none⟩) n2 _).trans hHeld.2.2.1))))))))))),((cell_far (p:=⟨gb,_,none⟩) n2 _).trans ((cell_far (p:=⟨gb,_,none⟩) n2 _).trans ((cell_far (p:=⟨gb,_,none⟩) n2 _).trans ((cell_far (p:=⟨gb,_,none⟩) n2 _).trans ((cell_far (p:=⟨gb,_,none⟩) n2 _).trans ((cell_far (p:=⟨gb,_,none⟩) n2 _).trans ((cell_far (p:=⟨gb,_,none⟩) n2 _).trans ((cell_far (p:=⟨gb,_,none⟩) n2 _).trans ((cell_far (p:=⟨gb,_,none⟩) n2 _).trans ((cell_far (p:=⟨gb,_,none⟩) n2 _).trans ((cell_far (p:=⟨gb,_,none⟩) n2 _).trans hHeld.2.2.2.1))))))))))),((cell_far (p:=⟨gb,_,none⟩) n2 _).trans ((cell_far (p:=⟨gb,_,none⟩) n2 _).trans ((cell_far (p:=⟨gb,_,none⟩) n2 _).trans ((cell_far (p:=⟨gb,_,none⟩) n2 _).trans ((cell_far (p:=⟨gb,_,none⟩) n2 _).trans ((cell_far (p:=⟨gb,_,none⟩) n2 _).trans ((cell_far (p:=⟨gb,_,none⟩) n2 _).trans ((cell_far (p:=⟨gb,_,none⟩) n2 _).trans ((cell_far (p:=⟨gb,_,none⟩) n2 _).trans ((cell_far (p:=⟨gb,_,none⟩) n2 _).trans ((cell_far (p:=⟨gb,_,none⟩) n2 _).trans hHeld.2.2.2.2.1))))))))))),((cell_far (p:=⟨gb,_,none⟩) n2 _).trans ((cell_far (p:=⟨gb,_,none⟩) n2 _).trans ((cell_far (p:=⟨gb,_,none⟩) n2 _).trans ((cell_far (p:=⟨gb,_,none⟩) n2 _).trans ((cell_far (p:=⟨gb,_,none⟩) n2 _).trans ((cell_far (p:=⟨gb,_,none⟩) n2 _).trans ((cell_far (p:=⟨gb,_,none⟩) n2 _).trans ((cell_far (p:=⟨gb,_,none⟩) n2 _).trans ((cell_far (p:=⟨gb,_,none⟩) n2 _).trans ((cell_far (p:=⟨gb,_,none⟩) n2 _).trans ((cell_far (p:=⟨gb,_,none⟩) n2 _).trans hHeld.2.2.2.2.2.1))))))))))),((cell_far (p:=⟨gb,_,none⟩) n2 _).trans ((cell_far (p:=⟨gb,_,none⟩) n2 _).trans ((cell_far (p:=⟨gb,_,none⟩) n2 _).trans ((cell_far (p:=⟨gb,_,none⟩) n2 _).trans ((cell_far (p:=⟨gb,_,none⟩) n2 _).trans ((cell_far (p:=⟨gb,_,none⟩) n2 _).trans ((cell_far (p:=⟨gb,_,none⟩) n2 _).trans ((cell_far (p:=⟨gb,_,none⟩) n2 _).trans ((cell_far (p:=⟨gb,_,none⟩) n2 _).trans ((cell_far (p:=⟨gb,_,none⟩) n2 _).trans ((cell_far (p:=⟨gb,_,none⟩) n2 _).trans hHeld.2.2.2.2.2.2.1))))))))))),((cell_far (p:=⟨gb,_,none⟩) n2 _).trans ((cell_far (p:=⟨gb,_,none⟩) n2 _).trans ((cell_far (p:=⟨gb,_,none⟩) n2 _).trans ((cell_far (p:=⟨gb,_,none⟩) n2 _).trans ((cell_far (p:=⟨gb,_,none⟩) n2 _).trans ((cell_far (p:=⟨gb,_,none⟩) n2 _).trans ((cell_far (p:=⟨gb,_,none⟩) n2 _).trans ((cell_far (p:=⟨gb,_,none⟩) n2 _).trans ((cell_far (p:=⟨gb,_,none⟩) n2 _).trans ((cell_far (p:=⟨gb,_,none⟩) n2 _).trans ((cell_far (p:=⟨gb,_,none⟩) n2 _).trans hHeld.2.2.2.2.2.2.2.1))))))))))),((cell_far (p:=⟨gb,_,none⟩) n2 _).trans ((cell_far (p:=⟨gb,_,none⟩) n2 _).trans ((cell_far (p:=⟨gb,_,none⟩) n2 _).trans ((cell_far (p:=⟨gb,_,none⟩) n2 _).trans ((cell_far (p:=⟨gb,_,none⟩) n2 _).trans ((cell_far (p:=⟨gb,_,none⟩) n2 _).trans ((cell_far (p:=⟨gb,_,none⟩) n2 _).trans ((cell_far (p:=⟨gb,_,none⟩) n2 _).trans ((cell_far (p:=⟨gb,_,none⟩) n2 _).trans ((cell_far (p:=⟨gb,_,none⟩) n2 _).trans ((cell_far (p:=⟨gb,_,none⟩) n2 _).trans hHeld.2.2.2.2.2.2.2.2.1))))))))))),((cell_far (p:=⟨gb,_,none⟩) n2 _).trans ((cell_far (p:=⟨gb,_,none⟩) n2 _).trans ((cell_far (p:=⟨gb,_,none⟩) n2 _).trans ((cell_far (p:=⟨gb,_,none⟩) n2 _).trans ((cell_far (p:=⟨gb,_,none⟩) n2 _).trans ((cell_far (p:=⟨gb,_,none⟩) n2 _).trans ((cell_far (p:=⟨gb,_,none⟩) n2 _).trans ((cell_far (p:=⟨gb,_,none⟩) n2 _).trans ((cell_far (p:=⟨gb,_,none⟩) n2 _).trans ((cell_far (p:=⟨gb,_,none⟩) n2 _).trans ((cell_far (p:=⟨gb,_,none⟩) n2 _).trans hHeld.2.2.2.2.2.2.2.2.2.1))))))))))),((cell_far (p:=⟨gb,_,none⟩) n2 _).trans ((cell_far (p:=⟨gb,_,none⟩) n2 _).trans ((cell_far (p:=⟨gb,_,none⟩) n2 _).trans ((cell_far (p:=⟨gb,_,none⟩) n2 _).trans ((cell_far (p:=⟨gb,_,none⟩) n2 _).trans ((cell_far (p:=⟨gb,_,none⟩) n2 _).trans ((cell_far (p:=⟨gb,_,none⟩) n2 _).trans ((cell_far (p:=⟨gb,_,none⟩) n2 _).trans ((cell_far (p:=⟨gb,_,none⟩) n2 _).trans ((cell_far (p:=⟨gb,_,none⟩) n2 _).trans ((cell_far (p:=⟨gb,_,none⟩) n2 _).trans hHeld.2.2.2.2.2.2.2.2.2.2)))))))))))⟩ (fun hHeld_ => ?_)
   clear hK K
   refine pure_ (i:=6) (N:=some 3) (v:=?_) (a':=?_) #[T_,T_,T_,T_,T_,T_,T_,F_] rfl rfl (by kernel_rfl) (fun _ _ _ h => h) (Or.inl ⟨by rfl,?_⟩) ?_ ?_
   rotate_left;(intro w';go_simp;with_reducible rfl);rotate_left;(simp only [Act.put,ps_,i64_w,i32_w];rfl)
   refine pure_ (i:=7) (N:=some 4) (v:=?_) (a':=?_) #[T_,T_,T_,T_,T_,T_,T_,T_] rfl rfl (by kernel_rfl) (fun _ _ _ h => h) (Or.inl ⟨by rfl,?_⟩) ?_ ?_
   rotate_left;(intro w';go_simp;with_reducible rfl);rotate_left;(simp only [Act.put,ps_,i64_w,i32_w];rfl)
   refine done_ (by kernel_rfl) ?_
   go_wp2
   refine bodyPost_ret (results_ctt rfl _ _ gb 28 #[.bool true,.bool sp,.bool false,.int .i64 ty,.int .u32 ver,.string d,.string c,.string tk,.int .u64 len,.int .i64 W,.int .u64 v] (0,0) _ rfl (blk_put (cs':=#[.bool true,.bool sp,.bool false,.int .i64 ty,.int .u32 ver,.string d,.string c,.string tk,.int .u64 len,.int .i64 W,.int .u64 v]) (blk_put (cs':=#[.bool true,.bool sp,.bool false,.int .i64 ty,.int .u32 ver,.string d,.string c,.string tk,.int .u64 len,.int .i64 W,.int .u64 0]) (blk_put (cs':=#[.bool true,.bool sp,.bool false,.int .i64 ty,.int .u32 ver,.string d,.string c,.string tk,.int .u64 len,.int .i64 0,.int .u64 0]) (blk_put (cs':=#[.bool true,.bool sp,.bool false,.int .i64 ty,.int .u32 ver,.string d,.string c,.string tk,.int .u64 0,.int .i64 0,.int .u64 0]) (blk_put (cs':=#[.bool true,.bool sp,.bool false,.int .i64 ty,.int .u32 ver,.string d,.string c,.string (⟨#[]⟩ : ByteArray),.int .u64 0,.int .i64 0,.int .u64 0]) (blk_put (cs':=#[.bool true,.bool sp,.bool false,.int .i64 ty,.int .u32 ver,.string d,.string (⟨#[]⟩ : ByteArray),.string (⟨#[]⟩ : ByteArray),.int .u64 0,.int .i64 0,.int .u64 0]) (blk_put (cs':=#[.bool true,.bool sp,.bool false,.int .i64 ty,.int .u32 ver,.string (⟨#[]⟩ : ByteArray),.string (⟨#[]⟩ : ByteArray),.string (⟨#[]⟩ : ByteArray),.int .u64 0,.int .i64 0,.int .u64 0]) (blk_put (cs':=#[.bool true,.bool sp,.bool false,.int .i64 ty,.int .u32 0,.string (⟨#[]⟩ : ByteArray),.string (⟨#[]⟩ : ByteArray),.string (⟨#[]⟩ : ByteArray),.int .u64 0,.int .i64 0,.int .u64 0]) (blk_put (cs':=#[.bool true,.bool sp,.bool false,.int .i64 0,.int .u32 0,.string (⟨#[]⟩ : ByteArray),.string (⟨#[]⟩ : ByteArray),.string (⟨#[]⟩ : ByteArray),.int .u64 0,.int .i64 0,.int .u64 0]) (blk_put (cs':=#[.bool true,.bool sp,.bool false,.int .i64 0,.int .u32 0,.string (⟨#[]⟩ : ByteArray),.string (⟨#[]⟩ : ByteArray),.string (⟨#[]⟩ : ByteArray),.int .u64 0,.int .i64 0,.int .u64 0]) (blk_put (cs':=kk1_) R7.out 0 (.bool true) rfl) 1 (.bool sp) rfl) 2 (.bool false) rfl) 3 (.int .i64 ty) rfl) 4 (.int .u32 ver) rfl) 5 (.string d) rfl) 6 (.string c) rfl) 7 (.string tk) rfl) 8 (.int .u64 len) rfl) 9 (.int .i64 W) rfl) 10 (.int .u64 v) rfl) Tryd.underlying28 rfl (by kernel_rfl)) rfl ?_
   exact ⟨rfl,(bs_ (bs_ (bs_ (bs_ (bs_ (bs_ (bs_ (bs_ (bs_ (bs_ (bs_ B7.out GB.out) GB.out) GB.out) GB.out) GB.out) GB.out) GB.out) GB.out) GB.out) GB.out) GB.out)⟩
  | false =>
   by_cases c1 : (r.size : Int) < W
   ·have hf:=HF.out
    clear HF
    unfold gEnd at hf
    rw [hW,hP,if_pos (Or.inl c1)] at hf
    have HF:=am_ hf
    have g1 : ((r.size : Int) < W) = True:=eq_true c1
    have g2 : decide ((r.size : Int) < W) = true:=decide_eq_true c1
    clear hf c1
    have hf:=HF.out
    clear HF
    simp only [gZ,Option.some.injEq,Prod.mk.injEq] at hf
    obtain ⟨rfl,rfl,rfl,rfl,rfl,rfl,rfl,rfl,rfl,rfl,rfl,rfl,rfl⟩:=hf
    (try clear HF)
    go_wp2
    refine bodyPost_ret (results_ctt rfl _ _ gb 28 kk0_ (0,0) _ rfl (blk_put (cs':=kk0_) (blk_put (cs':=kk0_) (blk_put (cs':=kk0_) (blk_put (cs':=kk0_) (blk_put (cs':=kk0_) (blk_put (cs':=kk0_) (blk_put (cs':=kk0_) (blk_put (cs':=kk0_) (blk_put (cs':=kk0_) (blk_put (cs':=kk0_) (blk_put (cs':=kk0_) (blk_far (p:=⟨gh,2,none⟩) (blk_far (p:=⟨gh,9,none⟩) R3.out n1 _) n1 _) 0 (.bool false) rfl) 1 (.bool false) rfl) 2 (.bool false) rfl) 3 (.int .i64 0) rfl) 4 (.int .u32 0) rfl) 5 (.string (⟨#[]⟩ : ByteArray)) rfl) 6 (.string (⟨#[]⟩ : ByteArray)) rfl) 7 (.string (⟨#[]⟩ : ByteArray)) rfl) 8 (.int .u64 0) rfl) 9 (.int .i64 0) rfl) 10 (.int .u64 0) rfl) Tryd.underlying28 rfl (by kernel_rfl)) rfl ?_
    exact ⟨rfl,(bs_ (bs_ (bs_ (bs_ (bs_ (bs_ (bs_ (bs_ (bs_ (bs_ (bs_ (bs_ (bs_ B3.out GH.out) GH.out) GB.out) GB.out) GB.out) GB.out) GB.out) GB.out) GB.out) GB.out) GB.out) GB.out) GB.out)⟩
   have g1 : ((r.size : Int) < W) = False:=eq_false c1
   have g2 : decide ((r.size : Int) < W) = false:=decide_eq_false c1
   by_cases c2 : bt a0 0 / 8 % 4 = 0
   rotate_left
   ·have hf:=HF.out
    clear HF
    unfold gEnd at hf
    rw [hW,hP,if_pos (Or.inr (show (if false = true then bt a0 0 / 4 % 4 else bt a0 0 / 8 % 4) ≠ 0 from c2))] at hf
    have HF:=am_ hf
    have g3 : (Int.tdiv (bt a0 0) 8 % 256 % 4 != 0) = true:=by rw [k4];exact bne_iff_ne.mpr c2
    have g4 : (Int.tdiv (bt a0 0) 8 % 4 != 0) = true:=by rw [k5];exact bne_iff_ne.mpr c2
    have g5 : (bt a0 0 / 8 % 4 != 0) = true:=bne_iff_ne.mpr c2
    have g6 : (bt a0 0 / 8 % 4 == 0) = false:=beq_eq_false_iff_ne.mpr c2
    have g7 : (bt a0 0 / 8 % 4 = 0) = False:=eq_false c2
    clear hf c1 c2 k4 k5 k6 k7
    have hf:=HF.out
    clear HF
    simp only [gZ,Option.some.injEq,Prod.mk.injEq] at hf
    obtain ⟨rfl,rfl,rfl,rfl,rfl,rfl,rfl,rfl,rfl,rfl,rfl,rfl,rfl⟩:=hf
    (try clear HF)
    go_wp2
    refine bodyPost_ret (results_ctt rfl _ _ gb 28 kk0_ (0,0) _ rfl (blk_put (cs':=kk0_) (blk_put (cs':=kk0_) (blk_put (cs':=kk0_) (blk_put (cs':=kk0_) (blk_put (cs':=kk0_) (blk_put (cs':=kk0_) (blk_put (cs':=kk0_) (blk_put (cs':=kk0_) (blk_put (cs':=kk0_) (blk_put (cs':=kk0_) (blk_put (cs':=kk0_) (blk_far (p:=⟨gh,2,none⟩) (blk_far (p:=⟨gh,9,none⟩) R3.out n1 _) n1 _) 0 (.bool false) rfl) 1 (.bool false) rfl) 2 (.bool false) rfl) 3 (.int .i64 0) rfl) 4 (.int .u32 0) rfl) 5 (.string (⟨#[]⟩ : ByteArray)) rfl) 6 (.string (⟨#[]⟩ : ByteArray)) rfl) 7 (.string (⟨#[]⟩ : ByteArray)) rfl) 8 (.int .u64 0) rfl) 9 (.int .i64 0) rfl) 10 (.int .u64 0) rfl) Tryd.underlying28 rfl (by kernel_rfl)) rfl ?_
    exact ⟨rfl,(bs_ (bs_ (bs_ (bs_ (bs_ (bs_ (bs_ (bs_ (bs_ (bs_ (bs_ (bs_ (bs_ B3.out GH.out) GH.out) GB.out) GB.out) GB.out) GB.out) GB.out) GB.out) GB.out) GB.out) GB.out) GB.out) GB.out)⟩
   have g3 : (Int.tdiv (bt a0 0) 8 % 256 % 4 != 0) = false:=by rw [k4,c2];rfl
   have g4 : (Int.tdiv (bt a0 0) 8 % 4 != 0) = false:=by rw [k5,c2];rfl
   have g9 : (bt a0 0 / 8 % 4 != 0) = false:=by rw [c2];rfl
   have g10 : (bt a0 0 / 8 % 4 == 0) = true:=by rw [c2];rfl
   have g11 : (bt a0 0 / 8 % 4 = 0) = True:=eq_true c2
   have hf:=HF.out
   clear HF
   unfold gEnd at hf
   rw [hW,hP,if_neg (fun h => h.elim c1 (fun h => h c2))] at hf
   obtain ⟨v,hv,hf⟩:=Option.bind_eq_some_iff.1 hf
   have HF:=am_ hf
   have HV:=am_ hv
   have g5 : (W ≤ (r.size : Int)) = True:=eq_true (by omega)
   have g6 : decide (W ≤ (r.size : Int)) = true:=decide_eq_true (by omega)
   have g7 : (0 ≤ W) = True:=eq_true u1
   have g8 : decide (0 ≤ W) = true:=decide_eq_true u1
   clear hf hv c1 c2 k4 k5 k6 k7
   go_wp2_with fail
   have h_:=(blk_put (cs':=#[.bool false,.bool sp,.bool P,.int .i64 ty,.int .u32 ver,.string d,.string c,.string tk,.int .u64 len,.int .i64 W,.int .u64 nu]) (blk_put (cs':=#[.bool false,.bool sp,.bool ph,.int .i64 ty,.int .u32 ver,.string d,.string c,.string tk,.int .u64 len,.int .i64 W,.int .u64 nu]) H3.out 9 (.int .i64 W) rfl) 2 (.bool P) rfl)
   have b_:=(bs_ (j:=2) (v:=.bool P) (bs_ (j:=9) (v:=.int .i64 W) B3.out GH.out) GH.out)
   have r_:=(blk_far (p:=⟨gh,2,none⟩) (blk_far (p:=⟨gh,9,none⟩) R3.out n1 (.int .i64 W)) n1 (.bool P))
   clear d0 df0 d1 df1 d2 df2 d3 df3 d4 df4 d5 df5 d6 df6 d7 df7 d8 df8 d9 df9 d10 df10 e0 ef0 e1 ef1 e2 ef2 e3 ef3 e4 ef4 e5 ef5 e6 ef6 e7 ef7 e8 ef8 e9 ef9 e10 ef10
   generalize ((w3.setCell ⟨gh,9,none⟩ (.int .i64 W)).setCell ⟨gh,2,none⟩ (.bool P)) = w4 at h_ b_ r_ ⊢
   have H4:=am_ h_
   have B4:=am_ b_
   have R4:=am_ r_
   clear h_ b_ r_
   refine (dominoref01_Back.calls k _ _ _ HV.out).mono ?_
   rintro e_ w_ ⟨rfl,hd_⟩
   obtain ⟨m_,rfl⟩:=hd_
   have H5:=am_ (kn_ H4.out m_)
   have R5:=am_ (kn_ R4.out m_)
   have B5:=am_ (pn_ B4.out m_)
   generalize w4.drewN m_ = w5 at H5 R5 B5 ⊢
   obtain ⟨d0,d1,d2,d3,d4,d5,d6,d7,d8,d9,d10,df0,df1,df2,df3,df4,df5,df6,df7,df8,df9,df10⟩:=cs11f_ R5.out
   obtain ⟨e0,e1,e2,e3,e4,e5,e6,e7,e8,e9,e10,ef0,ef1,ef2,ef3,ef4,ef5,ef6,ef7,ef8,ef9,ef10⟩:=cs11f_ H5.out
   go_upto_region 9 with fail
   have h_:=(blk_put (cs':=#[.bool false,.bool sp,.bool P,.int .i64 ty,.int .u32 ver,.string d,.string c,.string tk,.int .u64 len,.int .i64 W,.int .u64 v]) H5.out 10 (.int .u64 v) rfl)
   have b_:=(bs_ (j:=10) (v:=.int .u64 v) B5.out GH.out)
   have r_:=(blk_far (p:=⟨gh,10,none⟩) R5.out n1 (.int .u64 v))
   clear d0 df0 d1 df1 d2 df2 d3 df3 d4 df4 d5 df5 d6 df6 d7 df7 d8 df8 d9 df9 d10 df10 e0 ef0 e1 ef1 e2 ef2 e3 ef3 e4 ef4 e5 ef5 e6 ef6 e7 ef7 e8 ef8 e9 ef9 e10 ef10
   generalize (w5.setCell ⟨gh,10,none⟩ (.int .u64 v)) = w6 at h_ b_ r_ ⊢
   have H6:=am_ h_
   have B6:=am_ b_
   have R6:=am_ r_
   clear h_ b_ r_
   have H7:=am_ (kd_ H6.out)
   have R7:=am_ (kd_ R6.out)
   have B7:=am_ (pd_ B6.out)
   have hf:=HF.out
   clear HF
   simp only [Option.some.injEq,Prod.mk.injEq] at hf
   obtain ⟨rfl,rfl,rfl,rfl,rfl,rfl,rfl,rfl,rfl,rfl,rfl,rfl,rfl⟩:=hf
   refine start_ (n:=8) (S:=fun W' => W'.cell? ⟨gh,0,none⟩ = some (.bool false) ∧ W'.cell? ⟨gh,1,none⟩ = some (.bool sp) ∧ W'.cell? ⟨gh,2,none⟩ = some (.bool P) ∧ W'.cell? ⟨gh,3,none⟩ = some (.int .i64 ty) ∧ W'.cell? ⟨gh,4,none⟩ = some (.int .u32 ver) ∧ W'.cell? ⟨gh,5,none⟩ = some (.string d) ∧ W'.cell? ⟨gh,6,none⟩ = some (.string c) ∧ W'.cell? ⟨gh,7,none⟩ = some (.string tk) ∧ W'.cell? ⟨gh,8,none⟩ = some (.int .u64 len) ∧ W'.cell? ⟨gh,9,none⟩ = some (.int .i64 W) ∧ W'.cell? ⟨gh,10,none⟩ = some (.int .u64 v)) (ds:=[]) #[F_,F_,F_,F_,F_,F_,F_,F_] (by kernel_rfl) rfl rfl ⟨((kc_ H7.out 0).trans rfl),((kc_ H7.out 1).trans rfl),((kc_ H7.out 2).trans rfl),((kc_ H7.out 3).trans rfl),((kc_ H7.out 4).trans rfl),((kc_ H7.out 5).trans rfl),((kc_ H7.out 6).trans rfl),((kc_ H7.out 7).trans rfl),((kc_ H7.out 8).trans rfl),((kc_ H7.out 9).trans rfl),((kc_ H7.out 10).trans rfl)⟩ (fun hHeld => ?_)
   generalize w6.drew = w7 at H7 R7 B7 hHeld ⊢
   refine pure_ (i:=1) (N:=some 70) (v:=?_) (a':=?_) #[F_,T_,F_,F_,F_,F_,F_,F_] rfl rfl (by kernel_rfl) (fun _ _ _ h => h) (Or.inl ⟨by rfl,?_⟩) ?_ ?_
   rotate_left;(intro w';go_simp;with_reducible rfl);rotate_left;(simp only [Act.put,ps_,i64_w,i32_w];rfl)
   refine pure_ (i:=2) (N:=some 71) (v:=?_) (a':=?_) #[F_,T_,T_,F_,F_,F_,F_,F_] rfl rfl (by kernel_rfl) (fun _ _ _ h => h) (Or.inl ⟨by rfl,?_⟩) ?_ ?_
   rotate_left;(intro w';go_simp;with_reducible rfl);rotate_left;(simp only [Act.put,ps_,i64_w,i32_w];rfl)
   refine take_ (i:=0) (N:=some 69) (v:=?_) (a':=?_) #[T_,T_,T_,F_,F_,F_,F_,F_] rfl rfl (by kernel_rfl) (fun _ _ _ h => h) (Or.inl ⟨by rfl,?_⟩) hHeld ?_ ?_
   rotate_left
   ·rintro w' ⟨s0,s1,s2,s3,s4,s5,s6,s7,s8,s9,s10⟩
    go_simp
    with_reducible rfl
   rotate_left
   ·simp only [Act.put,ps_,i64_w,i32_w]
    rfl
   refine take_ (i:=3) (N:=some 72) (v:=?_) (a':=?_) #[T_,T_,T_,T_,F_,F_,F_,F_] rfl rfl (by kernel_rfl) (fun _ _ _ h => h) (Or.inl ⟨by rfl,?_⟩) hHeld ?_ ?_
   rotate_left
   ·rintro w' ⟨s0,s1,s2,s3,s4,s5,s6,s7,s8,s9,s10⟩
    go_simp
    with_reducible rfl
   rotate_left
   ·simp only [Act.put,ps_,i64_w,i32_w]
    rfl
   refine pure_ (i:=4) (N:=some 73) (v:=?_) (a':=?_) #[T_,T_,T_,T_,T_,F_,F_,F_] rfl rfl (by kernel_rfl) (fun _ _ _ h => h) (Or.inl ⟨by rfl,?_⟩) ?_ ?_
   rotate_left;(intro w';go_simp;with_reducible rfl);rotate_left;(simp only [Act.put,ps_,i64_w,i32_w];rfl)
   obtain ⟨d0,d1,d2,d3,d4,d5,d6,d7,d8,d9,d10,df0,df1,df2,df3,df4,df5,df6,df7,df8,df9,df10⟩:=cs11f_ R7.out
   refine one_ (i:=5) (N:=none) #[T_,T_,T_,T_,T_,T_,F_,F_] rfl rfl (by kernel_rfl) (by decide) (fun K hK => ?_)
   refine skip_ (w1:=?_) (by rfl) rfl ?_ ?_
   rotate_left
   ·go_simp
    rfl
   refine hK.out _ _ ⟨((cell_far (p:=⟨gb,_,none⟩) n2 _).trans ((cell_far (p:=⟨gb,_,none⟩) n2 _).trans ((cell_far (p:=⟨gb,_,none⟩) n2 _).trans ((cell_far (p:=⟨gb,_,none⟩) n2 _).trans ((cell_far (p:=⟨gb,_,none⟩) n2 _).trans ((cell_far (p:=⟨gb,_,none⟩) n2 _).trans ((cell_far (p:=⟨gb,_,none⟩) n2 _).trans ((cell_far (p:=⟨gb,_,none⟩) n2 _).trans ((cell_far (p:=⟨gb,_,none⟩) n2 _).trans ((cell_far (p:=⟨gb,_,none⟩) n2 _).trans ((cell_far (p:=⟨gb,_,none⟩) n2 _).trans hHeld.1))))))))))),((cell_far (p:=⟨gb,_,none⟩) n2 _).trans ((cell_far (p:=⟨gb,_,none⟩) n2 _).trans ((cell_far (p:=⟨gb,_,none⟩) n2 _).trans ((cell_far (p:=⟨gb,_,none⟩) n2 _).trans ((cell_far (p:=⟨gb,_,none⟩) n2 _).trans ((cell_far (p:=⟨gb,_,none⟩) n2 _).trans ((cell_far (p:=⟨gb,_,none⟩) n2 _).trans ((cell_far (p:=⟨gb,_,none⟩) n2 _).trans ((cell_far (p:=⟨gb,_,none⟩) n2 _).trans ((cell_far (p:=⟨gb,_,none⟩) n2 _).trans ((cell_far (p:=⟨gb,_,none⟩) n2 _).trans hHeld.2.1))))))))))),((cell_far (p:=⟨gb,_,none⟩) n2 _).trans ((cell_far (p:=⟨gb,_,none⟩) n2 _).trans ((cell_far (p:=⟨gb,_,none⟩) n2 _).trans ((cell_far (p:=⟨gb,_,none⟩) n2 _).trans ((cell_far (p:=⟨gb,_,none⟩) n2 _).trans ((cell_far (p:=⟨gb,_,none⟩) n2 _).trans ((cell_far (p:=⟨gb,_,none⟩) n2 _).trans ((cell_far (p:=⟨gb,_,none⟩) n2 _).trans ((cell_far (p:=⟨gb,_,none⟩) n2 _).trans ((cell_far (p:=⟨gb,_,none⟩) n2 _).trans ((cell_far (p:=⟨gb,_,none⟩) n2 _).trans hHeld.2.2.1))))))))))),((cell_far (p:=⟨gb,_,none⟩) n2 _).trans ((cell_far (p:=⟨gb,_,none⟩) n2 _).trans ((cell_far (p:=⟨gb,_,none⟩) n2 _).trans ((cell_far (p:=⟨gb,_,none⟩) n2 _).trans ((cell_far (p:=⟨gb,_,none⟩) n2 _).trans ((cell_far (p:=⟨gb,_,none⟩) n2 _).trans ((cell_far (p:=⟨gb,_,none⟩) n2 _).trans ((cell_far (p:=⟨gb,_,none⟩) n2 _).trans ((cell_far (p:=⟨gb,_,none⟩) n2 _).trans ((cell_far (p:=⟨gb,_,none⟩) n2 _).trans ((cell_far (p:=⟨gb,_,none⟩) n2 _).trans hHeld.2.2.2.1))))))))))),((cell_far (p:=⟨gb,_,none⟩) n2 _).trans ((cell_far (p:=⟨gb,_,none⟩) n2 _).trans ((cell_far (p:=⟨gb,_,none⟩) n2 _).trans ((cell_far (p:=⟨gb,_,none⟩) n2 _).trans ((cell_far (p:=⟨gb,_,none⟩) n2 _).trans ((cell_far (p:=⟨gb,_,none⟩) n2 _).trans ((cell_far (p:=⟨gb,_,none⟩) n2 _).trans ((cell_far (p:=⟨gb,_,none⟩) n2 _).trans ((cell_far (p:=⟨gb,_,none⟩) n2 _).trans ((cell_far (p:=⟨gb,_,none⟩) n2 _).trans ((cell_far (p:=⟨gb,_,none⟩) n2 _).trans hHeld.2.2.2.2.1))))))))))),((cell_far (p:=⟨gb,_,none⟩) n2 _).trans ((cell_far (p:=⟨gb,_,none⟩) n2 _).trans ((cell_far (p:=⟨gb,_,none⟩) n2 _).trans ((cell_far (p:=⟨gb,_,none⟩) n2 _).trans ((cell_far (p:=⟨gb,_,none⟩) n2 _).trans ((cell_far (p:=⟨gb,_,none⟩) n2 _).trans ((cell_far (p:=⟨gb,_,none⟩) n2 _).trans ((cell_far (p:=⟨gb,_,none⟩) n2 _).trans ((cell_far (p:=⟨gb,_,none⟩) n2 _).trans ((cell_far (p:=⟨gb,_,none⟩) n2 _).trans ((cell_far (p:=⟨gb,_,none⟩) n2 _).trans hHeld.2.2.2.2.2.1))))))))))),((cell_far (p:=⟨gb,_,none⟩) n2 _).trans ((cell_far (p:=⟨gb,_,none⟩) n2 _).trans ((cell_far (p:=⟨gb,_,none⟩) n2 _).trans ((cell_far (p:=⟨gb,_,none⟩) n2 _).trans ((cell_far (p:=⟨gb,_,none⟩) n2 _).trans ((cell_far (p:=⟨gb,_,none⟩) n2 _).trans ((cell_far (p:=⟨gb,_,none⟩) n2 _).trans ((cell_far (p:=⟨gb,_,none⟩) n2 _).trans ((cell_far (p:=⟨gb,_,none⟩) n2 _).trans ((cell_far (p:=⟨gb,_,none⟩) n2 _).trans ((cell_far (p:=⟨gb,_,none⟩) n2 _).trans hHeld.2.2.2.2.2.2.1))))))))))),((cell_far (p:=⟨gb,_,none⟩) n2 _).trans ((cell_far (p:=⟨gb,_,none⟩) n2 _).trans ((cell_far (p:=⟨gb,_,none⟩) n2 _).trans ((cell_far (p:=⟨gb,_,none⟩) n2 _).trans ((cell_far (p:=⟨gb,_,none⟩) n2 _).trans ((cell_far (p:=⟨gb,_,none⟩) n2 _).trans ((cell_far (p:=⟨gb,_,none⟩) n2 _).trans ((cell_far (p:=⟨gb,_,none⟩) n2 _).trans ((cell_far (p:=⟨gb,_,none⟩) n2 _).trans ((cell_far (p:=⟨gb,_,none⟩) n2 _).trans ((cell_far (p:=⟨gb,_,none⟩) n2 _).trans hHeld.2.2.2.2.2.2.2.1))))))))))),((cell_far (p:=⟨gb,_,none⟩) n2 _).trans ((cell_far (p:=⟨gb,_,none⟩) n2 _).trans ((cell_far (p:=⟨gb,_,none⟩) n2 _).trans ((cell_far (p:=⟨gb,_,none⟩) n2 _).trans ((cell_far (p:=⟨gb,_,none⟩) n2 _).trans ((cell_far (p:=⟨gb,_,none⟩) n2 _).trans ((cell_far (p:=⟨gb,_,none⟩) n2 _).trans ((cell_far (p:=⟨gb,_,none⟩) n2 _).trans ((cell_far (p:=⟨gb,_,none⟩) n2 _).trans ((cell_far (p:=⟨gb,_,none⟩) n2 _).trans ((cell_far (p:=⟨gb,_,none⟩) n2 _).trans hHeld.2.2.2.2.2.2.2.2.1))))))))))),((cell_far (p:=⟨gb,_,none⟩) n2 _).trans ((cell_far (p:=⟨gb,_,none⟩) n2 _).trans ((cell_far (p:=⟨gb,_,none⟩) n2 _).trans ((cell_far (p:=⟨gb,_,none⟩) n2 _).trans ((cell_far (p:=⟨gb,_,none⟩) n2 _).trans ((cell_far (p:=⟨gb,_,none⟩) n2 _).trans ((cell_far (p:=⟨gb,_,none⟩) n2 _).trans ((cell_far (p:=⟨gb,_,none⟩) n2 _).trans ((cell_far (p:=⟨gb,_,none⟩) n2 _).trans ((cell_far (p:=⟨gb,_,none⟩) n2 _).trans ((cell_far (p:=⟨gb,_,none⟩) n2 _).trans hHeld.2.2.2.2.2.2.2.2.2.1))))))))))),((cell_far (p:=⟨gb,_,none⟩) n2 _).trans ((cell_far (p:=⟨gb,_,none⟩) n2 _).trans ((cell_far (p:=⟨gb,_,none⟩) n2 _).trans ((cell_far (p:=⟨gb,_,none⟩) n2 _).trans ((cell_far (p:=⟨gb,_,none⟩) n2 _).trans ((cell_far (p:=⟨gb,_,none⟩) n2 _).trans ((cell_far (p:=⟨gb,_,none⟩) n2 _).trans ((cell_far (p:=⟨gb,_,none⟩) n2 _).trans ((cell_far (p:=⟨gb,_,none⟩) n2 _).trans ((cell_far (p:=⟨gb,_,none⟩) n2 _).trans ((cell_far (p:=⟨gb,_,none⟩) n2 _).trans hHeld.2.2.2.2.2.2.2.2.2.2)))))))))))⟩ (fun hHeld_ => ?_)
   clear hK K
   refine pure_ (i:=6) (N:=some 3) (v:=?_) (a':=?_) #[T_,T_,T_,T_,T_,T_,T_,F_] rfl rfl (by kernel_rfl) (fun _ _ _ h => h) (Or.inl ⟨by rfl,?_⟩) ?_ ?_
   rotate_left;(intro w';go_simp;with_reducible rfl);rotate_left;(simp only [Act.put,ps_,i64_w,i32_w];rfl)
   refine pure_ (i:=7) (N:=some 4) (v:=?_) (a':=?_) #[T_,T_,T_,T_,T_,T_,T_,T_] rfl rfl (by kernel_rfl) (fun _ _ _ h => h) (Or.inl ⟨by rfl,?_⟩) ?_ ?_
   rotate_left;(intro w';go_simp;with_reducible rfl);rotate_left;(simp only [Act.put,ps_,i64_w,i32_w];rfl)
   refine done_ (by kernel_rfl) ?_
   go_wp2
   refine bodyPost_ret (results_ctt rfl _ _ gb 28 #[.bool false,.bool sp,.bool P,.int .i64 ty,.int .u32 ver,.string d,.string c,.string tk,.int .u64 len,.int .i64 W,.int .u64 v] (0,0) _ rfl (blk_put (cs':=#[.bool false,.bool sp,.bool P,.int .i64 ty,.int .u32 ver,.string d,.string c,.string tk,.int .u64 len,.int .i64 W,.int .u64 v]) (blk_put (cs':=#[.bool false,.bool sp,.bool P,.int .i64 ty,.int .u32 ver,.string d,.string c,.string tk,.int .u64 len,.int .i64 W,.int .u64 0]) (blk_put (cs':=#[.bool false,.bool sp,.bool P,.int .i64 ty,.int .u32 ver,.string d,.string c,.string tk,.int .u64 len,.int .i64 0,.int .u64 0]) (blk_put (cs':=#[.bool false,.bool sp,.bool P,.int .i64 ty,.int .u32 ver,.string d,.string c,.string tk,.int .u64 0,.int .i64 0,.int .u64 0]) (blk_put (cs':=#[.bool false,.bool sp,.bool P,.int .i64 ty,.int .u32 ver,.string d,.string c,.string (⟨#[]⟩ : ByteArray),.int .u64 0,.int .i64 0,.int .u64 0]) (blk_put (cs':=#[.bool false,.bool sp,.bool P,.int .i64 ty,.int .u32 ver,.string d,.string (⟨#[]⟩ : ByteArray),.string (⟨#[]⟩ : ByteArray),.int .u64 0,.int .i64 0,.int .u64 0]) (blk_put (cs':=#[.bool false,.bool sp,.bool P,.int .i64 ty,.int .u32 ver,.string (⟨#[]⟩ : ByteArray),.string (⟨#[]⟩ : ByteArray),.string (⟨#[]⟩ : ByteArray),.int .u64 0,.int .i64 0,.int .u64 0]) (blk_put (cs':=#[.bool false,.bool sp,.bool P,.int .i64 ty,.int .u32 0,.string (⟨#[]⟩ : ByteArray),.string (⟨#[]⟩ : ByteArray),.string (⟨#[]⟩ : ByteArray),.int .u64 0,.int .i64 0,.int .u64 0]) (blk_put (cs':=#[.bool false,.bool sp,.bool P,.int .i64 0,.int .u32 0,.string (⟨#[]⟩ : ByteArray),.string (⟨#[]⟩ : ByteArray),.string (⟨#[]⟩ : ByteArray),.int .u64 0,.int .i64 0,.int .u64 0]) (blk_put (cs':=#[.bool false,.bool sp,.bool false,.int .i64 0,.int .u32 0,.string (⟨#[]⟩ : ByteArray),.string (⟨#[]⟩ : ByteArray),.string (⟨#[]⟩ : ByteArray),.int .u64 0,.int .i64 0,.int .u64 0]) (blk_put (cs':=kk0_) R7.out 0 (.bool false) rfl) 1 (.bool sp) rfl) 2 (.bool P) rfl) 3 (.int .i64 ty) rfl) 4 (.int .u32 ver) rfl) 5 (.string d) rfl) 6 (.string c) rfl) 7 (.string tk) rfl) 8 (.int .u64 len) rfl) 9 (.int .i64 W) rfl) 10 (.int .u64 v) rfl) Tryd.underlying28 rfl (by kernel_rfl)) rfl ?_
   exact ⟨rfl,(bs_ (bs_ (bs_ (bs_ (bs_ (bs_ (bs_ (bs_ (bs_ (bs_ (bs_ B7.out GB.out) GB.out) GB.out) GB.out) GB.out) GB.out) GB.out) GB.out) GB.out) GB.out) GB.out)⟩

/-! ### dominoref04_Place: function 17 -/
def dominoref04_Place.f (k : Nat) (a0 : ByteArray) : Option (Int × Int):=(dominoref04_ahead.f k a0).bind fun bt252 => (if bt252.2.2.2.2.2.2.2.2.2.2.2.2 = true then (some (wrap64 ((a0.size : Int) - (bt252.2.2.2.2.2.2.2.2.2.2.2.1.size : Int)),0)) else (some (0,40)))
theorem dominoref04_Place.mono : ∀ a0 k,LeO (dominoref04_Place.f k a0) (dominoref04_Place.f (k + 1) a0):=by
 intro a0 k
 unfold dominoref04_Place.f
 repeat' first
   | (with_reducible exact dominoref04_ahead.mono _ _)
   | (with_reducible exact LeO.refl _)
   | (with_reducible exact LeO.none _)
   | (with_reducible refine LeO.ite ?_ ?_)
   | (with_reducible refine LeO.bind ?_ (fun _ => ?_))
   | exact dominoref04_ahead.mono _ _
   | exact LeO.none _
   | refine LeO.ite ?_ ?_
   | refine LeO.bind ?_ (fun _ => ?_)
set_option maxHeartbeats 8000000 in
set_option maxRecDepth 100000 in
theorem dominoref04_Place.calls (k : Nat) (a0 : ByteArray) (r1 : Int) (r2 : Int) (w : World) (h : dominoref04_Place.f k a0 = some (r1,r2)) :
  Calls Tryd.prog 17 #[.string a0] w fun e w' => e = .returned (.tuple #[.int .i64 r1,.int .i64 r2]) ∧ Below w.heap.size w w':=by
 have hu28:=Tryd.underlying28
 have HB:=am_ (Below.refl w.heap.size w)
 have H : ((dominoref04_ahead.f k a0).bind fun bt252 => (if bt252.2.2.2.2.2.2.2.2.2.2.2.2 = true then (some (wrap64 ((a0.size : Int) - (bt252.2.2.2.2.2.2.2.2.2.2.2.1.size : Int)),0)) else (some (0,40)))) = some (r1,r2):=h
 clear h
 replace H:=Option.bind_eq_some_iff.mp H
 obtain ⟨⟨t252,t253,t254,t255,t256,t257,t258,t259,t260,t261,t262,t263,t264⟩,A20,H⟩:=H
 replace H : (if t264 = true then (some (wrap64 ((a0.size : Int) - (t263.size : Int)),0)) else (some (0,40))) = some (r1,r2):=H
 have A2:=am_ A20
 clear A20
 by_cases c3 : t264 = true
 ·subst c3
  have H1 : (some (wrap64 ((a0.size : Int) - (t263.size : Int)),0)) = some (r1,r2):=by rw [if_pos rfl] at H;exact H
  clear H
  have H:=H1
  clear H1
  simp only [Option.some.injEq,Prod.mk.injEq] at H
  obtain ⟨rfl,rfl⟩:=H
  go_enter Tryd.func17,Tryd.ntmps17
  go_wp2_with (first|((with_reducible refine gate_callee (f:=35) rfl ?_);refine goesL_ (some 9) rfl rfl Tryd.func35 (by kernel_rfl) rfl #[.string a0] rfl (by (try simp only [List.map_toArray,List.map_cons,List.map_nil]);first|done|rfl|(simp only [List.length_drop,List.length_take];rfl)) ?_;(with_reducible refine (dominoref04_ahead.calls k a0 t252 t253 t254 t255 t256 t257 t258 t259 t260 t261 t262 t263 true _ A2.out).mono ?_);rintro e w4 ⟨rfl,hb⟩;refine ⟨_,rfl,?_⟩;have n0_:=am_ (below_step (by repeat (first|(with_reducible first|exact HB.out|apply ba_|apply pn_|apply pd_)|exact HB.out)) hb);clear HB;have HB:=n0_;clear n0_;(try clear hb);(try clear hb2);(try clear hk);(try clear hi))|((with_reducible refine gate_dst (N:=4) rfl ?_);refine box_event ?hg (N:=4) ?hd (cs:=kk0_) (t:=28) ?hr ?_;(case hd => rfl);(case hg => rfl);(case hr => first|(go_simp;done)|(go_simp;rfl));intro gb265 hg w5 hbox hb;have n0_:=am_ (below_step (by repeat (first|(with_reducible first|exact HB.out|apply ba_|apply pn_|apply pd_)|exact HB.out)) hb);have n1_:=am_ (hbox);have n2_:=am_ ((by rw [hg];exact (below_size (by repeat (first|(with_reducible first|exact HB.out|apply ba_|apply pn_|apply pd_)|exact HB.out))) : w.heap.size ≤ gb265));have n3_:=am_ ((by rw [hg];exact (below_size (by repeat (first|(with_reducible first|exact HB.out|apply ba_|apply pn_|apply pd_)|exact HB.out))) : w.heap.size ≤ gb265));clear HB;have HB:=n0_;have BK265:=n1_;have GW265:=n2_;have GE265:=n3_;clear n0_ n1_ n2_ n3_;clear hb hbox hg;obtain ⟨hcz6_0,hcz6_1,hcz6_2,hcz6_3,hcz6_4,hcz6_5,hcz6_6,hcz6_7,hcz6_8,hcz6_9,hcz6_10,hfz6_0,hfz6_1,hfz6_2,hfz6_3,hfz6_4,hfz6_5,hfz6_6,hfz6_7,hfz6_8,hfz6_9,hfz6_10⟩:=cs11f_ BK265.out;skip))
  go_ret2
  exact ⟨by first|rfl|(simp [errW_none,errW_some] <;> rfl)|(simp [*,errW_none,errW_some] <;> rfl),by repeat (first|(with_reducible first|exact HB.out|apply ba_|apply pn_|apply pd_|refine bs_ ?_ GE265.out)|exact HB.out)⟩
 ·replace c3:=Bool.eq_false_iff.mpr c3
  subst c3
  have H1 : (some (0,40)) = some (r1,r2):=by rw [if_neg (show ¬ (false = true) by decide)] at H;exact H
  clear H
  have H:=H1
  clear H1
  simp only [Option.some.injEq,Prod.mk.injEq] at H
  obtain ⟨rfl,rfl⟩:=H
  go_enter Tryd.func17,Tryd.ntmps17
  go_wp2_with (first|((with_reducible refine gate_callee (f:=35) rfl ?_);refine goesL_ (some 9) rfl rfl Tryd.func35 (by kernel_rfl) rfl #[.string a0] rfl (by (try simp only [List.map_toArray,List.map_cons,List.map_nil]);first|done|rfl|(simp only [List.length_drop,List.length_take];rfl)) ?_;(with_reducible refine (dominoref04_ahead.calls k a0 t252 t253 t254 t255 t256 t257 t258 t259 t260 t261 t262 t263 false _ A2.out).mono ?_);rintro e w7 ⟨rfl,hb⟩;refine ⟨_,rfl,?_⟩;have n0_:=am_ (below_step (by repeat (first|(with_reducible first|exact HB.out|apply ba_|apply pn_|apply pd_)|exact HB.out)) hb);clear HB;have HB:=n0_;clear n0_;(try clear hb);(try clear hb2);(try clear hk);(try clear hi))|((with_reducible refine gate_dst (N:=4) rfl ?_);refine box_event ?hg (N:=4) ?hd (cs:=kk0_) (t:=28) ?hr ?_;(case hd => rfl);(case hg => rfl);(case hr => first|(go_simp;done)|(go_simp;rfl));intro gb265 hg w8 hbox hb;have n0_:=am_ (below_step (by repeat (first|(with_reducible first|exact HB.out|apply ba_|apply pn_|apply pd_)|exact HB.out)) hb);have n1_:=am_ (hbox);have n2_:=am_ ((by rw [hg];exact (below_size (by repeat (first|(with_reducible first|exact HB.out|apply ba_|apply pn_|apply pd_)|exact HB.out))) : w.heap.size ≤ gb265));have n3_:=am_ ((by rw [hg];exact (below_size (by repeat (first|(with_reducible first|exact HB.out|apply ba_|apply pn_|apply pd_)|exact HB.out))) : w.heap.size ≤ gb265));clear HB;have HB:=n0_;have BK265:=n1_;have GW265:=n2_;have GE265:=n3_;clear n0_ n1_ n2_ n3_;clear hb hbox hg;obtain ⟨hcz9_0,hcz9_1,hcz9_2,hcz9_3,hcz9_4,hcz9_5,hcz9_6,hcz9_7,hcz9_8,hcz9_9,hcz9_10,hfz9_0,hfz9_1,hfz9_2,hfz9_3,hfz9_4,hfz9_5,hfz9_6,hfz9_7,hfz9_8,hfz9_9,hfz9_10⟩:=cs11f_ BK265.out;skip))
  go_ret2
  exact ⟨by first|rfl|(simp [errW_none,errW_some] <;> rfl)|(simp [*,errW_none,errW_some] <;> rfl),by repeat (first|(with_reducible first|exact HB.out|apply ba_|apply pn_|apply pd_|refine bs_ ?_ GE265.out)|exact HB.out)⟩

end Go.Proofs.YtjpafikgbnloaaaDoor.PHdt
