-- printed for this claim by a program of the claim (wip/tools/pp.py over the kit's print)
import Derived.Test.YtjpafikgbnloaaaDoorPHdtx0
import Derived.Test.YtjpafikgbnloaaaDoorPHdtx12
namespace Go.Proofs.YtjpafikgbnloaaaDoor.PHdt
open Go.RowKit Go.Proofs.YtjpafikgbnloaaaDoorW.PrintWords Go.Proofs.YtjpafikgbnloaaaDoorW.PrintLast Go.Proofs.YtjpafikgbnloaaaDoorW.PrintMore
attribute [local go_sem] max2_int min2_int max_two min_two max_three min_three max_four min_four   -- for this text's walks alone
set_option linter.unusedVariables false
set_option linter.unusedSimpArgs false

attribute [local go_sem] isSome_setCell_
/-! ### dominoref04_ahead: function 35 -/
def ahZ : Bool × Bool × Bool × Int × Int × ByteArray × ByteArray × ByteArray × Int × Int × Int × ByteArray × Bool:=(false,false,false,0,0,(⟨#[]⟩ : ByteArray),(⟨#[]⟩ : ByteArray),(⟨#[]⟩ : ByteArray),0,0,0,(⟨#[]⟩ : ByteArray),false)
def ahEnd (k : Nat) (ty ver : Int) (d c t s : ByteArray) : Option (Bool × Bool × Bool × Int × Int × ByteArray × ByteArray × ByteArray × Int × Int × Int × ByteArray × Bool):=(dominoref01_Get.f k s).bind fun b => if b.2.2 = 0 then some (true,false,false,ty,ver,d,c,t,b.1,0,0,b.2.1,true) else some ahZ
def ahTok (k : Nat) (ver : Int) (d c s : ByteArray) : Option (Bool × Bool × Bool × Int × Int × ByteArray × ByteArray × ByteArray × Int × Int × Int × ByteArray × Bool):=(dominoref01_Get.f k s).bind fun n => if 0 ≤ n.1 ∧ n.2.1.size ≤ 9223372036854775807 then (if n.2.2 = 0 ∧ n.1 ≤ 1000 ∧ n.1 ≤ (n.2.1.size : Int) then ahEnd k 0 ver d c (n.2.1.extract 0 n.1.toNat) (n.2.1.extract n.1.toNat n.2.1.size) else some ahZ) else none
def ahLong (k : Nat) (s : ByteArray) (ty : Int) : Option (Bool × Bool × Bool × Int × Int × ByteArray × ByteArray × ByteArray × Int × Int × Int × ByteArray × Bool):=(dominoref01_Back.f k (s.extract 1 5)).bind fun v => (dominoref04_id.f (s.extract 5 s.size)).bind fun d => if d.2.2 = true then ((dominoref04_id.f d.2.1).bind fun c => if c.2.2 = true then (if ty = 0 then ahTok k (v % 4294967296) d.1 c.1 c.2.1 else ahEnd k ty (v % 4294967296) d.1 c.1 (⟨#[]⟩ : ByteArray) c.2.1) else some ahZ) else some ahZ
def dominoref04_ahead.f (k : Nat) (a0 : ByteArray) : Option (Bool × Bool × Bool × Int × Int × ByteArray × ByteArray × ByteArray × Int × Int × Int × ByteArray × Bool) :=
 if a0.size = 0 then some ahZ else if a0.size ≤ 9223372036854775807 then (if bt a0 0 / 64 % 2 = 0 then some ahZ else if 128 ≤ bt a0 0 then (if a0.size < 5 ∨ bt a0 0 / 16 % 4 = 3 then some ahZ else ahLong k a0 (bt a0 0 / 16 % 4))
  else if a0.size < 9 then some ahZ else some (false,bt a0 0 / 32 % 2 == 1,false,0,0,a0.extract 1 9,(⟨#[]⟩ : ByteArray),(⟨#[]⟩ : ByteArray),0,0,0,a0.extract 9 a0.size,true)) else none
theorem ahEnd.mono (ty ver : Int) (d c t s : ByteArray) (k : Nat) : LeO (ahEnd k ty ver d c t s) (ahEnd (k + 1) ty ver d c t s):=LeO.bind (dominoref01_Get.mono _ _) fun _ => LeO.refl _
theorem ahTok.mono (ver : Int) (d c s : ByteArray) (k : Nat) : LeO (ahTok k ver d c s) (ahTok (k + 1) ver d c s):=LeO.bind (dominoref01_Get.mono _ _) fun _ => LeO.ite (LeO.ite (ahEnd.mono _ _ _ _ _ _ _) (LeO.refl _)) (LeO.refl _)
theorem ahLong.mono (s : ByteArray) (ty : Int) (k : Nat) : LeO (ahLong k s ty) (ahLong (k + 1) s ty):=LeO.bind (dominoref01_Back.mono _ _) fun _ => LeO.bind (LeO.refl _) fun _ => LeO.ite (LeO.bind (LeO.refl _) fun _ => LeO.ite (LeO.ite (ahTok.mono _ _ _ _ _) (ahEnd.mono _ _ _ _ _ _ _)) (LeO.refl _)) (LeO.refl _)
theorem dominoref04_ahead.mono : ∀ a0 k,LeO (dominoref04_ahead.f k a0) (dominoref04_ahead.f (k + 1) a0):=fun a0 k => LeO.ite (LeO.refl _) (LeO.ite (LeO.ite (LeO.refl _) (LeO.ite (LeO.ite (LeO.refl _) (ahLong.mono _ _ _)) (LeO.ite (LeO.refl _) (LeO.refl _)))) (LeO.refl _))
theorem ah_bits (a0 : ByteArray) : (Int.tdiv (bt a0 0) 64 % 256 % 2 = bt a0 0 / 64 % 2 ∧ Int.tdiv (bt a0 0) 64 % 2 = bt a0 0 / 64 % 2) ∧ (Int.tdiv (bt a0 0) 32 % 256 % 2 = bt a0 0 / 32 % 2 ∧ Int.tdiv (bt a0 0) 32 % 2 = bt a0 0 / 32 % 2) ∧ Int.tdiv (bt a0 0) 16 % 4 = bt a0 0 / 16 % 4:=by
 have hr:=bt_range a0 0
 rw [Int.tdiv_eq_ediv_of_nonneg hr.1,Int.tdiv_eq_ediv_of_nonneg hr.1,Int.tdiv_eq_ediv_of_nonneg hr.1]
 refine ⟨⟨by omega,rfl⟩,⟨by omega,rfl⟩,rfl⟩
set_option maxHeartbeats 8000000 in
set_option maxRecDepth 100000 in
theorem dominoref04_ahead.calls (k : Nat) (a0 : ByteArray) (r1 : Bool) (r2 : Bool) (r3 : Bool) (r4 : Int) (r5 : Int) (r6 : ByteArray) (r7 : ByteArray) (r8 : ByteArray) (r9 : Int) (r10 : Int) (r11 : Int) (r12 : ByteArray) (r13 : Bool) (w : World) (h : dominoref04_ahead.f k a0 = some (r1,r2,r3,r4,r5,r6,r7,r8,r9,r10,r11,r12,r13)) :
  Calls Tryd.prog 35 #[.string a0] w fun e w' => e = .returned (.tuple #[.agg #[.bool r1,.bool r2,.bool r3,.int .i64 r4,.int .u32 r5,.string r6,.string r7,.string r8,.int .u64 r9,.int .i64 r10,.int .u64 r11],.string r12,.bool r13]) ∧ Below w.heap.size w w':=by
 unfold dominoref04_ahead.f at h
 have HF:=am_ h
 have hu28:=Tryd.underlying28
 clear h
 by_cases c0 : a0.size = 0
 ·have hf:=HF.out
  clear HF
  rw [if_pos c0] at hf
  have HF:=am_ hf
  have el : a0.toList = ([] : List UInt8):=by
   have : a0 = ⟨#[]⟩:=by
    cases a0 with|mk d => exact congrArg ByteArray.mk (Array.eq_empty_of_size_eq_zero c0)
   rw [this,Go.Lib.toList_data]
  have el1 : (a0.toList == ([] : List UInt8)) = true:=by rw [el];rfl
  clear hf
  have hf:=HF.out
  clear HF
  simp only [ahZ,Option.some.injEq,Prod.mk.injEq] at hf
  obtain ⟨rfl,rfl,rfl,rfl,rfl,rfl,rfl,rfl,rfl,rfl,rfl,rfl,rfl⟩:=hf
  (try clear HF)
  go_enter Tryd.func35,Tryd.ntmps35
  go_wp2_with (((with_reducible refine gate_dst (N:=2) rfl ?_);refine box_event ?hg (N:=2) ?hd (cs:=kk0_) (t:=28) ?hr ?_;(case hd => rfl);(case hg => rfl);(case hr => first|(go_simp;done)|(go_simp;rfl));intro gb hg w1 hbox hb;have R1:=am_ hbox;have B1:=am_ (below_step (Below.refl _ _) hb);have GB:=am_ (Nat.le_of_eq hg.symm);clear hg hb hbox;obtain ⟨d0,d1,d2,d3,d4,d5,d6,d7,d8,d9,d10,df0,df1,df2,df3,df4,df5,df6,df7,df8,df9,df10⟩:=cs11f_ R1.out;skip))
  refine bodyPost_ret (results_ctt rfl _ _ gb 28 kk0_ (0,0) _ rfl (blk_put (cs':=kk0_) (blk_put (cs':=kk0_) (blk_put (cs':=kk0_) (blk_put (cs':=kk0_) (blk_put (cs':=kk0_) (blk_put (cs':=kk0_) (blk_put (cs':=kk0_) (blk_put (cs':=kk0_) (blk_put (cs':=kk0_) (blk_put (cs':=kk0_) (blk_put (cs':=kk0_) R1.out 0 (.bool false) rfl) 1 (.bool false) rfl) 2 (.bool false) rfl) 3 (.int .i64 0) rfl) 4 (.int .u32 0) rfl) 5 (.string (⟨#[]⟩ : ByteArray)) rfl) 6 (.string (⟨#[]⟩ : ByteArray)) rfl) 7 (.string (⟨#[]⟩ : ByteArray)) rfl) 8 (.int .u64 0) rfl) 9 (.int .i64 0) rfl) 10 (.int .u64 0) rfl) Tryd.underlying28 rfl (by kernel_rfl)) rfl ?_
  exact ⟨rfl,(bs_ (bs_ (bs_ (bs_ (bs_ (bs_ (bs_ (bs_ (bs_ (bs_ (bs_ B1.out GB.out) GB.out) GB.out) GB.out) GB.out) GB.out) GB.out) GB.out) GB.out) GB.out) GB.out)⟩
 have hf:=HF.out
 clear HF
 rw [if_neg c0] at hf
 by_cases hmax : a0.size ≤ 9223372036854775807
 rotate_left
 ·rw [if_neg hmax] at hf
  simp at hf
 rw [if_pos hmax] at hf
 have HF:=am_ hf
 have q10 : 0 < a0.size:=by omega
 have hx10 : ∀ h : 0 < a0.size,((a0[0]'h).toNat : Int) = bt a0 0:=bt_at a0 0
 have qi : (0 < a0.size) = True:=eq_true q10
 have el1 : (a0.toList == ([] : List UInt8)) = false:=by
  rw [beq_eq_false_iff_ne,Go.Lib.toList_data]
  intro e
  exact c0 (by have:=congrArg List.length e;simpa using this)
 obtain ⟨⟨k1,k2⟩,⟨k3,k4⟩,k5⟩:=ah_bits a0
 clear hf
 by_cases c1 : bt a0 0 / 64 % 2 = 0
 ·have hf:=HF.out
  clear HF
  rw [if_pos c1] at hf
  simp only [ahZ,Option.some.injEq,Prod.mk.injEq] at hf
  obtain ⟨rfl,rfl,rfl,rfl,rfl,rfl,rfl,rfl,rfl,rfl,rfl,rfl,rfl⟩:=hf
  have g1 : (Int.tdiv (bt a0 0) 64 % 256 % 2 == 0) = true:=by rw [k1,c1];rfl
  have g2 : (Int.tdiv (bt a0 0) 64 % 2 == 0) = true:=by rw [k2,c1];rfl
  (try clear HF)
  clear k1 k2 k3 k4 k5 c1
  go_enter Tryd.func35,Tryd.ntmps35
  go_wp2_with (((with_reducible refine gate_dst (N:=2) rfl ?_);refine box_event ?hg (N:=2) ?hd (cs:=kk0_) (t:=28) ?hr ?_;(case hd => rfl);(case hg => rfl);(case hr => first|(go_simp;done)|(go_simp;rfl));intro gb hg w1 hbox hb;have R1:=am_ hbox;have B1:=am_ (below_step (Below.refl _ _) hb);have GB:=am_ (Nat.le_of_eq hg.symm);clear hg hb hbox;obtain ⟨d0,d1,d2,d3,d4,d5,d6,d7,d8,d9,d10,df0,df1,df2,df3,df4,df5,df6,df7,df8,df9,df10⟩:=cs11f_ R1.out;skip))
  refine bodyPost_ret (results_ctt rfl _ _ gb 28 kk0_ (0,0) _ rfl (blk_put (cs':=kk0_) (blk_put (cs':=kk0_) (blk_put (cs':=kk0_) (blk_put (cs':=kk0_) (blk_put (cs':=kk0_) (blk_put (cs':=kk0_) (blk_put (cs':=kk0_) (blk_put (cs':=kk0_) (blk_put (cs':=kk0_) (blk_put (cs':=kk0_) (blk_put (cs':=kk0_) R1.out 0 (.bool false) rfl) 1 (.bool false) rfl) 2 (.bool false) rfl) 3 (.int .i64 0) rfl) 4 (.int .u32 0) rfl) 5 (.string (⟨#[]⟩ : ByteArray)) rfl) 6 (.string (⟨#[]⟩ : ByteArray)) rfl) 7 (.string (⟨#[]⟩ : ByteArray)) rfl) 8 (.int .u64 0) rfl) 9 (.int .i64 0) rfl) 10 (.int .u64 0) rfl) Tryd.underlying28 rfl (by kernel_rfl)) rfl ?_
  exact ⟨rfl,(bs_ (bs_ (bs_ (bs_ (bs_ (bs_ (bs_ (bs_ (bs_ (bs_ (bs_ B1.out GB.out) GB.out) GB.out) GB.out) GB.out) GB.out) GB.out) GB.out) GB.out) GB.out) GB.out)⟩
 have hf:=HF.out
 clear HF
 rw [if_neg c1] at hf
 have HF:=am_ hf
 have g1 : (Int.tdiv (bt a0 0) 64 % 256 % 2 == 0) = false:=by rw [k1];exact beq_eq_false_iff_ne.mpr c1
 have g2 : (Int.tdiv (bt a0 0) 64 % 2 == 0) = false:=by rw [k2];exact beq_eq_false_iff_ne.mpr c1
 clear hf c1 k1 k2
 by_cases c2 : 128 ≤ bt a0 0
 rotate_left
 ·have hf:=HF.out
  clear HF
  rw [if_neg c2] at hf
  have HF:=am_ hf
  have g3 : decide (bt a0 0 ≥ 128) = false:=decide_eq_false c2
  have g4 : decide (128 ≤ bt a0 0) = false:=decide_eq_false c2
  have g5 : (128 ≤ bt a0 0) = False:=eq_false c2
  clear hf c2
  go_enter Tryd.func35,Tryd.ntmps35
  go_upto_region 4 with (first|((with_reducible refine gate_dst (N:=2) rfl ?_);refine box_event ?hg (N:=2) ?hd (cs:=kk0_) (t:=28) ?hr ?_;(case hd => rfl);(case hg => rfl);(case hr => first|(go_simp;done)|(go_simp;rfl));intro gb hg w1 hbox hb;have R1:=am_ hbox;have B1:=am_ (below_step (Below.refl _ _) hb);have GB:=am_ (Nat.le_of_eq hg.symm);clear hg hb hbox;obtain ⟨d0,d1,d2,d3,d4,d5,d6,d7,d8,d9,d10,df0,df1,df2,df3,df4,df5,df6,df7,df8,df9,df10⟩:=cs11f_ R1.out;skip)|((with_reducible refine gate_dst (N:=5) rfl ?_);refine box_event ?hg (N:=5) ?hd (cs:=kk0_) (t:=28) ?hr ?_;(case hd => rfl);(case hg => rfl);(case hr => first|(go_simp;done)|(go_simp;rfl));intro gh hg w2 hbox hb;have R2:=am_ (blk_below R1.out hb);have H2:=am_ hbox;have B2:=am_ (below_step B1.out hb);have GH:=am_ (show w.heap.size ≤ gh from Nat.le_trans B1.out.size (Nat.le_of_eq hg.symm));have n1 : gb ≠ gh:=Nat.ne_of_lt (Nat.lt_of_lt_of_le (blk_lt R1.out) (Nat.le_of_eq hg.symm));have n2 : gh ≠ gb:=n1.symm;clear hg hb hbox d0 df0 d1 df1 d2 df2 d3 df3 d4 df4 d5 df5 d6 df6 d7 df7 d8 df8 d9 df9 d10 df10;obtain ⟨d0,d1,d2,d3,d4,d5,d6,d7,d8,d9,d10,df0,df1,df2,df3,df4,df5,df6,df7,df8,df9,df10⟩:=cs11f_ R2.out;obtain ⟨e0,e1,e2,e3,e4,e5,e6,e7,e8,e9,e10,ef0,ef1,ef2,ef3,ef4,ef5,ef6,ef7,ef8,ef9,ef10⟩:=cs11f_ H2.out;skip))
  have h_:=(blk_put (cs':=kk0_) (blk_put (cs':=kk0_) (blk_put (cs':=kk0_) (blk_put (cs':=kk0_) (blk_put (cs':=kk0_) (blk_put (cs':=kk0_) (blk_put (cs':=kk0_) (blk_put (cs':=kk0_) (blk_put (cs':=kk0_) (blk_put (cs':=kk0_) (blk_put (cs':=kk0_) H2.out 0 (.bool false) rfl) 1 (.bool false) rfl) 2 (.bool false) rfl) 3 (.int .i64 0) rfl) 4 (.int .u32 0) rfl) 5 (.string (⟨#[]⟩ : ByteArray)) rfl) 6 (.string (⟨#[]⟩ : ByteArray)) rfl) 7 (.string (⟨#[]⟩ : ByteArray)) rfl) 8 (.int .u64 0) rfl) 9 (.int .i64 0) rfl) 10 (.int .u64 0) rfl)
  have b_:=(bs_ (j:=10) (v:=.int .u64 0) (bs_ (j:=9) (v:=.int .i64 0) (bs_ (j:=8) (v:=.int .u64 0) (bs_ (j:=7) (v:=.string (⟨#[]⟩ : ByteArray)) (bs_ (j:=6) (v:=.string (⟨#[]⟩ : ByteArray)) (bs_ (j:=5) (v:=.string (⟨#[]⟩ : ByteArray)) (bs_ (j:=4) (v:=.int .u32 0) (bs_ (j:=3) (v:=.int .i64 0) (bs_ (j:=2) (v:=.bool false) (bs_ (j:=1) (v:=.bool false) (bs_ (j:=0) (v:=.bool false) B2.out GH.out) GH.out) GH.out) GH.out) GH.out) GH.out) GH.out) GH.out) GH.out) GH.out) GH.out)
  have r_:=(blk_far (p:=⟨gh,10,none⟩) (blk_far (p:=⟨gh,9,none⟩) (blk_far (p:=⟨gh,8,none⟩) (blk_far (p:=⟨gh,7,none⟩) (blk_far (p:=⟨gh,6,none⟩) (blk_far (p:=⟨gh,5,none⟩) (blk_far (p:=⟨gh,4,none⟩) (blk_far (p:=⟨gh,3,none⟩) (blk_far (p:=⟨gh,2,none⟩) (blk_far (p:=⟨gh,1,none⟩) (blk_far (p:=⟨gh,0,none⟩) R2.out n1 (.bool false)) n1 (.bool false)) n1 (.bool false)) n1 (.int .i64 0)) n1 (.int .u32 0)) n1 (.string (⟨#[]⟩ : ByteArray))) n1 (.string (⟨#[]⟩ : ByteArray))) n1 (.string (⟨#[]⟩ : ByteArray))) n1 (.int .u64 0)) n1 (.int .i64 0)) n1 (.int .u64 0))
  clear d0 df0 d1 df1 d2 df2 d3 df3 d4 df4 d5 df5 d6 df6 d7 df7 d8 df8 d9 df9 d10 df10 e0 ef0 e1 ef1 e2 ef2 e3 ef3 e4 ef4 e5 ef5 e6 ef6 e7 ef7 e8 ef8 e9 ef9 e10 ef10
  generalize (((((((((((w2.setCell ⟨gh,0,none⟩ (.bool false)).setCell ⟨gh,1,none⟩ (.bool false)).setCell ⟨gh,2,none⟩ (.bool false)).setCell ⟨gh,3,none⟩ (.int .i64 0)).setCell ⟨gh,4,none⟩ (.int .u32 0)).setCell ⟨gh,5,none⟩ (.string (⟨#[]⟩ : ByteArray))).setCell ⟨gh,6,none⟩ (.string (⟨#[]⟩ : ByteArray))).setCell ⟨gh,7,none⟩ (.string (⟨#[]⟩ : ByteArray))).setCell ⟨gh,8,none⟩ (.int .u64 0)).setCell ⟨gh,9,none⟩ (.int .i64 0)).setCell ⟨gh,10,none⟩ (.int .u64 0)) = w3 at h_ b_ r_ ⊢
  have H3:=am_ h_
  have B3:=am_ b_
  have R3:=am_ r_
  clear h_ b_ r_
  obtain ⟨d0,d1,d2,d3,d4,d5,d6,d7,d8,d9,d10,df0,df1,df2,df3,df4,df5,df6,df7,df8,df9,df10⟩:=cs11f_ R3.out
  obtain ⟨e0,e1,e2,e3,e4,e5,e6,e7,e8,e9,e10,ef0,ef1,ef2,ef3,ef4,ef5,ef6,ef7,ef8,ef9,ef10⟩:=cs11f_ H3.out
  by_cases c3 : a0.size < 9
  ·have g6 : decide ((a0.size : Int) < 9) = true:=decide_eq_true (by omega)
   have g7 : ((a0.size : Int) < 9) = True:=eq_true (by omega)
   have g8 : (a0.size < 9) = True:=eq_true c3
   have hf:=HF.out
   clear HF
   rw [if_pos c3] at hf
   have HF:=am_ hf
   clear hf
   clear c3
   have hf:=HF.out
   clear HF
   simp only [ahZ,Option.some.injEq,Prod.mk.injEq] at hf
   obtain ⟨rfl,rfl,rfl,rfl,rfl,rfl,rfl,rfl,rfl,rfl,rfl,rfl,rfl⟩:=hf
   (try clear HF)
   go_wp2
   refine bodyPost_ret (results_ctt rfl _ _ gb 28 kk0_ (0,0) _ rfl (blk_put (cs':=kk0_) (blk_put (cs':=kk0_) (blk_put (cs':=kk0_) (blk_put (cs':=kk0_) (blk_put (cs':=kk0_) (blk_put (cs':=kk0_) (blk_put (cs':=kk0_) (blk_put (cs':=kk0_) (blk_put (cs':=kk0_) (blk_put (cs':=kk0_) (blk_put (cs':=kk0_) R3.out 0 (.bool false) rfl) 1 (.bool false) rfl) 2 (.bool false) rfl) 3 (.int .i64 0) rfl) 4 (.int .u32 0) rfl) 5 (.string (⟨#[]⟩ : ByteArray)) rfl) 6 (.string (⟨#[]⟩ : ByteArray)) rfl) 7 (.string (⟨#[]⟩ : ByteArray)) rfl) 8 (.int .u64 0) rfl) 9 (.int .i64 0) rfl) 10 (.int .u64 0) rfl) Tryd.underlying28 rfl (by kernel_rfl)) rfl ?_
   exact ⟨rfl,(bs_ (bs_ (bs_ (bs_ (bs_ (bs_ (bs_ (bs_ (bs_ (bs_ (bs_ B3.out GB.out) GB.out) GB.out) GB.out) GB.out) GB.out) GB.out) GB.out) GB.out) GB.out) GB.out)⟩
  ·have g6 : decide ((a0.size : Int) < 9) = false:=decide_eq_false (by omega)
   have g7 : ((a0.size : Int) < 9) = False:=eq_false (by omega)
   have g8 : (a0.size < 9) = False:=eq_false c3
   have g9 : (9 ≤ (a0.size : Int)) = True:=eq_true (by omega)
   have g10 : (9 ≤ a0.size) = True:=eq_true (by omega)
   have g11 : decide (9 ≤ (a0.size : Int)) = true:=decide_eq_true (by omega)
   have hf:=HF.out
   clear HF
   rw [if_neg c3] at hf
   have HF:=am_ hf
   clear hf
   clear c3
   have k6 : (Int.tdiv (bt a0 0) 32 % 256 % 2 == 1) = (bt a0 0 / 32 % 2 == 1):=by rw [k3]
   have k7 : (Int.tdiv (bt a0 0) 32 % 2 == 1) = (bt a0 0 / 32 % 2 == 1):=by rw [k4]
   clear k3 k4 k5
   generalize (bt a0 0 / 32 % 2 == 1) = sp at HF k6 k7
   go_upto_region 9 with fail
   have h_:=(blk_put (cs':=#[.bool false,.bool sp,.bool false,.int .i64 0,.int .u32 0,.string (a0.extract 1 9),.string (⟨#[]⟩ : ByteArray),.string (⟨#[]⟩ : ByteArray),.int .u64 0,.int .i64 0,.int .u64 0]) (blk_put (cs':=#[.bool false,.bool sp,.bool false,.int .i64 0,.int .u32 0,.string (⟨#[]⟩ : ByteArray),.string (⟨#[]⟩ : ByteArray),.string (⟨#[]⟩ : ByteArray),.int .u64 0,.int .i64 0,.int .u64 0]) H3.out 1 (.bool sp) rfl) 5 (.string (a0.extract 1 9)) rfl)
   have b_:=(bs_ (j:=5) (v:=.string (a0.extract 1 9)) (bs_ (j:=1) (v:=.bool sp) B3.out GH.out) GH.out)
   have r_:=(blk_far (p:=⟨gh,5,none⟩) (blk_far (p:=⟨gh,1,none⟩) R3.out n1 (.bool sp)) n1 (.string (a0.extract 1 9)))
   clear d0 df0 d1 df1 d2 df2 d3 df3 d4 df4 d5 df5 d6 df6 d7 df7 d8 df8 d9 df9 d10 df10 e0 ef0 e1 ef1 e2 ef2 e3 ef3 e4 ef4 e5 ef5 e6 ef6 e7 ef7 e8 ef8 e9 ef9 e10 ef10
   generalize ((w3.setCell ⟨gh,1,none⟩ (.bool sp)).setCell ⟨gh,5,none⟩ (.string (a0.extract 1 9))) = w4 at h_ b_ r_ ⊢
   have H4:=am_ h_
   have B4:=am_ b_
   have R4:=am_ r_
   clear h_ b_ r_
   have H5:=am_ (kd_ H4.out)
   have R5:=am_ (kd_ R4.out)
   have B5:=am_ (pd_ B4.out)
   have hf:=HF.out
   clear HF
   simp only [Option.some.injEq,Prod.mk.injEq] at hf
   obtain ⟨rfl,rfl,rfl,rfl,rfl,rfl,rfl,rfl,rfl,rfl,rfl,rfl,rfl⟩:=hf
   refine start_ (n:=6) (S:=fun W => W.cell? ⟨gh,0,none⟩ = some (.bool false) ∧ W.cell? ⟨gh,1,none⟩ = some (.bool sp) ∧ W.cell? ⟨gh,2,none⟩ = some (.bool false) ∧ W.cell? ⟨gh,3,none⟩ = some (.int .i64 0) ∧ W.cell? ⟨gh,4,none⟩ = some (.int .u32 0) ∧ W.cell? ⟨gh,5,none⟩ = some (.string (a0.extract 1 9)) ∧ W.cell? ⟨gh,6,none⟩ = some (.string (⟨#[]⟩ : ByteArray)) ∧ W.cell? ⟨gh,7,none⟩ = some (.string (⟨#[]⟩ : ByteArray)) ∧ W.cell? ⟨gh,8,none⟩ = some (.int .u64 0) ∧ W.cell? ⟨gh,9,none⟩ = some (.int .i64 0) ∧ W.cell? ⟨gh,10,none⟩ = some (.int .u64 0)) (ds:=[]) #[F_,F_,F_,F_,F_,F_] (by kernel_rfl) rfl rfl ⟨((kc_ H5.out 0).trans rfl),((kc_ H5.out 1).trans rfl),((kc_ H5.out 2).trans rfl),((kc_ H5.out 3).trans rfl),((kc_ H5.out 4).trans rfl),((kc_ H5.out 5).trans rfl),((kc_ H5.out 6).trans rfl),((kc_ H5.out 7).trans rfl),((kc_ H5.out 8).trans rfl),((kc_ H5.out 9).trans rfl),((kc_ H5.out 10).trans rfl)⟩ (fun hHeld => ?_)
   generalize w4.drew = w5 at H5 R5 B5 hHeld ⊢
   refine pure_ (i:=1) (N:=some 49) (v:=?_) (a':=?_) #[F_,T_,F_,F_,F_,F_] rfl rfl (by kernel_rfl) (fun _ _ _ h => h) (Or.inl ⟨by rfl,?_⟩) ?_ ?_
   rotate_left;(intro w';go_simp;with_reducible rfl);rotate_left;(simp only [Act.put,ps_,i64_w,i32_w];rfl)
   refine pure_ (i:=2) (N:=some 50) (v:=?_) (a':=?_) #[F_,T_,T_,F_,F_,F_] rfl rfl (by kernel_rfl) (fun _ _ _ h => h) (Or.inl ⟨by rfl,?_⟩) ?_ ?_
   rotate_left;(intro w';go_simp;with_reducible rfl);rotate_left;(simp only [Act.put,ps_,i64_w,i32_w];rfl)
   refine take_ (i:=0) (N:=some 48) (v:=?_) (a':=?_) #[T_,T_,T_,F_,F_,F_] rfl rfl (by kernel_rfl) (fun _ _ _ h => h) (Or.inl ⟨by rfl,?_⟩) hHeld ?_ ?_
   rotate_left
   ·rintro w' ⟨s0,s1,s2,s3,s4,s5,s6,s7,s8,s9,s10⟩
    go_simp
    with_reducible rfl
   rotate_left
   ·simp only [Act.put,ps_,i64_w,i32_w]
    rfl
   obtain ⟨d0,d1,d2,d3,d4,d5,d6,d7,d8,d9,d10,df0,df1,df2,df3,df4,df5,df6,df7,df8,df9,df10⟩:=cs11f_ R5.out
   refine one_ (i:=3) (N:=none) #[T_,T_,T_,T_,F_,F_] rfl rfl (by kernel_rfl) (by decide) (fun K hK => ?_)
   refine skip_ (w1:=?_) (by rfl) rfl ?_ ?_
   rotate_left
   ·go_simp
    rfl
   refine hK.out _ _ ⟨((cell_far (p:=⟨gb,_,none⟩) n2 _).trans ((cell_far (p:=⟨gb,_,none⟩) n2 _).trans ((cell_far (p:=⟨gb,_,none⟩) n2 _).trans ((cell_far (p:=⟨gb,_,none⟩) n2 _).trans ((cell_far (p:=⟨gb,_,none⟩) n2 _).trans ((cell_far (p:=⟨gb,_,none⟩) n2 _).trans ((cell_far (p:=⟨gb,_,none⟩) n2 _).trans ((cell_far (p:=⟨gb,_,none⟩) n2 _).trans ((cell_far (p:=⟨gb,_,none⟩) n2 _).trans ((cell_far (p:=⟨gb,_,none⟩) n2 _).trans ((cell_far (p:=⟨gb,_,none⟩) n2 _).trans hHeld.1))))))))))),((cell_far (p:=⟨gb,_,none⟩) n2 _).trans ((cell_far (p:=⟨gb,_,none⟩) n2 _).trans ((cell_far (p:=⟨gb,_,none⟩) n2 _).trans ((cell_far (p:=⟨gb,_,none⟩) n2 _).trans ((cell_far (p:=⟨gb,_,none⟩) n2 _).trans ((cell_far (p:=⟨gb,_,none⟩) n2 _).trans ((cell_far (p:=⟨gb,_,none⟩) n2 _).trans ((cell_far (p:=⟨gb,_,none⟩) n2 _).trans ((cell_far (p:=⟨gb,_,none⟩) n2 _).trans ((cell_far (p:=⟨gb,_,none⟩) n2 _).trans ((cell_far (p:=⟨gb,_,none⟩) n2 _).trans hHeld.2.1))))))))))),((cell_far (p:=⟨gb,_,none⟩) n2 _).trans ((cell_far (p:=⟨gb,_,none⟩) n2 _).trans ((cell_far (p:=⟨gb,_,none⟩) n2 _).trans ((cell_far (p:=⟨gb,_,none⟩) n2 _).trans ((cell_far (p:=⟨gb,_,none⟩) n2 _).trans ((cell_far (p:=⟨gb,_,none⟩) n2 _).trans ((cell_far (p:=⟨gb,_,none⟩) n2 _).trans ((cell_far (p:=⟨gb,_,none⟩) n2 _).trans ((cell_far (p:=⟨gb,_,none⟩) n2 _).trans ((cell_far (p:=⟨gb,_,none⟩) n2 _).trans ((cell_far (p:=⟨gb,_,none⟩) n2 _).trans hHeld.2.2.1))))))))))),((cell_far (p:=⟨gb,_,none⟩) n2 _).trans ((cell_far (p:=⟨gb,_,none⟩) n2 _).trans ((cell_far (p:=⟨gb,_,none⟩) n2 _).trans ((cell_far (p:=⟨gb,_,none⟩) n2 _).trans ((cell_far (p:=⟨gb,_,none⟩) n2 _).trans ((cell_far (p:=⟨gb,_,none⟩) n2 _).trans ((cell_far (p:=⟨gb,_,none⟩) n2 _).trans ((cell_far (p:=⟨gb,_,none⟩) n2 _).trans ((cell_far (p:=⟨gb,_,none⟩) n2 _).trans ((cell_far (p:=⟨gb,_,none⟩) n2 _).trans ((cell_far (p:=⟨gb,_,none⟩) n2 _).trans hHeld.2.2.2.1))))))))))),((cell_far (p:=⟨gb,_,none⟩) n2 _).trans ((cell_far (p:=⟨gb,_,none⟩) n2 _).trans ((cell_far (p:=⟨gb,_,none⟩) n2 _).trans ((cell_far (p:=⟨gb,_,none⟩) n2 _).trans ((cell_far (p:=⟨gb,_,none⟩) n2 _).trans ((cell_far (p:=⟨gb,_,none⟩) n2 _).trans ((cell_far (p:=⟨gb,_,none⟩) n2 _).trans ((cell_far (p:=⟨gb,_,none⟩) n2 _).trans ((cell_far (p:=⟨gb,_,none⟩) n2 _).trans ((cell_far (p:=⟨gb,_,none⟩) n2 _).trans ((cell_far (p:=⟨gb,_,none⟩) n2 _).trans hHeld.2.2.2.2.1))))))))))),((cell_far (p:=⟨gb,_,none⟩) n2 _).trans ((cell_far (p:=⟨gb,_,none⟩) n2 _).trans ((cell_far (p:=⟨gb,_,none⟩) n2 _).trans ((cell_far (p:=⟨gb,_,none⟩) n2 _).trans ((cell_far (p:=⟨gb,_,none⟩) n2 _).trans ((cell_far (p:=⟨gb,_,none⟩) n2 _).trans ((cell_far (p:=⟨gb,_,none⟩) n2 _).trans ((cell_far (p:=⟨gb,_,none⟩) n2 _).trans ((cell_far (p:=⟨gb,_,none⟩) n2 _).trans ((cell_far (p:=⟨gb,_,none⟩) n2 _).trans ((cell_far (p:=⟨gb,_,none⟩) n2 _).trans hHeld.2.2.2.2.2.1))))))))))),((cell_far (p:=⟨gb,_,none⟩) n2 _).trans ((cell_far (p:=⟨gb,_,none⟩) n2 _).trans ((cell_far (p:=⟨gb,_,none⟩) n2 _).trans ((cell_far (p:=⟨gb,_,none⟩) n2 _).trans ((cell_far (p:=⟨gb,_,none⟩) n2 _).trans ((cell_far (p:=⟨gb,_,none⟩) n2 _).trans ((cell_far (p:=⟨gb,_,none⟩) n2 _).trans ((cell_far (p:=⟨gb,_,none⟩) n2 _).trans ((cell_far (p:=⟨gb,_,none⟩) n2 _).trans ((cell_far (p:=⟨gb,_,none⟩) n2 _).trans ((cell_far (p:=⟨gb,_,none⟩) n2 _).trans hHeld.2.2.2.2.2.2.1))))))))))),((cell_far (p:=⟨gb,_,none⟩) n2 _).trans ((cell_far (p:=⟨gb,_,none⟩) n2 _).trans ((cell_far (p:=⟨gb,_,none⟩) n2 _).trans ((cell_far (p:=⟨gb,_,none⟩) n2 _).trans ((cell_far (p:=⟨gb,_,none⟩) n2 _).trans ((cell_far (p:=⟨gb,_,none⟩) n2 _).trans ((cell_far (p:=⟨gb,_,none⟩) n2 _).trans ((cell_far (p:=⟨gb,_,none⟩) n2 _).trans ((cell_far (p:=⟨gb,_,none⟩) n2 _).trans ((cell_far (p:=⟨gb,_,none⟩) n2 _).trans ((cell_far (p:=⟨gb,_,none⟩) n2 _).trans hHeld.2.2.2.2.2.2.2.1))))))))))),((cell_far (p:=⟨gb,_,none⟩) n2 _).trans ((cell_far (p:=⟨gb,_,none⟩) n2 _).trans ((cell_far (p:=⟨gb,_,none⟩) n2 _).trans ((cell_far (p:=⟨gb,_,none⟩) n2 _).trans ((cell_far (p:=⟨gb,_,none⟩) n2 _).trans ((cell_far (p:=⟨gb,_,none⟩) n2 _).trans ((cell_far (p:=⟨gb,_,none⟩) n2 _).trans ((cell_far (p:=⟨gb,_,none⟩) n2 _).trans ((cell_far (p:=⟨gb,_,none⟩) n2 _).trans ((cell_far (p:=⟨gb,_,none⟩) n2 _).trans ((cell_far (p:=⟨gb,_,none⟩) n2 _).trans hHeld.2.2.2.2.2.2.2.2.1))))))))))),((cell_far (p:=⟨gb,_,none⟩) n2 _).trans ((cell_far (p:=⟨gb,_,none⟩) n2 _).trans ((cell_far (p:=⟨gb,_,none⟩) n2 _).trans ((cell_far (p:=⟨gb,_,none⟩) n2 _).trans ((cell_far (p:=⟨gb,_,none⟩) n2 _).trans ((cell_far (p:=⟨gb,_,none⟩) n2 _).trans ((cell_far (p:=⟨gb,_,none⟩) n2 _).trans ((cell_far (p:=⟨gb,_,none⟩) n2 _).trans ((cell_far (p:=⟨gb,_,none⟩) n2 _).trans ((cell_far (p:=⟨gb,_,none⟩) n2 _).trans ((cell_far (p:=⟨gb,_,none⟩) n2 _).trans hHeld.2.2.2.2.2.2.2.2.2.1))))))))))),((cell_far (p:=⟨gb,_,none⟩) n2 _).trans ((cell_far (p:=⟨gb,_,none⟩) n2 _).trans ((cell_far (p:=⟨gb,_,none⟩) n2 _).trans ((cell_far (p:=⟨gb,_,none⟩) n2 _).trans ((cell_far (p:=⟨gb,_,none⟩) n2 _).trans ((cell_far (p:=⟨gb,_,none⟩) n2 _).trans ((cell_far (p:=⟨gb,_,none⟩) n2 _).trans ((cell_far (p:=⟨gb,_,none⟩) n2 _).trans ((cell_far (p:=⟨gb,_,none⟩) n2 _).trans ((cell_far (p:=⟨gb,_,none⟩) n2 _).trans ((cell_far (p:=⟨gb,_,none⟩) n2 _).trans hHeld.2.2.2.2.2.2.2.2.2.2)))))))))))⟩ (fun hHeld_ => ?_)
   clear hK K
   refine pure_ (i:=4) (N:=some 3) (v:=?_) (a':=?_) #[T_,T_,T_,T_,T_,F_] rfl rfl (by kernel_rfl) (fun _ _ _ h => h) (Or.inl ⟨by rfl,?_⟩) ?_ ?_
   rotate_left;(intro w';go_simp;with_reducible rfl);rotate_left;(simp only [Act.put,ps_,i64_w,i32_w];rfl)
   refine pure_ (i:=5) (N:=some 4) (v:=?_) (a':=?_) #[T_,T_,T_,T_,T_,T_] rfl rfl (by kernel_rfl) (fun _ _ _ h => h) (Or.inl ⟨by rfl,?_⟩) ?_ ?_
   rotate_left;(intro w';go_simp;with_reducible rfl);rotate_left;(simp only [Act.put,ps_,i64_w,i32_w];rfl)
   refine done_ (by kernel_rfl) ?_
   go_wp2
   refine bodyPost_ret (results_ctt rfl _ _ gb 28 #[.bool false,.bool sp,.bool false,.int .i64 0,.int .u32 0,.string (a0.extract 1 9),.string (⟨#[]⟩ : ByteArray),.string (⟨#[]⟩ : ByteArray),.int .u64 0,.int .i64 0,.int .u64 0] (0,0) _ rfl (blk_put (cs':=#[.bool false,.bool sp,.bool false,.int .i64 0,.int .u32 0,.string (a0.extract 1 9),.string (⟨#[]⟩ : ByteArray),.string (⟨#[]⟩ : ByteArray),.int .u64 0,.int .i64 0,.int .u64 0]) (blk_put (cs':=#[.bool false,.bool sp,.bool false,.int .i64 0,.int .u32 0,.string (a0.extract 1 9),.string (⟨#[]⟩ : ByteArray),.string (⟨#[]⟩ : ByteArray),.int .u64 0,.int .i64 0,.int .u64 0]) (blk_put (cs':=#[.bool false,.bool sp,.bool false,.int .i64 0,.int .u32 0,.string (a0.extract 1 9),.string (⟨#[]⟩ : ByteArray),.string (⟨#[]⟩ : ByteArray),.int .u64 0,.int .i64 0,.int .u64 0]) (blk_put (cs':=#[.bool false,.bool sp,.bool false,.int .i64 0,.int .u32 0,.string (a0.extract 1 9),.string (⟨#[]⟩ : ByteArray),.string (⟨#[]⟩ : ByteArray),.int .u64 0,.int .i64 0,.int .u64 0]) (blk_put (cs':=#[.bool false,.bool sp,.bool false,.int .i64 0,.int .u32 0,.string (a0.extract 1 9),.string (⟨#[]⟩ : ByteArray),.string (⟨#[]⟩ : ByteArray),.int .u64 0,.int .i64 0,.int .u64 0]) (blk_put (cs':=#[.bool false,.bool sp,.bool false,.int .i64 0,.int .u32 0,.string (a0.extract 1 9),.string (⟨#[]⟩ : ByteArray),.string (⟨#[]⟩ : ByteArray),.int .u64 0,.int .i64 0,.int .u64 0]) (blk_put (cs':=#[.bool false,.bool sp,.bool false,.int .i64 0,.int .u32 0,.string (⟨#[]⟩ : ByteArray),.string (⟨#[]⟩ : ByteArray),.string (⟨#[]⟩ : ByteArray),.int .u64 0,.int .i64 0,.int .u64 0]) (blk_put (cs':=#[.bool false,.bool sp,.bool false,.int .i64 0,.int .u32 0,.string (⟨#[]⟩ : ByteArray),.string (⟨#[]⟩ : ByteArray),.string (⟨#[]⟩ : ByteArray),.int .u64 0,.int .i64 0,.int .u64 0]) (blk_put (cs':=#[.bool false,.bool sp,.bool false,.int .i64 0,.int .u32 0,.string (⟨#[]⟩ : ByteArray),.string (⟨#[]⟩ : ByteArray),.string (⟨#[]⟩ : ByteArray),.int .u64 0,.int .i64 0,.int .u64 0]) (blk_put (cs':=#[.bool false,.bool sp,.bool false,.int .i64 0,.int .u32 0,.string (⟨#[]⟩ : ByteArray),.string (⟨#[]⟩ : ByteArray),.string (⟨#[]⟩ : ByteArray),.int .u64 0,.int .i64 0,.int .u64 0]) (blk_put (cs':=kk0_) R5.out 0 (.bool false) rfl) 1 (.bool sp) rfl) 2 (.bool false) rfl) 3 (.int .i64 0) rfl) 4 (.int .u32 0) rfl) 5 (.string (a0.extract 1 9)) rfl) 6 (.string (⟨#[]⟩ : ByteArray)) rfl) 7 (.string (⟨#[]⟩ : ByteArray)) rfl) 8 (.int .u64 0) rfl) 9 (.int .i64 0) rfl) 10 (.int .u64 0) rfl) Tryd.underlying28 rfl (by kernel_rfl)) rfl ?_
   exact ⟨rfl,(bs_ (bs_ (bs_ (bs_ (bs_ (bs_ (bs_ (bs_ (bs_ (bs_ (bs_ B5.out GB.out) GB.out) GB.out) GB.out) GB.out) GB.out) GB.out) GB.out) GB.out) GB.out) GB.out)⟩
 have hf:=HF.out
 clear HF
 rw [if_pos c2] at hf
 have HF:=am_ hf
 have g3 : decide (bt a0 0 ≥ 128) = true:=decide_eq_true c2
 have g4 : decide (128 ≤ bt a0 0) = true:=decide_eq_true c2
 have g5 : (128 ≤ bt a0 0) = True:=eq_true c2
 clear hf c2 k3 k4
 generalize bt a0 0 / 16 % 4 = ty at HF k5
 go_enter Tryd.func35,Tryd.ntmps35
 go_upto_region 4 with (first|((with_reducible refine gate_dst (N:=2) rfl ?_);refine box_event ?hg (N:=2) ?hd (cs:=kk0_) (t:=28) ?hr ?_;(case hd => rfl);(case hg => rfl);(case hr => first|(go_simp;done)|(go_simp;rfl));intro gb hg w1 hbox hb;have R1:=am_ hbox;have B1:=am_ (below_step (Below.refl _ _) hb);have GB:=am_ (Nat.le_of_eq hg.symm);clear hg hb hbox;obtain ⟨d0,d1,d2,d3,d4,d5,d6,d7,d8,d9,d10,df0,df1,df2,df3,df4,df5,df6,df7,df8,df9,df10⟩:=cs11f_ R1.out;skip)|((with_reducible refine gate_dst (N:=5) rfl ?_);refine box_event ?hg (N:=5) ?hd (cs:=kk0_) (t:=28) ?hr ?_;(case hd => rfl);(case hg => rfl);(case hr => first|(go_simp;done)|(go_simp;rfl));intro gh hg w2 hbox hb;have R2:=am_ (blk_below R1.out hb);have H2:=am_ hbox;have B2:=am_ (below_step B1.out hb);have GH:=am_ (show w.heap.size ≤ gh from Nat.le_trans B1.out.size (Nat.le_of_eq hg.symm));have n1 : gb ≠ gh:=Nat.ne_of_lt (Nat.lt_of_lt_of_le (blk_lt R1.out) (Nat.le_of_eq hg.symm));have n2 : gh ≠ gb:=n1.symm;clear hg hb hbox d0 df0 d1 df1 d2 df2 d3 df3 d4 df4 d5 df5 d6 df6 d7 df7 d8 df8 d9 df9 d10 df10;obtain ⟨d0,d1,d2,d3,d4,d5,d6,d7,d8,d9,d10,df0,df1,df2,df3,df4,df5,df6,df7,df8,df9,df10⟩:=cs11f_ R2.out;obtain ⟨e0,e1,e2,e3,e4,e5,e6,e7,e8,e9,e10,ef0,ef1,ef2,ef3,ef4,ef5,ef6,ef7,ef8,ef9,ef10⟩:=cs11f_ H2.out;skip))
 have h_:=(blk_put (cs':=kk1_) (blk_put (cs':=kk1_) (blk_put (cs':=kk1_) (blk_put (cs':=kk1_) (blk_put (cs':=kk1_) (blk_put (cs':=kk1_) (blk_put (cs':=kk1_) (blk_put (cs':=kk1_) (blk_put (cs':=kk1_) (blk_put (cs':=kk1_) (blk_put (cs':=kk1_) H2.out 0 (.bool true) rfl) 1 (.bool false) rfl) 2 (.bool false) rfl) 3 (.int .i64 0) rfl) 4 (.int .u32 0) rfl) 5 (.string (⟨#[]⟩ : ByteArray)) rfl) 6 (.string (⟨#[]⟩ : ByteArray)) rfl) 7 (.string (⟨#[]⟩ : ByteArray)) rfl) 8 (.int .u64 0) rfl) 9 (.int .i64 0) rfl) 10 (.int .u64 0) rfl)
 have b_:=(bs_ (j:=10) (v:=.int .u64 0) (bs_ (j:=9) (v:=.int .i64 0) (bs_ (j:=8) (v:=.int .u64 0) (bs_ (j:=7) (v:=.string (⟨#[]⟩ : ByteArray)) (bs_ (j:=6) (v:=.string (⟨#[]⟩ : ByteArray)) (bs_ (j:=5) (v:=.string (⟨#[]⟩ : ByteArray)) (bs_ (j:=4) (v:=.int .u32 0) (bs_ (j:=3) (v:=.int .i64 0) (bs_ (j:=2) (v:=.bool false) (bs_ (j:=1) (v:=.bool false) (bs_ (j:=0) (v:=.bool true) B2.out GH.out) GH.out) GH.out) GH.out) GH.out) GH.out) GH.out) GH.out) GH.out) GH.out) GH.out)
 have r_:=(blk_far (p:=⟨gh,10,none⟩) (blk_far (p:=⟨gh,9,none⟩) (blk_far (p:=⟨gh,8,none⟩) (blk_far (p:=⟨gh,7,none⟩) (blk_far (p:=⟨gh,6,none⟩) (blk_far (p:=⟨gh,5,none⟩) (blk_far (p:=⟨gh,4,none⟩) (blk_far (p:=⟨gh,3,none⟩) (blk_far (p:=⟨gh,2,none⟩) (blk_far (p:=⟨gh,1,none⟩) (blk_far (p:=⟨gh,0,none⟩) R2.out n1 (.bool true)) n1 (.bool false)) n1 (.bool false)) n1 (.int .i64 0)) n1 (.int .u32 0)) n1 (.string (⟨#[]⟩ : ByteArray))) n1 (.string (⟨#[]⟩ : ByteArray))) n1 (.string (⟨#[]⟩ : ByteArray))) n1 (.int .u64 0)) n1 (.int .i64 0)) n1 (.int .u64 0))
 clear d0 df0 d1 df1 d2 df2 d3 df3 d4 df4 d5 df5 d6 df6 d7 df7 d8 df8 d9 df9 d10 df10 e0 ef0 e1 ef1 e2 ef2 e3 ef3 e4 ef4 e5 ef5 e6 ef6 e7 ef7 e8 ef8 e9 ef9 e10 ef10
 generalize (((((((((((w2.setCell ⟨gh,0,none⟩ (.bool true)).setCell ⟨gh,1,none⟩ (.bool false)).setCell ⟨gh,2,none⟩ (.bool false)).setCell ⟨gh,3,none⟩ (.int .i64 0)).setCell ⟨gh,4,none⟩ (.int .u32 0)).setCell ⟨gh,5,none⟩ (.string (⟨#[]⟩ : ByteArray))).setCell ⟨gh,6,none⟩ (.string (⟨#[]⟩ : ByteArray))).setCell ⟨gh,7,none⟩ (.string (⟨#[]⟩ : ByteArray))).setCell ⟨gh,8,none⟩ (.int .u64 0)).setCell ⟨gh,9,none⟩ (.int .i64 0)).setCell ⟨gh,10,none⟩ (.int .u64 0)) = w3 at h_ b_ r_ ⊢
 have H3:=am_ h_
 have B3:=am_ b_
 have R3:=am_ r_
 clear h_ b_ r_
 obtain ⟨d0,d1,d2,d3,d4,d5,d6,d7,d8,d9,d10,df0,df1,df2,df3,df4,df5,df6,df7,df8,df9,df10⟩:=cs11f_ R3.out
 obtain ⟨e0,e1,e2,e3,e4,e5,e6,e7,e8,e9,e10,ef0,ef1,ef2,ef3,ef4,ef5,ef6,ef7,ef8,ef9,ef10⟩:=cs11f_ H3.out
 by_cases c3 : a0.size < 5
 ·have hf:=HF.out
  clear HF
  rw [if_pos (Or.inl c3)] at hf
  have HF:=am_ hf
  clear hf
  have g6 : decide ((a0.size : Int) < 5) = true:=decide_eq_true (by omega)
  have g7 : ((a0.size : Int) < 5) = True:=eq_true (by omega)
  have g8 : (a0.size < 5) = True:=eq_true c3
  clear c3
  have hf:=HF.out
  clear HF
  simp only [ahZ,Option.some.injEq,Prod.mk.injEq] at hf
  obtain ⟨rfl,rfl,rfl,rfl,rfl,rfl,rfl,rfl,rfl,rfl,rfl,rfl,rfl⟩:=hf
  (try clear HF)
  go_wp2
  refine bodyPost_ret (results_ctt rfl _ _ gb 28 kk0_ (0,0) _ rfl (blk_put (cs':=kk0_) (blk_put (cs':=kk0_) (blk_put (cs':=kk0_) (blk_put (cs':=kk0_) (blk_put (cs':=kk0_) (blk_put (cs':=kk0_) (blk_put (cs':=kk0_) (blk_put (cs':=kk0_) (blk_put (cs':=kk0_) (blk_put (cs':=kk0_) (blk_put (cs':=kk0_) (blk_far (p:=⟨gh,3,none⟩) R3.out n1 _) 0 (.bool false) rfl) 1 (.bool false) rfl) 2 (.bool false) rfl) 3 (.int .i64 0) rfl) 4 (.int .u32 0) rfl) 5 (.string (⟨#[]⟩ : ByteArray)) rfl) 6 (.string (⟨#[]⟩ : ByteArray)) rfl) 7 (.string (⟨#[]⟩ : ByteArray)) rfl) 8 (.int .u64 0) rfl) 9 (.int .i64 0) rfl) 10 (.int .u64 0) rfl) Tryd.underlying28 rfl (by kernel_rfl)) rfl ?_
  exact ⟨rfl,(bs_ (bs_ (bs_ (bs_ (bs_ (bs_ (bs_ (bs_ (bs_ (bs_ (bs_ (bs_ B3.out GH.out) GB.out) GB.out) GB.out) GB.out) GB.out) GB.out) GB.out) GB.out) GB.out) GB.out) GB.out)⟩
 have g6 : decide ((a0.size : Int) < 5) = false:=decide_eq_false (by omega)
 have g7 : ((a0.size : Int) < 5) = False:=eq_false (by omega)
 have g8 : (a0.size < 5) = False:=eq_false c3
 by_cases c4 : ty = 3
 ·have hf:=HF.out
  clear HF
  rw [if_pos (Or.inr c4)] at hf
  have HF:=am_ hf
  have g9 : (ty == 3) = true:=beq_iff_eq.mpr c4
  clear hf c3 c4
  have hf:=HF.out
  clear HF
  simp only [ahZ,Option.some.injEq,Prod.mk.injEq] at hf
  obtain ⟨rfl,rfl,rfl,rfl,rfl,rfl,rfl,rfl,rfl,rfl,rfl,rfl,rfl⟩:=hf
  (try clear HF)
  go_wp2
  refine bodyPost_ret (results_ctt rfl _ _ gb 28 kk0_ (0,0) _ rfl (blk_put (cs':=kk0_) (blk_put (cs':=kk0_) (blk_put (cs':=kk0_) (blk_put (cs':=kk0_) (blk_put (cs':=kk0_) (blk_put (cs':=kk0_) (blk_put (cs':=kk0_) (blk_put (cs':=kk0_) (blk_put (cs':=kk0_) (blk_put (cs':=kk0_) (blk_put (cs':=kk0_) (blk_far (p:=⟨gh,3,none⟩) R3.out n1 _) 0 (.bool false) rfl) 1 (.bool false) rfl) 2 (.bool false) rfl) 3 (.int .i64 0) rfl) 4 (.int .u32 0) rfl) 5 (.string (⟨#[]⟩ : ByteArray)) rfl) 6 (.string (⟨#[]⟩ : ByteArray)) rfl) 7 (.string (⟨#[]⟩ : ByteArray)) rfl) 8 (.int .u64 0) rfl) 9 (.int .i64 0) rfl) 10 (.int .u64 0) rfl) Tryd.underlying28 rfl (by kernel_rfl)) rfl ?_
  exact ⟨rfl,(bs_ (bs_ (bs_ (bs_ (bs_ (bs_ (bs_ (bs_ (bs_ (bs_ (bs_ (bs_ B3.out GH.out) GB.out) GB.out) GB.out) GB.out) GB.out) GB.out) GB.out) GB.out) GB.out) GB.out) GB.out)⟩
 have hf:=HF.out
 clear HF
 rw [if_neg (fun h => h.elim c3 c4)] at hf
 have g9 : (ty == 3) = false:=beq_eq_false_iff_ne.mpr c4
 have g10 : (5 ≤ (a0.size : Int)) = True:=eq_true (by omega)
 have g11 : (5 ≤ a0.size) = True:=eq_true (by omega)
 have g12 : decide (5 ≤ (a0.size : Int)) = true:=decide_eq_true (by omega)
 obtain ⟨v,hv,hf⟩:=Option.bind_eq_some_iff.1 hf
 obtain ⟨⟨d,s1,i1⟩,hd,hf⟩:=Option.bind_eq_some_iff.1 hf
 dsimp only at hf
 have HF:=am_ hf
 have HV:=am_ hv
 have HD:=am_ hd
 clear hf hv hd c3 c4
 go_wp2_with fail
 have h_:=(blk_put (cs':=#[.bool true,.bool false,.bool false,.int .i64 ty,.int .u32 0,.string (⟨#[]⟩ : ByteArray),.string (⟨#[]⟩ : ByteArray),.string (⟨#[]⟩ : ByteArray),.int .u64 0,.int .i64 0,.int .u64 0]) H3.out 3 (.int .i64 ty) rfl)
 have b_:=(bs_ (j:=3) (v:=.int .i64 ty) B3.out GH.out)
 have r_:=(blk_far (p:=⟨gh,3,none⟩) R3.out n1 (.int .i64 ty))
 clear d0 df0 d1 df1 d2 df2 d3 df3 d4 df4 d5 df5 d6 df6 d7 df7 d8 df8 d9 df9 d10 df10 e0 ef0 e1 ef1 e2 ef2 e3 ef3 e4 ef4 e5 ef5 e6 ef6 e7 ef7 e8 ef8 e9 ef9 e10 ef10
 generalize (w3.setCell ⟨gh,3,none⟩ (.int .i64 ty)) = w4 at h_ b_ r_ ⊢
 have H4:=am_ h_
 have B4:=am_ b_
 have R4:=am_ r_
 clear h_ b_ r_
 refine (dominoref01_Back.calls k _ _ _ HV.out).mono ?_
 rintro e_ w_ ⟨rfl,hd_⟩
 obtain ⟨m_,rfl⟩:=hd_
 have H5:=am_ (kn_ H4.out m_)
 have R5:=am_ (kn_ R4.out m_)
 have B5:=am_ (pn_ B4.out m_)
 generalize w4.drewN m_ = w5 at H5 R5 B5 ⊢
 obtain ⟨d0,d1,d2,d3,d4,d5,d6,d7,d8,d9,d10,df0,df1,df2,df3,df4,df5,df6,df7,df8,df9,df10⟩:=cs11f_ R5.out
 obtain ⟨e0,e1,e2,e3,e4,e5,e6,e7,e8,e9,e10,ef0,ef1,ef2,ef3,ef4,ef5,ef6,ef7,ef8,ef9,ef10⟩:=cs11f_ H5.out
 go_wp2_with fail
 have h_:=(blk_put (cs':=#[.bool true,.bool false,.bool false,.int .i64 ty,.int .u32 (v % 4294967296),.string (⟨#[]⟩ : ByteArray),.string (⟨#[]⟩ : ByteArray),.string (⟨#[]⟩ : ByteArray),.int .u64 0,.int .i64 0,.int .u64 0]) H5.out 4 (.int .u32 (v % 4294967296)) rfl)
 have b_:=(bs_ (j:=4) (v:=.int .u32 (v % 4294967296)) B5.out GH.out)
 have r_:=(blk_far (p:=⟨gh,4,none⟩) R5.out n1 (.int .u32 (v % 4294967296)))
 clear d0 df0 d1 df1 d2 df2 d3 df3 d4 df4 d5 df5 d6 df6 d7 df7 d8 df8 d9 df9 d10 df10 e0 ef0 e1 ef1 e2 ef2 e3 ef3 e4 ef4 e5 ef5 e6 ef6 e7 ef7 e8 ef8 e9 ef9 e10 ef10
 generalize (w5.setCell ⟨gh,4,none⟩ (.int .u32 (v % 4294967296))) = w6 at h_ b_ r_ ⊢
 have H6:=am_ h_
 have B6:=am_ b_
 have R6:=am_ r_
 clear h_ b_ r_
 refine (dominoref04_id.calls _ _ _ _ _ HD.out).mono ?_
 rintro e_ w_ ⟨rfl,hd_⟩
 obtain ⟨m_,rfl⟩:=hd_
 have H7:=am_ (kn_ H6.out m_)
 have R7:=am_ (kn_ R6.out m_)
 have B7:=am_ (pn_ B6.out m_)
 generalize w6.drewN m_ = w7 at H7 R7 B7 ⊢
 obtain ⟨d0,d1,d2,d3,d4,d5,d6,d7,d8,d9,d10,df0,df1,df2,df3,df4,df5,df6,df7,df8,df9,df10⟩:=cs11f_ R7.out
 obtain ⟨e0,e1,e2,e3,e4,e5,e6,e7,e8,e9,e10,ef0,ef1,ef2,ef3,ef4,ef5,ef6,ef7,ef8,ef9,ef10⟩:=cs11f_ H7.out
 cases i1 with
 | false =>
  have hf:=HF.out
  clear HF
  rw [if_neg (by decide)] at hf
  have HF:=am_ hf
  clear hf
  have hf:=HF.out
  clear HF
  simp only [ahZ,Option.some.injEq,Prod.mk.injEq] at hf
  obtain ⟨rfl,rfl,rfl,rfl,rfl,rfl,rfl,rfl,rfl,rfl,rfl,rfl,rfl⟩:=hf
  (try clear HF)
  go_wp2
  refine bodyPost_ret (results_ctt rfl _ _ gb 28 kk0_ (0,0) _ rfl (blk_put (cs':=kk0_) (blk_put (cs':=kk0_) (blk_put (cs':=kk0_) (blk_put (cs':=kk0_) (blk_put (cs':=kk0_) (blk_put (cs':=kk0_) (blk_put (cs':=kk0_) (blk_put (cs':=kk0_) (blk_put (cs':=kk0_) (blk_put (cs':=kk0_) (blk_put (cs':=kk0_) R7.out 0 (.bool false) rfl) 1 (.bool false) rfl) 2 (.bool false) rfl) 3 (.int .i64 0) rfl) 4 (.int .u32 0) rfl) 5 (.string (⟨#[]⟩ : ByteArray)) rfl) 6 (.string (⟨#[]⟩ : ByteArray)) rfl) 7 (.string (⟨#[]⟩ : ByteArray)) rfl) 8 (.int .u64 0) rfl) 9 (.int .i64 0) rfl) 10 (.int .u64 0) rfl) Tryd.underlying28 rfl (by kernel_rfl)) rfl ?_
  exact ⟨rfl,(bs_ (bs_ (bs_ (bs_ (bs_ (bs_ (bs_ (bs_ (bs_ (bs_ (bs_ B7.out GB.out) GB.out) GB.out) GB.out) GB.out) GB.out) GB.out) GB.out) GB.out) GB.out) GB.out)⟩
 | true =>
  have hf:=HF.out
  clear HF
  rw [if_pos rfl] at hf
  obtain ⟨⟨c,s2,i2⟩,hc,hf⟩:=Option.bind_eq_some_iff.1 hf
  dsimp only at hf
  have HF:=am_ hf
  have HC:=am_ hc
  clear hf hc d0 df0 d1 df1 d2 df2 d3 df3 d4 df4 d5 df5 d6 df6 d7 df7 d8 df8 d9 df9 d10 df10 e0 ef0 e1 ef1 e2 ef2 e3 ef3 e4 ef4 e5 ef5 e6 ef6 e7 ef7 e8 ef8 e9 ef9 e10 ef10
  go_wp2_with fail
  refine (dominoref04_id.calls _ _ _ _ _ HC.out).mono ?_
  rintro e_ w_ ⟨rfl,hd_⟩
  obtain ⟨m_,rfl⟩:=hd_
  have H8:=am_ (kn_ H7.out m_)
  have R8:=am_ (kn_ R7.out m_)
  have B8:=am_ (pn_ B7.out m_)
  generalize w7.drewN m_ = w8 at H8 R8 B8 ⊢
  obtain ⟨d0,d1,d2,d3,d4,d5,d6,d7,d8,d9,d10,df0,df1,df2,df3,df4,df5,df6,df7,df8,df9,df10⟩:=cs11f_ R8.out
  obtain ⟨e0,e1,e2,e3,e4,e5,e6,e7,e8,e9,e10,ef0,ef1,ef2,ef3,ef4,ef5,ef6,ef7,ef8,ef9,ef10⟩:=cs11f_ H8.out
  cases i2 with
  | false =>
   have hf:=HF.out
   clear HF
   rw [if_neg (by decide)] at hf
   have HF:=am_ hf
   clear hf
   have hf:=HF.out
   clear HF
   simp only [ahZ,Option.some.injEq,Prod.mk.injEq] at hf
   obtain ⟨rfl,rfl,rfl,rfl,rfl,rfl,rfl,rfl,rfl,rfl,rfl,rfl,rfl⟩:=hf
   (try clear HF)
   go_wp2
   refine bodyPost_ret (results_ctt rfl _ _ gb 28 kk0_ (0,0) _ rfl (blk_put (cs':=kk0_) (blk_put (cs':=kk0_) (blk_put (cs':=kk0_) (blk_put (cs':=kk0_) (blk_put (cs':=kk0_) (blk_put (cs':=kk0_) (blk_put (cs':=kk0_) (blk_put (cs':=kk0_) (blk_put (cs':=kk0_) (blk_put (cs':=kk0_) (blk_put (cs':=kk0_) R8.out 0 (.bool false) rfl) 1 (.bool false) rfl) 2 (.bool false) rfl) 3 (.int .i64 0) rfl) 4 (.int .u32 0) rfl) 5 (.string (⟨#[]⟩ : ByteArray)) rfl) 6 (.string (⟨#[]⟩ : ByteArray)) rfl) 7 (.string (⟨#[]⟩ : ByteArray)) rfl) 8 (.int .u64 0) rfl) 9 (.int .i64 0) rfl) 10 (.int .u64 0) rfl) Tryd.underlying28 rfl (by kernel_rfl)) rfl ?_
   exact ⟨rfl,(bs_ (bs_ (bs_ (bs_ (bs_ (bs_ (bs_ (bs_ (bs_ (bs_ (bs_ B8.out GB.out) GB.out) GB.out) GB.out) GB.out) GB.out) GB.out) GB.out) GB.out) GB.out) GB.out)⟩
  | true =>
   have hf:=HF.out
   clear HF
   rw [if_pos rfl] at hf
   have HF:=am_ hf
   clear hf
   by_cases c5 : ty = 0
   rotate_left
   ·have hf:=HF.out
    clear HF
    rw [if_neg c5] at hf
    have g13 : (ty == 0) = false:=beq_eq_false_iff_ne.mpr c5
    obtain ⟨⟨l,s9,er2⟩,hl,hf⟩:=Option.bind_eq_some_iff.1 hf
    dsimp only at hf
    have HF:=am_ hf
    have HL:=am_ hl
    clear hf hl
    clear c5
    go_wp2_with fail
    have h_:=(blk_put (cs':=#[.bool true,.bool false,.bool false,.int .i64 ty,.int .u32 (v % 4294967296),.string d,.string c,.string (⟨#[]⟩ : ByteArray),.int .u64 0,.int .i64 0,.int .u64 0]) (blk_put (cs':=#[.bool true,.bool false,.bool false,.int .i64 ty,.int .u32 (v % 4294967296),.string d,.string (⟨#[]⟩ : ByteArray),.string (⟨#[]⟩ : ByteArray),.int .u64 0,.int .i64 0,.int .u64 0]) H8.out 5 (.string d) rfl) 6 (.string c) rfl)
    have b_:=(bs_ (j:=6) (v:=.string c) (bs_ (j:=5) (v:=.string d) B8.out GH.out) GH.out)
    have r_:=(blk_far (p:=⟨gh,6,none⟩) (blk_far (p:=⟨gh,5,none⟩) R8.out n1 (.string d)) n1 (.string c))
    clear d0 df0 d1 df1 d2 df2 d3 df3 d4 df4 d5 df5 d6 df6 d7 df7 d8 df8 d9 df9 d10 df10 e0 ef0 e1 ef1 e2 ef2 e3 ef3 e4 ef4 e5 ef5 e6 ef6 e7 ef7 e8 ef8 e9 ef9 e10 ef10
    generalize ((w8.setCell ⟨gh,5,none⟩ (.string d)).setCell ⟨gh,6,none⟩ (.string c)) = w9 at h_ b_ r_ ⊢
    have H9:=am_ h_
    have B9:=am_ b_
    have R9:=am_ r_
    clear h_ b_ r_
    refine (dominoref01_Get.calls k _ _ _ _ _ HL.out).mono ?_
    rintro e_ w_ ⟨rfl,hd_⟩
    obtain ⟨m_,rfl⟩:=hd_
    have H10:=am_ (kn_ H9.out m_)
    have R10:=am_ (kn_ R9.out m_)
    have B10:=am_ (pn_ B9.out m_)
    generalize w9.drewN m_ = w10 at H10 R10 B10 ⊢
    obtain ⟨d0,d1,d2,d3,d4,d5,d6,d7,d8,d9,d10,df0,df1,df2,df3,df4,df5,df6,df7,df8,df9,df10⟩:=cs11f_ R10.out
    obtain ⟨e0,e1,e2,e3,e4,e5,e6,e7,e8,e9,e10,ef0,ef1,ef2,ef3,ef4,ef5,ef6,ef7,ef8,ef9,ef10⟩:=cs11f_ H10.out
    by_cases c6 : er2 = 0
    rotate_left
    ·have g20 : (er2 == 0) = false:=beq_eq_false_iff_ne.mpr c6
     have g21 : (er2 != 0) = true:=bne_iff_ne.mpr c6
     have hf:=HF.out
     clear HF
     rw [if_neg c6] at hf
     have HF:=am_ hf
     clear hf
     clear c6
     have hf:=HF.out
     clear HF
     simp only [ahZ,Option.some.injEq,Prod.mk.injEq] at hf
     obtain ⟨rfl,rfl,rfl,rfl,rfl,rfl,rfl,rfl,rfl,rfl,rfl,rfl,rfl⟩:=hf
     (try clear HF)
     go_wp2
     refine bodyPost_ret (results_ctt rfl _ _ gb 28 kk0_ (0,0) _ rfl (blk_put (cs':=kk0_) (blk_put (cs':=kk0_) (blk_put (cs':=kk0_) (blk_put (cs':=kk0_) (blk_put (cs':=kk0_) (blk_put (cs':=kk0_) (blk_put (cs':=kk0_) (blk_put (cs':=kk0_) (blk_put (cs':=kk0_) (blk_put (cs':=kk0_) (blk_put (cs':=kk0_) R10.out 0 (.bool false) rfl) 1 (.bool false) rfl) 2 (.bool false) rfl) 3 (.int .i64 0) rfl) 4 (.int .u32 0) rfl) 5 (.string (⟨#[]⟩ : ByteArray)) rfl) 6 (.string (⟨#[]⟩ : ByteArray)) rfl) 7 (.string (⟨#[]⟩ : ByteArray)) rfl) 8 (.int .u64 0) rfl) 9 (.int .i64 0) rfl) 10 (.int .u64 0) rfl) Tryd.underlying28 rfl (by kernel_rfl)) rfl ?_
     exact ⟨rfl,(bs_ (bs_ (bs_ (bs_ (bs_ (bs_ (bs_ (bs_ (bs_ (bs_ (bs_ B10.out GB.out) GB.out) GB.out) GB.out) GB.out) GB.out) GB.out) GB.out) GB.out) GB.out) GB.out)⟩
    have hf:=HF.out
    clear HF
    rw [if_pos c6] at hf
    have HF:=am_ hf
    clear hf
    have g20 : (er2 == 0) = true:=beq_iff_eq.mpr c6
    have g21 : (er2 != 0) = false:=bne_eq_false_iff_eq.mpr c6
    clear c6
    have hf:=HF.out
    clear HF
    simp only [Option.some.injEq,Prod.mk.injEq] at hf
    obtain ⟨rfl,rfl,rfl,rfl,rfl,rfl,rfl,rfl,rfl,rfl,rfl,rfl,rfl⟩:=hf
    (try clear HF)
    go_wp2
    refine bodyPost_ret (results_ctt rfl _ _ gb 28 #[.bool true,.bool false,.bool false,.int .i64 ty,.int .u32 (v % 4294967296),.string d,.string c,.string (⟨#[]⟩ : ByteArray),.int .u64 l,.int .i64 0,.int .u64 0] (0,0) _ rfl (blk_put (cs':=#[.bool true,.bool false,.bool false,.int .i64 ty,.int .u32 (v % 4294967296),.string d,.string c,.string (⟨#[]⟩ : ByteArray),.int .u64 l,.int .i64 0,.int .u64 0]) (blk_put (cs':=#[.bool true,.bool false,.bool false,.int .i64 ty,.int .u32 (v % 4294967296),.string d,.string c,.string (⟨#[]⟩ : ByteArray),.int .u64 l,.int .i64 0,.int .u64 0]) (blk_put (cs':=#[.bool true,.bool false,.bool false,.int .i64 ty,.int .u32 (v % 4294967296),.string d,.string c,.string (⟨#[]⟩ : ByteArray),.int .u64 l,.int .i64 0,.int .u64 0]) (blk_put (cs':=#[.bool true,.bool false,.bool false,.int .i64 ty,.int .u32 (v % 4294967296),.string d,.string c,.string (⟨#[]⟩ : ByteArray),.int .u64 0,.int .i64 0,.int .u64 0]) (blk_put (cs':=#[.bool true,.bool false,.bool false,.int .i64 ty,.int .u32 (v % 4294967296),.string d,.string c,.string (⟨#[]⟩ : ByteArray),.int .u64 0,.int .i64 0,.int .u64 0]) (blk_put (cs':=#[.bool true,.bool false,.bool false,.int .i64 ty,.int .u32 (v % 4294967296),.string d,.string (⟨#[]⟩ : ByteArray),.string (⟨#[]⟩ : ByteArray),.int .u64 0,.int .i64 0,.int .u64 0]) (blk_put (cs':=#[.bool true,.bool false,.bool false,.int .i64 ty,.int .u32 (v % 4294967296),.string (⟨#[]⟩ : ByteArray),.string (⟨#[]⟩ : ByteArray),.string (⟨#[]⟩ : ByteArray),.int .u64 0,.int .i64 0,.int .u64 0]) (blk_put (cs':=#[.bool true,.bool false,.bool false,.int .i64 ty,.int .u32 0,.string (⟨#[]⟩ : ByteArray),.string (⟨#[]⟩ : ByteArray),.string (⟨#[]⟩ : ByteArray),.int .u64 0,.int .i64 0,.int .u64 0]) (blk_put (cs':=kk1_) (blk_put (cs':=kk1_) (blk_put (cs':=kk1_) (blk_far (p:=⟨gh,8,none⟩) R10.out n1 _) 0 (.bool true) rfl) 1 (.bool false) rfl) 2 (.bool false) rfl) 3 (.int .i64 ty) rfl) 4 (.int .u32 (v % 4294967296)) rfl) 5 (.string d) rfl) 6 (.string c) rfl) 7 (.string (⟨#[]⟩ : ByteArray)) rfl) 8 (.int .u64 l) rfl) 9 (.int .i64 0) rfl) 10 (.int .u64 0) rfl) Tryd.underlying28 rfl (by kernel_rfl)) rfl ?_
    exact ⟨rfl,(bs_ (bs_ (bs_ (bs_ (bs_ (bs_ (bs_ (bs_ (bs_ (bs_ (bs_ (bs_ B10.out GH.out) GB.out) GB.out) GB.out) GB.out) GB.out) GB.out) GB.out) GB.out) GB.out) GB.out) GB.out)⟩
   have hf:=HF.out
   clear HF
   rw [if_pos c5] at hf
   have HQ:=am_ hf
   repeat clear hf
   subst c5
   have hf:=HQ.out
   clear HQ
   have g13 : ((0 : Int) == 0) = true:=rfl
   obtain ⟨⟨n,s3,er1⟩,hn,hf⟩:=Option.bind_eq_some_iff.1 hf
   dsimp only at hf
   have HF:=am_ hf
   have HN:=am_ hn
   clear hf hn
   go_wp2_with fail
   have h_:=(blk_put (cs':=#[.bool true,.bool false,.bool false,.int .i64 0,.int .u32 (v % 4294967296),.string d,.string c,.string (⟨#[]⟩ : ByteArray),.int .u64 0,.int .i64 0,.int .u64 0]) (blk_put (cs':=#[.bool true,.bool false,.bool false,.int .i64 0,.int .u32 (v % 4294967296),.string d,.string (⟨#[]⟩ : ByteArray),.string (⟨#[]⟩ : ByteArray),.int .u64 0,.int .i64 0,.int .u64 0]) H8.out 5 (.string d) rfl) 6 (.string c) rfl)
   have b_:=(bs_ (j:=6) (v:=.string c) (bs_ (j:=5) (v:=.string d) B8.out GH.out) GH.out)
   have r_:=(blk_far (p:=⟨gh,6,none⟩) (blk_far (p:=⟨gh,5,none⟩) R8.out n1 (.string d)) n1 (.string c))
   clear d0 df0 d1 df1 d2 df2 d3 df3 d4 df4 d5 df5 d6 df6 d7 df7 d8 df8 d9 df9 d10 df10 e0 ef0 e1 ef1 e2 ef2 e3 ef3 e4 ef4 e5 ef5 e6 ef6 e7 ef7 e8 ef8 e9 ef9 e10 ef10
   generalize ((w8.setCell ⟨gh,5,none⟩ (.string d)).setCell ⟨gh,6,none⟩ (.string c)) = w9 at h_ b_ r_ ⊢
   have H9:=am_ h_
   have B9:=am_ b_
   have R9:=am_ r_
   clear h_ b_ r_
   refine (dominoref01_Get.calls k _ _ _ _ _ HN.out).mono ?_
   rintro e_ w_ ⟨rfl,hd_⟩
   obtain ⟨m_,rfl⟩:=hd_
   have H10:=am_ (kn_ H9.out m_)
   have R10:=am_ (kn_ R9.out m_)
   have B10:=am_ (pn_ B9.out m_)
   generalize w9.drewN m_ = w10 at H10 R10 B10 ⊢
   obtain ⟨d0,d1,d2,d3,d4,d5,d6,d7,d8,d9,d10,df0,df1,df2,df3,df4,df5,df6,df7,df8,df9,df10⟩:=cs11f_ R10.out
   obtain ⟨e0,e1,e2,e3,e4,e5,e6,e7,e8,e9,e10,ef0,ef1,ef2,ef3,ef4,ef5,ef6,ef7,ef8,ef9,ef10⟩:=cs11f_ H10.out
   by_cases hq : 0 ≤ n ∧ s3.size ≤ 9223372036854775807
   rotate_left
   ·have hf:=HF.out
    clear HF
    rw [if_neg hq] at hf
    simp at hf
   obtain ⟨n0,hs3⟩:=hq
   have hf:=HF.out
   clear HF
   rw [if_pos ⟨n0,hs3⟩] at hf
   have HF:=am_ hf
   clear hf
   by_cases c6 : er1 = 0
   rotate_left
   ·have hf:=HF.out
    clear HF
    rw [if_neg (fun h => c6 h.1)] at hf
    have HF:=am_ hf
    clear hf
    have g14 : (er1 == 0) = false:=beq_eq_false_iff_ne.mpr c6
    have g15 : (er1 != 0) = true:=bne_iff_ne.mpr c6
    clear c6
    have hf:=HF.out
    clear HF
    simp only [ahZ,Option.some.injEq,Prod.mk.injEq] at hf
    obtain ⟨rfl,rfl,rfl,rfl,rfl,rfl,rfl,rfl,rfl,rfl,rfl,rfl,rfl⟩:=hf
    (try clear HF)
    go_wp2
    refine bodyPost_ret (results_ctt rfl _ _ gb 28 kk0_ (0,0) _ rfl (blk_put (cs':=kk0_) (blk_put (cs':=kk0_) (blk_put (cs':=kk0_) (blk_put (cs':=kk0_) (blk_put (cs':=kk0_) (blk_put (cs':=kk0_) (blk_put (cs':=kk0_) (blk_put (cs':=kk0_) (blk_put (cs':=kk0_) (blk_put (cs':=kk0_) (blk_put (cs':=kk0_) R10.out 0 (.bool false) rfl) 1 (.bool false) rfl) 2 (.bool false) rfl) 3 (.int .i64 0) rfl) 4 (.int .u32 0) rfl) 5 (.string (⟨#[]⟩ : ByteArray)) rfl) 6 (.string (⟨#[]⟩ : ByteArray)) rfl) 7 (.string (⟨#[]⟩ : ByteArray)) rfl) 8 (.int .u64 0) rfl) 9 (.int .i64 0) rfl) 10 (.int .u64 0) rfl) Tryd.underlying28 rfl (by kernel_rfl)) rfl ?_
    exact ⟨rfl,(bs_ (bs_ (bs_ (bs_ (bs_ (bs_ (bs_ (bs_ (bs_ (bs_ (bs_ B10.out GB.out) GB.out) GB.out) GB.out) GB.out) GB.out) GB.out) GB.out) GB.out) GB.out) GB.out)⟩
   have g14 : (er1 == 0) = true:=beq_iff_eq.mpr c6
   have g15 : (er1 != 0) = false:=bne_eq_false_iff_eq.mpr c6
   by_cases c7 : n ≤ 1000
   rotate_left
   ·have hf:=HF.out
    clear HF
    rw [if_neg (fun h => c7 h.2.1)] at hf
    have HF:=am_ hf
    clear hf
    have g16 : decide (1000 < n) = true:=decide_eq_true (by omega)
    have g17 : (1000 < n) = True:=eq_true (by omega)
    clear c6 c7
    have hf:=HF.out
    clear HF
    simp only [ahZ,Option.some.injEq,Prod.mk.injEq] at hf
    obtain ⟨rfl,rfl,rfl,rfl,rfl,rfl,rfl,rfl,rfl,rfl,rfl,rfl,rfl⟩:=hf
    (try clear HF)
    go_wp2
    refine bodyPost_ret (results_ctt rfl _ _ gb 28 kk0_ (0,0) _ rfl (blk_put (cs':=kk0_) (blk_put (cs':=kk0_) (blk_put (cs':=kk0_) (blk_put (cs':=kk0_) (blk_put (cs':=kk0_) (blk_put (cs':=kk0_) (blk_put (cs':=kk0_) (blk_put (cs':=kk0_) (blk_put (cs':=kk0_) (blk_put (cs':=kk0_) (blk_put (cs':=kk0_) R10.out 0 (.bool false) rfl) 1 (.bool false) rfl) 2 (.bool false) rfl) 3 (.int .i64 0) rfl) 4 (.int .u32 0) rfl) 5 (.string (⟨#[]⟩ : ByteArray)) rfl) 6 (.string (⟨#[]⟩ : ByteArray)) rfl) 7 (.string (⟨#[]⟩ : ByteArray)) rfl) 8 (.int .u64 0) rfl) 9 (.int .i64 0) rfl) 10 (.int .u64 0) rfl) Tryd.underlying28 rfl (by kernel_rfl)) rfl ?_
    exact ⟨rfl,(bs_ (bs_ (bs_ (bs_ (bs_ (bs_ (bs_ (bs_ (bs_ (bs_ (bs_ B10.out GB.out) GB.out) GB.out) GB.out) GB.out) GB.out) GB.out) GB.out) GB.out) GB.out) GB.out)⟩
   have g16 : decide (1000 < n) = false:=decide_eq_false (by omega)
   have g17 : (1000 < n) = False:=eq_false (by omega)
   by_cases c8 : n ≤ (s3.size : Int)
   rotate_left
   ·have hf:=HF.out
    clear HF
    rw [if_neg (fun h => c8 h.2.2)] at hf
    have HF:=am_ hf
    clear hf
    have g18 : decide ((s3.size : Int) < n) = true:=decide_eq_true (by omega)
    have g19 : ((s3.size : Int) < n) = True:=eq_true (by omega)
    clear c6 c7 c8
    have hf:=HF.out
    clear HF
    simp only [ahZ,Option.some.injEq,Prod.mk.injEq] at hf
    obtain ⟨rfl,rfl,rfl,rfl,rfl,rfl,rfl,rfl,rfl,rfl,rfl,rfl,rfl⟩:=hf
    (try clear HF)
    go_wp2
    refine bodyPost_ret (results_ctt rfl _ _ gb 28 kk0_ (0,0) _ rfl (blk_put (cs':=kk0_) (blk_put (cs':=kk0_) (blk_put (cs':=kk0_) (blk_put (cs':=kk0_) (blk_put (cs':=kk0_) (blk_put (cs':=kk0_) (blk_put (cs':=kk0_) (blk_put (cs':=kk0_) (blk_put (cs':=kk0_) (blk_put (cs':=kk0_) (blk_put (cs':=kk0_) R10.out 0 (.bool false) rfl) 1 (.bool false) rfl) 2 (.bool false) rfl) 3 (.int .i64 0) rfl) 4 (.int .u32 0) rfl) 5 (.string (⟨#[]⟩ : ByteArray)) rfl) 6 (.string (⟨#[]⟩ : ByteArray)) rfl) 7 (.string (⟨#[]⟩ : ByteArray)) rfl) 8 (.int .u64 0) rfl) 9 (.int .i64 0) rfl) 10 (.int .u64 0) rfl) Tryd.underlying28 rfl (by kernel_rfl)) rfl ?_
    exact ⟨rfl,(bs_ (bs_ (bs_ (bs_ (bs_ (bs_ (bs_ (bs_ (bs_ (bs_ (bs_ B10.out GB.out) GB.out) GB.out) GB.out) GB.out) GB.out) GB.out) GB.out) GB.out) GB.out) GB.out)⟩
   have g18 : decide ((s3.size : Int) < n) = false:=decide_eq_false (by omega)
   have g19 : ((s3.size : Int) < n) = False:=eq_false (by omega)
   have g22 : (n ≤ (s3.size : Int)) = True:=eq_true c8
   have g23 : (0 ≤ n) = True:=eq_true n0
   have g24 : decide (n ≤ (s3.size : Int)) = true:=decide_eq_true c8
   have g25 : decide (0 ≤ n) = true:=decide_eq_true n0
   have hf:=HF.out
   clear HF
   rw [if_pos ⟨c6,c7,c8⟩] at hf
   obtain ⟨⟨l,s9,er2⟩,hl,hf⟩:=Option.bind_eq_some_iff.1 hf
   dsimp only at hf
   have HF:=am_ hf
   have HL:=am_ hl
   clear hf hl
   clear c6 c7 c8
   go_wp2_with fail
   have h_:=(blk_put (cs':=#[.bool true,.bool false,.bool false,.int .i64 0,.int .u32 (v % 4294967296),.string d,.string c,.string (s3.extract 0 n.toNat),.int .u64 0,.int .i64 0,.int .u64 0]) H10.out 7 (.string (s3.extract 0 n.toNat)) rfl)
   have b_:=(bs_ (j:=7) (v:=.string (s3.extract 0 n.toNat)) B10.out GH.out)
   have r_:=(blk_far (p:=⟨gh,7,none⟩) R10.out n1 (.string (s3.extract 0 n.toNat)))
   clear d0 df0 d1 df1 d2 df2 d3 df3 d4 df4 d5 df5 d6 df6 d7 df7 d8 df8 d9 df9 d10 df10 e0 ef0 e1 ef1 e2 ef2 e3 ef3 e4 ef4 e5 ef5 e6 ef6 e7 ef7 e8 ef8 e9 ef9 e10 ef10
   generalize (w10.setCell ⟨gh,7,none⟩ (.string (s3.extract 0 n.toNat))) = w11 at h_ b_ r_ ⊢
   have H11:=am_ h_
   have B11:=am_ b_
   have R11:=am_ r_
   clear h_ b_ r_
   refine (dominoref01_Get.calls k _ _ _ _ _ HL.out).mono ?_
   rintro e_ w_ ⟨rfl,hd_⟩
   obtain ⟨m_,rfl⟩:=hd_
   have H12:=am_ (kn_ H11.out m_)
   have R12:=am_ (kn_ R11.out m_)
   have B12:=am_ (pn_ B11.out m_)
   generalize w11.drewN m_ = w12 at H12 R12 B12 ⊢
   obtain ⟨d0,d1,d2,d3,d4,d5,d6,d7,d8,d9,d10,df0,df1,df2,df3,df4,df5,df6,df7,df8,df9,df10⟩:=cs11f_ R12.out
   obtain ⟨e0,e1,e2,e3,e4,e5,e6,e7,e8,e9,e10,ef0,ef1,ef2,ef3,ef4,ef5,ef6,ef7,ef8,ef9,ef10⟩:=cs11f_ H12.out
   by_cases c6 : er2 = 0
   rotate_left
   ·have g20 : (er2 == 0) = false:=beq_eq_false_iff_ne.mpr c6
    have g21 : (er2 != 0) = true:=bne_iff_ne.mpr c6
    have hf:=HF.out
    clear HF
    rw [if_neg c6] at hf
    have HF:=am_ hf
    clear hf
    clear c6
    have hf:=HF.out
    clear HF
    simp only [ahZ,Option.some.injEq,Prod.mk.injEq] at hf
    obtain ⟨rfl,rfl,rfl,rfl,rfl,rfl,rfl,rfl,rfl,rfl,rfl,rfl,rfl⟩:=hf
    (try clear HF)
    go_wp2
    refine bodyPost_ret (results_ctt rfl _ _ gb 28 kk0_ (0,0) _ rfl (blk_put (cs':=kk0_) (blk_put (cs':=kk0_) (blk_put (cs':=kk0_) (blk_put (cs':=kk0_) (blk_put (cs':=kk0_) (blk_put (cs':=kk0_) (blk_put (cs':=kk0_) (blk_put (cs':=kk0_) (blk_put (cs':=kk0_) (blk_put (cs':=kk0_) (blk_put (cs':=kk0_) R12.out 0 (.bool false) rfl) 1 (.bool false) rfl) 2 (.bool false) rfl) 3 (.int .i64 0) rfl) 4 (.int .u32 0) rfl) 5 (.string (⟨#[]⟩ : ByteArray)) rfl) 6 (.string (⟨#[]⟩ : ByteArray)) rfl) 7 (.string (⟨#[]⟩ : ByteArray)) rfl) 8 (.int .u64 0) rfl) 9 (.int .i64 0) rfl) 10 (.int .u64 0) rfl) Tryd.underlying28 rfl (by kernel_rfl)) rfl ?_
    exact ⟨rfl,(bs_ (bs_ (bs_ (bs_ (bs_ (bs_ (bs_ (bs_ (bs_ (bs_ (bs_ B12.out GB.out) GB.out) GB.out) GB.out) GB.out) GB.out) GB.out) GB.out) GB.out) GB.out) GB.out)⟩
   have hf:=HF.out
   clear HF
   rw [if_pos c6] at hf
   have HF:=am_ hf
   clear hf
   have g20 : (er2 == 0) = true:=beq_iff_eq.mpr c6
   have g21 : (er2 != 0) = false:=bne_eq_false_iff_eq.mpr c6
   clear c6
   have hf:=HF.out
   clear HF
   simp only [Option.some.injEq,Prod.mk.injEq] at hf
   obtain ⟨rfl,rfl,rfl,rfl,rfl,rfl,rfl,rfl,rfl,rfl,rfl,rfl,rfl⟩:=hf
   (try clear HF)
   go_wp2
   refine bodyPost_ret (results_ctt rfl _ _ gb 28 #[.bool true,.bool false,.bool false,.int .i64 0,.int .u32 (v % 4294967296),.string d,.string c,.string (s3.extract 0 n.toNat),.int .u64 l,.int .i64 0,.int .u64 0] (0,0) _ rfl (blk_put (cs':=#[.bool true,.bool false,.bool false,.int .i64 0,.int .u32 (v % 4294967296),.string d,.string c,.string (s3.extract 0 n.toNat),.int .u64 l,.int .i64 0,.int .u64 0]) (blk_put (cs':=#[.bool true,.bool false,.bool false,.int .i64 0,.int .u32 (v % 4294967296),.string d,.string c,.string (s3.extract 0 n.toNat),.int .u64 l,.int .i64 0,.int .u64 0]) (blk_put (cs':=#[.bool true,.bool false,.bool false,.int .i64 0,.int .u32 (v % 4294967296),.string d,.string c,.string (s3.extract 0 n.toNat),.int .u64 l,.int .i64 0,.int .u64 0]) (blk_put (cs':=#[.bool true,.bool false,.bool false,.int .i64 0,.int .u32 (v % 4294967296),.string d,.string c,.string (s3.extract 0 n.toNat),.int .u64 0,.int .i64 0,.int .u64 0]) (blk_put (cs':=#[.bool true,.bool false,.bool false,.int .i64 0,.int .u32 (v % 4294967296),.string d,.string c,.string (⟨#[]⟩ : ByteArray),.int .u64 0,.int .i64 0,.int .u64 0]) (blk_put (cs':=#[.bool true,.bool false,.bool false,.int .i64 0,.int .u32 (v % 4294967296),.string d,.string (⟨#[]⟩ : ByteArray),.string (⟨#[]⟩ : ByteArray),.int .u64 0,.int .i64 0,.int .u64 0]) (blk_put (cs':=#[.bool true,.bool false,.bool false,.int .i64 0,.int .u32 (v % 4294967296),.string (⟨#[]⟩ : ByteArray),.string (⟨#[]⟩ : ByteArray),.string (⟨#[]⟩ : ByteArray),.int .u64 0,.int .i64 0,.int .u64 0]) (blk_put (cs':=kk1_) (blk_put (cs':=kk1_) (blk_put (cs':=kk1_) (blk_put (cs':=kk1_) (blk_far (p:=⟨gh,8,none⟩) R12.out n1 _) 0 (.bool true) rfl) 1 (.bool false) rfl) 2 (.bool false) rfl) 3 (.int .i64 0) rfl) 4 (.int .u32 (v % 4294967296)) rfl) 5 (.string d) rfl) 6 (.string c) rfl) 7 (.string (s3.extract 0 n.toNat)) rfl) 8 (.int .u64 l) rfl) 9 (.int .i64 0) rfl) 10 (.int .u64 0) rfl) Tryd.underlying28 rfl (by kernel_rfl)) rfl ?_
   exact ⟨rfl,(bs_ (bs_ (bs_ (bs_ (bs_ (bs_ (bs_ (bs_ (bs_ (bs_ (bs_ (bs_ B12.out GH.out) GB.out) GB.out) GB.out) GB.out) GB.out) GB.out) GB.out) GB.out) GB.out) GB.out) GB.out)⟩

end Go.Proofs.YtjpafikgbnloaaaDoor.PHdt
