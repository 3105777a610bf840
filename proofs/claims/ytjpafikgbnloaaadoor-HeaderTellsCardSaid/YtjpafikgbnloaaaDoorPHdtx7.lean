-- printed for this claim by a program of the claim (wip/tools/pp.py over the kit's print)
import Derived.Test.YtjpafikgbnloaaaDoorPHdtx0
import Derived.Test.YtjpafikgbnloaaaDoorPHdtx5
import Derived.Test.YtjpafikgbnloaaaDoorPHdtx6
namespace Go.Proofs.YtjpafikgbnloaaaDoor.PHdt
open Go.RowKit Go.Proofs.YtjpafikgbnloaaaDoorW.PrintWords Go.Proofs.YtjpafikgbnloaaaDoorW.PrintLast Go.Proofs.YtjpafikgbnloaaaDoorW.PrintMore
attribute [local go_sem] max2_int min2_int max_two min_two max_three min_three max_four min_four   -- for this text's walks alone
set_option linter.unusedVariables false
set_option linter.unusedSimpArgs false

attribute [local go_sem] isSome_setCell_
/-! ### header_Get: function 14 -/
def wdF (f : Int) : Int:=wrap64 (1 + wrap64 (Go.bits .and .u8 f 3))
def header_Get.e (q : Ps) : ByteArray × ByteArray × Bool → Option (Bool × Bool × Bool × Int × Int × ByteArray × ByteArray × ByteArray × Int × Int × Int × ByteArray × Int)
 | (p,s,b) => if b = true ∨ Go.bits .and .u8 q.first (if q.long = true then 12 else 24) ≠ 0 then some (false,false,false,0,0,(⟨#[]⟩ : ByteArray),(⟨#[]⟩ : ByteArray),(⟨#[]⟩ : ByteArray),0,0,0,(⟨#[]⟩ : ByteArray),40)
  else some (q.long,q.spin,!q.long && (Go.bits .and .u8 q.first 4 != 0),q.ty,q.ver,q.dcid,q.scid,q.token,q.len,wdF q.first,bkF p p.size 0 0,s,0)
def header_Get.g (q : Ps) : Option (Bool × Bool × Bool × Int × Int × ByteArray × ByteArray × ByteArray × Int × Int × Int × ByteArray × Int) :=
 if q.rest.size ≤ 9223372036854775807 then header_Get.e q (tk q.rest false (IntKind.u64.wrap (wdF q.first))) else none
def header_Get.f (k : Nat) (a0 : ByteArray) : Option (Bool × Bool × Bool × Int × Int × ByteArray × ByteArray × ByteArray × Int × Int × Int × ByteArray × Int) :=
 (parsedF k a0).bind fun r => match r with
 | none => some (false,false,false,0,0,(⟨#[]⟩ : ByteArray),(⟨#[]⟩ : ByteArray),(⟨#[]⟩ : ByteArray),0,0,0,(⟨#[]⟩ : ByteArray),40)
 | some q => header_Get.g q
theorem header_Get.mono : ∀ a0 k,LeO (header_Get.f k a0) (header_Get.f (k + 1) a0):=fun a0 k => LeO.bind (parsedF.mono a0 k) fun _ => LeO.refl _

set_option maxHeartbeats 8000000 in
set_option maxRecDepth 100000 in
theorem get_none_ (k : Nat) (a0 : ByteArray) (r1 : Bool) (r2 : Bool) (r3 : Bool) (r4 : Int) (r5 : Int) (r6 : ByteArray) (r7 : ByteArray) (r8 : ByteArray) (r9 : Int) (r10 : Int) (r11 : Int) (r12 : ByteArray) (r13 : Int) (w : World) (hq : parsedF k a0 = some none) (hf : some (false,false,false,0,0,(⟨#[]⟩ : ByteArray),(⟨#[]⟩ : ByteArray),(⟨#[]⟩ : ByteArray),0,0,0,(⟨#[]⟩ : ByteArray),40) = some (r1,r2,r3,r4,r5,r6,r7,r8,r9,r10,r11,r12,r13)) :
  Calls Tryd.prog 14 #[.string a0] w fun e w' => e = .returned (.tuple #[.agg #[.bool r1,.bool r2,.bool r3,.int .i64 r4,.int .u32 r5,.string r6,.string r7,.string r8,.int .u64 r9,.int .i64 r10,.int .u64 r11],.string r12,.int .i64 r13]) ∧ Below w.heap.size w w':=by
 have HQ:=am_ hq
 simp only [Option.some.injEq,Prod.mk.injEq] at hf
 obtain ⟨rfl,rfl,rfl,rfl,rfl,rfl,rfl,rfl,rfl,rfl,rfl,rfl,rfl⟩:=hf
 clear hq
 have hu25:=Tryd.underlying25
 go_enter Tryd.func14,Tryd.ntmps14
 go_wp2_with (((with_reducible refine gate_dst (N:=2) rfl ?_);refine box_event ?hg (N:=2) ?hd (cs:=kk0_) (t:=25) ?hr ?_;(case hd => rfl);(case hg => rfl);(case hr => first|(go_simp;done)|(go_simp;rfl));intro gb hg w1 hbox hb;have R1:=am_ hbox;have B1:=am_ (below_step (Below.refl _ _) hb);have GB:=am_ (Nat.le_of_eq hg.symm);clear hg hb hbox))
 refine (parsed_calls k a0 _ _ HQ.out).mono ?_
 rintro e w2 ⟨he,hb⟩
 have R2:=am_ (blk_below R1.out hb)
 have B2:=am_ (below_step B1.out hb)
 have LT:=am_ (blk_lt R1.out)
 dsimp only at he
 subst he
 obtain ⟨d0,d1,d2,d3,d4,d5,d6,d7,d8,d9,d10,x0,x1,x2,x3,x4,x5,x6,x7,x8,x9,x10⟩:=cs11f_ R2.out
 clear HQ hb
 go_wp2
 refine bodyPost_ret (results_ctt rfl _ _ gb 25 kk0_ (0,0) _ rfl (blk_put (cs':=kk0_) (blk_put (cs':=kk0_) (blk_put (cs':=kk0_) (blk_put (cs':=kk0_) (blk_put (cs':=kk0_) (blk_put (cs':=kk0_) (blk_put (cs':=kk0_) (blk_put (cs':=kk0_) (blk_put (cs':=kk0_) (blk_put (cs':=kk0_) (blk_put (cs':=kk0_) R2.out 0 (.bool false) rfl) 1 (.bool false) rfl) 2 (.bool false) rfl) 3 (.int .i64 0) rfl) 4 (.int .u32 0) rfl) 5 (.string (⟨#[]⟩ : ByteArray)) rfl) 6 (.string (⟨#[]⟩ : ByteArray)) rfl) 7 (.string (⟨#[]⟩ : ByteArray)) rfl) 8 (.int .u64 0) rfl) 9 (.int .i64 0) rfl) 10 (.int .u64 0) rfl) Tryd.underlying25 rfl (by kernel_rfl)) rfl ?_
 exact ⟨rfl,(bs_ (bs_ (bs_ (bs_ (bs_ (bs_ (bs_ (bs_ (bs_ (bs_ (bs_ B2.out GB.out) GB.out) GB.out) GB.out) GB.out) GB.out) GB.out) GB.out) GB.out) GB.out) GB.out)⟩

set_option maxHeartbeats 8000000 in
set_option maxRecDepth 100000 in
theorem get_true_ (k : Nat) (a0 : ByteArray) (spin : Bool) (ty ver : Int) (dcid scid token : ByteArray) (len : Int) (rest : ByteArray) (first : Int) (r1 : Bool) (r2 : Bool) (r3 : Bool) (r4 : Int) (r5 : Int) (r6 : ByteArray) (r7 : ByteArray) (r8 : ByteArray) (r9 : Int) (r10 : Int) (r11 : Int) (r12 : ByteArray) (r13 : Int) (w : World) (hq : parsedF k a0 = some (some ⟨true,spin,ty,ver,dcid,scid,token,len,rest,first⟩)) (hf : header_Get.g ⟨true,spin,ty,ver,dcid,scid,token,len,rest,first⟩ = some (r1,r2,r3,r4,r5,r6,r7,r8,r9,r10,r11,r12,r13)) :
  Calls Tryd.prog 14 #[.string a0] w fun e w' => e = .returned (.tuple #[.agg #[.bool r1,.bool r2,.bool r3,.int .i64 r4,.int .u32 r5,.string r6,.string r7,.string r8,.int .u64 r9,.int .i64 r10,.int .u64 r11],.string r12,.int .i64 r13]) ∧ Below w.heap.size w w':=by
 have HQ:=am_ hq
 clear hq
 dsimp only [header_Get.g] at hf
 by_cases hs : rest.size ≤ 9223372036854775807
 rotate_left
 ·rw [if_neg hs] at hf
  simp at hf
 rw [if_pos hs] at hf
 obtain ⟨t,ht⟩ : ∃ t,tk rest false (IntKind.u64.wrap (wdF first)) = t:=⟨_,rfl⟩
 obtain ⟨p,s,b⟩:=t
 have zp : p.size ≤ 9223372036854775807:=by
  have:=(tk_size rest false (IntKind.u64.wrap (wdF first))).2
  rw [ht] at this
  exact Nat.le_trans this hs
 rw [ht] at hf
 dsimp only [header_Get.e] at hf
 have HF2:=am_ hf
 have HT:=am_ ht
 have HV:=am_ (show varint_Back.f p = some (bkF p p.size 0 0) from by unfold varint_Back.f;rw [if_pos zp])
 clear hf ht
 have hu25:=Tryd.underlying25
 go_enter Tryd.func14,Tryd.ntmps14
 go_wp2_with (((with_reducible refine gate_dst (N:=2) rfl ?_);refine box_event ?hg (N:=2) ?hd (cs:=kk0_) (t:=25) ?hr ?_;(case hd => rfl);(case hg => rfl);(case hr => first|(go_simp;done)|(go_simp;rfl));intro gb hg w1 hbox hb;have R1:=am_ hbox;have B1:=am_ (below_step (Below.refl _ _) hb);have GB:=am_ (Nat.le_of_eq hg.symm);clear hg hb hbox))
 refine (parsed_calls k a0 _ _ HQ.out).mono ?_
 rintro e w2 ⟨he,hb⟩
 have R2:=am_ (blk_below R1.out hb)
 have B2:=am_ (below_step B1.out hb)
 have LT:=am_ (blk_lt R1.out)
 obtain ⟨g,hg,rfl,h2⟩:=he
 have H2:=am_ h2
 have GE:=am_ (Nat.le_trans B1.out.size hg)
 have NE:=am_ (show gb ≠ g from fun e => by have:=LT.out;omega)
 clear HQ hb h2 hg
 obtain ⟨c0,c1,c2,c3,c4,c5,c6,c7,c8,c9,c10,c11,c12,c13,f0,f1,f2,f3,f4,f5,f6,f7,f8,f9,f10,f11,f12,f13⟩:=cs14f_ H2.out
 go_wp2_with fail
 rw [show wrap64 (1 + wrap64 (Go.bits .and .u8 first 3)) = wdF first from rfl]
 have r_:=blk_far (p:=⟨g,4,none⟩) (blk_far (p:=⟨g,11,none⟩) R2.out NE.out (.int .i64 (wdF first))) NE.out (.bool false)
 have h_:=blk_put (cs':=#[.string rest,.bool false,.bool true,.bool spin,.bool false,.int .i64 ty,.int .u32 ver,.string dcid,.string scid,.string token,.int .u64 len,.int .i64 (wdF first),.int .u64 0,.int .u8 first]) (blk_put (cs':=#[.string rest,.bool false,.bool true,.bool spin,.bool false,.int .i64 ty,.int .u32 ver,.string dcid,.string scid,.string token,.int .u64 len,.int .i64 (wdF first),.int .u64 0,.int .u8 first]) H2.out 11 (.int .i64 (wdF first)) rfl) 4 (.bool false) rfl
 have b_:=bs_ (j:=4) (v:=.bool false) (bs_ (j:=11) (v:=.int .i64 (wdF first)) B2.out GE.out) GE.out
 clear c0 f0 c1 f1 c2 f2 c3 f3 c4 f4 c5 f5 c6 f6 c7 f7 c8 f8 c9 f9 c10 f10 c11 f11 c12 f12 c13 f13
 generalize (w2.setCell ⟨g,11,none⟩ (.int .i64 (wdF first))).setCell ⟨g,4,none⟩ (.bool false) = w3 at h_ b_ r_ ⊢
 have H3:=am_ h_
 have B3:=am_ b_
 have R3:=am_ r_
 clear h_ b_ r_ H2 B2 R2
 refine start_ (n:=16) (S:=fun W => W.cell? ⟨g,11,none⟩ = some (.int .i64 (wdF first))) (ds:=[15]) #[F_,F_,F_,F_,F_,F_,F_,F_,F_,F_,F_,F_,F_,F_,F_,F_] (by kernel_rfl) rfl rfl ((kc_ H3.out 11).trans rfl) (fun hHeld => ?_)
 refine pure_ (i:=0) (N:=some 46) (v:=?_) (a':=?_) #[T_,F_,F_,F_,F_,F_,F_,F_,F_,F_,F_,F_,F_,F_,F_,F_] rfl rfl (by kernel_rfl) (fun _ _ _ h => h) (Or.inl ⟨by rfl,?_⟩) ?_ ?_
 rotate_left;(intro w';go_simp;with_reducible rfl);rotate_left;(simp only [Act.put,ps_,i64_w,i32_w];rfl)
 refine pure_ (i:=1) (N:=some 47) (v:=?_) (a':=?_) #[T_,T_,F_,F_,F_,F_,F_,F_,F_,F_,F_,F_,F_,F_,F_,F_] rfl rfl (by kernel_rfl) (fun _ _ _ h => h) (Or.inl ⟨by rfl,?_⟩) ?_ ?_
 rotate_left;(intro w';go_simp;with_reducible rfl);rotate_left;(simp only [Act.put,ps_,i64_w,i32_w];rfl)
 refine pure_ (i:=2) (N:=some 48) (v:=?_) (a':=?_) #[T_,T_,T_,F_,F_,F_,F_,F_,F_,F_,F_,F_,F_,F_,F_,F_] rfl rfl (by kernel_rfl) (fun _ _ _ h => h) (Or.inl ⟨by rfl,?_⟩) ?_ ?_
 rotate_left;(intro w';go_simp;with_reducible rfl);rotate_left;(simp only [Act.put,ps_,i64_w,i32_w];rfl)
 refine pure_ (i:=3) (N:=some 49) (v:=?_) (a':=?_) #[T_,T_,T_,T_,F_,F_,F_,F_,F_,F_,F_,F_,F_,F_,F_,F_] rfl rfl (by kernel_rfl) (fun _ _ _ h => h) (Or.inl ⟨by rfl,?_⟩) ?_ ?_
 rotate_left;(intro w';go_simp;with_reducible rfl);rotate_left;(simp only [Act.put,ps_,i64_w,i32_w];rfl)
 refine pure_ (i:=4) (N:=some 50) (v:=?_) (a':=?_) #[T_,T_,T_,T_,T_,F_,F_,F_,F_,F_,F_,F_,F_,F_,F_,F_] rfl rfl (by kernel_rfl) (fun _ _ _ h => h) (Or.inl ⟨by rfl,?_⟩) ?_ ?_
 rotate_left;(intro w';go_simp;with_reducible rfl);rotate_left;(simp only [Act.put,ps_,i64_w,i32_w];rfl)
 refine pure_ (i:=5) (N:=some 51) (v:=?_) (a':=?_) #[T_,T_,T_,T_,T_,T_,F_,F_,F_,F_,F_,F_,F_,F_,F_,F_] rfl rfl (by kernel_rfl) (fun _ _ _ h => h) (Or.inl ⟨by rfl,?_⟩) ?_ ?_
 rotate_left;(intro w';go_simp;with_reducible rfl);rotate_left;(simp only [Act.put,ps_,i64_w,i32_w];rfl)
 refine pure_ (i:=6) (N:=some 52) (v:=?_) (a':=?_) #[T_,T_,T_,T_,T_,T_,T_,F_,F_,F_,F_,F_,F_,F_,F_,F_] rfl rfl (by kernel_rfl) (fun _ _ _ h => h) (Or.inl ⟨by rfl,?_⟩) ?_ ?_
 rotate_left;(intro w';go_simp;with_reducible rfl);rotate_left;(simp only [Act.put,ps_,i64_w,i32_w];rfl)
 refine pure_ (i:=7) (N:=some 53) (v:=?_) (a':=?_) #[T_,T_,T_,T_,T_,T_,T_,T_,F_,F_,F_,F_,F_,F_,F_,F_] rfl rfl (by kernel_rfl) (fun _ _ _ h => h) (Or.inl ⟨by rfl,?_⟩) ?_ ?_
 rotate_left;(intro w';go_simp;with_reducible rfl);rotate_left;(simp only [Act.put,ps_,i64_w,i32_w];rfl)
 refine take_ (i:=8) (N:=some 54) (v:=?_) (a':=?_) #[T_,T_,T_,T_,T_,T_,T_,T_,T_,F_,F_,F_,F_,F_,F_,F_] rfl rfl (by kernel_rfl) (fun _ _ _ h => h) (Or.inl ⟨by rfl,?_⟩) hHeld ?_ ?_
 rotate_left
 ·rintro w' s0
  go_simp
  with_reducible rfl
 rotate_left
 ·simp only [Act.put,ps_,i64_w,i32_w]
  rfl
 refine pure_ (i:=9) (N:=some 55) (v:=?_) (a':=?_) #[T_,T_,T_,T_,T_,T_,T_,T_,T_,T_,F_,F_,F_,F_,F_,F_] rfl rfl (by kernel_rfl) (fun _ _ _ h => h) (Or.inl ⟨by rfl,?_⟩) ?_ ?_
 rotate_left;(intro w';go_simp;with_reducible rfl);rotate_left;(simp only [Act.put,ps_,i64_w,i32_w];rfl)
 refine one_ (i:=10) (N:=some 56) #[T_,T_,T_,T_,T_,T_,T_,T_,T_,T_,T_,F_,F_,F_,F_,F_] rfl rfl (by kernel_rfl) (by decide) (fun K hK => ?_)
 refine goes_ (N:=some 56) Tryd.func34 (by kernel_rfl) rfl #[.pointer (some ⟨g,0,none⟩),.int .u64 (IntKind.u64.wrap (wdF first))] (by rfl) rfl rfl (by (try simp only [List.map_toArray,List.map_cons,List.map_nil]);first|done|rfl) ?_
 refine (lf_takeE g 58 rest false [.bool true,.bool spin,.bool false,.int .i64 ty,.int .u32 ver,.string dcid,.string scid,.string token,.int .u64 len,.int .i64 (wdF first),.int .u64 0,.int .u8 first] (IntKind.u64.wrap (wdF first)) p s b _ HT.out (wrap_nn_ rfl _) hs (kd_ H3.out)).mono ?_
 rintro e w4 ⟨rfl,h4,g4⟩
 have H4:=am_ h4
 have B4:=am_ (below_grown_ B3.out GE.out (w:=w3) ⟨g4.os,g4.tape,g4.output,g4.size,g4.block⟩)
 have R4:=am_ (blk_grown (kd_ R3.out) g4 (fun e => NE.out (by injection e)))
 clear h4 g4
 refine ⟨_,rfl,?_⟩
 refine hK.out _ _ ((kc_ H4.out 11).trans rfl) (fun hHeld2 => ?_)
 clear hK K
 refine norm_ (a':=?_) ?_ ?_
 rotate_left
 ·show Act.put _ (some 56) _ = _
  simp only [Act.put,ps_,i64_w,i32_w]
  rfl
 refine one_ (i:=11) (N:=some 57) #[T_,T_,T_,T_,T_,T_,T_,T_,T_,T_,T_,T_,F_,F_,F_,F_] rfl rfl (by kernel_rfl) (by decide) (fun K hK => ?_)
 refine goes_ (N:=some 57) Tryd.func33 (by kernel_rfl) rfl #[.string p] (by rfl) rfl rfl (by (try simp only [List.map_toArray,List.map_cons,List.map_nil]);first|done|rfl) ?_
 refine (varint_Back.calls _ _ _ HV.out).mono ?_
 rintro e w5 ⟨rfl,hb5⟩
 have H5:=am_ (blk_below H4.out hb5)
 have B5:=am_ (below_step B4.out hb5)
 have R5:=am_ (blk_below R4.out hb5)
 clear hb5
 refine ⟨_,rfl,?_⟩
 refine hK.out _ _ ((kc_ H5.out 11).trans rfl) (fun hHeld3 => ?_)
 clear hK K
 refine norm_ (a':=?_) ?_ ?_
 rotate_left
 ·show Act.put _ (some 57) _ = _
  simp only [Act.put,ps_,i64_w,i32_w]
  rfl
 refine pure_ (i:=12) (N:=some 58) (v:=?_) (a':=?_) #[T_,T_,T_,T_,T_,T_,T_,T_,T_,T_,T_,T_,T_,F_,F_,F_] rfl rfl (by kernel_rfl) (fun _ _ _ h => h) (Or.inl ⟨by rfl,?_⟩) ?_ ?_
 rotate_left;(intro w';go_simp;with_reducible rfl);rotate_left;(simp only [Act.put,ps_,i64_w,i32_w];rfl)
 refine pure_ (i:=13) (N:=some 59) (v:=?_) (a':=?_) #[T_,T_,T_,T_,T_,T_,T_,T_,T_,T_,T_,T_,T_,T_,F_,F_] rfl rfl (by kernel_rfl) (fun _ _ _ h => h) (Or.inl ⟨by rfl,?_⟩) ?_ ?_
 rotate_left;(intro w';go_simp;with_reducible rfl);rotate_left;(simp only [Act.put,ps_,i64_w,i32_w];rfl)
 refine pure_ (i:=14) (N:=some 60) (v:=?_) (a':=?_) #[T_,T_,T_,T_,T_,T_,T_,T_,T_,T_,T_,T_,T_,T_,T_,F_] rfl rfl (by kernel_rfl) (fun _ _ _ h => h) (Or.inl ⟨by rfl,?_⟩) ?_ ?_
 rotate_left;(intro w';go_simp;with_reducible rfl);rotate_left;(simp only [Act.put,ps_,i64_w,i32_w];rfl)
 obtain ⟨c0,c1,c2,c3,c4,c5,c6,c7,c8,c9,c10,c11,c12,c13,f0,f1,f2,f3,f4,f5,f6,f7,f8,f9,f10,f11,f12,f13⟩:=cs14f_ H5.out
 refine last_ (i:=15) (N:=none) #[T_,T_,T_,T_,T_,T_,T_,T_,T_,T_,T_,T_,T_,T_,T_,T_] rfl rfl (by kernel_rfl) (by decide) (fun K hK => ?_)
 refine skip_ (w1:=?_) (by rfl) rfl ?_ ?_
 rotate_left
 ·go_simp
  rfl
 refine hK.out _ _ ?_
 clear hK K
 refine done_ (by kernel_rfl) ?_
 have h_:=blk_put (cs':=#[.string s,.bool b,.bool true,.bool spin,.bool false,.int .i64 ty,.int .u32 ver,.string dcid,.string scid,.string token,.int .u64 len,.int .i64 (wdF first),.int .u64 (bkF p p.size 0 0),.int .u8 first]) H5.out 12 (.int .u64 (bkF p p.size 0 0)) rfl
 have b_:=bs_ (j:=12) (v:=.int .u64 (bkF p p.size 0 0)) B5.out GE.out
 have r_:=blk_far (p:=⟨g,12,none⟩) R5.out NE.out (.int .u64 (bkF p p.size 0 0))
 clear c0 f0 c1 f1 c2 f2 c3 f3 c4 f4 c5 f5 c6 f6 c7 f7 c8 f8 c9 f9 c10 f10 c11 f11 c12 f12 c13 f13
 generalize w5.setCell ⟨g,12,none⟩ (.int .u64 (bkF p p.size 0 0)) = w6 at h_ b_ r_ ⊢
 have H6:=am_ h_
 have B6:=am_ b_
 have R6:=am_ r_
 clear h_ b_ r_ H3 B3 R3 H4 B4 R4 H5 B5 R5 hHeld hHeld2 hHeld3
 obtain ⟨c0,c1,c2,c3,c4,c5,c6,c7,c8,c9,c10,c11,c12,c13,f0,f1,f2,f3,f4,f5,f6,f7,f8,f9,f10,f11,f12,f13⟩:=cs14f_ H6.out
 obtain ⟨d0,d1,d2,d3,d4,d5,d6,d7,d8,d9,d10,x0,x1,x2,x3,x4,x5,x6,x7,x8,x9,x10⟩:=cs11f_ R6.out
 cases b with
 | true =>
  have hf:=HF2.out
  rw [if_pos (Or.inl rfl)] at hf
  simp only [Option.some.injEq,Prod.mk.injEq] at hf
  obtain ⟨rfl,rfl,rfl,rfl,rfl,rfl,rfl,rfl,rfl,rfl,rfl,rfl,rfl⟩:=hf
  clear HF2 HT HV
  go_wp2
  refine bodyPost_ret (results_ctt rfl _ _ gb 25 kk0_ (0,0) _ rfl (blk_put (cs':=kk0_) (blk_put (cs':=kk0_) (blk_put (cs':=kk0_) (blk_put (cs':=kk0_) (blk_put (cs':=kk0_) (blk_put (cs':=kk0_) (blk_put (cs':=kk0_) (blk_put (cs':=kk0_) (blk_put (cs':=kk0_) (blk_put (cs':=kk0_) (blk_put (cs':=kk0_) R6.out 0 (.bool false) rfl) 1 (.bool false) rfl) 2 (.bool false) rfl) 3 (.int .i64 0) rfl) 4 (.int .u32 0) rfl) 5 (.string (⟨#[]⟩ : ByteArray)) rfl) 6 (.string (⟨#[]⟩ : ByteArray)) rfl) 7 (.string (⟨#[]⟩ : ByteArray)) rfl) 8 (.int .u64 0) rfl) 9 (.int .i64 0) rfl) 10 (.int .u64 0) rfl) Tryd.underlying25 rfl (by kernel_rfl)) rfl ?_
  exact ⟨rfl,(bs_ (bs_ (bs_ (bs_ (bs_ (bs_ (bs_ (bs_ (bs_ (bs_ (bs_ B6.out GB.out) GB.out) GB.out) GB.out) GB.out) GB.out) GB.out) GB.out) GB.out) GB.out) GB.out)⟩
 | false =>
  by_cases c : Go.bits .and .u8 first 12 = 0
  rotate_left
  ·have hf:=HF2.out
   rw [if_pos (Or.inr (by first|exact c|(simp only [Bool.false_eq_true,if_false,if_true];exact c)))] at hf
   simp only [Option.some.injEq,Prod.mk.injEq] at hf
   obtain ⟨rfl,rfl,rfl,rfl,rfl,rfl,rfl,rfl,rfl,rfl,rfl,rfl,rfl⟩:=hf
   have e1 : (Go.bits .and .u8 first 12 != 0) = true:=bne_iff_ne.mpr c
   clear HF2 HT HV c
   go_wp2
   refine bodyPost_ret (results_ctt rfl _ _ gb 25 kk0_ (0,0) _ rfl (blk_put (cs':=kk0_) (blk_put (cs':=kk0_) (blk_put (cs':=kk0_) (blk_put (cs':=kk0_) (blk_put (cs':=kk0_) (blk_put (cs':=kk0_) (blk_put (cs':=kk0_) (blk_put (cs':=kk0_) (blk_put (cs':=kk0_) (blk_put (cs':=kk0_) (blk_put (cs':=kk0_) R6.out 0 (.bool false) rfl) 1 (.bool false) rfl) 2 (.bool false) rfl) 3 (.int .i64 0) rfl) 4 (.int .u32 0) rfl) 5 (.string (⟨#[]⟩ : ByteArray)) rfl) 6 (.string (⟨#[]⟩ : ByteArray)) rfl) 7 (.string (⟨#[]⟩ : ByteArray)) rfl) 8 (.int .u64 0) rfl) 9 (.int .i64 0) rfl) 10 (.int .u64 0) rfl) Tryd.underlying25 rfl (by kernel_rfl)) rfl ?_
   exact ⟨rfl,(bs_ (bs_ (bs_ (bs_ (bs_ (bs_ (bs_ (bs_ (bs_ (bs_ (bs_ B6.out GB.out) GB.out) GB.out) GB.out) GB.out) GB.out) GB.out) GB.out) GB.out) GB.out) GB.out)⟩
  ·have hf:=HF2.out
   rw [if_neg (fun h => h.elim (fun h => absurd h (by decide)) (fun h => h c))] at hf
   simp only [Option.some.injEq,Prod.mk.injEq] at hf
   obtain ⟨rfl,rfl,rfl,rfl,rfl,rfl,rfl,rfl,rfl,rfl,rfl,rfl,rfl⟩:=hf
   have e1 : (Go.bits .and .u8 first 12 != 0) = false:=by rw [c];rfl
   clear HF2 HT HV c
   go_wp2_with fail
   have H7:=am_ (kd_ H6.out)
   have R7:=am_ (kd_ R6.out)
   have B7:=am_ (pd_ B6.out)
   clear H6 R6 B6
   clear c0 f0 c1 f1 c2 f2 c3 f3 c4 f4 c5 f5 c6 f6 c7 f7 c8 f8 c9 f9 c10 f10 c11 f11 c12 f12 c13 f13
   clear d0 x0 d1 x1 d2 x2 d3 x3 d4 x4 d5 x5 d6 x6 d7 x7 d8 x8 d9 x9 d10 x10
   refine start_ (n:=12) (S:=fun W => W.cell? ⟨g,0,none⟩ = some (.string s) ∧ W.cell? ⟨g,2,none⟩ = some (.bool true) ∧ W.cell? ⟨g,3,none⟩ = some (.bool spin) ∧ W.cell? ⟨g,4,none⟩ = some (.bool false) ∧ W.cell? ⟨g,5,none⟩ = some (.int .i64 ty) ∧ W.cell? ⟨g,6,none⟩ = some (.int .u32 ver) ∧ W.cell? ⟨g,7,none⟩ = some (.string dcid) ∧ W.cell? ⟨g,8,none⟩ = some (.string scid) ∧ W.cell? ⟨g,9,none⟩ = some (.string token) ∧ W.cell? ⟨g,10,none⟩ = some (.int .u64 len) ∧ W.cell? ⟨g,11,none⟩ = some (.int .i64 (wdF first)) ∧ W.cell? ⟨g,12,none⟩ = some (.int .u64 (bkF p p.size 0 0))) (ds:=[]) #[F_,F_,F_,F_,F_,F_,F_,F_,F_,F_,F_,F_] (by kernel_rfl) rfl rfl ⟨((kc_ H7.out 0).trans rfl),((kc_ H7.out 2).trans rfl),((kc_ H7.out 3).trans rfl),((kc_ H7.out 4).trans rfl),((kc_ H7.out 5).trans rfl),((kc_ H7.out 6).trans rfl),((kc_ H7.out 7).trans rfl),((kc_ H7.out 8).trans rfl),((kc_ H7.out 9).trans rfl),((kc_ H7.out 10).trans rfl),((kc_ H7.out 11).trans rfl),((kc_ H7.out 12).trans rfl)⟩ (fun hHeld => ?_)
   generalize w6.drew = w7 at H7 R7 B7 hHeld ⊢
   refine pure_ (i:=0) (N:=some 76) (v:=?_) (a':=?_) #[T_,F_,F_,F_,F_,F_,F_,F_,F_,F_,F_,F_] rfl rfl (by kernel_rfl) (fun _ _ _ h => h) (Or.inl ⟨by rfl,?_⟩) ?_ ?_
   rotate_left;(intro w';go_simp;with_reducible rfl);rotate_left;(simp only [Act.put,ps_,i64_w,i32_w];rfl)
   refine pure_ (i:=1) (N:=some 77) (v:=?_) (a':=?_) #[T_,T_,F_,F_,F_,F_,F_,F_,F_,F_,F_,F_] rfl rfl (by kernel_rfl) (fun _ _ _ h => h) (Or.inl ⟨by rfl,?_⟩) ?_ ?_
   rotate_left;(intro w';go_simp;with_reducible rfl);rotate_left;(simp only [Act.put,ps_,i64_w,i32_w];rfl)
   refine pure_ (i:=2) (N:=some 78) (v:=?_) (a':=?_) #[T_,T_,T_,F_,F_,F_,F_,F_,F_,F_,F_,F_] rfl rfl (by kernel_rfl) (fun _ _ _ h => h) (Or.inl ⟨by rfl,?_⟩) ?_ ?_
   rotate_left;(intro w';go_simp;with_reducible rfl);rotate_left;(simp only [Act.put,ps_,i64_w,i32_w];rfl)
   refine take_ (i:=3) (N:=some 79) (v:=?_) (a':=?_) #[T_,T_,T_,T_,F_,F_,F_,F_,F_,F_,F_,F_] rfl rfl (by kernel_rfl) (fun _ _ _ h => h) (Or.inl ⟨by rfl,?_⟩) hHeld ?_ ?_
   rotate_left
   ·rintro w' ⟨s0,s2,s3,s4,s5,s6,s7,s8,s9,s10,s11,s12⟩
    go_simp
    with_reducible rfl
   rotate_left
   ·simp only [Act.put,ps_,i64_w,i32_w]
    rfl
   refine pure_ (i:=4) (N:=some 80) (v:=?_) (a':=?_) #[T_,T_,T_,T_,T_,F_,F_,F_,F_,F_,F_,F_] rfl rfl (by kernel_rfl) (fun _ _ _ h => h) (Or.inl ⟨by rfl,?_⟩) ?_ ?_
   rotate_left;(intro w';go_simp;with_reducible rfl);rotate_left;(simp only [Act.put,ps_,i64_w,i32_w];rfl)
   refine pure_ (i:=5) (N:=some 81) (v:=?_) (a':=?_) #[T_,T_,T_,T_,T_,T_,F_,F_,F_,F_,F_,F_] rfl rfl (by kernel_rfl) (fun _ _ _ h => h) (Or.inl ⟨by rfl,?_⟩) ?_ ?_
   rotate_left;(intro w';go_simp;with_reducible rfl);rotate_left;(simp only [Act.put,ps_,i64_w,i32_w];rfl)
   refine pure_ (i:=6) (N:=some 82) (v:=?_) (a':=?_) #[T_,T_,T_,T_,T_,T_,T_,F_,F_,F_,F_,F_] rfl rfl (by kernel_rfl) (fun _ _ _ h => h) (Or.inl ⟨by rfl,?_⟩) ?_ ?_
   rotate_left;(intro w';go_simp;with_reducible rfl);rotate_left;(simp only [Act.put,ps_,i64_w,i32_w];rfl)
   refine pure_ (i:=7) (N:=some 83) (v:=?_) (a':=?_) #[T_,T_,T_,T_,T_,T_,T_,T_,F_,F_,F_,F_] rfl rfl (by kernel_rfl) (fun _ _ _ h => h) (Or.inl ⟨by rfl,?_⟩) ?_ ?_
   rotate_left;(intro w';go_simp;with_reducible rfl);rotate_left;(simp only [Act.put,ps_,i64_w,i32_w];rfl)
   refine take_ (i:=8) (N:=some 84) (v:=?_) (a':=?_) #[T_,T_,T_,T_,T_,T_,T_,T_,T_,F_,F_,F_] rfl rfl (by kernel_rfl) (fun _ _ _ h => h) (Or.inl ⟨by rfl,?_⟩) hHeld ?_ ?_
   rotate_left
   ·rintro w' ⟨s0,s2,s3,s4,s5,s6,s7,s8,s9,s10,s11,s12⟩
    go_simp
    with_reducible rfl
   rotate_left
   ·simp only [Act.put,ps_,i64_w,i32_w]
    rfl
   obtain ⟨d0,d1,d2,d3,d4,d5,d6,d7,d8,d9,d10,x0,x1,x2,x3,x4,x5,x6,x7,x8,x9,x10⟩:=cs11f_ R7.out
   refine one_ (i:=9) (N:=none) #[T_,T_,T_,T_,T_,T_,T_,T_,T_,T_,F_,F_] rfl rfl (by kernel_rfl) (by decide) (fun K hK => ?_)
   refine skip_ (w1:=?_) (by rfl) rfl ?_ ?_
   rotate_left
   ·go_simp
    rfl
   refine hK.out _ _ ⟨((cell_far (p:=⟨gb,_,none⟩) NE.out.symm _).trans ((cell_far (p:=⟨gb,_,none⟩) NE.out.symm _).trans ((cell_far (p:=⟨gb,_,none⟩) NE.out.symm _).trans ((cell_far (p:=⟨gb,_,none⟩) NE.out.symm _).trans ((cell_far (p:=⟨gb,_,none⟩) NE.out.symm _).trans ((cell_far (p:=⟨gb,_,none⟩) NE.out.symm _).trans ((cell_far (p:=⟨gb,_,none⟩) NE.out.symm _).trans ((cell_far (p:=⟨gb,_,none⟩) NE.out.symm _).trans ((cell_far (p:=⟨gb,_,none⟩) NE.out.symm _).trans ((cell_far (p:=⟨gb,_,none⟩) NE.out.symm _).trans ((cell_far (p:=⟨gb,_,none⟩) NE.out.symm _).trans hHeld.1))))))))))),((cell_far (p:=⟨gb,_,none⟩) NE.out.symm _).trans ((cell_far (p:=⟨gb,_,none⟩) NE.out.symm _).trans ((cell_far (p:=⟨gb,_,none⟩) NE.out.symm _).trans ((cell_far (p:=⟨gb,_,none⟩) NE.out.symm _).trans ((cell_far (p:=⟨gb,_,none⟩) NE.out.symm _).trans ((cell_far (p:=⟨gb,_,none⟩) NE.out.symm _).trans ((cell_far (p:=⟨gb,_,none⟩) NE.out.symm _).trans ((cell_far (p:=⟨gb,_,none⟩) NE.out.symm _).trans ((cell_far (p:=⟨gb,_,none⟩) NE.out.symm _).trans ((cell_far (p:=⟨gb,_,none⟩) NE.out.symm _).trans ((cell_far (p:=⟨gb,_,none⟩) NE.out.symm _).trans hHeld.2.1))))))))))),((cell_far (p:=⟨gb,_,none⟩) NE.out.symm _).trans ((cell_far (p:=⟨gb,_,none⟩) NE.out.symm _).trans ((cell_far (p:=⟨gb,_,none⟩) NE.out.symm _).trans ((cell_far (p:=⟨gb,_,none⟩) NE.out.symm _).trans ((cell_far (p:=⟨gb,_,none⟩) NE.out.symm _).trans ((cell_far (p:=⟨gb,_,none⟩) NE.out.symm _).trans ((cell_far (p:=⟨gb,_,none⟩) NE.out.symm _).trans ((cell_far (p:=⟨gb,_,none⟩) NE.out.symm _).trans ((cell_far (p:=⟨gb,_,none⟩) NE.out.symm _).trans ((cell_far (p:=⟨gb,_,none⟩) NE.out.symm _).trans ((cell_far (p:=⟨gb,_,none⟩) NE.out.symm _).trans hHeld.2.2.1))))))))))),((cell_far (p:=⟨gb,_,none⟩) NE.out.symm _).trans ((cell_far (p:=⟨gb,_,none⟩) NE.out.symm _).trans ((cell_far (p:=⟨gb,_,none⟩) NE.out.symm _).trans ((cell_far (p:=⟨gb,_,none⟩) NE.out.symm _).trans ((cell_far (p:=⟨gb,_,none⟩) NE.out.symm _).trans ((cell_far (p:=⟨gb,_,none⟩) NE.out.symm _).trans ((cell_far (p:=⟨gb,_,none⟩) NE.out.symm _).trans ((cell_far (p:=⟨gb,_,none⟩) NE.out.symm _).trans ((cell_far (p:=⟨gb,_,none⟩) NE.out.symm _).trans ((cell_far (p:=⟨gb,_,none⟩) NE.out.symm _).trans ((cell_far (p:=⟨gb,_,none⟩) NE.out.symm _).trans hHeld.2.2.2.1))))))))))),((cell_far (p:=⟨gb,_,none⟩) NE.out.symm _).trans ((cell_far (p:=⟨gb,_,none⟩) NE.out.symm _).trans ((cell_far (p:=⟨gb,_,none⟩) NE.out.symm _).trans ((cell_far (p:=⟨gb,_,none⟩) NE.out.symm _).trans ((cell_far (p:=⟨gb,_,none⟩) NE.out.symm _).trans ((cell_far (p:=⟨gb,_,none⟩) NE.out.symm _).trans ((cell_far (p:=⟨gb,_,none⟩) NE.out.symm _).trans ((cell_far (p:=⟨gb,_,none⟩) NE.out.symm _).trans ((cell_far (p:=⟨gb,_,none⟩) NE.out.symm _).trans ((cell_far (p:=⟨gb,_,none⟩) NE.out.symm _).trans ((cell_far (p:=⟨gb,_,none⟩) NE.out.symm _).trans hHeld.2.2.2.2.1))))))))))),((cell_far (p:=⟨gb,_,none⟩) NE.out.symm _).trans ((cell_far (p:=⟨gb,_,none⟩) NE.out.symm _).trans ((cell_far (p:=⟨gb,_,none⟩) NE.out.symm _).trans ((cell_far (p:=⟨gb,_,none⟩) NE.out.symm _).trans ((cell_far (p:=⟨gb,_,none⟩) NE.out.symm _).trans ((cell_far (p:=⟨gb,_,none⟩) NE.out.symm _).trans ((cell_far (p:=⟨gb,_,none⟩) NE.out.symm _).trans ((cell_far (p:=⟨gb,_,none⟩) NE.out.symm _).trans ((cell_far (p:=⟨gb,_,none⟩) NE.out.symm _).trans ((cell_far (p:=⟨gb,_,none⟩) NE.out.symm _).trans ((cell_far (p:=⟨gb,_,none⟩) NE.out.symm _).trans hHeld.2.2.2.2.2.1))))))))))),((cell_far (p:=⟨gb,_,none⟩) NE.out.symm _).trans ((cell_far (p:=⟨gb,_,none⟩) NE.out.symm _).trans ((cell_far (p:=⟨gb,_,none⟩) NE.out.symm _).trans ((cell_far (p:=⟨gb,_,none⟩) NE.out.symm _).trans ((cell_far (p:=⟨gb,_,none⟩) NE.out.symm _).trans ((cell_far (p:=⟨gb,_,none⟩) NE.out.symm _).trans ((cell_far (p:=⟨gb,_,none⟩) NE.out.symm _).trans ((cell_far (p:=⟨gb,_,none⟩) NE.out.symm _).trans ((cell_far (p:=⟨gb,_,none⟩) NE.out.symm _).trans ((cell_far (p:=⟨gb,_,none⟩) NE.out.symm _).trans ((cell_far (p:=⟨gb,_,none⟩) NE.out.symm _).trans hHeld.2.2.2.2.2.2.1))))))))))),((cell_far (p:=⟨gb,_,none⟩) NE.out.symm _).trans ((cell_far (p:=⟨gb,_,none⟩) NE.out.symm _).trans ((cell_far (p:=⟨gb,_,none⟩) NE.out.symm _).trans ((cell_far (p:=⟨gb,_,none⟩) NE.out.symm _).trans ((cell_far (p:=⟨gb,_,none⟩) NE.out.symm _).trans ((cell_far (p:=⟨gb,_,none⟩) NE.out.symm _).trans ((cell_far (p:=⟨gb,_,none⟩) NE.out.symm _).trans ((cell_far (p:=⟨gb,_,none⟩) NE.out.symm _).trans ((cell_far (p:=⟨gb,_,none⟩) NE.out.symm _).trans ((cell_far (p:=⟨gb,_,none⟩) NE.out.symm _).trans ((cell_far (p:=⟨gb,_,none⟩) NE.out.symm _).trans hHeld.2.2.2.2.2.2.2.1))))))))))),((cell_far (p:=⟨gb,_,none⟩) NE.out.symm _).trans ((cell_far (p:=⟨gb,_,none⟩) NE.out.symm _).trans ((cell_far (p:=⟨gb,_,none⟩) NE.out.symm _).trans ((cell_far (p:=⟨gb,_,none⟩) NE.out.symm _).trans ((cell_far (p:=⟨gb,_,none⟩) NE.out.symm _).trans ((cell_far (p:=⟨gb,_,none⟩) NE.out.symm _).trans ((cell_far (p:=⟨gb,_,none⟩) NE.out.symm _).trans ((cell_far (p:=⟨gb,_,none⟩) NE.out.symm _).trans ((cell_far (p:=⟨gb,_,none⟩) NE.out.symm _).trans ((cell_far (p:=⟨gb,_,none⟩) NE.out.symm _).trans ((cell_far (p:=⟨gb,_,none⟩) NE.out.symm _).trans hHeld.2.2.2.2.2.2.2.2.1))))))))))),((cell_far (p:=⟨gb,_,none⟩) NE.out.symm _).trans ((cell_far (p:=⟨gb,_,none⟩) NE.out.symm _).trans ((cell_far (p:=⟨gb,_,none⟩) NE.out.symm _).trans ((cell_far (p:=⟨gb,_,none⟩) NE.out.symm _).trans ((cell_far (p:=⟨gb,_,none⟩) NE.out.symm _).trans ((cell_far (p:=⟨gb,_,none⟩) NE.out.symm _).trans ((cell_far (p:=⟨gb,_,none⟩) NE.out.symm _).trans ((cell_far (p:=⟨gb,_,none⟩) NE.out.symm _).trans ((cell_far (p:=⟨gb,_,none⟩) NE.out.symm _).trans ((cell_far (p:=⟨gb,_,none⟩) NE.out.symm _).trans ((cell_far (p:=⟨gb,_,none⟩) NE.out.symm _).trans hHeld.2.2.2.2.2.2.2.2.2.1))))))))))),((cell_far (p:=⟨gb,_,none⟩) NE.out.symm _).trans ((cell_far (p:=⟨gb,_,none⟩) NE.out.symm _).trans ((cell_far (p:=⟨gb,_,none⟩) NE.out.symm _).trans ((cell_far (p:=⟨gb,_,none⟩) NE.out.symm _).trans ((cell_far (p:=⟨gb,_,none⟩) NE.out.symm _).trans ((cell_far (p:=⟨gb,_,none⟩) NE.out.symm _).trans ((cell_far (p:=⟨gb,_,none⟩) NE.out.symm _).trans ((cell_far (p:=⟨gb,_,none⟩) NE.out.symm _).trans ((cell_far (p:=⟨gb,_,none⟩) NE.out.symm _).trans ((cell_far (p:=⟨gb,_,none⟩) NE.out.symm _).trans ((cell_far (p:=⟨gb,_,none⟩) NE.out.symm _).trans hHeld.2.2.2.2.2.2.2.2.2.2.1))))))))))),((cell_far (p:=⟨gb,_,none⟩) NE.out.symm _).trans ((cell_far (p:=⟨gb,_,none⟩) NE.out.symm _).trans ((cell_far (p:=⟨gb,_,none⟩) NE.out.symm _).trans ((cell_far (p:=⟨gb,_,none⟩) NE.out.symm _).trans ((cell_far (p:=⟨gb,_,none⟩) NE.out.symm _).trans ((cell_far (p:=⟨gb,_,none⟩) NE.out.symm _).trans ((cell_far (p:=⟨gb,_,none⟩) NE.out.symm _).trans ((cell_far (p:=⟨gb,_,none⟩) NE.out.symm _).trans ((cell_far (p:=⟨gb,_,none⟩) NE.out.symm _).trans ((cell_far (p:=⟨gb,_,none⟩) NE.out.symm _).trans ((cell_far (p:=⟨gb,_,none⟩) NE.out.symm _).trans hHeld.2.2.2.2.2.2.2.2.2.2.2)))))))))))⟩ (fun hHeld_ => ?_)
   clear hK K
   refine pure_ (i:=10) (N:=some 3) (v:=?_) (a':=?_) #[T_,T_,T_,T_,T_,T_,T_,T_,T_,T_,T_,F_] rfl rfl (by kernel_rfl) (fun _ _ _ h => h) (Or.inl ⟨by rfl,?_⟩) ?_ ?_
   rotate_left;(intro w';go_simp;with_reducible rfl);rotate_left;(simp only [Act.put,ps_,i64_w,i32_w];rfl)
   refine pure_ (i:=11) (N:=some 4) (v:=?_) (a':=?_) #[T_,T_,T_,T_,T_,T_,T_,T_,T_,T_,T_,T_] rfl rfl (by kernel_rfl) (fun _ _ _ h => h) (Or.inl ⟨by rfl,?_⟩) ?_ ?_
   rotate_left;(intro w';go_simp;with_reducible rfl);rotate_left;(simp only [Act.put,ps_,i64_w,i32_w];rfl)
   refine done_ (by kernel_rfl) ?_
   go_wp2
   refine bodyPost_ret (results_ctt rfl _ _ gb 25 #[.bool true,.bool spin,.bool false,.int .i64 ty,.int .u32 ver,.string dcid,.string scid,.string token,.int .u64 len,.int .i64 (wdF first),.int .u64 (bkF p p.size 0 0)] (0,0) _ rfl (blk_put (cs':=#[.bool true,.bool spin,.bool false,.int .i64 ty,.int .u32 ver,.string dcid,.string scid,.string token,.int .u64 len,.int .i64 (wdF first),.int .u64 (bkF p p.size 0 0)]) (blk_put (cs':=#[.bool true,.bool spin,.bool false,.int .i64 ty,.int .u32 ver,.string dcid,.string scid,.string token,.int .u64 len,.int .i64 (wdF first),.int .u64 0]) (blk_put (cs':=#[.bool true,.bool spin,.bool false,.int .i64 ty,.int .u32 ver,.string dcid,.string scid,.string token,.int .u64 len,.int .i64 0,.int .u64 0]) (blk_put (cs':=#[.bool true,.bool spin,.bool false,.int .i64 ty,.int .u32 ver,.string dcid,.string scid,.string token,.int .u64 0,.int .i64 0,.int .u64 0]) (blk_put (cs':=#[.bool true,.bool spin,.bool false,.int .i64 ty,.int .u32 ver,.string dcid,.string scid,.string (⟨#[]⟩ : ByteArray),.int .u64 0,.int .i64 0,.int .u64 0]) (blk_put (cs':=#[.bool true,.bool spin,.bool false,.int .i64 ty,.int .u32 ver,.string dcid,.string (⟨#[]⟩ : ByteArray),.string (⟨#[]⟩ : ByteArray),.int .u64 0,.int .i64 0,.int .u64 0]) (blk_put (cs':=#[.bool true,.bool spin,.bool false,.int .i64 ty,.int .u32 ver,.string (⟨#[]⟩ : ByteArray),.string (⟨#[]⟩ : ByteArray),.string (⟨#[]⟩ : ByteArray),.int .u64 0,.int .i64 0,.int .u64 0]) (blk_put (cs':=#[.bool true,.bool spin,.bool false,.int .i64 ty,.int .u32 0,.string (⟨#[]⟩ : ByteArray),.string (⟨#[]⟩ : ByteArray),.string (⟨#[]⟩ : ByteArray),.int .u64 0,.int .i64 0,.int .u64 0]) (blk_put (cs':=#[.bool true,.bool spin,.bool false,.int .i64 0,.int .u32 0,.string (⟨#[]⟩ : ByteArray),.string (⟨#[]⟩ : ByteArray),.string (⟨#[]⟩ : ByteArray),.int .u64 0,.int .i64 0,.int .u64 0]) (blk_put (cs':=#[.bool true,.bool spin,.bool false,.int .i64 0,.int .u32 0,.string (⟨#[]⟩ : ByteArray),.string (⟨#[]⟩ : ByteArray),.string (⟨#[]⟩ : ByteArray),.int .u64 0,.int .i64 0,.int .u64 0]) (blk_put (cs':=kk1_) R7.out 0 (.bool true) rfl) 1 (.bool spin) rfl) 2 (.bool false) rfl) 3 (.int .i64 ty) rfl) 4 (.int .u32 ver) rfl) 5 (.string dcid) rfl) 6 (.string scid) rfl) 7 (.string token) rfl) 8 (.int .u64 len) rfl) 9 (.int .i64 (wdF first)) rfl) 10 (.int .u64 (bkF p p.size 0 0)) rfl) Tryd.underlying25 rfl (by kernel_rfl)) rfl ?_
   exact ⟨rfl,(bs_ (bs_ (bs_ (bs_ (bs_ (bs_ (bs_ (bs_ (bs_ (bs_ (bs_ B7.out GB.out) GB.out) GB.out) GB.out) GB.out) GB.out) GB.out) GB.out) GB.out) GB.out) GB.out)⟩

set_option maxHeartbeats 8000000 in
set_option maxRecDepth 100000 in
theorem get_false_ (k : Nat) (a0 : ByteArray) (spin : Bool) (ty ver : Int) (dcid scid token : ByteArray) (len : Int) (rest : ByteArray) (first : Int) (r1 : Bool) (r2 : Bool) (r3 : Bool) (r4 : Int) (r5 : Int) (r6 : ByteArray) (r7 : ByteArray) (r8 : ByteArray) (r9 : Int) (r10 : Int) (r11 : Int) (r12 : ByteArray) (r13 : Int) (w : World) (hq : parsedF k a0 = some (some ⟨false,spin,ty,ver,dcid,scid,token,len,rest,first⟩)) (hf : header_Get.g ⟨false,spin,ty,ver,dcid,scid,token,len,rest,first⟩ = some (r1,r2,r3,r4,r5,r6,r7,r8,r9,r10,r11,r12,r13)) :
  Calls Tryd.prog 14 #[.string a0] w fun e w' => e = .returned (.tuple #[.agg #[.bool r1,.bool r2,.bool r3,.int .i64 r4,.int .u32 r5,.string r6,.string r7,.string r8,.int .u64 r9,.int .i64 r10,.int .u64 r11],.string r12,.int .i64 r13]) ∧ Below w.heap.size w w':=by
 have HQ:=am_ hq
 clear hq
 dsimp only [header_Get.g] at hf
 by_cases hs : rest.size ≤ 9223372036854775807
 rotate_left
 ·rw [if_neg hs] at hf
  simp at hf
 rw [if_pos hs] at hf
 obtain ⟨t,ht⟩ : ∃ t,tk rest false (IntKind.u64.wrap (wdF first)) = t:=⟨_,rfl⟩
 obtain ⟨p,s,b⟩:=t
 have zp : p.size ≤ 9223372036854775807:=by
  have:=(tk_size rest false (IntKind.u64.wrap (wdF first))).2
  rw [ht] at this
  exact Nat.le_trans this hs
 rw [ht] at hf
 dsimp only [header_Get.e] at hf
 have HF2:=am_ hf
 have HT:=am_ ht
 have HV:=am_ (show varint_Back.f p = some (bkF p p.size 0 0) from by unfold varint_Back.f;rw [if_pos zp])
 clear hf ht
 have hu25:=Tryd.underlying25
 go_enter Tryd.func14,Tryd.ntmps14
 go_wp2_with (((with_reducible refine gate_dst (N:=2) rfl ?_);refine box_event ?hg (N:=2) ?hd (cs:=kk0_) (t:=25) ?hr ?_;(case hd => rfl);(case hg => rfl);(case hr => first|(go_simp;done)|(go_simp;rfl));intro gb hg w1 hbox hb;have R1:=am_ hbox;have B1:=am_ (below_step (Below.refl _ _) hb);have GB:=am_ (Nat.le_of_eq hg.symm);clear hg hb hbox))
 refine (parsed_calls k a0 _ _ HQ.out).mono ?_
 rintro e w2 ⟨he,hb⟩
 have R2:=am_ (blk_below R1.out hb)
 have B2:=am_ (below_step B1.out hb)
 have LT:=am_ (blk_lt R1.out)
 obtain ⟨g,hg,rfl,h2⟩:=he
 have H2:=am_ h2
 have GE:=am_ (Nat.le_trans B1.out.size hg)
 have NE:=am_ (show gb ≠ g from fun e => by have:=LT.out;omega)
 clear HQ hb h2 hg
 obtain ⟨c0,c1,c2,c3,c4,c5,c6,c7,c8,c9,c10,c11,c12,c13,f0,f1,f2,f3,f4,f5,f6,f7,f8,f9,f10,f11,f12,f13⟩:=cs14f_ H2.out
 go_wp2_with fail
 rw [show wrap64 (1 + wrap64 (Go.bits .and .u8 first 3)) = wdF first from rfl]
 have r_:=blk_far (p:=⟨g,4,none⟩) (blk_far (p:=⟨g,11,none⟩) R2.out NE.out (.int .i64 (wdF first))) NE.out (.bool (Go.bits .and .u8 first 4 != 0))
 have h_:=blk_put (cs':=#[.string rest,.bool false,.bool false,.bool spin,.bool (Go.bits .and .u8 first 4 != 0),.int .i64 ty,.int .u32 ver,.string dcid,.string scid,.string token,.int .u64 len,.int .i64 (wdF first),.int .u64 0,.int .u8 first]) (blk_put (cs':=#[.string rest,.bool false,.bool false,.bool spin,.bool false,.int .i64 ty,.int .u32 ver,.string dcid,.string scid,.string token,.int .u64 len,.int .i64 (wdF first),.int .u64 0,.int .u8 first]) H2.out 11 (.int .i64 (wdF first)) rfl) 4 (.bool (Go.bits .and .u8 first 4 != 0)) rfl
 have b_:=bs_ (j:=4) (v:=.bool (Go.bits .and .u8 first 4 != 0)) (bs_ (j:=11) (v:=.int .i64 (wdF first)) B2.out GE.out) GE.out
 clear c0 f0 c1 f1 c2 f2 c3 f3 c4 f4 c5 f5 c6 f6 c7 f7 c8 f8 c9 f9 c10 f10 c11 f11 c12 f12 c13 f13
 generalize (w2.setCell ⟨g,11,none⟩ (.int .i64 (wdF first))).setCell ⟨g,4,none⟩ (.bool (Go.bits .and .u8 first 4 != 0)) = w3 at h_ b_ r_ ⊢
 have H3:=am_ h_
 have B3:=am_ b_
 have R3:=am_ r_
 clear h_ b_ r_ H2 B2 R2
 refine start_ (n:=16) (S:=fun W => W.cell? ⟨g,11,none⟩ = some (.int .i64 (wdF first))) (ds:=[15]) #[F_,F_,F_,F_,F_,F_,F_,F_,F_,F_,F_,F_,F_,F_,F_,F_] (by kernel_rfl) rfl rfl ((kc_ H3.out 11).trans rfl) (fun hHeld => ?_)
 refine pure_ (i:=0) (N:=some 46) (v:=?_) (a':=?_) #[T_,F_,F_,F_,F_,F_,F_,F_,F_,F_,F_,F_,F_,F_,F_,F_] rfl rfl (by kernel_rfl) (fun _ _ _ h => h) (Or.inl ⟨by rfl,?_⟩) ?_ ?_
 rotate_left;(intro w';go_simp;with_reducible rfl);rotate_left;(simp only [Act.put,ps_,i64_w,i32_w];rfl)
 refine pure_ (i:=1) (N:=some 47) (v:=?_) (a':=?_) #[T_,T_,F_,F_,F_,F_,F_,F_,F_,F_,F_,F_,F_,F_,F_,F_] rfl rfl (by kernel_rfl) (fun _ _ _ h => h) (Or.inl ⟨by rfl,?_⟩) ?_ ?_
 rotate_left;(intro w';go_simp;with_reducible rfl);rotate_left;(simp only [Act.put,ps_,i64_w,i32_w];rfl)
 refine pure_ (i:=2) (N:=some 48) (v:=?_) (a':=?_) #[T_,T_,T_,F_,F_,F_,F_,F_,F_,F_,F_,F_,F_,F_,F_,F_] rfl rfl (by kernel_rfl) (fun _ _ _ h => h) (Or.inl ⟨by rfl,?_⟩) ?_ ?_
 rotate_left;(intro w';go_simp;with_reducible rfl);rotate_left;(simp only [Act.put,ps_,i64_w,i32_w];rfl)
 refine pure_ (i:=3) (N:=some 49) (v:=?_) (a':=?_) #[T_,T_,T_,T_,F_,F_,F_,F_,F_,F_,F_,F_,F_,F_,F_,F_] rfl rfl (by kernel_rfl) (fun _ _ _ h => h) (Or.inl ⟨by rfl,?_⟩) ?_ ?_
 rotate_left;(intro w';go_simp;with_reducible rfl);rotate_left;(simp only [Act.put,ps_,i64_w,i32_w];rfl)
 refine pure_ (i:=4) (N:=some 50) (v:=?_) (a':=?_) #[T_,T_,T_,T_,T_,F_,F_,F_,F_,F_,F_,F_,F_,F_,F_,F_] rfl rfl (by kernel_rfl) (fun _ _ _ h => h) (Or.inl ⟨by rfl,?_⟩) ?_ ?_
 rotate_left;(intro w';go_simp;with_reducible rfl);rotate_left;(simp only [Act.put,ps_,i64_w,i32_w];rfl)
 refine pure_ (i:=5) (N:=some 51) (v:=?_) (a':=?_) #[T_,T_,T_,T_,T_,T_,F_,F_,F_,F_,F_,F_,F_,F_,F_,F_] rfl rfl (by kernel_rfl) (fun _ _ _ h => h) (Or.inl ⟨by rfl,?_⟩) ?_ ?_
 rotate_left;(intro w';go_simp;with_reducible rfl);rotate_left;(simp only [Act.put,ps_,i64_w,i32_w];rfl)
 refine pure_ (i:=6) (N:=some 52) (v:=?_) (a':=?_) #[T_,T_,T_,T_,T_,T_,T_,F_,F_,F_,F_,F_,F_,F_,F_,F_] rfl rfl (by kernel_rfl) (fun _ _ _ h => h) (Or.inl ⟨by rfl,?_⟩) ?_ ?_
 rotate_left;(intro w';go_simp;with_reducible rfl);rotate_left;(simp only [Act.put,ps_,i64_w,i32_w];rfl)
 refine pure_ (i:=7) (N:=some 53) (v:=?_) (a':=?_) #[T_,T_,T_,T_,T_,T_,T_,T_,F_,F_,F_,F_,F_,F_,F_,F_] rfl rfl (by kernel_rfl) (fun _ _ _ h => h) (Or.inl ⟨by rfl,?_⟩) ?_ ?_
 rotate_left;(intro w';go_simp;with_reducible rfl);rotate_left;(simp only [Act.put,ps_,i64_w,i32_w];rfl)
 refine take_ (i:=8) (N:=some 54) (v:=?_) (a':=?_) #[T_,T_,T_,T_,T_,T_,T_,T_,T_,F_,F_,F_,F_,F_,F_,F_] rfl rfl (by kernel_rfl) (fun _ _ _ h => h) (Or.inl ⟨by rfl,?_⟩) hHeld ?_ ?_
 rotate_left
 ·rintro w' s0
  go_simp
  with_reducible rfl
 rotate_left
 ·simp only [Act.put,ps_,i64_w,i32_w]
  rfl
 refine pure_ (i:=9) (N:=some 55) (v:=?_) (a':=?_) #[T_,T_,T_,T_,T_,T_,T_,T_,T_,T_,F_,F_,F_,F_,F_,F_] rfl rfl (by kernel_rfl) (fun _ _ _ h => h) (Or.inl ⟨by rfl,?_⟩) ?_ ?_
 rotate_left;(intro w';go_simp;with_reducible rfl);rotate_left;(simp only [Act.put,ps_,i64_w,i32_w];rfl)
 refine one_ (i:=10) (N:=some 56) #[T_,T_,T_,T_,T_,T_,T_,T_,T_,T_,T_,F_,F_,F_,F_,F_] rfl rfl (by kernel_rfl) (by decide) (fun K hK => ?_)
 refine goes_ (N:=some 56) Tryd.func34 (by kernel_rfl) rfl #[.pointer (some ⟨g,0,none⟩),.int .u64 (IntKind.u64.wrap (wdF first))] (by rfl) rfl rfl (by (try simp only [List.map_toArray,List.map_cons,List.map_nil]);first|done|rfl) ?_
 refine (lf_takeE g 58 rest false [.bool false,.bool spin,.bool (Go.bits .and .u8 first 4 != 0),.int .i64 ty,.int .u32 ver,.string dcid,.string scid,.string token,.int .u64 len,.int .i64 (wdF first),.int .u64 0,.int .u8 first] (IntKind.u64.wrap (wdF first)) p s b _ HT.out (wrap_nn_ rfl _) hs (kd_ H3.out)).mono ?_
 rintro e w4 ⟨rfl,h4,g4⟩
 have H4:=am_ h4
 have B4:=am_ (below_grown_ B3.out GE.out (w:=w3) ⟨g4.os,g4.tape,g4.output,g4.size,g4.block⟩)
 have R4:=am_ (blk_grown (kd_ R3.out) g4 (fun e => NE.out (by injection e)))
 clear h4 g4
 refine ⟨_,rfl,?_⟩
 refine hK.out _ _ ((kc_ H4.out 11).trans rfl) (fun hHeld2 => ?_)
 clear hK K
 refine norm_ (a':=?_) ?_ ?_
 rotate_left
 ·show Act.put _ (some 56) _ = _
  simp only [Act.put,ps_,i64_w,i32_w]
  rfl
 refine one_ (i:=11) (N:=some 57) #[T_,T_,T_,T_,T_,T_,T_,T_,T_,T_,T_,T_,F_,F_,F_,F_] rfl rfl (by kernel_rfl) (by decide) (fun K hK => ?_)
 refine goes_ (N:=some 57) Tryd.func33 (by kernel_rfl) rfl #[.string p] (by rfl) rfl rfl (by (try simp only [List.map_toArray,List.map_cons,List.map_nil]);first|done|rfl) ?_
 refine (varint_Back.calls _ _ _ HV.out).mono ?_
 rintro e w5 ⟨rfl,hb5⟩
 have H5:=am_ (blk_below H4.out hb5)
 have B5:=am_ (below_step B4.out hb5)
 have R5:=am_ (blk_below R4.out hb5)
 clear hb5
 refine ⟨_,rfl,?_⟩
 refine hK.out _ _ ((kc_ H5.out 11).trans rfl) (fun hHeld3 => ?_)
 clear hK K
 refine norm_ (a':=?_) ?_ ?_
 rotate_left
 ·show Act.put _ (some 57) _ = _
  simp only [Act.put,ps_,i64_w,i32_w]
  rfl
 refine pure_ (i:=12) (N:=some 58) (v:=?_) (a':=?_) #[T_,T_,T_,T_,T_,T_,T_,T_,T_,T_,T_,T_,T_,F_,F_,F_] rfl rfl (by kernel_rfl) (fun _ _ _ h => h) (Or.inl ⟨by rfl,?_⟩) ?_ ?_
 rotate_left;(intro w';go_simp;with_reducible rfl);rotate_left;(simp only [Act.put,ps_,i64_w,i32_w];rfl)
 refine pure_ (i:=13) (N:=some 59) (v:=?_) (a':=?_) #[T_,T_,T_,T_,T_,T_,T_,T_,T_,T_,T_,T_,T_,T_,F_,F_] rfl rfl (by kernel_rfl) (fun _ _ _ h => h) (Or.inl ⟨by rfl,?_⟩) ?_ ?_
 rotate_left;(intro w';go_simp;with_reducible rfl);rotate_left;(simp only [Act.put,ps_,i64_w,i32_w];rfl)
 refine pure_ (i:=14) (N:=some 60) (v:=?_) (a':=?_) #[T_,T_,T_,T_,T_,T_,T_,T_,T_,T_,T_,T_,T_,T_,T_,F_] rfl rfl (by kernel_rfl) (fun _ _ _ h => h) (Or.inl ⟨by rfl,?_⟩) ?_ ?_
 rotate_left;(intro w';go_simp;with_reducible rfl);rotate_left;(simp only [Act.put,ps_,i64_w,i32_w];rfl)
 obtain ⟨c0,c1,c2,c3,c4,c5,c6,c7,c8,c9,c10,c11,c12,c13,f0,f1,f2,f3,f4,f5,f6,f7,f8,f9,f10,f11,f12,f13⟩:=cs14f_ H5.out
 refine last_ (i:=15) (N:=none) #[T_,T_,T_,T_,T_,T_,T_,T_,T_,T_,T_,T_,T_,T_,T_,T_] rfl rfl (by kernel_rfl) (by decide) (fun K hK => ?_)
 refine skip_ (w1:=?_) (by rfl) rfl ?_ ?_
 rotate_left
 ·go_simp
  rfl
 refine hK.out _ _ ?_
 clear hK K
 refine done_ (by kernel_rfl) ?_
 have h_:=blk_put (cs':=#[.string s,.bool b,.bool false,.bool spin,.bool (Go.bits .and .u8 first 4 != 0),.int .i64 ty,.int .u32 ver,.string dcid,.string scid,.string token,.int .u64 len,.int .i64 (wdF first),.int .u64 (bkF p p.size 0 0),.int .u8 first]) H5.out 12 (.int .u64 (bkF p p.size 0 0)) rfl
 have b_:=bs_ (j:=12) (v:=.int .u64 (bkF p p.size 0 0)) B5.out GE.out
 have r_:=blk_far (p:=⟨g,12,none⟩) R5.out NE.out (.int .u64 (bkF p p.size 0 0))
 clear c0 f0 c1 f1 c2 f2 c3 f3 c4 f4 c5 f5 c6 f6 c7 f7 c8 f8 c9 f9 c10 f10 c11 f11 c12 f12 c13 f13
 generalize w5.setCell ⟨g,12,none⟩ (.int .u64 (bkF p p.size 0 0)) = w6 at h_ b_ r_ ⊢
 have H6:=am_ h_
 have B6:=am_ b_
 have R6:=am_ r_
 clear h_ b_ r_ H3 B3 R3 H4 B4 R4 H5 B5 R5 hHeld hHeld2 hHeld3
 obtain ⟨c0,c1,c2,c3,c4,c5,c6,c7,c8,c9,c10,c11,c12,c13,f0,f1,f2,f3,f4,f5,f6,f7,f8,f9,f10,f11,f12,f13⟩:=cs14f_ H6.out
 obtain ⟨d0,d1,d2,d3,d4,d5,d6,d7,d8,d9,d10,x0,x1,x2,x3,x4,x5,x6,x7,x8,x9,x10⟩:=cs11f_ R6.out
 cases b with
 | true =>
  have hf:=HF2.out
  rw [if_pos (Or.inl rfl)] at hf
  simp only [Option.some.injEq,Prod.mk.injEq] at hf
  obtain ⟨rfl,rfl,rfl,rfl,rfl,rfl,rfl,rfl,rfl,rfl,rfl,rfl,rfl⟩:=hf
  clear HF2 HT HV
  go_wp2
  refine bodyPost_ret (results_ctt rfl _ _ gb 25 kk0_ (0,0) _ rfl (blk_put (cs':=kk0_) (blk_put (cs':=kk0_) (blk_put (cs':=kk0_) (blk_put (cs':=kk0_) (blk_put (cs':=kk0_) (blk_put (cs':=kk0_) (blk_put (cs':=kk0_) (blk_put (cs':=kk0_) (blk_put (cs':=kk0_) (blk_put (cs':=kk0_) (blk_put (cs':=kk0_) R6.out 0 (.bool false) rfl) 1 (.bool false) rfl) 2 (.bool false) rfl) 3 (.int .i64 0) rfl) 4 (.int .u32 0) rfl) 5 (.string (⟨#[]⟩ : ByteArray)) rfl) 6 (.string (⟨#[]⟩ : ByteArray)) rfl) 7 (.string (⟨#[]⟩ : ByteArray)) rfl) 8 (.int .u64 0) rfl) 9 (.int .i64 0) rfl) 10 (.int .u64 0) rfl) Tryd.underlying25 rfl (by kernel_rfl)) rfl ?_
  exact ⟨rfl,(bs_ (bs_ (bs_ (bs_ (bs_ (bs_ (bs_ (bs_ (bs_ (bs_ (bs_ B6.out GB.out) GB.out) GB.out) GB.out) GB.out) GB.out) GB.out) GB.out) GB.out) GB.out) GB.out)⟩
 | false =>
  by_cases c : Go.bits .and .u8 first 24 = 0
  rotate_left
  ·have hf:=HF2.out
   rw [if_pos (Or.inr (by first|exact c|(simp only [Bool.false_eq_true,if_false,if_true];exact c)))] at hf
   simp only [Option.some.injEq,Prod.mk.injEq] at hf
   obtain ⟨rfl,rfl,rfl,rfl,rfl,rfl,rfl,rfl,rfl,rfl,rfl,rfl,rfl⟩:=hf
   have e1 : (Go.bits .and .u8 first 24 != 0) = true:=bne_iff_ne.mpr c
   clear HF2 HT HV c
   go_wp2
   refine bodyPost_ret (results_ctt rfl _ _ gb 25 kk0_ (0,0) _ rfl (blk_put (cs':=kk0_) (blk_put (cs':=kk0_) (blk_put (cs':=kk0_) (blk_put (cs':=kk0_) (blk_put (cs':=kk0_) (blk_put (cs':=kk0_) (blk_put (cs':=kk0_) (blk_put (cs':=kk0_) (blk_put (cs':=kk0_) (blk_put (cs':=kk0_) (blk_put (cs':=kk0_) R6.out 0 (.bool false) rfl) 1 (.bool false) rfl) 2 (.bool false) rfl) 3 (.int .i64 0) rfl) 4 (.int .u32 0) rfl) 5 (.string (⟨#[]⟩ : ByteArray)) rfl) 6 (.string (⟨#[]⟩ : ByteArray)) rfl) 7 (.string (⟨#[]⟩ : ByteArray)) rfl) 8 (.int .u64 0) rfl) 9 (.int .i64 0) rfl) 10 (.int .u64 0) rfl) Tryd.underlying25 rfl (by kernel_rfl)) rfl ?_
   exact ⟨rfl,(bs_ (bs_ (bs_ (bs_ (bs_ (bs_ (bs_ (bs_ (bs_ (bs_ (bs_ B6.out GB.out) GB.out) GB.out) GB.out) GB.out) GB.out) GB.out) GB.out) GB.out) GB.out) GB.out)⟩
  ·have hf:=HF2.out
   rw [if_neg (fun h => h.elim (fun h => absurd h (by decide)) (fun h => h c))] at hf
   simp only [Option.some.injEq,Prod.mk.injEq] at hf
   obtain ⟨rfl,rfl,rfl,rfl,rfl,rfl,rfl,rfl,rfl,rfl,rfl,rfl,rfl⟩:=hf
   have e1 : (Go.bits .and .u8 first 24 != 0) = false:=by rw [c];rfl
   clear HF2 HT HV c
   go_wp2_with fail
   have H7:=am_ (kd_ H6.out)
   have R7:=am_ (kd_ R6.out)
   have B7:=am_ (pd_ B6.out)
   clear H6 R6 B6
   clear c0 f0 c1 f1 c2 f2 c3 f3 c4 f4 c5 f5 c6 f6 c7 f7 c8 f8 c9 f9 c10 f10 c11 f11 c12 f12 c13 f13
   clear d0 x0 d1 x1 d2 x2 d3 x3 d4 x4 d5 x5 d6 x6 d7 x7 d8 x8 d9 x9 d10 x10
   refine start_ (n:=12) (S:=fun W => W.cell? ⟨g,0,none⟩ = some (.string s) ∧ W.cell? ⟨g,2,none⟩ = some (.bool false) ∧ W.cell? ⟨g,3,none⟩ = some (.bool spin) ∧ W.cell? ⟨g,4,none⟩ = some (.bool (Go.bits .and .u8 first 4 != 0)) ∧ W.cell? ⟨g,5,none⟩ = some (.int .i64 ty) ∧ W.cell? ⟨g,6,none⟩ = some (.int .u32 ver) ∧ W.cell? ⟨g,7,none⟩ = some (.string dcid) ∧ W.cell? ⟨g,8,none⟩ = some (.string scid) ∧ W.cell? ⟨g,9,none⟩ = some (.string token) ∧ W.cell? ⟨g,10,none⟩ = some (.int .u64 len) ∧ W.cell? ⟨g,11,none⟩ = some (.int .i64 (wdF first)) ∧ W.cell? ⟨g,12,none⟩ = some (.int .u64 (bkF p p.size 0 0))) (ds:=[]) #[F_,F_,F_,F_,F_,F_,F_,F_,F_,F_,F_,F_] (by kernel_rfl) rfl rfl ⟨((kc_ H7.out 0).trans rfl),((kc_ H7.out 2).trans rfl),((kc_ H7.out 3).trans rfl),((kc_ H7.out 4).trans rfl),((kc_ H7.out 5).trans rfl),((kc_ H7.out 6).trans rfl),((kc_ H7.out 7).trans rfl),((kc_ H7.out 8).trans rfl),((kc_ H7.out 9).trans rfl),((kc_ H7.out 10).trans rfl),((kc_ H7.out 11).trans rfl),((kc_ H7.out 12).trans rfl)⟩ (fun hHeld => ?_)
   generalize w6.drew = w7 at H7 R7 B7 hHeld ⊢
   refine pure_ (i:=0) (N:=some 76) (v:=?_) (a':=?_) #[T_,F_,F_,F_,F_,F_,F_,F_,F_,F_,F_,F_] rfl rfl (by kernel_rfl) (fun _ _ _ h => h) (Or.inl ⟨by rfl,?_⟩) ?_ ?_
   rotate_left;(intro w';go_simp;with_reducible rfl);rotate_left;(simp only [Act.put,ps_,i64_w,i32_w];rfl)
   refine pure_ (i:=1) (N:=some 77) (v:=?_) (a':=?_) #[T_,T_,F_,F_,F_,F_,F_,F_,F_,F_,F_,F_] rfl rfl (by kernel_rfl) (fun _ _ _ h => h) (Or.inl ⟨by rfl,?_⟩) ?_ ?_
   rotate_left;(intro w';go_simp;with_reducible rfl);rotate_left;(simp only [Act.put,ps_,i64_w,i32_w];rfl)
   refine pure_ (i:=2) (N:=some 78) (v:=?_) (a':=?_) #[T_,T_,T_,F_,F_,F_,F_,F_,F_,F_,F_,F_] rfl rfl (by kernel_rfl) (fun _ _ _ h => h) (Or.inl ⟨by rfl,?_⟩) ?_ ?_
   rotate_left;(intro w';go_simp;with_reducible rfl);rotate_left;(simp only [Act.put,ps_,i64_w,i32_w];rfl)
   refine take_ (i:=3) (N:=some 79) (v:=?_) (a':=?_) #[T_,T_,T_,T_,F_,F_,F_,F_,F_,F_,F_,F_] rfl rfl (by kernel_rfl) (fun _ _ _ h => h) (Or.inl ⟨by rfl,?_⟩) hHeld ?_ ?_
   rotate_left
   ·rintro w' ⟨s0,s2,s3,s4,s5,s6,s7,s8,s9,s10,s11,s12⟩
    go_simp
    with_reducible rfl
   rotate_left
   ·simp only [Act.put,ps_,i64_w,i32_w]
    rfl
   refine pure_ (i:=4) (N:=some 80) (v:=?_) (a':=?_) #[T_,T_,T_,T_,T_,F_,F_,F_,F_,F_,F_,F_] rfl rfl (by kernel_rfl) (fun _ _ _ h => h) (Or.inl ⟨by rfl,?_⟩) ?_ ?_
   rotate_left;(intro w';go_simp;with_reducible rfl);rotate_left;(simp only [Act.put,ps_,i64_w,i32_w];rfl)
   refine pure_ (i:=5) (N:=some 81) (v:=?_) (a':=?_) #[T_,T_,T_,T_,T_,T_,F_,F_,F_,F_,F_,F_] rfl rfl (by kernel_rfl) (fun _ _ _ h => h) (Or.inl ⟨by rfl,?_⟩) ?_ ?_
   rotate_left;(intro w';go_simp;with_reducible rfl);rotate_left;(simp only [Act.put,ps_,i64_w,i32_w];rfl)
   refine pure_ (i:=6) (N:=some 82) (v:=?_) (a':=?_) #[T_,T_,T_,T_,T_,T_,T_,F_,F_,F_,F_,F_] rfl rfl (by kernel_rfl) (fun _ _ _ h => h) (Or.inl ⟨by rfl,?_⟩) ?_ ?_
   rotate_left;(intro w';go_simp;with_reducible rfl);rotate_left;(simp only [Act.put,ps_,i64_w,i32_w];rfl)
   refine pure_ (i:=7) (N:=some 83) (v:=?_) (a':=?_) #[T_,T_,T_,T_,T_,T_,T_,T_,F_,F_,F_,F_] rfl rfl (by kernel_rfl) (fun _ _ _ h => h) (Or.inl ⟨by rfl,?_⟩) ?_ ?_
   rotate_left;(intro w';go_simp;with_reducible rfl);rotate_left;(simp only [Act.put,ps_,i64_w,i32_w];rfl)
   refine take_ (i:=8) (N:=some 84) (v:=?_) (a':=?_) #[T_,T_,T_,T_,T_,T_,T_,T_,T_,F_,F_,F_] rfl rfl (by kernel_rfl) (fun _ _ _ h => h) (Or.inl ⟨by rfl,?_⟩) hHeld ?_ ?_
   rotate_left
   ·rintro w' ⟨s0,s2,s3,s4,s5,s6,s7,s8,s9,s10,s11,s12⟩
    go_simp
    with_reducible rfl
   rotate_left
   ·simp only [Act.put,ps_,i64_w,i32_w]
    rfl
   obtain ⟨d0,d1,d2,d3,d4,d5,d6,d7,d8,d9,d10,x0,x1,x2,x3,x4,x5,x6,x7,x8,x9,x10⟩:=cs11f_ R7.out
   refine one_ (i:=9) (N:=none) #[T_,T_,T_,T_,T_,T_,T_,T_,T_,T_,F_,F_] rfl rfl (by kernel_rfl) (by decide) (fun K hK => ?_)
   refine skip_ (w1:=?_) (by rfl) rfl ?_ ?_
   rotate_left
   ·go_simp
    rfl
   refine hK.out _ _ ⟨((cell_far (p:=⟨gb,_,none⟩) NE.out.symm _).trans ((cell_far (p:=⟨gb,_,none⟩) NE.out.symm _).trans ((cell_far (p:=⟨gb,_,none⟩) NE.out.symm _).trans ((cell_far (p:=⟨gb,_,none⟩) NE.out.symm _).trans ((cell_far (p:=⟨gb,_,none⟩) NE.out.symm _).trans ((cell_far (p:=⟨gb,_,none⟩) NE.out.symm _).trans ((cell_far (p:=⟨gb,_,none⟩) NE.out.symm _).trans ((cell_far (p:=⟨gb,_,none⟩) NE.out.symm _).trans ((cell_far (p:=⟨gb,_,none⟩) NE.out.symm _).trans ((cell_far (p:=⟨gb,_,none⟩) NE.out.symm _).trans ((cell_far (p:=⟨gb,_,none⟩) NE.out.symm _).trans hHeld.1))))))))))),((cell_far (p:=⟨gb,_,none⟩) NE.out.symm _).trans ((cell_far (p:=⟨gb,_,none⟩) NE.out.symm _).trans ((cell_far (p:=⟨gb,_,none⟩) NE.out.symm _).trans ((cell_far (p:=⟨gb,_,none⟩) NE.out.symm _).trans ((cell_far (p:=⟨gb,_,none⟩) NE.out.symm _).trans ((cell_far (p:=⟨gb,_,none⟩) NE.out.symm _).trans ((cell_far (p:=⟨gb,_,none⟩) NE.out.symm _).trans ((cell_far (p:=⟨gb,_,none⟩) NE.out.symm _).trans ((cell_far (p:=⟨gb,_,none⟩) NE.out.symm _).trans ((cell_far (p:=⟨gb,_,none⟩) NE.out.symm _).trans ((cell_far (p:=⟨gb,_,none⟩) NE.out.symm _).trans hHeld.2.1))))))))))),((cell_far (p:=⟨gb,_,none⟩) NE.out.symm _).trans ((cell_far (p:=⟨gb,_,none⟩) NE.out.symm _).trans ((cell_far (p:=⟨gb,_,none⟩) NE.out.symm _).trans ((cell_far (p:=⟨gb,_,none⟩) NE.out.symm _).trans ((cell_far (p:=⟨gb,_,none⟩) NE.out.symm _).trans ((cell_far (p:=⟨gb,_,none⟩) NE.out.symm _).trans ((cell_far (p:=⟨gb,_,none⟩) NE.out.symm _).trans ((cell_far (p:=⟨gb,_,none⟩) NE.out.symm _).trans ((cell_far (p:=⟨gb,_,none⟩) NE.out.symm _).trans ((cell_far (p:=⟨gb,_,none⟩) NE.out.symm _).trans ((cell_far (p:=⟨gb,_,none⟩) NE.out.symm _).trans hHeld.2.2.1))))))))))),((cell_far (p:=⟨gb,_,none⟩) NE.out.symm _).trans ((cell_far (p:=⟨gb,_,none⟩) NE.out.symm _).trans ((cell_far (p:=⟨gb,_,none⟩) NE.out.symm _).trans ((cell_far (p:=⟨gb,_,none⟩) NE.out.symm _).trans ((cell_far (p:=⟨gb,_,none⟩) NE.out.symm _).trans ((cell_far (p:=⟨gb,_,none⟩) NE.out.symm _).trans ((cell_far (p:=⟨gb,_,none⟩) NE.out.symm _).trans ((cell_far (p:=⟨gb,_,none⟩) NE.out.symm _).trans ((cell_far (p:=⟨gb,_,none⟩) NE.out.symm _).trans ((cell_far (p:=⟨gb,_,none⟩) NE.out.symm _).trans ((cell_far (p:=⟨gb,_,none⟩) NE.out.symm _).trans hHeld.2.2.2.1))))))))))),((cell_far (p:=⟨gb,_,none⟩) NE.out.symm _).trans ((cell_far (p:=⟨gb,_,none⟩) NE.out.symm _).trans ((cell_far (p:=⟨gb,_,none⟩) NE.out.symm _).trans ((cell_far (p:=⟨gb,_,none⟩) NE.out.symm _).trans ((cell_far (p:=⟨gb,_,none⟩) NE.out.symm _).trans ((cell_far (p:=⟨gb,_,none⟩) NE.out.symm _).trans ((cell_far (p:=⟨gb,_,none⟩) NE.out.symm _).trans ((cell_far (p:=⟨gb,_,none⟩) NE.out.symm _).trans ((cell_far (p:=⟨gb,_,none⟩) NE.out.symm _).trans ((cell_far (p:=⟨gb,_,none⟩) NE.out.symm _).trans ((cell_far (p:=⟨gb,_,none⟩) NE.out.symm _).trans hHeld.2.2.2.2.1))))))))))),((cell_far (p:=⟨gb,_,none⟩) NE.out.symm _).trans ((cell_far (p:=⟨gb,_,none⟩) NE.out.symm _).trans ((cell_far (p:=⟨gb,_,none⟩) NE.out.symm _).trans ((cell_far (p:=⟨gb,_,none⟩) NE.out.symm _).trans ((cell_far (p:=⟨gb,_,none⟩) NE.out.symm _).trans ((cell_far (p:=⟨gb,_,none⟩) NE.out.symm _).trans ((cell_far (p:=⟨gb,_,none⟩) NE.out.symm _).trans ((cell_far (p:=⟨gb,_,none⟩) NE.out.symm _).trans ((cell_far (p:=⟨gb,_,none⟩) NE.out.symm _).trans ((cell_far (p:=⟨gb,_,none⟩) NE.out.symm _).trans ((cell_far (p:=⟨gb,_,none⟩) NE.out.symm _).trans hHeld.2.2.2.2.2.1))))))))))),((cell_far (p:=⟨gb,_,none⟩) NE.out.symm _).trans ((cell_far (p:=⟨gb,_,none⟩) NE.out.symm _).trans ((cell_far (p:=⟨gb,_,none⟩) NE.out.symm _).trans ((cell_far (p:=⟨gb,_,none⟩) NE.out.symm _).trans ((cell_far (p:=⟨gb,_,none⟩) NE.out.symm _).trans ((cell_far (p:=⟨gb,_,none⟩) NE.out.symm _).trans ((cell_far (p:=⟨gb,_,none⟩) NE.out.symm _).trans ((cell_far (p:=⟨gb,_,none⟩) NE.out.symm _).trans ((cell_far (p:=⟨gb,_,none⟩) NE.out.symm _).trans ((cell_far (p:=⟨gb,_,none⟩) NE.out.symm _).trans ((cell_far (p:=⟨gb,_,none⟩) NE.out.symm _).trans hHeld.2.2.2.2.2.2.1))))))))))),((cell_far (p:=⟨gb,_,none⟩) NE.out.symm _).trans ((cell_far (p:=⟨gb,_,none⟩) NE.out.symm _).trans ((cell_far (p:=⟨gb,_,none⟩) NE.out.symm _).trans ((cell_far (p:=⟨gb,_,none⟩) NE.out.symm _).trans ((cell_far (p:=⟨gb,_,none⟩) NE.out.symm _).trans ((cell_far (p:=⟨gb,_,none⟩) NE.out.symm _).trans ((cell_far (p:=⟨gb,_,none⟩) NE.out.symm _).trans ((cell_far (p:=⟨gb,_,none⟩) NE.out.symm _).trans ((cell_far (p:=⟨gb,_,none⟩) NE.out.symm _).trans ((cell_far (p:=⟨gb,_,none⟩) NE.out.symm _).trans ((cell_far (p:=⟨gb,_,none⟩) NE.out.symm _).trans hHeld.2.2.2.2.2.2.2.1))))))))))),((cell_far (p:=⟨gb,_,none⟩) NE.out.symm _).trans ((cell_far (p:=⟨gb,_,none⟩) NE.out.symm _).trans ((cell_far (p:=⟨gb,_,none⟩) NE.out.symm _).trans ((cell_far (p:=⟨gb,_,none⟩) NE.out.symm _).trans ((cell_far (p:=⟨gb,_,none⟩) NE.out.symm _).trans ((cell_far (p:=⟨gb,_,none⟩) NE.out.symm _).trans ((cell_far (p:=⟨gb,_,none⟩) NE.out.symm _).trans ((cell_far (p:=⟨gb,_,none⟩) NE.out.symm _).trans ((cell_far (p:=⟨gb,_,none⟩) NE.out.symm _).trans ((cell_far (p:=⟨gb,_,none⟩) NE.out.symm _).trans ((cell_far (p:=⟨gb,_,none⟩) NE.out.symm _).trans hHeld.2.2.2.2.2.2.2.2.1))))))))))),((cell_far (p:=⟨gb,_,none⟩) NE.out.symm _).trans ((cell_far (p:=⟨gb,_,none⟩) NE.out.symm _).trans ((cell_far (p:=⟨gb,_,none⟩) NE.out.symm _).trans ((cell_far (p:=⟨gb,_,none⟩) NE.out.symm _).trans ((cell_far (p:=⟨gb,_,none⟩) NE.out.symm _).trans ((cell_far (p:=⟨gb,_,none⟩) NE.out.symm _).trans ((cell_far (p:=⟨gb,_,none⟩) NE.out.symm _).trans ((cell_far (p:=⟨gb,_,none⟩) NE.out.symm _).trans ((cell_far (p:=⟨gb,_,none⟩) NE.out.symm _).trans ((cell_far (p:=⟨gb,_,none⟩) NE.out.symm _).trans ((cell_far (p:=⟨gb,_,none⟩) NE.out.symm _).trans hHeld.2.2.2.2.2.2.2.2.2.1))))))))))),((cell_far (p:=⟨gb,_,none⟩) NE.out.symm _).trans ((cell_far (p:=⟨gb,_,none⟩) NE.out.symm _).trans ((cell_far (p:=⟨gb,_,none⟩) NE.out.symm _).trans ((cell_far (p:=⟨gb,_,none⟩) NE.out.symm _).trans ((cell_far (p:=⟨gb,_,none⟩) NE.out.symm _).trans ((cell_far (p:=⟨gb,_,none⟩) NE.out.symm _).trans ((cell_far (p:=⟨gb,_,none⟩) NE.out.symm _).trans ((cell_far (p:=⟨gb,_,none⟩) NE.out.symm _).trans ((cell_far (p:=⟨gb,_,none⟩) NE.out.symm _).trans ((cell_far (p:=⟨gb,_,none⟩) NE.out.symm _).trans ((cell_far (p:=⟨gb,_,none⟩) NE.out.symm _).trans hHeld.2.2.2.2.2.2.2.2.2.2.1))))))))))),((cell_far (p:=⟨gb,_,none⟩) NE.out.symm _).trans ((cell_far (p:=⟨gb,_,none⟩) NE.out.symm _).trans ((cell_far (p:=⟨gb,_,none⟩) NE.out.symm _).trans ((cell_far (p:=⟨gb,_,none⟩) NE.out.symm _).trans ((cell_far (p:=⟨gb,_,none⟩) NE.out.symm _).trans ((cell_far (p:=⟨gb,_,none⟩) NE.out.symm _).trans ((cell_far (p:=⟨gb,_,none⟩) NE.out.symm _).trans ((cell_far (p:=⟨gb,_,none⟩) NE.out.symm _).trans ((cell_far (p:=⟨gb,_,none⟩) NE.out.symm _).trans ((cell_far (p:=⟨gb,_,none⟩) NE.out.symm _).trans ((cell_far (p:=⟨gb,_,none⟩) NE.out.symm _).trans hHeld.2.2.2.2.2.2.2.2.2.2.2)))))))))))⟩ (fun hHeld_ => ?_)
   clear hK K
   refine pure_ (i:=10) (N:=some 3) (v:=?_) (a':=?_) #[T_,T_,T_,T_,T_,T_,T_,T_,T_,T_,T_,F_] rfl rfl (by kernel_rfl) (fun _ _ _ h => h) (Or.inl ⟨by rfl,?_⟩) ?_ ?_
   rotate_left;(intro w';go_simp;with_reducible rfl);rotate_left;(simp only [Act.put,ps_,i64_w,i32_w];rfl)
   refine pure_ (i:=11) (N:=some 4) (v:=?_) (a':=?_) #[T_,T_,T_,T_,T_,T_,T_,T_,T_,T_,T_,T_] rfl rfl (by kernel_rfl) (fun _ _ _ h => h) (Or.inl ⟨by rfl,?_⟩) ?_ ?_
   rotate_left;(intro w';go_simp;with_reducible rfl);rotate_left;(simp only [Act.put,ps_,i64_w,i32_w];rfl)
   refine done_ (by kernel_rfl) ?_
   go_wp2
   refine bodyPost_ret (results_ctt rfl _ _ gb 25 #[.bool false,.bool spin,.bool (Go.bits .and .u8 first 4 != 0),.int .i64 ty,.int .u32 ver,.string dcid,.string scid,.string token,.int .u64 len,.int .i64 (wdF first),.int .u64 (bkF p p.size 0 0)] (0,0) _ rfl (blk_put (cs':=#[.bool false,.bool spin,.bool (Go.bits .and .u8 first 4 != 0),.int .i64 ty,.int .u32 ver,.string dcid,.string scid,.string token,.int .u64 len,.int .i64 (wdF first),.int .u64 (bkF p p.size 0 0)]) (blk_put (cs':=#[.bool false,.bool spin,.bool (Go.bits .and .u8 first 4 != 0),.int .i64 ty,.int .u32 ver,.string dcid,.string scid,.string token,.int .u64 len,.int .i64 (wdF first),.int .u64 0]) (blk_put (cs':=#[.bool false,.bool spin,.bool (Go.bits .and .u8 first 4 != 0),.int .i64 ty,.int .u32 ver,.string dcid,.string scid,.string token,.int .u64 len,.int .i64 0,.int .u64 0]) (blk_put (cs':=#[.bool false,.bool spin,.bool (Go.bits .and .u8 first 4 != 0),.int .i64 ty,.int .u32 ver,.string dcid,.string scid,.string token,.int .u64 0,.int .i64 0,.int .u64 0]) (blk_put (cs':=#[.bool false,.bool spin,.bool (Go.bits .and .u8 first 4 != 0),.int .i64 ty,.int .u32 ver,.string dcid,.string scid,.string (⟨#[]⟩ : ByteArray),.int .u64 0,.int .i64 0,.int .u64 0]) (blk_put (cs':=#[.bool false,.bool spin,.bool (Go.bits .and .u8 first 4 != 0),.int .i64 ty,.int .u32 ver,.string dcid,.string (⟨#[]⟩ : ByteArray),.string (⟨#[]⟩ : ByteArray),.int .u64 0,.int .i64 0,.int .u64 0]) (blk_put (cs':=#[.bool false,.bool spin,.bool (Go.bits .and .u8 first 4 != 0),.int .i64 ty,.int .u32 ver,.string (⟨#[]⟩ : ByteArray),.string (⟨#[]⟩ : ByteArray),.string (⟨#[]⟩ : ByteArray),.int .u64 0,.int .i64 0,.int .u64 0]) (blk_put (cs':=#[.bool false,.bool spin,.bool (Go.bits .and .u8 first 4 != 0),.int .i64 ty,.int .u32 0,.string (⟨#[]⟩ : ByteArray),.string (⟨#[]⟩ : ByteArray),.string (⟨#[]⟩ : ByteArray),.int .u64 0,.int .i64 0,.int .u64 0]) (blk_put (cs':=#[.bool false,.bool spin,.bool (Go.bits .and .u8 first 4 != 0),.int .i64 0,.int .u32 0,.string (⟨#[]⟩ : ByteArray),.string (⟨#[]⟩ : ByteArray),.string (⟨#[]⟩ : ByteArray),.int .u64 0,.int .i64 0,.int .u64 0]) (blk_put (cs':=#[.bool false,.bool spin,.bool false,.int .i64 0,.int .u32 0,.string (⟨#[]⟩ : ByteArray),.string (⟨#[]⟩ : ByteArray),.string (⟨#[]⟩ : ByteArray),.int .u64 0,.int .i64 0,.int .u64 0]) (blk_put (cs':=kk0_) R7.out 0 (.bool false) rfl) 1 (.bool spin) rfl) 2 (.bool (Go.bits .and .u8 first 4 != 0)) rfl) 3 (.int .i64 ty) rfl) 4 (.int .u32 ver) rfl) 5 (.string dcid) rfl) 6 (.string scid) rfl) 7 (.string token) rfl) 8 (.int .u64 len) rfl) 9 (.int .i64 (wdF first)) rfl) 10 (.int .u64 (bkF p p.size 0 0)) rfl) Tryd.underlying25 rfl (by kernel_rfl)) rfl ?_
   exact ⟨rfl,(bs_ (bs_ (bs_ (bs_ (bs_ (bs_ (bs_ (bs_ (bs_ (bs_ (bs_ B7.out GB.out) GB.out) GB.out) GB.out) GB.out) GB.out) GB.out) GB.out) GB.out) GB.out) GB.out)⟩

theorem header_Get.calls (k : Nat) (a0 : ByteArray) (r1 : Bool) (r2 : Bool) (r3 : Bool) (r4 : Int) (r5 : Int) (r6 : ByteArray) (r7 : ByteArray) (r8 : ByteArray) (r9 : Int) (r10 : Int) (r11 : Int) (r12 : ByteArray) (r13 : Int) (w : World) (h : header_Get.f k a0 = some (r1,r2,r3,r4,r5,r6,r7,r8,r9,r10,r11,r12,r13)) :
  Calls Tryd.prog 14 #[.string a0] w fun e w' => e = .returned (.tuple #[.agg #[.bool r1,.bool r2,.bool r3,.int .i64 r4,.int .u32 r5,.string r6,.string r7,.string r8,.int .u64 r9,.int .i64 r10,.int .u64 r11],.string r12,.int .i64 r13]) ∧ Below w.heap.size w w':=by
 obtain ⟨q,hq,h⟩:=Option.bind_eq_some_iff.1 h
 cases q with
 | none => exact get_none_ k a0 _ _ _ _ _ _ _ _ _ _ _ _ _ w hq h
 | some q =>
  obtain ⟨long,spin,ty,ver,dcid,scid,token,len,rest,first⟩:=q
  cases long with
  | true => exact get_true_ k a0 _ _ _ _ _ _ _ _ _ _ _ _ _ _ _ _ _ _ _ _ _ _ w hq h
  | false => exact get_false_ k a0 _ _ _ _ _ _ _ _ _ _ _ _ _ _ _ _ _ _ _ _ _ _ w hq h

end Go.Proofs.YtjpafikgbnloaaaDoor.PHdt
