-- printed for this claim by a program of the claim (wip/tools/pp.py over the kit's print)
import Derived.Test.YtjpafikgbnloaaaDoorPHdtx0
import Derived.Test.YtjpafikgbnloaaaDoorPHdtx5
namespace Go.Proofs.YtjpafikgbnloaaaDoor.PHdt
open Go.RowKit Go.Proofs.YtjpafikgbnloaaaDoorW.PrintWords Go.Proofs.YtjpafikgbnloaaaDoorW.PrintLast Go.Proofs.YtjpafikgbnloaaaDoorW.PrintMore
attribute [local go_sem] max2_int min2_int max_two min_two max_three min_three max_four min_four   -- for this text's walks alone
set_option linter.unusedVariables false
set_option linter.unusedSimpArgs false

attribute [local go_sem] isSome_setCell_
theorem lf_takeE (g : Nat) (T : TypeId) (s : ByteArray) (b : Bool) (xs : List Value) (n : Int) (p s' : ByteArray) (b' : Bool) (w : World) (ht : tk s b n = (p,s',b')) (hn : 0 ≤ n) (hs : s.size ≤ 9223372036854775807)
  (h : w.heap[g]? = some (.cells (.string s :: .bool b :: xs).toArray T (0,0))) :
  Calls Tryd.prog 34 #[.pointer (some ⟨g,0,none⟩),.int .u64 n] w fun e w' => e = .returned (.string p) ∧
   w'.heap[g]? = some (.cells (.string s' :: .bool b' :: xs).toArray T (0,0)) ∧ w.grownBy w' (some g):=by
 have:=lf_take g T s b xs n w hn hs h
 rw [ht] at this
 exact this
def idF (s : ByteArray) (b : Bool) : ByteArray × ByteArray × Bool:=if (tk s b 1).2.2 = true ∨ 20 < bt (tk s b 1).1 0 then (⟨#[]⟩,(tk s b 1).2.1,true) else tk (tk s b 1).2.1 false (bt (tk s b 1).1 0)
theorem idF_size (s : ByteArray) (b : Bool) : (idF s b).2.1.size ≤ s.size:=by
 unfold idF
 split
 ·exact (tk_size _ _ _).1
 ·exact Nat.le_trans (tk_size _ _ _).1 (tk_size _ _ _).1
set_option maxHeartbeats 2000000 in
set_option maxRecDepth 100000 in
theorem lf_id (g : Nat) (T : TypeId) (s : ByteArray) (b : Bool) (xs : List Value) (p' s' : ByteArray) (b' : Bool) (w : World) (hi : idF s b = (p',s',b')) (hs : s.size ≤ 9223372036854775807)
  (h : w.heap[g]? = some (.cells (.string s :: .bool b :: xs).toArray T (0,0))) :
  Calls Tryd.prog 47 #[.pointer (some ⟨g,0,none⟩)] w fun e w' => e = .returned (.string p') ∧
   w'.heap[g]? = some (.cells (.string s' :: .bool b' :: xs).toArray T (0,0)) ∧ w.grownBy w' (some g):=by
 have z1:=(tk_size s b 1).1
 obtain ⟨p,s1,b1,ht⟩ : ∃ p s1 b1,tk s b 1 = (p,s1,b1):=⟨_,_,_,rfl⟩
 have hp : b1 = false → p.size = 1:=fun hb => by
  obtain ⟨_,h2,h3⟩:=tk_bad (s:=s) (b:=b) (n:=1) (by rw [ht];exact hb)
  rw [ht] at h3
  injection h3 with h3 _
  rw [h3]
  simp
  omega
 unfold idF at hi
 rw [ht] at hi z1
 dsimp only at hi z1
 have HH:=am_ h
 have HI:=am_ hi
 have HT:=am_ ht
 have HP:=am_ hp
 clear h hi ht hp
 go_enter Tryd.func47,Tryd.ntmps47
 go_wp2_with fail
 refine (lf_takeE g T s b xs 1 _ _ _ _ HT.out (by decide) hs HH.out).mono ?_
 rintro e w1 ⟨rfl,h1,g1⟩
 have H1:=am_ h1
 have G1:=am_ g1
 have c0 : w1.cell? ⟨g,0,none⟩ = some (.string s1):=(kc_ h1 0).trans (by simp)
 have c1 : w1.cell? ⟨g,1,none⟩ = some (.bool b1):=(kc_ h1 1).trans (by simp)
 have f0:=blk_frozen h1 0
 have f1:=blk_frozen h1 1
 clear HT h1 g1 HH
 cases b1 with
 | true =>
  have hi:=HI.out
  rw [if_pos (Or.inl rfl)] at hi
  simp only [Prod.mk.injEq] at hi
  obtain ⟨rfl,rfl,rfl⟩:=hi
  clear HP HI
  go_wp2
  go_ret
  exact ⟨rfl,blk_put H1.out 1 _ ((pz_ _ _ _).2 _),grown_trans_ G1.out (grown_set_ _ _ _ _)⟩
 | false =>
  have hp:=HP.out rfl
  clear HP
  have q10 : 0 < p.size:=by omega
  have hx10 : ∀ h : 0 < p.size,((p[0]'h).toNat : Int) = bt p 0:=bt_at p 0
  have hr:=bt_range p 0
  have qi : (0 < p.size) = True:=eq_true q10
  by_cases c : 20 < bt p 0
  ·have hi:=HI.out
   rw [if_pos (Or.inr c)] at hi
   simp only [Prod.mk.injEq] at hi
   obtain ⟨rfl,rfl,rfl⟩:=hi
   have c5 : decide (20 < bt p 0) = true:=decide_eq_true c
   have c6 : (20 < bt p 0) = True:=eq_true c
   clear c HI
   go_wp2
   go_ret
   exact ⟨rfl,blk_put H1.out 1 _ ((pz_ _ _ _).2 _),grown_trans_ G1.out (grown_set_ _ _ _ _)⟩
  ·have hi:=HI.out
   rw [if_neg (by simp only [Bool.false_eq_true,false_or];exact c)] at hi
   have HI2:=am_ hi
   have c5 : decide (20 < bt p 0) = false:=decide_eq_false c
   have c6 : (20 < bt p 0) = False:=eq_false c
   clear c HI hi
   go_wp2_with fail

   refine start_ (n:=8) (S:=fun _ => True) (ds:=[]) #[F_,F_,F_,F_,F_,F_,F_,F_] (by kernel_rfl) rfl rfl trivial (fun hHeld => ?_)
   refine pure_ (i:=0) (N:=some 22) (v:=?_) (a':=?_) #[T_,F_,F_,F_,F_,F_,F_,F_] rfl rfl (by kernel_rfl) (fun _ _ _ h => h) (Or.inl ⟨by rfl,?_⟩) ?_ ?_
   rotate_left;(intro w';go_simp;with_reducible rfl);rotate_left;(simp only [Act.put,ps_,i64_w,i32_w];rfl)
   refine pure_ (i:=1) (N:=some 23) (v:=?_) (a':=?_) #[T_,T_,F_,F_,F_,F_,F_,F_] rfl rfl (by kernel_rfl) (fun _ _ _ h => h) (Or.inl ⟨by rfl,?_⟩) ?_ ?_
   rotate_left;(intro w';go_simp;with_reducible rfl);rotate_left;(simp only [Act.put,ps_,i64_w,i32_w];rfl)
   refine pure_ (i:=2) (N:=some 24) (v:=?_) (a':=?_) #[T_,T_,T_,F_,F_,F_,F_,F_] rfl rfl (by kernel_rfl) (fun _ _ _ h => h) (Or.inl ⟨by rfl,?_⟩) ?_ ?_
   rotate_left;(intro w';go_simp;with_reducible rfl);rotate_left;(simp only [Act.put,ps_,i64_w,i32_w];rfl)
   refine pure_ (i:=3) (N:=some 25) (v:=?_) (a':=?_) #[T_,T_,T_,T_,F_,F_,F_,F_] rfl rfl (by kernel_rfl) (fun _ _ _ h => h) (Or.inl ⟨by rfl,?_⟩) ?_ ?_
   rotate_left;(intro w';go_simp;with_reducible rfl);rotate_left;(simp only [Act.put,ps_,i64_w,i32_w];rfl)
   refine pure_ (i:=4) (N:=some 26) (v:=?_) (a':=?_) #[T_,T_,T_,T_,T_,F_,F_,F_] rfl rfl (by kernel_rfl) (fun _ _ _ h => h) (Or.inl ⟨by rfl,?_⟩) ?_ ?_
   rotate_left;(intro w';go_simp;with_reducible rfl);rotate_left;(simp only [Act.put,ps_,i64_w,i32_w];rfl)
   refine pure_ (i:=5) (N:=some 27) (v:=?_) (a':=?_) #[T_,T_,T_,T_,T_,T_,F_,F_] rfl rfl (by kernel_rfl) (fun _ _ _ h => h) (Or.inl ⟨by rfl,?_⟩) ?_ ?_
   rotate_left;(intro w';go_simp;with_reducible rfl);rotate_left;(simp only [Act.put,ps_,i64_w,i32_w];rfl)
   refine one_ (i:=6) (N:=some 28) #[T_,T_,T_,T_,T_,T_,T_,F_] rfl rfl (by kernel_rfl) (by decide) (fun K hK => ?_)
   refine goes_ (N:=some 28) Tryd.func34 (by kernel_rfl) rfl #[.pointer (some ⟨g,0,none⟩),.int .u64 (IntKind.u64.wrap (bt p 0))] (by rfl) rfl rfl (by (try simp only [List.map_toArray,List.map_cons,List.map_nil]);first|done|rfl) ?_
   refine (lf_takeE g T s1 false xs (IntKind.u64.wrap (bt p 0)) p' s' b' _ (by rw [show IntKind.u64.wrap (bt p 0) = bt p 0 by rw [IntKind.wrap_u64];omega];exact HI2.out) (wrap_nn_ rfl _) (Nat.le_trans z1 hs) (kd_ H1.out)).mono ?_
   rintro e w2 ⟨rfl,h2,g2⟩
   have H2:=am_ h2
   have G2:=am_ g2
   refine ⟨_,rfl,?_⟩
   refine hK.out _ _ trivial (fun _ => ?_)
   clear hK K
   refine norm_ (a':=?_) ?_ ?_
   rotate_left
   ·show Act.put _ (some 28) _ = _
    simp only [Act.put,ps_,i64_w,i32_w]
    rfl
   refine pure_ (i:=7) (N:=some 2) (v:=?_) (a':=?_) #[T_,T_,T_,T_,T_,T_,T_,T_] rfl rfl (by kernel_rfl) (fun _ _ _ h => h) (Or.inl ⟨by rfl,?_⟩) ?_ ?_
   rotate_left;(intro w';go_simp;with_reducible rfl);rotate_left;(simp only [Act.put,ps_,i64_w,i32_w];rfl)
   refine done_ (by kernel_rfl) ?_
   go_wp2
   go_ret
   exact ⟨rfl,H2.out,grown_trans_ G1.out ⟨G2.out.os,G2.out.tape,G2.out.output,G2.out.size,G2.out.block⟩⟩

/-- What is parsed of a header. -/
structure Ps where
 long : Bool
 spin : Bool
 ty : Int
 ver : Int
 dcid : ByteArray
 scid : ByteArray
 token : ByteArray
 len : Int
 rest : ByteArray
 first : Int
def Ps.cells (q : Ps) : List Value:=[.string q.rest,.bool false,.bool q.long,.bool q.spin,.bool false,.int .i64 q.ty,.int .u32 q.ver,.string q.dcid,.string q.scid,.string q.token,.int .u64 q.len,.int .i64 0,.int .u64 0,.int .u8 q.first]
def tyF (f : Int) : Int:=wrap64 (Go.bits .and .u8 (f / 16) 3)
def psShort (s1 : ByteArray) (f : Int) : Option (Option Ps) :=
 match tk s1 false 8 with
 | (p,s2,b2) => if b2 = true then some none else some (some ⟨false,Go.bits .and .u8 f 32 != 0,0,0,p,⟨#[]⟩,⟨#[]⟩,0,s2,f⟩)
def psTok (k : Nat) (s4 : ByteArray) (b4 : Bool) : Option (ByteArray × ByteArray × Bool):=(numF k s4 b4).bind fun n => some (tk n.2.1 (n.2.2 || decide (1000 < n.1)) n.1)
def psEnd (k : Nat) (f ver : Int) (d c t s5 : ByteArray) (b5 : Bool) : Option (Option Ps) :=
 (numF k s5 b5).bind fun l => if l.2.2 = true ∨ 2 < tyF f then some none else some (some ⟨true,false,tyF f,ver,d,c,t,l.1,l.2.1,f⟩)
def psLong (k : Nat) (s1 : ByteArray) (f : Int) : Option (Option Ps) :=
 match tk s1 false 4 with
 | (p4,s2,b2) => match idF s2 b2 with
  | (d,s3,b3) => match idF s3 b3 with
   | (c,s4,b4) => if tyF f = 0 then (psTok k s4 b4).bind fun t => psEnd k f (bkF p4 p4.size 0 0 % 4294967296) d c t.1 t.2.1 t.2.2
    else psEnd k f (bkF p4 p4.size 0 0 % 4294967296) d c ⟨#[]⟩ s4 b4
def parsedF (k : Nat) (a0 : ByteArray) : Option (Option Ps) :=
 if a0.size ≤ 9223372036854775807 then (match tk a0 false 1 with
 | (p,s1,b1) => if b1 = true ∨ Go.bits .and .u8 (bt p 0) 64 = 0 then some none else if Go.bits .and .u8 (bt p 0) 128 = 0 then psShort s1 (bt p 0) else psLong k s1 (bt p 0)) else none
def PsR (w : World) (r : Option Ps) (e : Ending) (w' : World) : Prop :=
 (match r with
 | none => e = .returned (.pointer none)
 | some q => ∃ g,w.heap.size ≤ g ∧ e = .returned (.pointer (some ⟨g,0,none⟩)) ∧ w'.heap[g]? = some (.cells q.cells.toArray 58 (0,0))) ∧ Below w.heap.size w w'
theorem get_l0_spec : ∀ (k : Nat) (s : ByteArray) (x5 x6 x7 n : Int) (r : ByteArray) (e : Int),0 ≤ x6 → varint_Get.l0 k s x5 x6 x7 = some (n,r,e) → 0 ≤ n ∧ r.size ≤ s.size
 | 0,_,_,_,_,_,_,_,_,h => by simp [varint_Get.l0] at h
 | k + 1,s,x5,x6,x7,n,r,e,h6,h => by
  unfold varint_Get.l0 at h
  by_cases c1 : x7 < x5
  ·rw [if_pos c1] at h
   by_cases c2 : 0 ≤ x7
   ·rw [if_pos c2] at h
    by_cases c3 : x7 < (s.size : Int)
    ·rw [if_pos c3] at h
     exact get_l0_spec k s x5 _ _ n r e (by show 0 ≤ IntKind.u64.wrap _;exact wrap_nn_ rfl _) h
    ·rw [if_neg c3] at h
     simp at h
   ·rw [if_neg c2] at h
    simp at h
  ·rw [if_neg c1] at h
   by_cases c2 : 0 ≤ x5
   ·rw [if_pos c2] at h
    by_cases c3 : x5 ≤ (s.size : Int)
    ·rw [if_pos c3] at h
     simp only [Option.some.injEq,Prod.mk.injEq] at h
     obtain ⟨rfl,rfl,rfl⟩:=h
     exact ⟨h6,by simp⟩
    ·rw [if_neg c3] at h
     simp at h
   ·rw [if_neg c2] at h
    simp at h
theorem get_spec {k : Nat} {s : ByteArray} {n : Int} {r : ByteArray} {e : Int} (h : varint_Get.f k s = some (n,r,e)) : 0 ≤ n ∧ r.size ≤ s.size:=by
 unfold varint_Get.f at h
 (repeat' split at h) <;> first|(simp at h;done)|(simp only [Option.some.injEq,Prod.mk.injEq] at h;obtain ⟨rfl,rfl,rfl⟩:=h;exact ⟨by omega,Nat.zero_le _⟩)|exact get_l0_spec _ _ _ _ _ _ _ _ (wrap_nn_ rfl _) h
theorem num_spec {k : Nat} {s : ByteArray} {b : Bool} {n : Int} {r : ByteArray} {b' : Bool} (h : numF k s b = some (n,r,b')) : 0 ≤ n ∧ r.size ≤ s.size:=by
 obtain ⟨⟨n1,r1,e1⟩,h1,h2⟩:=Option.bind_eq_some_iff.1 h
 replace h2:=Option.some.inj h2
 split at h2
 ·simp only [Prod.mk.injEq] at h2
  obtain ⟨rfl,rfl,rfl⟩:=h2
  exact ⟨by omega,Nat.le_refl _⟩
 ·simp only [Prod.mk.injEq] at h2
  obtain ⟨rfl,rfl,rfl⟩:=h2
  exact get_spec h1

set_option maxHeartbeats 8000000 in
set_option maxRecDepth 100000 in
theorem parsed_calls (k : Nat) (a0 : ByteArray) (r : Option Ps) (w : World) (hF : parsedF k a0 = some r) : Calls Tryd.prog 32 #[.string a0] w (PsR w r):=by
 unfold parsedF at hF
 by_cases hs : a0.size ≤ 9223372036854775807
 rotate_left
 ·rw [if_neg hs] at hF
  simp at hF
 rw [if_pos hs] at hF
 have z1:=(tk_size a0 false 1).1
 obtain ⟨p,s1,b1,ht⟩ : ∃ p s1 b1,tk a0 false 1 = (p,s1,b1):=⟨_,_,_,rfl⟩
 have hp : b1 = false → p.size = 1:=fun hb => by
  obtain ⟨_,h2,h3⟩:=tk_bad (s:=a0) (b:=false) (n:=1) (by rw [ht];exact hb)
  rw [ht] at h3
  injection h3 with h3 _
  rw [h3]
  simp
  omega
 rw [ht] at hF z1
 dsimp only at hF z1
 have HF:=am_ hF
 have HT:=am_ ht
 have HP:=am_ hp
 clear hF ht hp
 go_enter Tryd.func32,Tryd.ntmps32
 go_wp2_with (((with_reducible refine gate_dst (N:=9) rfl ?_);refine box_event ?hg (N:=9) ?hd (cs:=#[.string a0,.bool false,.bool false,.bool false,.bool false,.int .i64 0,.int .u32 0,.string (⟨#[]⟩ : ByteArray),.string (⟨#[]⟩ : ByteArray),.string (⟨#[]⟩ : ByteArray),.int .u64 0,.int .i64 0,.int .u64 0,.int .u8 0]) (t:=58) ?hr ?_;(case hd => rfl);(case hg => rfl);(case hr => first|(go_simp;done)|(go_simp;rfl));intro g hg w1 hbox hb;have H1:=am_ hbox;have B1:=am_ (below_step (Below.refl _ _) hb);have GE:=am_ (Nat.le_of_eq hg.symm);clear hg hb hbox))
 refine (lf_takeE g 58 a0 false [.bool false,.bool false,.bool false,.int .i64 0,.int .u32 0,.string (⟨#[]⟩ : ByteArray),.string (⟨#[]⟩ : ByteArray),.string (⟨#[]⟩ : ByteArray),.int .u64 0,.int .i64 0,.int .u64 0,.int .u8 0] 1 _ _ _ _ HT.out (by decide) hs H1.out).mono ?_
 rintro e w2 ⟨rfl,h2,g2⟩
 have H2:=am_ h2
 have B2:=am_ (below_grown_ B1.out GE.out g2)
 obtain ⟨c0,c1,c2,c3,c4,c5,c6,c7,c8,c9,c10,c11,c12,c13,f0,f1,f2,f3,f4,f5,f6,f7,f8,f9,f10,f11,f12,f13⟩:=cs14f_ h2
 clear HT h2 g2 H1 B1
 cases b1 with
 | true =>
  have hf:=HF.out
  rw [if_pos (Or.inl rfl)] at hf
  obtain rfl:=Option.some.inj hf
  clear HP HF
  go_wp2
  go_ret
  exact ⟨rfl,B2.out⟩
 | false =>
  have hp:=HP.out rfl
  clear HP
  have q10 : 0 < p.size:=by omega
  have hx10 : ∀ h : 0 < p.size,((p[0]'h).toNat : Int) = bt p 0:=bt_at p 0
  have hr:=bt_range p 0
  have qi : (0 < p.size) = True:=eq_true q10
  by_cases c : Go.bits .and .u8 (bt p 0) 64 = 0
  ·have hf:=HF.out
   rw [if_pos (Or.inr c)] at hf
   obtain rfl:=Option.some.inj hf
   have d1 : (Go.bits .and .u8 (bt p 0) 64 == 0) = true:=beq_iff_eq.mpr c
   clear c HF
   go_wp2
   go_ret
   exact ⟨rfl,B2.out⟩
  have hf:=HF.out
  rw [if_neg (by simp only [Bool.false_eq_true,false_or];exact c)] at hf
  have d1 : (Go.bits .and .u8 (bt p 0) 64 == 0) = false:=beq_eq_false_iff_ne.mpr c
  clear c HF
  by_cases c : Go.bits .and .u8 (bt p 0) 128 = 0
  ·rw [if_pos c] at hf
   have z8:=(tk_size s1 false 8).1
   obtain ⟨q,s2,b2,ht⟩ : ∃ q s2 b2,tk s1 false 8 = (q,s2,b2):=⟨_,_,_,rfl⟩
   unfold psShort at hf
   rw [ht] at hf z8
   dsimp only at hf z8
   have HF:=am_ hf
   have HT:=am_ ht
   have d2 : (Go.bits .and .u8 (bt p 0) 128 != 0) = false:=by rw [c];rfl
   clear c hf ht
   go_wp2_with fail
   have h3:=blk_put (cs':=#[.string s1,.bool false,.bool false,.bool false,.bool false,.int .i64 0,.int .u32 0,.string (⟨#[]⟩ : ByteArray),.string (⟨#[]⟩ : ByteArray),.string (⟨#[]⟩ : ByteArray),.int .u64 0,.int .i64 0,.int .u64 0,.int .u8 (bt p 0)]) (blk_put (cs':=#[.string s1,.bool false,.bool false,.bool false,.bool false,.int .i64 0,.int .u32 0,.string (⟨#[]⟩ : ByteArray),.string (⟨#[]⟩ : ByteArray),.string (⟨#[]⟩ : ByteArray),.int .u64 0,.int .i64 0,.int .u64 0,.int .u8 (bt p 0)]) H2.out 13 (.int .u8 (bt p 0)) rfl) 2 (.bool false) rfl
   have b3:=bs_ (j:=2) (v:=.bool false) (bs_ (j:=13) (v:=.int .u8 (bt p 0)) B2.out GE.out) GE.out
   clear c0 f0 c1 f1 c2 f2 c3 f3 c4 f4 c5 f5 c6 f6 c7 f7 c8 f8 c9 f9 c10 f10 c11 f11 c12 f12 c13 f13
   generalize (w2.setCell ⟨g,13,none⟩ (.int .u8 (bt p 0))).setCell ⟨g,2,none⟩ (.bool false) = w3 at h3 b3 ⊢
   have H3:=am_ h3
   have B3:=am_ b3
   clear h3 b3 H2 B2
   refine start_ (n:=20) (S:=fun W => W.cell? ⟨g,13,none⟩ = some (.int .u8 (bt p 0))) (ds:=[15,19]) #[F_,F_,F_,F_,F_,F_,F_,F_,F_,F_,F_,F_,F_,F_,F_,F_,F_,F_,F_,F_] (by kernel_rfl) rfl rfl ((kc_ H3.out 13).trans rfl) (fun hHeld => ?_)
   refine pure_ (i:=0) (N:=some 46) (v:=?_) (a':=?_) #[T_,F_,F_,F_,F_,F_,F_,F_,F_,F_,F_,F_,F_,F_,F_,F_,F_,F_,F_,F_] rfl rfl (by kernel_rfl) (fun _ _ _ h => h) (Or.inl ⟨by rfl,?_⟩) ?_ ?_
   rotate_left;(intro w';go_simp;with_reducible rfl);rotate_left;(simp only [Act.put,ps_,i64_w,i32_w];rfl)
   refine pure_ (i:=1) (N:=some 47) (v:=?_) (a':=?_) #[T_,T_,F_,F_,F_,F_,F_,F_,F_,F_,F_,F_,F_,F_,F_,F_,F_,F_,F_,F_] rfl rfl (by kernel_rfl) (fun _ _ _ h => h) (Or.inl ⟨by rfl,?_⟩) ?_ ?_
   rotate_left;(intro w';go_simp;with_reducible rfl);rotate_left;(simp only [Act.put,ps_,i64_w,i32_w];rfl)
   refine pure_ (i:=2) (N:=some 48) (v:=?_) (a':=?_) #[T_,T_,T_,F_,F_,F_,F_,F_,F_,F_,F_,F_,F_,F_,F_,F_,F_,F_,F_,F_] rfl rfl (by kernel_rfl) (fun _ _ _ h => h) (Or.inl ⟨by rfl,?_⟩) ?_ ?_
   rotate_left;(intro w';go_simp;with_reducible rfl);rotate_left;(simp only [Act.put,ps_,i64_w,i32_w];rfl)
   refine pure_ (i:=3) (N:=some 49) (v:=?_) (a':=?_) #[T_,T_,T_,T_,F_,F_,F_,F_,F_,F_,F_,F_,F_,F_,F_,F_,F_,F_,F_,F_] rfl rfl (by kernel_rfl) (fun _ _ _ h => h) (Or.inl ⟨by rfl,?_⟩) ?_ ?_
   rotate_left;(intro w';go_simp;with_reducible rfl);rotate_left;(simp only [Act.put,ps_,i64_w,i32_w];rfl)
   refine pure_ (i:=4) (N:=some 50) (v:=?_) (a':=?_) #[T_,T_,T_,T_,T_,F_,F_,F_,F_,F_,F_,F_,F_,F_,F_,F_,F_,F_,F_,F_] rfl rfl (by kernel_rfl) (fun _ _ _ h => h) (Or.inl ⟨by rfl,?_⟩) ?_ ?_
   rotate_left;(intro w';go_simp;with_reducible rfl);rotate_left;(simp only [Act.put,ps_,i64_w,i32_w];rfl)
   refine take_ (i:=5) (N:=some 51) (v:=?_) (a':=?_) #[T_,T_,T_,T_,T_,T_,F_,F_,F_,F_,F_,F_,F_,F_,F_,F_,F_,F_,F_,F_] rfl rfl (by kernel_rfl) (fun _ _ _ h => h) (Or.inl ⟨by rfl,?_⟩) hHeld ?_ ?_
   rotate_left
   ·rintro w' s0
    go_simp
    with_reducible rfl
   rotate_left
   ·simp only [Act.put,ps_,i64_w,i32_w]
    rfl
   refine pure_ (i:=6) (N:=some 52) (v:=?_) (a':=?_) #[T_,T_,T_,T_,T_,T_,T_,F_,F_,F_,F_,F_,F_,F_,F_,F_,F_,F_,F_,F_] rfl rfl (by kernel_rfl) (fun _ _ _ h => h) (Or.inl ⟨by rfl,?_⟩) ?_ ?_
   rotate_left;(intro w';go_simp;with_reducible rfl);rotate_left;(simp only [Act.put,ps_,i64_w,i32_w];rfl)
   refine pure_ (i:=7) (N:=some 53) (v:=?_) (a':=?_) #[T_,T_,T_,T_,T_,T_,T_,T_,F_,F_,F_,F_,F_,F_,F_,F_,F_,F_,F_,F_] rfl rfl (by kernel_rfl) (fun _ _ _ h => h) (Or.inl ⟨by rfl,?_⟩) ?_ ?_
   rotate_left;(intro w';go_simp;with_reducible rfl);rotate_left;(simp only [Act.put,ps_,i64_w,i32_w];rfl)
   refine pure_ (i:=8) (N:=some 54) (v:=?_) (a':=?_) #[T_,T_,T_,T_,T_,T_,T_,T_,T_,F_,F_,F_,F_,F_,F_,F_,F_,F_,F_,F_] rfl rfl (by kernel_rfl) (fun _ _ _ h => h) (Or.inl ⟨by rfl,?_⟩) ?_ ?_
   rotate_left;(intro w';go_simp;with_reducible rfl);rotate_left;(simp only [Act.put,ps_,i64_w,i32_w];rfl)
   refine pure_ (i:=9) (N:=some 55) (v:=?_) (a':=?_) #[T_,T_,T_,T_,T_,T_,T_,T_,T_,T_,F_,F_,F_,F_,F_,F_,F_,F_,F_,F_] rfl rfl (by kernel_rfl) (fun _ _ _ h => h) (Or.inl ⟨by rfl,?_⟩) ?_ ?_
   rotate_left;(intro w';go_simp;with_reducible rfl);rotate_left;(simp only [Act.put,ps_,i64_w,i32_w];rfl)
   refine pure_ (i:=10) (N:=some 56) (v:=?_) (a':=?_) #[T_,T_,T_,T_,T_,T_,T_,T_,T_,T_,T_,F_,F_,F_,F_,F_,F_,F_,F_,F_] rfl rfl (by kernel_rfl) (fun _ _ _ h => h) (Or.inl ⟨by rfl,?_⟩) ?_ ?_
   rotate_left;(intro w';go_simp;with_reducible rfl);rotate_left;(simp only [Act.put,ps_,i64_w,i32_w];rfl)
   refine one_ (i:=11) (N:=some 57) #[T_,T_,T_,T_,T_,T_,T_,T_,T_,T_,T_,T_,F_,F_,F_,F_,F_,F_,F_,F_] rfl rfl (by kernel_rfl) (by decide) (fun K hK => ?_)
   refine goes_ (N:=some 57) Tryd.func34 (by kernel_rfl) rfl #[.pointer (some ⟨g,0,none⟩),.int .u64 8] (by rfl) rfl rfl (by (try simp only [List.map_toArray,List.map_cons,List.map_nil]);first|done|rfl) ?_
   refine (lf_takeE g 58 s1 false [.bool false,.bool false,.bool false,.int .i64 0,.int .u32 0,.string (⟨#[]⟩ : ByteArray),.string (⟨#[]⟩ : ByteArray),.string (⟨#[]⟩ : ByteArray),.int .u64 0,.int .i64 0,.int .u64 0,.int .u8 (bt p 0)] 8 _ _ _ _ HT.out (by decide) (Nat.le_trans z1 hs) (kd_ H3.out)).mono ?_
   rintro e w4 ⟨rfl,h4,g4⟩
   have H4:=am_ h4
   have B4:=am_ (below_grown_ B3.out GE.out (w:=w3) ⟨g4.os,g4.tape,g4.output,g4.size,g4.block⟩)
   refine ⟨_,rfl,?_⟩
   refine hK.out _ _ ((kc_ H4.out 13).trans rfl) (fun hHeld2 => ?_)
   clear hK K
   refine norm_ (a':=?_) ?_ ?_
   rotate_left
   ·show Act.put _ (some 57) _ = _
    simp only [Act.put,ps_,i64_w,i32_w]
    rfl
   refine pure_ (i:=12) (N:=some 58) (v:=?_) (a':=?_) #[T_,T_,T_,T_,T_,T_,T_,T_,T_,T_,T_,T_,T_,F_,F_,F_,F_,F_,F_,F_] rfl rfl (by kernel_rfl) (fun _ _ _ h => h) (Or.inl ⟨by rfl,?_⟩) ?_ ?_
   rotate_left;(intro w';go_simp;with_reducible rfl);rotate_left;(simp only [Act.put,ps_,i64_w,i32_w];rfl)
   refine pure_ (i:=13) (N:=some 59) (v:=?_) (a':=?_) #[T_,T_,T_,T_,T_,T_,T_,T_,T_,T_,T_,T_,T_,T_,F_,F_,F_,F_,F_,F_] rfl rfl (by kernel_rfl) (fun _ _ _ h => h) (Or.inl ⟨by rfl,?_⟩) ?_ ?_
   rotate_left;(intro w';go_simp;with_reducible rfl);rotate_left;(simp only [Act.put,ps_,i64_w,i32_w];rfl)
   refine pure_ (i:=14) (N:=some 60) (v:=?_) (a':=?_) #[T_,T_,T_,T_,T_,T_,T_,T_,T_,T_,T_,T_,T_,T_,T_,F_,F_,F_,F_,F_] rfl rfl (by kernel_rfl) (fun _ _ _ h => h) (Or.inl ⟨by rfl,?_⟩) ?_ ?_
   rotate_left;(intro w';go_simp;with_reducible rfl);rotate_left;(simp only [Act.put,ps_,i64_w,i32_w];rfl)
   obtain ⟨c0,c1,c2,c3,c4,c5,c6,c7,c8,c9,c10,c11,c12,c13,f0,f1,f2,f3,f4,f5,f6,f7,f8,f9,f10,f11,f12,f13⟩:=cs14f_ H4.out
   refine last_ (i:=15) (N:=none) #[T_,T_,T_,T_,T_,T_,T_,T_,T_,T_,T_,T_,T_,T_,T_,T_,F_,F_,F_,F_] rfl rfl (by kernel_rfl) (by decide) (fun K hK => ?_)
   refine skip_ (w1:=?_) (by rfl) rfl ?_ ?_
   rotate_left
   ·go_simp
    rfl
   refine hK.out _ _ ?_
   clear hK K
   refine pure_ (i:=16) (N:=some 61) (v:=?_) (a':=?_) #[T_,T_,T_,T_,T_,T_,T_,T_,T_,T_,T_,T_,T_,T_,T_,T_,T_,F_,F_,F_] rfl rfl (by kernel_rfl) (fun _ _ _ h => h) (Or.inl ⟨by rfl,?_⟩) ?_ ?_
   rotate_left;(intro w';go_simp;with_reducible rfl);rotate_left;(simp only [Act.put,ps_,i64_w,i32_w];rfl)
   refine pure_ (i:=17) (N:=some 62) (v:=?_) (a':=?_) #[T_,T_,T_,T_,T_,T_,T_,T_,T_,T_,T_,T_,T_,T_,T_,T_,T_,T_,F_,F_] rfl rfl (by kernel_rfl) (fun _ _ _ h => h) (Or.inl ⟨by rfl,?_⟩) ?_ ?_
   rotate_left;(intro w';go_simp;with_reducible rfl);rotate_left;(simp only [Act.put,ps_,i64_w,i32_w];rfl)
   refine pure_ (i:=18) (N:=some 63) (v:=?_) (a':=?_) #[T_,T_,T_,T_,T_,T_,T_,T_,T_,T_,T_,T_,T_,T_,T_,T_,T_,T_,T_,F_] rfl rfl (by kernel_rfl) (fun _ _ _ h => h) (Or.inl ⟨by rfl,?_⟩) ?_ ?_
   rotate_left;(intro w';go_simp;with_reducible rfl);rotate_left;(simp only [Act.put,ps_,i64_w,i32_w];rfl)
   refine last_ (i:=19) (N:=none) #[T_,T_,T_,T_,T_,T_,T_,T_,T_,T_,T_,T_,T_,T_,T_,T_,T_,T_,T_,T_] rfl rfl (by kernel_rfl) (by decide) (fun K hK => ?_)
   refine skip_ (w1:=?_) (by rfl) rfl ?_ ?_
   rotate_left
   ·go_simp
    rfl
   refine hK.out _ _ ?_
   clear hK K
   refine done_ (by kernel_rfl) ?_
   have h_:=(blk_put (cs':=#[.string s2,.bool b2,.bool false,.bool (Go.bits .and .u8 (bt p 0) 32 != 0),.bool false,.int .i64 0,.int .u32 0,.string q,.string (⟨#[]⟩ : ByteArray),.string (⟨#[]⟩ : ByteArray),.int .u64 0,.int .i64 0,.int .u64 0,.int .u8 (bt p 0)]) (blk_put (cs':=#[.string s2,.bool b2,.bool false,.bool (Go.bits .and .u8 (bt p 0) 32 != 0),.bool false,.int .i64 0,.int .u32 0,.string (⟨#[]⟩ : ByteArray),.string (⟨#[]⟩ : ByteArray),.string (⟨#[]⟩ : ByteArray),.int .u64 0,.int .i64 0,.int .u64 0,.int .u8 (bt p 0)]) H4.out 3 (.bool (Go.bits .and .u8 (bt p 0) 32 != 0)) rfl) 7 (.string q) rfl)
   have b_:=(bs_ (j:=7) (v:=.string q) (bs_ (j:=3) (v:=.bool (Go.bits .and .u8 (bt p 0) 32 != 0)) B4.out GE.out) GE.out)
   clear c0 f0 c1 f1 c2 f2 c3 f3 c4 f4 c5 f5 c6 f6 c7 f7 c8 f8 c9 f9 c10 f10 c11 f11 c12 f12 c13 f13
   generalize ((w4.setCell ⟨g,3,none⟩ (.bool (Go.bits .and .u8 (bt p 0) 32 != 0))).setCell ⟨g,7,none⟩ (.string q)) = w5 at h_ b_ ⊢
   have H5:=am_ h_
   have B5:=am_ b_
   clear h_ b_
   obtain ⟨c0,c1,c2,c3,c4,c5,c6,c7,c8,c9,c10,c11,c12,c13,f0,f1,f2,f3,f4,f5,f6,f7,f8,f9,f10,f11,f12,f13⟩:=cs14f_ H5.out
   cases b2 with
   | true =>
    have hf:=HF.out
    rw [if_pos rfl] at hf
    obtain rfl:=Option.some.inj hf
    go_wp2
    go_ret
    exact ⟨rfl,B5.out⟩
   | false =>
    have hf:=HF.out
    rw [if_neg (by decide)] at hf
    obtain rfl:=Option.some.inj hf
    go_wp2
    go_ret
    exact ⟨⟨g,GE.out,rfl,H5.out⟩,B5.out⟩
  ·rw [if_neg c] at hf
   have d2 : (Go.bits .and .u8 (bt p 0) 128 != 0) = true:=bne_iff_ne.mpr c
   obtain ⟨p4,s2,b2,ht⟩ : ∃ q s2 b2,tk s1 false 4 = (q,s2,b2):=⟨_,_,_,rfl⟩
   obtain ⟨d,s3,b3,hd⟩ : ∃ q s3 b3,idF s2 b2 = (q,s3,b3):=⟨_,_,_,rfl⟩
   obtain ⟨e,s4,b4,he⟩ : ∃ q s4 b4,idF s3 b3 = (q,s4,b4):=⟨_,_,_,rfl⟩
   have z2 : s2.size ≤ 9223372036854775807:=by
    have:=(tk_size s1 false 4).1
    rw [ht] at this
    exact Nat.le_trans this (Nat.le_trans z1 hs)
   have zp : p4.size ≤ 9223372036854775807:=by
    have:=(tk_size s1 false 4).2
    rw [ht] at this
    exact Nat.le_trans this (Nat.le_trans z1 hs)
   have z3 : s3.size ≤ 9223372036854775807:=by
    have:=idF_size s2 b2
    rw [hd] at this
    exact Nat.le_trans this z2
   have z4 : s4.size ≤ 9223372036854775807:=by
    have:=idF_size s3 b3
    rw [he] at this
    exact Nat.le_trans this z3
   unfold psLong at hf
   rw [ht] at hf
   dsimp only at hf
   rw [hd] at hf
   dsimp only at hf
   rw [he] at hf
   dsimp only at hf
   have HF:=am_ hf
   have HT:=am_ ht
   have HD:=am_ hd
   have HE:=am_ he
   have HV:=am_ (show varint_Back.f p4 = some (bkF p4 p4.size 0 0) from by unfold varint_Back.f;rw [if_pos zp])
   clear c hf ht hd he
   go_wp2_with fail
   rw [show wrap64 (Go.bits .and .u8 (bt p 0 / 16) 3) = tyF (bt p 0) from rfl]
   have h_:=(blk_put (cs':=#[.string s1,.bool false,.bool true,.bool false,.bool false,.int .i64 (tyF (bt p 0)),.int .u32 0,.string (⟨#[]⟩ : ByteArray),.string (⟨#[]⟩ : ByteArray),.string (⟨#[]⟩ : ByteArray),.int .u64 0,.int .i64 0,.int .u64 0,.int .u8 (bt p 0)]) (blk_put (cs':=#[.string s1,.bool false,.bool true,.bool false,.bool false,.int .i64 0,.int .u32 0,.string (⟨#[]⟩ : ByteArray),.string (⟨#[]⟩ : ByteArray),.string (⟨#[]⟩ : ByteArray),.int .u64 0,.int .i64 0,.int .u64 0,.int .u8 (bt p 0)]) (blk_put (cs':=#[.string s1,.bool false,.bool false,.bool false,.bool false,.int .i64 0,.int .u32 0,.string (⟨#[]⟩ : ByteArray),.string (⟨#[]⟩ : ByteArray),.string (⟨#[]⟩ : ByteArray),.int .u64 0,.int .i64 0,.int .u64 0,.int .u8 (bt p 0)]) H2.out 13 (.int .u8 (bt p 0)) rfl) 2 (.bool true) rfl) 5 (.int .i64 (tyF (bt p 0))) rfl)
   have b_:=(bs_ (j:=5) (v:=.int .i64 (tyF (bt p 0))) (bs_ (j:=2) (v:=.bool true) (bs_ (j:=13) (v:=.int .u8 (bt p 0)) B2.out GE.out) GE.out) GE.out)
   clear c0 f0 c1 f1 c2 f2 c3 f3 c4 f4 c5 f5 c6 f6 c7 f7 c8 f8 c9 f9 c10 f10 c11 f11 c12 f12 c13 f13
   generalize (((w2.setCell ⟨g,13,none⟩ (.int .u8 (bt p 0))).setCell ⟨g,2,none⟩ (.bool true)).setCell ⟨g,5,none⟩ (.int .i64 (tyF (bt p 0)))) = w3 at h_ b_ ⊢
   have H3:=am_ h_
   have B3:=am_ b_
   clear h_ b_
   refine (lf_takeE g 58 s1 false [.bool true,.bool false,.bool false,.int .i64 (tyF (bt p 0)),.int .u32 0,.string (⟨#[]⟩ : ByteArray),.string (⟨#[]⟩ : ByteArray),.string (⟨#[]⟩ : ByteArray),.int .u64 0,.int .i64 0,.int .u64 0,.int .u8 (bt p 0)] 4 _ _ _ _ HT.out (by decide) (Nat.le_trans z1 hs) H3.out).mono ?_
   rintro e_ w4 ⟨rfl,h4,g4⟩
   have H4:=am_ h4
   have B4:=am_ (below_grown_ B3.out GE.out g4)
   clear h4 g4 H3 B3
   go_wp2_with fail
   refine (varint_Back.calls _ _ _ HV.out).mono ?_
   rintro e_ w5 ⟨rfl,hb5⟩
   have H5:=am_ (blk_below H4.out hb5)
   have B5:=am_ (below_step B4.out hb5)
   clear hb5 H4 B4
   obtain ⟨c0,c1,c2,c3,c4,c5,c6,c7,c8,c9,c10,c11,c12,c13,f0,f1,f2,f3,f4,f5,f6,f7,f8,f9,f10,f11,f12,f13⟩:=cs14f_ H5.out
   go_wp2_with fail
   have h_:=(blk_put (cs':=#[.string s2,.bool b2,.bool true,.bool false,.bool false,.int .i64 (tyF (bt p 0)),.int .u32 (bkF p4 p4.size 0 0 % 4294967296),.string (⟨#[]⟩ : ByteArray),.string (⟨#[]⟩ : ByteArray),.string (⟨#[]⟩ : ByteArray),.int .u64 0,.int .i64 0,.int .u64 0,.int .u8 (bt p 0)]) H5.out 6 (.int .u32 (bkF p4 p4.size 0 0 % 4294967296)) rfl)
   have b_:=(bs_ (j:=6) (v:=.int .u32 (bkF p4 p4.size 0 0 % 4294967296)) B5.out GE.out)
   clear c0 f0 c1 f1 c2 f2 c3 f3 c4 f4 c5 f5 c6 f6 c7 f7 c8 f8 c9 f9 c10 f10 c11 f11 c12 f12 c13 f13
   generalize (w5.setCell ⟨g,6,none⟩ (.int .u32 (bkF p4 p4.size 0 0 % 4294967296))) = w6 at h_ b_ ⊢
   have H6:=am_ h_
   have B6:=am_ b_
   clear h_ b_
   refine (lf_id g 58 s2 b2 [.bool true,.bool false,.bool false,.int .i64 (tyF (bt p 0)),.int .u32 (bkF p4 p4.size 0 0 % 4294967296),.string (⟨#[]⟩ : ByteArray),.string (⟨#[]⟩ : ByteArray),.string (⟨#[]⟩ : ByteArray),.int .u64 0,.int .i64 0,.int .u64 0,.int .u8 (bt p 0)] _ _ _ _ HD.out z2 H6.out).mono ?_
   rintro e_ w7 ⟨rfl,h7,g7⟩
   have H7:=am_ h7
   have B7:=am_ (below_grown_ B6.out GE.out g7)
   clear h7 g7 H6 B6
   go_wp2_with fail
   refine (lf_id g 58 s3 b3 [.bool true,.bool false,.bool false,.int .i64 (tyF (bt p 0)),.int .u32 (bkF p4 p4.size 0 0 % 4294967296),.string (⟨#[]⟩ : ByteArray),.string (⟨#[]⟩ : ByteArray),.string (⟨#[]⟩ : ByteArray),.int .u64 0,.int .i64 0,.int .u64 0,.int .u8 (bt p 0)] _ _ _ _ HE.out z3 H7.out).mono ?_
   rintro e_ w8 ⟨rfl,h8,g8⟩
   have H8:=am_ h8
   have B8:=am_ (below_grown_ B7.out GE.out g8)
   clear h8 g8 H7 B7
   obtain ⟨c0,c1,c2,c3,c4,c5,c6,c7,c8,c9,c10,c11,c12,c13,f0,f1,f2,f3,f4,f5,f6,f7,f8,f9,f10,f11,f12,f13⟩:=cs14f_ H8.out
   by_cases ct : tyF (bt p 0) = 0
   ·have CT:=am_ ct
    have hf:=HF.out
    rw [if_pos ct] at hf
    have d3 : (tyF (bt p 0) == 0) = true:=beq_iff_eq.mpr ct
    obtain ⟨⟨tp,s6,b6⟩,ht,hf⟩:=Option.bind_eq_some_iff.1 hf
    obtain ⟨⟨n,s5,b5⟩,hn,ht⟩:=Option.bind_eq_some_iff.1 ht
    obtain ⟨⟨l,s7,b7⟩,hl,hf⟩:=Option.bind_eq_some_iff.1 hf
    have HN:=am_ hn
    have HK:=am_ (Option.some.inj ht)
    have HL:=am_ hl
    have HR:=am_ hf
    obtain ⟨n0,z5⟩:=num_spec hn
    have z5:=Nat.le_trans z5 z4
    clear hn ht hl hf ct HF
    go_wp2_with fail
    have h_:=(blk_put (cs':=#[.string s4,.bool b4,.bool true,.bool false,.bool false,.int .i64 (tyF (bt p 0)),.int .u32 (bkF p4 p4.size 0 0 % 4294967296),.string d,.string e,.string (⟨#[]⟩ : ByteArray),.int .u64 0,.int .i64 0,.int .u64 0,.int .u8 (bt p 0)]) (blk_put (cs':=#[.string s4,.bool b4,.bool true,.bool false,.bool false,.int .i64 (tyF (bt p 0)),.int .u32 (bkF p4 p4.size 0 0 % 4294967296),.string d,.string (⟨#[]⟩ : ByteArray),.string (⟨#[]⟩ : ByteArray),.int .u64 0,.int .i64 0,.int .u64 0,.int .u8 (bt p 0)]) H8.out 7 (.string d) rfl) 8 (.string e) rfl)
    have b_:=(bs_ (j:=8) (v:=.string e) (bs_ (j:=7) (v:=.string d) B8.out GE.out) GE.out)
    clear c0 f0 c1 f1 c2 f2 c3 f3 c4 f4 c5 f5 c6 f6 c7 f7 c8 f8 c9 f9 c10 f10 c11 f11 c12 f12 c13 f13
    generalize ((w8.setCell ⟨g,7,none⟩ (.string d)).setCell ⟨g,8,none⟩ (.string e)) = w9 at h_ b_ ⊢
    have H9:=am_ h_
    have B9:=am_ b_
    clear h_ b_
    refine (lf_number k g 58 s4 b4 [.bool true,.bool false,.bool false,.int .i64 (tyF (bt p 0)),.int .u32 (bkF p4 p4.size 0 0 % 4294967296),.string d,.string e,.string (⟨#[]⟩ : ByteArray),.int .u64 0,.int .i64 0,.int .u64 0,.int .u8 (bt p 0)] n s5 b5 _ HN.out H9.out).mono ?_
    rintro e_ w10 ⟨rfl,h10,g10⟩
    have H10:=am_ h10
    have B10:=am_ (below_grown_ B9.out GE.out g10)
    clear h10 g10 H9 B9
    obtain ⟨c0,c1,c2,c3,c4,c5,c6,c7,c8,c9,c10,c11,c12,c13,f0,f1,f2,f3,f4,f5,f6,f7,f8,f9,f10,f11,f12,f13⟩:=cs14f_ H10.out
    cases b5 with
    | true =>
     have HK2 : Aside0 (tk s5 true n = (tp,s6,b6)):=⟨by have h:=HK.out;simpa only [Bool.true_or] using h⟩
     go_wp2_with fail
     have h_:=(blk_put (cs':=#[.string s5,.bool true,.bool true,.bool false,.bool false,.int .i64 (tyF (bt p 0)),.int .u32 (bkF p4 p4.size 0 0 % 4294967296),.string d,.string e,.string (⟨#[]⟩ : ByteArray),.int .u64 0,.int .i64 0,.int .u64 0,.int .u8 (bt p 0)]) H10.out 1 (.bool true) rfl)
     have b_:=(bs_ (j:=1) (v:=.bool true) B10.out GE.out)
     clear c0 f0 c1 f1 c2 f2 c3 f3 c4 f4 c5 f5 c6 f6 c7 f7 c8 f8 c9 f9 c10 f10 c11 f11 c12 f12 c13 f13
     generalize (w10.setCell ⟨g,1,none⟩ (.bool true)) = w11 at h_ b_ ⊢
     have H11:=am_ h_
     have B11:=am_ b_
     clear h_ b_
     refine (lf_takeE g 58 s5 true [.bool true,.bool false,.bool false,.int .i64 (tyF (bt p 0)),.int .u32 (bkF p4 p4.size 0 0 % 4294967296),.string d,.string e,.string (⟨#[]⟩ : ByteArray),.int .u64 0,.int .i64 0,.int .u64 0,.int .u8 (bt p 0)] n tp s6 b6 _ HK2.out n0 z5 H11.out).mono ?_
     rintro e_ w14 ⟨rfl,h14,g14⟩
     have H14:=am_ h14
     have B14:=am_ (below_grown_ B11.out GE.out g14)
     clear h14 g14 H11 B11
     obtain ⟨c0,c1,c2,c3,c4,c5,c6,c7,c8,c9,c10,c11,c12,c13,f0,f1,f2,f3,f4,f5,f6,f7,f8,f9,f10,f11,f12,f13⟩:=cs14f_ H14.out
     go_wp2_with fail
     have h_:=(blk_put (cs':=#[.string s6,.bool b6,.bool true,.bool false,.bool false,.int .i64 (tyF (bt p 0)),.int .u32 (bkF p4 p4.size 0 0 % 4294967296),.string d,.string e,.string tp,.int .u64 0,.int .i64 0,.int .u64 0,.int .u8 (bt p 0)]) H14.out 9 (.string tp) rfl)
     have b_:=(bs_ (j:=9) (v:=.string tp) B14.out GE.out)
     clear c0 f0 c1 f1 c2 f2 c3 f3 c4 f4 c5 f5 c6 f6 c7 f7 c8 f8 c9 f9 c10 f10 c11 f11 c12 f12 c13 f13
     generalize (w14.setCell ⟨g,9,none⟩ (.string tp)) = w15 at h_ b_ ⊢
     have H15:=am_ h_
     have B15:=am_ b_
     clear h_ b_
     refine (lf_number k g 58 s6 b6 [.bool true,.bool false,.bool false,.int .i64 (tyF (bt p 0)),.int .u32 (bkF p4 p4.size 0 0 % 4294967296),.string d,.string e,.string tp,.int .u64 0,.int .i64 0,.int .u64 0,.int .u8 (bt p 0)] l s7 b7 _ HL.out H15.out).mono ?_
     rintro e_ w12 ⟨rfl,h12,g12⟩
     have H12:=am_ h12
     have B12:=am_ (below_grown_ B15.out GE.out g12)
     clear h12 g12
     obtain ⟨c0,c1,c2,c3,c4,c5,c6,c7,c8,c9,c10,c11,c12,c13,f0,f1,f2,f3,f4,f5,f6,f7,f8,f9,f10,f11,f12,f13⟩:=cs14f_ H12.out
     have h13:=blk_put (cs':=#[.string s7,.bool b7,.bool true,.bool false,.bool false,.int .i64 (tyF (bt p 0)),.int .u32 (bkF p4 p4.size 0 0 % 4294967296),.string d,.string e,.string tp,.int .u64 l,.int .i64 0,.int .u64 0,.int .u8 (bt p 0)]) H12.out 10 (.int .u64 l) rfl
     have H13:=am_ h13
     have B13:=am_ (bs_ (j:=10) (v:=.int .u64 l) B12.out GE.out)
     clear h13
     cases b7 with
     | true =>
      have hf:=HR.out
      rw [if_pos (Or.inl rfl)] at hf
      obtain rfl:=Option.some.inj hf
      go_wp2
      go_ret
      exact ⟨rfl,B13.out⟩
     | false =>
      have c2 : ¬ 2 < tyF (bt p 0):=by rw [CT.out];decide
      have hf:=HR.out
      rw [if_neg (by simp only [Bool.false_eq_true,false_or];exact c2)] at hf
      obtain rfl:=Option.some.inj hf
      have e5 : decide (2 < tyF (bt p 0)) = false:=decide_eq_false c2
      have e6 : (2 < tyF (bt p 0)) = False:=eq_false c2
      clear c2
      go_wp2
      go_ret
      exact ⟨⟨g,GE.out,rfl,H13.out⟩,B13.out⟩
    | false =>
     by_cases c3 : 1000 < n
     ·have e3 : decide (1000 < n) = true:=decide_eq_true c3
      have e4 : (1000 < n) = True:=eq_true c3
      clear c3
      have HK2 : Aside0 (tk s5 true n = (tp,s6,b6)):=⟨by have h:=HK.out;rw [e3] at h;exact h /- b5f -/⟩
      go_wp2_with fail
      have h_:=(blk_put (cs':=#[.string s5,.bool true,.bool true,.bool false,.bool false,.int .i64 (tyF (bt p 0)),.int .u32 (bkF p4 p4.size 0 0 % 4294967296),.string d,.string e,.string (⟨#[]⟩ : ByteArray),.int .u64 0,.int .i64 0,.int .u64 0,.int .u8 (bt p 0)]) H10.out 1 (.bool true) rfl)
      have b_:=(bs_ (j:=1) (v:=.bool true) B10.out GE.out)
      clear c0 f0 c1 f1 c2 f2 c3 f3 c4 f4 c5 f5 c6 f6 c7 f7 c8 f8 c9 f9 c10 f10 c11 f11 c12 f12 c13 f13
      generalize (w10.setCell ⟨g,1,none⟩ (.bool true)) = w11 at h_ b_ ⊢
      have H11:=am_ h_
      have B11:=am_ b_
      clear h_ b_
      refine (lf_takeE g 58 s5 true [.bool true,.bool false,.bool false,.int .i64 (tyF (bt p 0)),.int .u32 (bkF p4 p4.size 0 0 % 4294967296),.string d,.string e,.string (⟨#[]⟩ : ByteArray),.int .u64 0,.int .i64 0,.int .u64 0,.int .u8 (bt p 0)] n tp s6 b6 _ HK2.out n0 z5 H11.out).mono ?_
      rintro e_ w14 ⟨rfl,h14,g14⟩
      have H14:=am_ h14
      have B14:=am_ (below_grown_ B11.out GE.out g14)
      clear h14 g14 H11 B11
      obtain ⟨c0,c1,c2,c3,c4,c5,c6,c7,c8,c9,c10,c11,c12,c13,f0,f1,f2,f3,f4,f5,f6,f7,f8,f9,f10,f11,f12,f13⟩:=cs14f_ H14.out
      go_wp2_with fail
      have h_:=(blk_put (cs':=#[.string s6,.bool b6,.bool true,.bool false,.bool false,.int .i64 (tyF (bt p 0)),.int .u32 (bkF p4 p4.size 0 0 % 4294967296),.string d,.string e,.string tp,.int .u64 0,.int .i64 0,.int .u64 0,.int .u8 (bt p 0)]) H14.out 9 (.string tp) rfl)
      have b_:=(bs_ (j:=9) (v:=.string tp) B14.out GE.out)
      clear c0 f0 c1 f1 c2 f2 c3 f3 c4 f4 c5 f5 c6 f6 c7 f7 c8 f8 c9 f9 c10 f10 c11 f11 c12 f12 c13 f13
      generalize (w14.setCell ⟨g,9,none⟩ (.string tp)) = w15 at h_ b_ ⊢
      have H15:=am_ h_
      have B15:=am_ b_
      clear h_ b_
      refine (lf_number k g 58 s6 b6 [.bool true,.bool false,.bool false,.int .i64 (tyF (bt p 0)),.int .u32 (bkF p4 p4.size 0 0 % 4294967296),.string d,.string e,.string tp,.int .u64 0,.int .i64 0,.int .u64 0,.int .u8 (bt p 0)] l s7 b7 _ HL.out H15.out).mono ?_
      rintro e_ w12 ⟨rfl,h12,g12⟩
      have H12:=am_ h12
      have B12:=am_ (below_grown_ B15.out GE.out g12)
      clear h12 g12
      obtain ⟨c0,c1,c2,c3,c4,c5,c6,c7,c8,c9,c10,c11,c12,c13,f0,f1,f2,f3,f4,f5,f6,f7,f8,f9,f10,f11,f12,f13⟩:=cs14f_ H12.out
      have h13:=blk_put (cs':=#[.string s7,.bool b7,.bool true,.bool false,.bool false,.int .i64 (tyF (bt p 0)),.int .u32 (bkF p4 p4.size 0 0 % 4294967296),.string d,.string e,.string tp,.int .u64 l,.int .i64 0,.int .u64 0,.int .u8 (bt p 0)]) H12.out 10 (.int .u64 l) rfl
      have H13:=am_ h13
      have B13:=am_ (bs_ (j:=10) (v:=.int .u64 l) B12.out GE.out)
      clear h13
      cases b7 with
      | true =>
       have hf:=HR.out
       rw [if_pos (Or.inl rfl)] at hf
       obtain rfl:=Option.some.inj hf
       go_wp2
       go_ret
       exact ⟨rfl,B13.out⟩
      | false =>
       have c2 : ¬ 2 < tyF (bt p 0):=by rw [CT.out];decide
       have hf:=HR.out
       rw [if_neg (by simp only [Bool.false_eq_true,false_or];exact c2)] at hf
       obtain rfl:=Option.some.inj hf
       have e5 : decide (2 < tyF (bt p 0)) = false:=decide_eq_false c2
       have e6 : (2 < tyF (bt p 0)) = False:=eq_false c2
       clear c2
       go_wp2
       go_ret
       exact ⟨⟨g,GE.out,rfl,H13.out⟩,B13.out⟩
     ·have e3 : decide (1000 < n) = false:=decide_eq_false c3
      have e4 : (1000 < n) = False:=eq_false c3
      clear c3
      have HK2 : Aside0 (tk s5 false n = (tp,s6,b6)):=⟨by have h:=HK.out;rw [e3] at h;exact h /- b5f -/⟩
      go_wp2_with fail
      have h_:=(blk_put (cs':=#[.string s5,.bool false,.bool true,.bool false,.bool false,.int .i64 (tyF (bt p 0)),.int .u32 (bkF p4 p4.size 0 0 % 4294967296),.string d,.string e,.string (⟨#[]⟩ : ByteArray),.int .u64 0,.int .i64 0,.int .u64 0,.int .u8 (bt p 0)]) H10.out 1 (.bool false) rfl)
      have b_:=(bs_ (j:=1) (v:=.bool false) B10.out GE.out)
      clear c0 f0 c1 f1 c2 f2 c3 f3 c4 f4 c5 f5 c6 f6 c7 f7 c8 f8 c9 f9 c10 f10 c11 f11 c12 f12 c13 f13
      generalize (w10.setCell ⟨g,1,none⟩ (.bool false)) = w11 at h_ b_ ⊢
      have H11:=am_ h_
      have B11:=am_ b_
      clear h_ b_
      refine (lf_takeE g 58 s5 false [.bool true,.bool false,.bool false,.int .i64 (tyF (bt p 0)),.int .u32 (bkF p4 p4.size 0 0 % 4294967296),.string d,.string e,.string (⟨#[]⟩ : ByteArray),.int .u64 0,.int .i64 0,.int .u64 0,.int .u8 (bt p 0)] n tp s6 b6 _ HK2.out n0 z5 H11.out).mono ?_
      rintro e_ w14 ⟨rfl,h14,g14⟩
      have H14:=am_ h14
      have B14:=am_ (below_grown_ B11.out GE.out g14)
      clear h14 g14 H11 B11
      obtain ⟨c0,c1,c2,c3,c4,c5,c6,c7,c8,c9,c10,c11,c12,c13,f0,f1,f2,f3,f4,f5,f6,f7,f8,f9,f10,f11,f12,f13⟩:=cs14f_ H14.out
      go_wp2_with fail
      have h_:=(blk_put (cs':=#[.string s6,.bool b6,.bool true,.bool false,.bool false,.int .i64 (tyF (bt p 0)),.int .u32 (bkF p4 p4.size 0 0 % 4294967296),.string d,.string e,.string tp,.int .u64 0,.int .i64 0,.int .u64 0,.int .u8 (bt p 0)]) H14.out 9 (.string tp) rfl)
      have b_:=(bs_ (j:=9) (v:=.string tp) B14.out GE.out)
      clear c0 f0 c1 f1 c2 f2 c3 f3 c4 f4 c5 f5 c6 f6 c7 f7 c8 f8 c9 f9 c10 f10 c11 f11 c12 f12 c13 f13
      generalize (w14.setCell ⟨g,9,none⟩ (.string tp)) = w15 at h_ b_ ⊢
      have H15:=am_ h_
      have B15:=am_ b_
      clear h_ b_
      refine (lf_number k g 58 s6 b6 [.bool true,.bool false,.bool false,.int .i64 (tyF (bt p 0)),.int .u32 (bkF p4 p4.size 0 0 % 4294967296),.string d,.string e,.string tp,.int .u64 0,.int .i64 0,.int .u64 0,.int .u8 (bt p 0)] l s7 b7 _ HL.out H15.out).mono ?_
      rintro e_ w12 ⟨rfl,h12,g12⟩
      have H12:=am_ h12
      have B12:=am_ (below_grown_ B15.out GE.out g12)
      clear h12 g12
      obtain ⟨c0,c1,c2,c3,c4,c5,c6,c7,c8,c9,c10,c11,c12,c13,f0,f1,f2,f3,f4,f5,f6,f7,f8,f9,f10,f11,f12,f13⟩:=cs14f_ H12.out
      have h13:=blk_put (cs':=#[.string s7,.bool b7,.bool true,.bool false,.bool false,.int .i64 (tyF (bt p 0)),.int .u32 (bkF p4 p4.size 0 0 % 4294967296),.string d,.string e,.string tp,.int .u64 l,.int .i64 0,.int .u64 0,.int .u8 (bt p 0)]) H12.out 10 (.int .u64 l) rfl
      have H13:=am_ h13
      have B13:=am_ (bs_ (j:=10) (v:=.int .u64 l) B12.out GE.out)
      clear h13
      cases b7 with
      | true =>
       have hf:=HR.out
       rw [if_pos (Or.inl rfl)] at hf
       obtain rfl:=Option.some.inj hf
       go_wp2
       go_ret
       exact ⟨rfl,B13.out⟩
      | false =>
       have c2 : ¬ 2 < tyF (bt p 0):=by rw [CT.out];decide
       have hf:=HR.out
       rw [if_neg (by simp only [Bool.false_eq_true,false_or];exact c2)] at hf
       obtain rfl:=Option.some.inj hf
       have e5 : decide (2 < tyF (bt p 0)) = false:=decide_eq_false c2
       have e6 : (2 < tyF (bt p 0)) = False:=eq_false c2
       clear c2
       go_wp2
       go_ret
       exact ⟨⟨g,GE.out,rfl,H13.out⟩,B13.out⟩
   ·have hf:=HF.out
    rw [if_neg ct] at hf
    have d3 : (tyF (bt p 0) == 0) = false:=beq_eq_false_iff_ne.mpr ct
    obtain ⟨⟨l,s7,b7⟩,hl,hf⟩:=Option.bind_eq_some_iff.1 hf
    have HL:=am_ hl
    have HR:=am_ hf
    clear hl hf ct HF
    go_wp2_with fail
    have h_:=(blk_put (cs':=#[.string s4,.bool b4,.bool true,.bool false,.bool false,.int .i64 (tyF (bt p 0)),.int .u32 (bkF p4 p4.size 0 0 % 4294967296),.string d,.string e,.string (⟨#[]⟩ : ByteArray),.int .u64 0,.int .i64 0,.int .u64 0,.int .u8 (bt p 0)]) (blk_put (cs':=#[.string s4,.bool b4,.bool true,.bool false,.bool false,.int .i64 (tyF (bt p 0)),.int .u32 (bkF p4 p4.size 0 0 % 4294967296),.string d,.string (⟨#[]⟩ : ByteArray),.string (⟨#[]⟩ : ByteArray),.int .u64 0,.int .i64 0,.int .u64 0,.int .u8 (bt p 0)]) H8.out 7 (.string d) rfl) 8 (.string e) rfl)
    have b_:=(bs_ (j:=8) (v:=.string e) (bs_ (j:=7) (v:=.string d) B8.out GE.out) GE.out)
    clear c0 f0 c1 f1 c2 f2 c3 f3 c4 f4 c5 f5 c6 f6 c7 f7 c8 f8 c9 f9 c10 f10 c11 f11 c12 f12 c13 f13
    generalize ((w8.setCell ⟨g,7,none⟩ (.string d)).setCell ⟨g,8,none⟩ (.string e)) = w9 at h_ b_ ⊢
    have H9:=am_ h_
    have B9:=am_ b_
    clear h_ b_
    refine (lf_number k g 58 s4 b4 [.bool true,.bool false,.bool false,.int .i64 (tyF (bt p 0)),.int .u32 (bkF p4 p4.size 0 0 % 4294967296),.string d,.string e,.string (⟨#[]⟩ : ByteArray),.int .u64 0,.int .i64 0,.int .u64 0,.int .u8 (bt p 0)] l s7 b7 _ HL.out H9.out).mono ?_
    rintro e_ w12 ⟨rfl,h12,g12⟩
    have H12:=am_ h12
    have B12:=am_ (below_grown_ B9.out GE.out g12)
    clear h12 g12
    obtain ⟨c0,c1,c2,c3,c4,c5,c6,c7,c8,c9,c10,c11,c12,c13,f0,f1,f2,f3,f4,f5,f6,f7,f8,f9,f10,f11,f12,f13⟩:=cs14f_ H12.out
    have h13:=blk_put (cs':=#[.string s7,.bool b7,.bool true,.bool false,.bool false,.int .i64 (tyF (bt p 0)),.int .u32 (bkF p4 p4.size 0 0 % 4294967296),.string d,.string e,.string (⟨#[]⟩ : ByteArray),.int .u64 l,.int .i64 0,.int .u64 0,.int .u8 (bt p 0)]) H12.out 10 (.int .u64 l) rfl
    have H13:=am_ h13
    have B13:=am_ (bs_ (j:=10) (v:=.int .u64 l) B12.out GE.out)
    clear h13
    cases b7 with
    | true =>
     have hf:=HR.out
     rw [if_pos (Or.inl rfl)] at hf
     obtain rfl:=Option.some.inj hf
     go_wp2
     go_ret
     exact ⟨rfl,B13.out⟩
    | false =>
     by_cases c2 : 2 < tyF (bt p 0)
     ·have hf:=HR.out
      rw [if_pos (Or.inr c2)] at hf
      obtain rfl:=Option.some.inj hf
      have e5 : decide (2 < tyF (bt p 0)) = true:=decide_eq_true c2
      have e6 : (2 < tyF (bt p 0)) = True:=eq_true c2
      clear c2
      go_wp2
      go_ret
      exact ⟨rfl,B13.out⟩
     ·have hf:=HR.out
      rw [if_neg (by simp only [Bool.false_eq_true,false_or];exact c2)] at hf
      obtain rfl:=Option.some.inj hf
      have e5 : decide (2 < tyF (bt p 0)) = false:=decide_eq_false c2
      have e6 : (2 < tyF (bt p 0)) = False:=eq_false c2
      clear c2
      go_wp2
      go_ret
      exact ⟨⟨g,GE.out,rfl,H13.out⟩,B13.out⟩

theorem numF.mono (s : ByteArray) (b : Bool) (k : Nat) : LeO (numF k s b) (numF (k + 1) s b):=LeO.bind (varint_Get.mono _ _) fun _ => LeO.refl _
theorem psTok.mono (s : ByteArray) (b : Bool) (k : Nat) : LeO (psTok k s b) (psTok (k + 1) s b):=LeO.bind (numF.mono _ _ _) fun _ => LeO.refl _
theorem psEnd.mono (f v : Int) (d c t s : ByteArray) (b : Bool) (k : Nat) : LeO (psEnd k f v d c t s b) (psEnd (k + 1) f v d c t s b):=LeO.bind (numF.mono _ _ _) fun _ => LeO.refl _
theorem psLong.mono (s1 : ByteArray) (f : Int) (k : Nat) : LeO (psLong k s1 f) (psLong (k + 1) s1 f):=by
 unfold psLong
 obtain ⟨p4,s2,b2⟩:=tk s1 false 4
 dsimp only
 obtain ⟨d,s3,b3⟩:=idF s2 b2
 dsimp only
 obtain ⟨c,s4,b4⟩:=idF s3 b3
 exact LeO.ite (LeO.bind (psTok.mono _ _ _) fun _ => psEnd.mono _ _ _ _ _ _ _ _) (psEnd.mono _ _ _ _ _ _ _ _)
theorem parsedF.mono (a0 : ByteArray) (k : Nat) : LeO (parsedF k a0) (parsedF (k + 1) a0):=by
 unfold parsedF
 obtain ⟨p,s1,b1⟩:=tk a0 false 1
 exact LeO.ite (LeO.ite (LeO.refl _) (LeO.ite (LeO.refl _) (psLong.mono _ _ _))) (LeO.refl _)

end Go.Proofs.YtjpafikgbnloaaaDoor.PHdt
