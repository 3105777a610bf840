-- printed for this claim by a program of the claim (wip/tools/pp.py over the kit's print)
import Derived.Test.YthbnedjcaflofaaDoorPPaxx0
import Derived.Test.YthbnedjcaflofaaDoorPPaxx2
import Derived.Test.YthbnedjcaflofaaDoorPPaxx3
namespace Go.Proofs.YthbnedjcaflofaaDoor.PPax
open Go.RowKit Go.Proofs.YthbnedjcaflofaaDoorW.PrintWords Go.Proofs.YthbnedjcaflofaaDoorW.PrintLast Go.Proofs.YthbnedjcaflofaaDoorW.PrintMore
attribute [local go_sem] max2_int min2_int max_two min_two max_three min_three max_four min_four   -- for this text's walks alone
set_option linter.unusedVariables false
set_option linter.unusedSimpArgs false

attribute [local go_sem] isSome_setCell_
/-! ### params_Put: function 9 -/
def addS (s q : ByteArray) : Option ByteArray:=if s.size + q.size ≤ 140737488355328 then some (s ++ q) else none
def tokS (tok : ByteArray) (k : Nat) (s : ByteArray) : Option ByteArray:=if k = 2 then (if tok.toList = ([] : List UInt8) then some s else (params_pair.f 2 tok).bind fun q => addS s q) else some s
def numS (k : Nat) (e : Option (Int × Int)) (s : ByteArray) : Option ByteArray:=match e with
 | none => some s
 | some (v,d) => if v = d then some s else (varint_Put.f v).bind fun p => (params_pair.f (k : Int) p.1).bind fun q => addS s q
def putE (tok : ByteArray) : Nat → List (Option (Int × Int)) → ByteArray → Option ByteArray
 | _,[],s => some s
 | k,e :: t,s => (tokS tok k s).bind fun s1 => (numS k e s1).bind fun s2 => putE tok (k + 1) t s2
/-- The numbers of the parameters,and what they usually are. -/
def prmE (a0_0 : Int) (a0_1 : Int) (a0_2 : Int) (a0_3 : Int) (a0_4 : Int) (a0_5 : Int) (a0_6 : Int) (a0_7 : Int) (a0_8 : Int) (a0_9 : Int) (a0_10 : Int) : List (Option (Int × Int)):=[none,some (a0_0,0),none,some (a0_1,65527),some (a0_2,0),some (a0_3,0),some (a0_4,0),some (a0_5,0),some (a0_6,0),some (a0_7,0),some (a0_8,3),some (a0_9,25),none,none,some (a0_10,2)]
def params_Put.f (a0_0 : Int) (a0_1 : Int) (a0_2 : Int) (a0_3 : Int) (a0_4 : Int) (a0_5 : Int) (a0_6 : Int) (a0_7 : Int) (a0_8 : Int) (a0_9 : Int) (a0_10 : Int) (a0_11 : ByteArray) : Option (ByteArray × Int):=if prmOk a0_0 a0_1 a0_2 a0_3 a0_4 a0_5 a0_6 a0_7 a0_8 a0_9 a0_10 a0_11 then (putE a0_11 0 (prmE a0_0 a0_1 a0_2 a0_3 a0_4 a0_5 a0_6 a0_7 a0_8 a0_9 a0_10) (⟨#[]⟩ : ByteArray)).bind fun s => some (s,0) else some ((⟨#[]⟩ : ByteArray),50)
theorem KeptG.drewN {B g : Nat} {a w : World} (h : KeptG B g a w) (n : Nat) : KeptG B g a (w.drewN n):=⟨h.os,h.tape,h.output,h.size,h.block⟩
theorem KeptG.drew {B g : Nat} {a w : World} (h : KeptG B g a w) : KeptG B g a w.drew:=⟨h.os,h.tape,h.output,h.size,h.block⟩
theorem put_T : BldrT 47 0 2:=⟨by decide,by kernel_rfl,by decide⟩
attribute [local go_sem] plcs in
set_option maxHeartbeats 16000000 in
set_option maxRecDepth 100000 in
theorem params_Put.calls (a0_0 : Int) (a0_1 : Int) (a0_2 : Int) (a0_3 : Int) (a0_4 : Int) (a0_5 : Int) (a0_6 : Int) (a0_7 : Int) (a0_8 : Int) (a0_9 : Int) (a0_10 : Int) (a0_11 : ByteArray) (r1 : ByteArray) (r2 : Int) (w : World) (ht : Tab w) (h : params_Put.f a0_0 a0_1 a0_2 a0_3 a0_4 a0_5 a0_6 a0_7 a0_8 a0_9 a0_10 a0_11 = some (r1,r2)) :
  Calls Tryd.prog 9 #[.agg #[.int .u64 a0_0,.int .u64 a0_1,.int .u64 a0_2,.int .u64 a0_3,.int .u64 a0_4,.int .u64 a0_5,.int .u64 a0_6,.int .u64 a0_7,.int .u64 a0_8,.int .u64 a0_9,.int .u64 a0_10,.string a0_11]] w fun e w' => e = .returned (.tuple #[.string r1,.int .i64 r2]) ∧ Below w.heap.size w w':=by
 have HT:=am_ ht
 clear ht
 have HB:=am_ (Below.refl w.heap.size w)
 unfold params_Put.f at h
 by_cases hok : prmOk a0_0 a0_1 a0_2 a0_3 a0_4 a0_5 a0_6 a0_7 a0_8 a0_9 a0_10 a0_11
 ·rw [if_pos hok] at h
  obtain ⟨s_,hs_,h2_⟩:=Option.bind_eq_some_iff.1 h
  simp only [Option.some.injEq,Prod.mk.injEq] at h2_
  obtain ⟨rfl,rfl⟩:=h2_
  have HP:=am_ hs_
  clear h hs_
  have HCK : Aside0 (params_Check.f a0_0 a0_1 a0_2 a0_3 a0_4 a0_5 a0_6 a0_7 a0_8 a0_9 a0_10 a0_11 = some 0):=⟨by unfold params_Check.f;rw [if_pos hok]⟩
  clear hok
  go_enter Tryd.func9,Tryd.ntmps9
  go_upto_region 4 with (first|((with_reducible refine gate_dst (N:=1) rfl ?_);(try (refine gate_guard (by rfl) ?_;dsimp only));refine box_event ?hg (N:=1) ?hd (cs:=#[.int .u64 a0_0,.int .u64 a0_1,.int .u64 a0_2,.int .u64 a0_3,.int .u64 a0_4,.int .u64 a0_5,.int .u64 a0_6,.int .u64 a0_7,.int .u64 a0_8,.int .u64 a0_9,.int .u64 a0_10,.string a0_11]) (t:=24) ?hr ?_;(case hd => rfl);(case hg => rfl);(case hr => first|(go_simp;done)|(go_simp;rfl));intro gp hg w1 hbox hb;have GEp:=am_ (by rw [hg];exact (below_size (by repeat (first|(with_reducible first|exact HB.out|apply ba_|apply pn_|apply pd_)|exact HB.out))) : w.heap.size ≤ gp);have m0_:=am_ (below_step HB.out hb);clear HB;have HB:=m0_;clear m0_;have BKp:=am_ hbox;clear hbox hb hg;have hcp0 : w1.cell? ⟨gp,0,none⟩ = some (.int .u64 a0_0):=(kc_ BKp.out 0).trans rfl;have hcp1 : w1.cell? ⟨gp,1,none⟩ = some (.int .u64 a0_1):=(kc_ BKp.out 1).trans rfl;have hcp2 : w1.cell? ⟨gp,2,none⟩ = some (.int .u64 a0_2):=(kc_ BKp.out 2).trans rfl;have hcp3 : w1.cell? ⟨gp,3,none⟩ = some (.int .u64 a0_3):=(kc_ BKp.out 3).trans rfl;have hcp4 : w1.cell? ⟨gp,4,none⟩ = some (.int .u64 a0_4):=(kc_ BKp.out 4).trans rfl;have hcp5 : w1.cell? ⟨gp,5,none⟩ = some (.int .u64 a0_5):=(kc_ BKp.out 5).trans rfl;have hcp6 : w1.cell? ⟨gp,6,none⟩ = some (.int .u64 a0_6):=(kc_ BKp.out 6).trans rfl;have hcp7 : w1.cell? ⟨gp,7,none⟩ = some (.int .u64 a0_7):=(kc_ BKp.out 7).trans rfl;have hcp8 : w1.cell? ⟨gp,8,none⟩ = some (.int .u64 a0_8):=(kc_ BKp.out 8).trans rfl;have hcp9 : w1.cell? ⟨gp,9,none⟩ = some (.int .u64 a0_9):=(kc_ BKp.out 9).trans rfl;have hcp10 : w1.cell? ⟨gp,10,none⟩ = some (.int .u64 a0_10):=(kc_ BKp.out 10).trans rfl;have hcp11 : w1.cell? ⟨gp,11,none⟩ = some (.string a0_11):=(kc_ BKp.out 11).trans rfl)|(go_at_call 13;(with_reducible refine (params_Check.calls a0_0 a0_1 a0_2 a0_3 a0_4 a0_5 a0_6 a0_7 a0_8 a0_9 a0_10 a0_11 _ _ HCK.out).mono ?_);rintro e w2 ⟨rfl,hb⟩;have m0_:=am_ (blk_below (g:=gp) (o:=(.cells #[.int .u64 a0_0,.int .u64 a0_1,.int .u64 a0_2,.int .u64 a0_3,.int .u64 a0_4,.int .u64 a0_5,.int .u64 a0_6,.int .u64 a0_7,.int .u64 a0_8,.int .u64 a0_9,.int .u64 a0_10,.string a0_11] 24 (0,0))) (by (with_reducible repeat (first|refine kn_ ?_ _|refine kd_ ?_|refine ka_ ?_ _));exact BKp.out) hb);have m1_:=am_ (below_step (by repeat (first|(with_reducible first|exact HB.out|apply ba_|apply pn_|apply pd_)|exact HB.out)) hb);clear BKp HB;have BKp:=m0_;have HB:=m1_;clear m0_ m1_;clear hb))
  clear hcp0
  clear hcp1
  clear hcp2
  clear hcp3
  clear hcp4
  clear hcp5
  clear hcp6
  clear hcp7
  clear hcp8
  clear hcp9
  clear hcp10
  clear hcp11
  go_wp2_with (first|((with_reducible refine gate_dst (N:=5) rfl ?_);(try (refine gate_guard (by rfl) ?_;dsimp only));refine box_event ?hg (N:=5) ?hd (cs:=#[.pointer none,.slice none 0 0]) (t:=47) ?hr ?_;(case hd => rfl);(case hg => rfl);(case hr => first|(go_simp;done)|(go_simp;rfl));intro gb hg w3 hbox hb;have n0_:=am_ (by rw [hg];exact Nat.ne_of_lt (blk_lt (g:=gp) (o:=(.cells #[.int .u64 a0_0,.int .u64 a0_1,.int .u64 a0_2,.int .u64 a0_3,.int .u64 a0_4,.int .u64 a0_5,.int .u64 a0_6,.int .u64 a0_7,.int .u64 a0_8,.int .u64 a0_9,.int .u64 a0_10,.string a0_11] 24 (0,0))) (by (with_reducible repeat (first|refine kn_ ?_ _|refine kd_ ?_|refine ka_ ?_ _));exact BKp.out)) : gp ≠ gb);have GEb:=am_ (by rw [hg];exact (below_size (by repeat (first|(with_reducible first|exact HB.out|apply ba_|apply pn_|apply pd_)|exact HB.out))) : w.heap.size ≤ gb);have m0_:=am_ (blk_below (g:=gp) (o:=(.cells #[.int .u64 a0_0,.int .u64 a0_1,.int .u64 a0_2,.int .u64 a0_3,.int .u64 a0_4,.int .u64 a0_5,.int .u64 a0_6,.int .u64 a0_7,.int .u64 a0_8,.int .u64 a0_9,.int .u64 a0_10,.string a0_11] 24 (0,0))) (by (with_reducible repeat (first|refine kn_ ?_ _|refine kd_ ?_|refine ka_ ?_ _));exact BKp.out) hb);have m1_:=am_ (below_step (by repeat (first|(with_reducible first|exact HB.out|apply ba_|apply pn_|apply pd_)|exact HB.out)) hb);clear BKp HB;have BKp:=m0_;have HB:=m1_;clear m0_ m1_;have Npb:=n0_;clear n0_;have BKb:=am_ hbox;clear hbox hb hg)|(go_at_call 15;(with_reducible refine (params_Default.calls 0 65527 0 0 0 0 0 0 3 25 2 (⟨#[]⟩ : ByteArray) _ rfl).mono ?_);rintro e w4 ⟨rfl,hb⟩;have m0_:=am_ (blk_below (g:=gp) (o:=(.cells #[.int .u64 a0_0,.int .u64 a0_1,.int .u64 a0_2,.int .u64 a0_3,.int .u64 a0_4,.int .u64 a0_5,.int .u64 a0_6,.int .u64 a0_7,.int .u64 a0_8,.int .u64 a0_9,.int .u64 a0_10,.string a0_11] 24 (0,0))) (by (with_reducible repeat (first|refine kn_ ?_ _|refine kd_ ?_|refine ka_ ?_ _));exact BKp.out) hb);have m1_:=am_ (blk_below (g:=gb) (o:=(.cells #[.pointer none,.slice none 0 0] 47 (0,0))) (by (with_reducible repeat (first|refine kn_ ?_ _|refine kd_ ?_|refine ka_ ?_ _));exact BKb.out) hb);have m2_:=am_ (below_step (by repeat (first|(with_reducible first|exact HB.out|apply ba_|apply pn_|apply pd_)|exact HB.out)) hb);clear BKp BKb HB;have BKp:=m0_;have BKb:=m1_;have HB:=m2_;clear m0_ m1_ m2_;clear hb)|((with_reducible refine gate_dst (N:=6) rfl ?_);(try (refine gate_guard (by rfl) ?_;dsimp only));refine box_event ?hg (N:=6) ?hd (cs:=kk0_) (t:=24) ?hr ?_;(case hd => rfl);(case hg => rfl);(case hr => first|(go_simp;done)|(go_simp;rfl));intro gu hg w5 hbox hb;have n0_:=am_ (by rw [hg];exact Nat.ne_of_lt (blk_lt (g:=gp) (o:=(.cells #[.int .u64 a0_0,.int .u64 a0_1,.int .u64 a0_2,.int .u64 a0_3,.int .u64 a0_4,.int .u64 a0_5,.int .u64 a0_6,.int .u64 a0_7,.int .u64 a0_8,.int .u64 a0_9,.int .u64 a0_10,.string a0_11] 24 (0,0))) (by (with_reducible repeat (first|refine kn_ ?_ _|refine kd_ ?_|refine ka_ ?_ _));exact BKp.out)) : gp ≠ gu);have n1_:=am_ (by rw [hg];exact Nat.ne_of_lt (blk_lt (g:=gb) (o:=(.cells #[.pointer none,.slice none 0 0] 47 (0,0))) (by (with_reducible repeat (first|refine kn_ ?_ _|refine kd_ ?_|refine ka_ ?_ _));exact BKb.out)) : gb ≠ gu);have GEu:=am_ (by rw [hg];exact (below_size (by repeat (first|(with_reducible first|exact HB.out|apply ba_|apply pn_|apply pd_)|exact HB.out))) : w.heap.size ≤ gu);have m0_:=am_ (blk_below (g:=gp) (o:=(.cells #[.int .u64 a0_0,.int .u64 a0_1,.int .u64 a0_2,.int .u64 a0_3,.int .u64 a0_4,.int .u64 a0_5,.int .u64 a0_6,.int .u64 a0_7,.int .u64 a0_8,.int .u64 a0_9,.int .u64 a0_10,.string a0_11] 24 (0,0))) (by (with_reducible repeat (first|refine kn_ ?_ _|refine kd_ ?_|refine ka_ ?_ _));exact BKp.out) hb);have m1_:=am_ (blk_below (g:=gb) (o:=(.cells #[.pointer none,.slice none 0 0] 47 (0,0))) (by (with_reducible repeat (first|refine kn_ ?_ _|refine kd_ ?_|refine ka_ ?_ _));exact BKb.out) hb);have m2_:=am_ (below_step (by repeat (first|(with_reducible first|exact HB.out|apply ba_|apply pn_|apply pd_)|exact HB.out)) hb);clear BKp BKb HB;have BKp:=m0_;have BKb:=m1_;have HB:=m2_;clear m0_ m1_ m2_;have Npu:=n0_;have Nbu:=n1_;clear n0_ n1_;have BKu:=am_ hbox;clear hbox hb hg;have hzu0 : w5.cell? ⟨gu,0,none⟩ = some (.int .u64 0):=(kc_ BKu.out 0).trans rfl;have fzu0:=blk_frozen BKu.out 0;have hzu1 : w5.cell? ⟨gu,1,none⟩ = some (.int .u64 0):=(kc_ BKu.out 1).trans rfl;have fzu1:=blk_frozen BKu.out 1;have hzu2 : w5.cell? ⟨gu,2,none⟩ = some (.int .u64 0):=(kc_ BKu.out 2).trans rfl;have fzu2:=blk_frozen BKu.out 2;have hzu3 : w5.cell? ⟨gu,3,none⟩ = some (.int .u64 0):=(kc_ BKu.out 3).trans rfl;have fzu3:=blk_frozen BKu.out 3;have hzu4 : w5.cell? ⟨gu,4,none⟩ = some (.int .u64 0):=(kc_ BKu.out 4).trans rfl;have fzu4:=blk_frozen BKu.out 4;have hzu5 : w5.cell? ⟨gu,5,none⟩ = some (.int .u64 0):=(kc_ BKu.out 5).trans rfl;have fzu5:=blk_frozen BKu.out 5;have hzu6 : w5.cell? ⟨gu,6,none⟩ = some (.int .u64 0):=(kc_ BKu.out 6).trans rfl;have fzu6:=blk_frozen BKu.out 6;have hzu7 : w5.cell? ⟨gu,7,none⟩ = some (.int .u64 0):=(kc_ BKu.out 7).trans rfl;have fzu7:=blk_frozen BKu.out 7;have hzu8 : w5.cell? ⟨gu,8,none⟩ = some (.int .u64 0):=(kc_ BKu.out 8).trans rfl;have fzu8:=blk_frozen BKu.out 8;have hzu9 : w5.cell? ⟨gu,9,none⟩ = some (.int .u64 0):=(kc_ BKu.out 9).trans rfl;have fzu9:=blk_frozen BKu.out 9;have hzu10 : w5.cell? ⟨gu,10,none⟩ = some (.int .u64 0):=(kc_ BKu.out 10).trans rfl;have fzu10:=blk_frozen BKu.out 10;have hzu11 : w5.cell? ⟨gu,11,none⟩ = some (.string (⟨#[]⟩ : ByteArray)):=(kc_ BKu.out 11).trans rfl;have fzu11:=blk_frozen BKu.out 11; skip)|(go_at_call 17;(with_reducible refine (places_c gu _).mono ?_);rintro e w6 ⟨rfl,hb⟩;have m0_:=am_ (blk_below (g:=gp) (o:=(.cells #[.int .u64 a0_0,.int .u64 a0_1,.int .u64 a0_2,.int .u64 a0_3,.int .u64 a0_4,.int .u64 a0_5,.int .u64 a0_6,.int .u64 a0_7,.int .u64 a0_8,.int .u64 a0_9,.int .u64 a0_10,.string a0_11] 24 (0,0))) (by (with_reducible repeat (first|refine kn_ ?_ _|refine kd_ ?_|refine ka_ ?_ _));refine blk_far ?_ Npu.out _;(with_reducible repeat (first|refine kn_ ?_ _|refine kd_ ?_|refine ka_ ?_ _));refine blk_far ?_ Npu.out _;(with_reducible repeat (first|refine kn_ ?_ _|refine kd_ ?_|refine ka_ ?_ _));refine blk_far ?_ Npu.out _;(with_reducible repeat (first|refine kn_ ?_ _|refine kd_ ?_|refine ka_ ?_ _));refine blk_far ?_ Npu.out _;(with_reducible repeat (first|refine kn_ ?_ _|refine kd_ ?_|refine ka_ ?_ _));refine blk_far ?_ Npu.out _;(with_reducible repeat (first|refine kn_ ?_ _|refine kd_ ?_|refine ka_ ?_ _));refine blk_far ?_ Npu.out _;(with_reducible repeat (first|refine kn_ ?_ _|refine kd_ ?_|refine ka_ ?_ _));refine blk_far ?_ Npu.out _;(with_reducible repeat (first|refine kn_ ?_ _|refine kd_ ?_|refine ka_ ?_ _));refine blk_far ?_ Npu.out _;(with_reducible repeat (first|refine kn_ ?_ _|refine kd_ ?_|refine ka_ ?_ _));refine blk_far ?_ Npu.out _;(with_reducible repeat (first|refine kn_ ?_ _|refine kd_ ?_|refine ka_ ?_ _));refine blk_far ?_ Npu.out _;(with_reducible repeat (first|refine kn_ ?_ _|refine kd_ ?_|refine ka_ ?_ _));refine blk_far ?_ Npu.out _;(with_reducible repeat (first|refine kn_ ?_ _|refine kd_ ?_|refine ka_ ?_ _));refine blk_far ?_ Npu.out _;(with_reducible repeat (first|refine kn_ ?_ _|refine kd_ ?_|refine ka_ ?_ _));exact BKp.out) hb);have m1_:=am_ (blk_below (g:=gb) (o:=(.cells #[.pointer none,.slice none 0 0] 47 (0,0))) (by (with_reducible repeat (first|refine kn_ ?_ _|refine kd_ ?_|refine ka_ ?_ _));refine blk_far ?_ Nbu.out _;(with_reducible repeat (first|refine kn_ ?_ _|refine kd_ ?_|refine ka_ ?_ _));refine blk_far ?_ Nbu.out _;(with_reducible repeat (first|refine kn_ ?_ _|refine kd_ ?_|refine ka_ ?_ _));refine blk_far ?_ Nbu.out _;(with_reducible repeat (first|refine kn_ ?_ _|refine kd_ ?_|refine ka_ ?_ _));refine blk_far ?_ Nbu.out _;(with_reducible repeat (first|refine kn_ ?_ _|refine kd_ ?_|refine ka_ ?_ _));refine blk_far ?_ Nbu.out _;(with_reducible repeat (first|refine kn_ ?_ _|refine kd_ ?_|refine ka_ ?_ _));refine blk_far ?_ Nbu.out _;(with_reducible repeat (first|refine kn_ ?_ _|refine kd_ ?_|refine ka_ ?_ _));refine blk_far ?_ Nbu.out _;(with_reducible repeat (first|refine kn_ ?_ _|refine kd_ ?_|refine ka_ ?_ _));refine blk_far ?_ Nbu.out _;(with_reducible repeat (first|refine kn_ ?_ _|refine kd_ ?_|refine ka_ ?_ _));refine blk_far ?_ Nbu.out _;(with_reducible repeat (first|refine kn_ ?_ _|refine kd_ ?_|refine ka_ ?_ _));refine blk_far ?_ Nbu.out _;(with_reducible repeat (first|refine kn_ ?_ _|refine kd_ ?_|refine ka_ ?_ _));refine blk_far ?_ Nbu.out _;(with_reducible repeat (first|refine kn_ ?_ _|refine kd_ ?_|refine ka_ ?_ _));refine blk_far ?_ Nbu.out _;(with_reducible repeat (first|refine kn_ ?_ _|refine kd_ ?_|refine ka_ ?_ _));exact BKb.out) hb);have m2_:=am_ (blk_below (g:=gu) (o:=(.cells kk2_ 24 (0,0))) (by (with_reducible repeat (first|refine kn_ ?_ _|refine kd_ ?_|refine ka_ ?_ _));refine blk_put (cs:=kk2_) ?_ 11 _ rfl;(with_reducible repeat (first|refine kn_ ?_ _|refine kd_ ?_|refine ka_ ?_ _));refine blk_put (cs:=#[.int .u64 0,.int .u64 65527,.int .u64 0,.int .u64 0,.int .u64 0,.int .u64 0,.int .u64 0,.int .u64 0,.int .u64 3,.int .u64 25,.int .u64 0,.string (⟨#[]⟩ : ByteArray)]) ?_ 10 _ rfl;(with_reducible repeat (first|refine kn_ ?_ _|refine kd_ ?_|refine ka_ ?_ _));refine blk_put (cs:=#[.int .u64 0,.int .u64 65527,.int .u64 0,.int .u64 0,.int .u64 0,.int .u64 0,.int .u64 0,.int .u64 0,.int .u64 3,.int .u64 0,.int .u64 0,.string (⟨#[]⟩ : ByteArray)]) ?_ 9 _ rfl;(with_reducible repeat (first|refine kn_ ?_ _|refine kd_ ?_|refine ka_ ?_ _));refine blk_put (cs:=kk1_) ?_ 8 _ rfl;(with_reducible repeat (first|refine kn_ ?_ _|refine kd_ ?_|refine ka_ ?_ _));refine blk_put (cs:=kk1_) ?_ 7 _ rfl;(with_reducible repeat (first|refine kn_ ?_ _|refine kd_ ?_|refine ka_ ?_ _));refine blk_put (cs:=kk1_) ?_ 6 _ rfl;(with_reducible repeat (first|refine kn_ ?_ _|refine kd_ ?_|refine ka_ ?_ _));refine blk_put (cs:=kk1_) ?_ 5 _ rfl;(with_reducible repeat (first|refine kn_ ?_ _|refine kd_ ?_|refine ka_ ?_ _));refine blk_put (cs:=kk1_) ?_ 4 _ rfl;(with_reducible repeat (first|refine kn_ ?_ _|refine kd_ ?_|refine ka_ ?_ _));refine blk_put (cs:=kk1_) ?_ 3 _ rfl;(with_reducible repeat (first|refine kn_ ?_ _|refine kd_ ?_|refine ka_ ?_ _));refine blk_put (cs:=kk1_) ?_ 2 _ rfl;(with_reducible repeat (first|refine kn_ ?_ _|refine kd_ ?_|refine ka_ ?_ _));refine blk_put (cs:=kk0_) ?_ 1 _ rfl;(with_reducible repeat (first|refine kn_ ?_ _|refine kd_ ?_|refine ka_ ?_ _));refine blk_put (cs:=kk0_) ?_ 0 _ rfl;(with_reducible repeat (first|refine kn_ ?_ _|refine kd_ ?_|refine ka_ ?_ _));exact BKu.out) hb);have m3_:=am_ (below_step (by repeat (first|(with_reducible first|exact HB.out|apply ba_|apply pn_|apply pd_|refine bs_ ?_ GEu.out)|exact HB.out)) hb);clear BKp BKb BKu HB;have BKp:=m0_;have BKb:=m1_;have BKu:=m2_;have HB:=m3_;clear m0_ m1_ m2_ m3_;clear hb)|((with_reducible refine gate_dst (N:=7) rfl ?_);(try (refine gate_guard (by rfl) ?_;dsimp only));refine box_event ?hg (N:=7) ?hd (cs:=kk3_) (t:=49) ?hr ?_;(case hd => rfl);(case hg => rfl);(case hr => first|(go_simp;done)|(go_simp;rfl));intro gw hg w7 hbox hb;have n0_:=am_ (by rw [hg];exact Nat.ne_of_lt (blk_lt (g:=gp) (o:=(.cells #[.int .u64 a0_0,.int .u64 a0_1,.int .u64 a0_2,.int .u64 a0_3,.int .u64 a0_4,.int .u64 a0_5,.int .u64 a0_6,.int .u64 a0_7,.int .u64 a0_8,.int .u64 a0_9,.int .u64 a0_10,.string a0_11] 24 (0,0))) (by (with_reducible repeat (first|refine kn_ ?_ _|refine kd_ ?_|refine ka_ ?_ _));exact BKp.out)) : gp ≠ gw);have n1_:=am_ (by rw [hg];exact Nat.ne_of_lt (blk_lt (g:=gb) (o:=(.cells #[.pointer none,.slice none 0 0] 47 (0,0))) (by (with_reducible repeat (first|refine kn_ ?_ _|refine kd_ ?_|refine ka_ ?_ _));exact BKb.out)) : gb ≠ gw);have n2_:=am_ (by rw [hg];exact Nat.ne_of_lt (blk_lt (g:=gu) (o:=(.cells kk2_ 24 (0,0))) (by (with_reducible repeat (first|refine kn_ ?_ _|refine kd_ ?_|refine ka_ ?_ _));exact BKu.out)) : gu ≠ gw);have GEw:=am_ (by rw [hg];exact (below_size (by repeat (first|(with_reducible first|exact HB.out|apply ba_|apply pn_|apply pd_)|exact HB.out))) : w.heap.size ≤ gw);have m0_:=am_ (blk_below (g:=gp) (o:=(.cells #[.int .u64 a0_0,.int .u64 a0_1,.int .u64 a0_2,.int .u64 a0_3,.int .u64 a0_4,.int .u64 a0_5,.int .u64 a0_6,.int .u64 a0_7,.int .u64 a0_8,.int .u64 a0_9,.int .u64 a0_10,.string a0_11] 24 (0,0))) (by (with_reducible repeat (first|refine kn_ ?_ _|refine kd_ ?_|refine ka_ ?_ _));exact BKp.out) hb);have m1_:=am_ (blk_below (g:=gb) (o:=(.cells #[.pointer none,.slice none 0 0] 47 (0,0))) (by (with_reducible repeat (first|refine kn_ ?_ _|refine kd_ ?_|refine ka_ ?_ _));exact BKb.out) hb);have m2_:=am_ (blk_below (g:=gu) (o:=(.cells kk2_ 24 (0,0))) (by (with_reducible repeat (first|refine kn_ ?_ _|refine kd_ ?_|refine ka_ ?_ _));exact BKu.out) hb);have m3_:=am_ (below_step (by repeat (first|(with_reducible first|exact HB.out|apply ba_|apply pn_|apply pd_)|exact HB.out)) hb);clear BKp BKb BKu HB;have BKp:=m0_;have BKb:=m1_;have BKu:=m2_;have HB:=m3_;clear m0_ m1_ m2_ m3_;have Npw:=n0_;have Nbw:=n1_;have Nuw:=n2_;clear n0_ n1_ n2_;have BKw:=am_ hbox;clear hbox hb hg;have hzw0 : w7.cell? ⟨gw,0,none⟩ = some (.pointer none):=(kc_ BKw.out 0).trans rfl;have fzw0:=blk_frozen BKw.out 0;have hzw1 : w7.cell? ⟨gw,1,none⟩ = some (.pointer none):=(kc_ BKw.out 1).trans rfl;have fzw1:=blk_frozen BKw.out 1;have hzw2 : w7.cell? ⟨gw,2,none⟩ = some (.pointer none):=(kc_ BKw.out 2).trans rfl;have fzw2:=blk_frozen BKw.out 2;have hzw3 : w7.cell? ⟨gw,3,none⟩ = some (.pointer none):=(kc_ BKw.out 3).trans rfl;have fzw3:=blk_frozen BKw.out 3;have hzw4 : w7.cell? ⟨gw,4,none⟩ = some (.pointer none):=(kc_ BKw.out 4).trans rfl;have fzw4:=blk_frozen BKw.out 4;have hzw5 : w7.cell? ⟨gw,5,none⟩ = some (.pointer none):=(kc_ BKw.out 5).trans rfl;have fzw5:=blk_frozen BKw.out 5;have hzw6 : w7.cell? ⟨gw,6,none⟩ = some (.pointer none):=(kc_ BKw.out 6).trans rfl;have fzw6:=blk_frozen BKw.out 6;have hzw7 : w7.cell? ⟨gw,7,none⟩ = some (.pointer none):=(kc_ BKw.out 7).trans rfl;have fzw7:=blk_frozen BKw.out 7;have hzw8 : w7.cell? ⟨gw,8,none⟩ = some (.pointer none):=(kc_ BKw.out 8).trans rfl;have fzw8:=blk_frozen BKw.out 8;have hzw9 : w7.cell? ⟨gw,9,none⟩ = some (.pointer none):=(kc_ BKw.out 9).trans rfl;have fzw9:=blk_frozen BKw.out 9;have hzw10 : w7.cell? ⟨gw,10,none⟩ = some (.pointer none):=(kc_ BKw.out 10).trans rfl;have fzw10:=blk_frozen BKw.out 10;have hzw11 : w7.cell? ⟨gw,11,none⟩ = some (.pointer none):=(kc_ BKw.out 11).trans rfl;have fzw11:=blk_frozen BKw.out 11;have hzw12 : w7.cell? ⟨gw,12,none⟩ = some (.pointer none):=(kc_ BKw.out 12).trans rfl;have fzw12:=blk_frozen BKw.out 12;have hzw13 : w7.cell? ⟨gw,13,none⟩ = some (.pointer none):=(kc_ BKw.out 13).trans rfl;have fzw13:=blk_frozen BKw.out 13;have hzw14 : w7.cell? ⟨gw,14,none⟩ = some (.pointer none):=(kc_ BKw.out 14).trans rfl;have fzw14:=blk_frozen BKw.out 14; skip)|(go_at_call 17;(with_reducible refine (places_c gp _).mono ?_);rintro e w9 ⟨rfl,hb⟩;have m0_:=am_ (blk_below (g:=gp) (o:=(.cells #[.int .u64 a0_0,.int .u64 a0_1,.int .u64 a0_2,.int .u64 a0_3,.int .u64 a0_4,.int .u64 a0_5,.int .u64 a0_6,.int .u64 a0_7,.int .u64 a0_8,.int .u64 a0_9,.int .u64 a0_10,.string a0_11] 24 (0,0))) (by (with_reducible repeat (first|refine kn_ ?_ _|refine kd_ ?_|refine ka_ ?_ _));refine blk_far ?_ Npw.out _;(with_reducible repeat (first|refine kn_ ?_ _|refine kd_ ?_|refine ka_ ?_ _));refine blk_far ?_ Npw.out _;(with_reducible repeat (first|refine kn_ ?_ _|refine kd_ ?_|refine ka_ ?_ _));refine blk_far ?_ Npw.out _;(with_reducible repeat (first|refine kn_ ?_ _|refine kd_ ?_|refine ka_ ?_ _));refine blk_far ?_ Npw.out _;(with_reducible repeat (first|refine kn_ ?_ _|refine kd_ ?_|refine ka_ ?_ _));refine blk_far ?_ Npw.out _;(with_reducible repeat (first|refine kn_ ?_ _|refine kd_ ?_|refine ka_ ?_ _));refine blk_far ?_ Npw.out _;(with_reducible repeat (first|refine kn_ ?_ _|refine kd_ ?_|refine ka_ ?_ _));refine blk_far ?_ Npw.out _;(with_reducible repeat (first|refine kn_ ?_ _|refine kd_ ?_|refine ka_ ?_ _));refine blk_far ?_ Npw.out _;(with_reducible repeat (first|refine kn_ ?_ _|refine kd_ ?_|refine ka_ ?_ _));refine blk_far ?_ Npw.out _;(with_reducible repeat (first|refine kn_ ?_ _|refine kd_ ?_|refine ka_ ?_ _));refine blk_far ?_ Npw.out _;(with_reducible repeat (first|refine kn_ ?_ _|refine kd_ ?_|refine ka_ ?_ _));refine blk_far ?_ Npw.out _;(with_reducible repeat (first|refine kn_ ?_ _|refine kd_ ?_|refine ka_ ?_ _));refine blk_far ?_ Npw.out _;(with_reducible repeat (first|refine kn_ ?_ _|refine kd_ ?_|refine ka_ ?_ _));refine blk_far ?_ Npw.out _;(with_reducible repeat (first|refine kn_ ?_ _|refine kd_ ?_|refine ka_ ?_ _));refine blk_far ?_ Npw.out _;(with_reducible repeat (first|refine kn_ ?_ _|refine kd_ ?_|refine ka_ ?_ _));refine blk_far ?_ Npw.out _;(with_reducible repeat (first|refine kn_ ?_ _|refine kd_ ?_|refine ka_ ?_ _));exact BKp.out) hb);have m1_:=am_ (blk_below (g:=gb) (o:=(.cells #[.pointer none,.slice none 0 0] 47 (0,0))) (by (with_reducible repeat (first|refine kn_ ?_ _|refine kd_ ?_|refine ka_ ?_ _));refine blk_far ?_ Nbw.out _;(with_reducible repeat (first|refine kn_ ?_ _|refine kd_ ?_|refine ka_ ?_ _));refine blk_far ?_ Nbw.out _;(with_reducible repeat (first|refine kn_ ?_ _|refine kd_ ?_|refine ka_ ?_ _));refine blk_far ?_ Nbw.out _;(with_reducible repeat (first|refine kn_ ?_ _|refine kd_ ?_|refine ka_ ?_ _));refine blk_far ?_ Nbw.out _;(with_reducible repeat (first|refine kn_ ?_ _|refine kd_ ?_|refine ka_ ?_ _));refine blk_far ?_ Nbw.out _;(with_reducible repeat (first|refine kn_ ?_ _|refine kd_ ?_|refine ka_ ?_ _));refine blk_far ?_ Nbw.out _;(with_reducible repeat (first|refine kn_ ?_ _|refine kd_ ?_|refine ka_ ?_ _));refine blk_far ?_ Nbw.out _;(with_reducible repeat (first|refine kn_ ?_ _|refine kd_ ?_|refine ka_ ?_ _));refine blk_far ?_ Nbw.out _;(with_reducible repeat (first|refine kn_ ?_ _|refine kd_ ?_|refine ka_ ?_ _));refine blk_far ?_ Nbw.out _;(with_reducible repeat (first|refine kn_ ?_ _|refine kd_ ?_|refine ka_ ?_ _));refine blk_far ?_ Nbw.out _;(with_reducible repeat (first|refine kn_ ?_ _|refine kd_ ?_|refine ka_ ?_ _));refine blk_far ?_ Nbw.out _;(with_reducible repeat (first|refine kn_ ?_ _|refine kd_ ?_|refine ka_ ?_ _));refine blk_far ?_ Nbw.out _;(with_reducible repeat (first|refine kn_ ?_ _|refine kd_ ?_|refine ka_ ?_ _));refine blk_far ?_ Nbw.out _;(with_reducible repeat (first|refine kn_ ?_ _|refine kd_ ?_|refine ka_ ?_ _));refine blk_far ?_ Nbw.out _;(with_reducible repeat (first|refine kn_ ?_ _|refine kd_ ?_|refine ka_ ?_ _));refine blk_far ?_ Nbw.out _;(with_reducible repeat (first|refine kn_ ?_ _|refine kd_ ?_|refine ka_ ?_ _));exact BKb.out) hb);have m2_:=am_ (blk_below (g:=gu) (o:=(.cells kk2_ 24 (0,0))) (by (with_reducible repeat (first|refine kn_ ?_ _|refine kd_ ?_|refine ka_ ?_ _));refine blk_far ?_ Nuw.out _;(with_reducible repeat (first|refine kn_ ?_ _|refine kd_ ?_|refine ka_ ?_ _));refine blk_far ?_ Nuw.out _;(with_reducible repeat (first|refine kn_ ?_ _|refine kd_ ?_|refine ka_ ?_ _));refine blk_far ?_ Nuw.out _;(with_reducible repeat (first|refine kn_ ?_ _|refine kd_ ?_|refine ka_ ?_ _));refine blk_far ?_ Nuw.out _;(with_reducible repeat (first|refine kn_ ?_ _|refine kd_ ?_|refine ka_ ?_ _));refine blk_far ?_ Nuw.out _;(with_reducible repeat (first|refine kn_ ?_ _|refine kd_ ?_|refine ka_ ?_ _));refine blk_far ?_ Nuw.out _;(with_reducible repeat (first|refine kn_ ?_ _|refine kd_ ?_|refine ka_ ?_ _));refine blk_far ?_ Nuw.out _;(with_reducible repeat (first|refine kn_ ?_ _|refine kd_ ?_|refine ka_ ?_ _));refine blk_far ?_ Nuw.out _;(with_reducible repeat (first|refine kn_ ?_ _|refine kd_ ?_|refine ka_ ?_ _));refine blk_far ?_ Nuw.out _;(with_reducible repeat (first|refine kn_ ?_ _|refine kd_ ?_|refine ka_ ?_ _));refine blk_far ?_ Nuw.out _;(with_reducible repeat (first|refine kn_ ?_ _|refine kd_ ?_|refine ka_ ?_ _));refine blk_far ?_ Nuw.out _;(with_reducible repeat (first|refine kn_ ?_ _|refine kd_ ?_|refine ka_ ?_ _));refine blk_far ?_ Nuw.out _;(with_reducible repeat (first|refine kn_ ?_ _|refine kd_ ?_|refine ka_ ?_ _));refine blk_far ?_ Nuw.out _;(with_reducible repeat (first|refine kn_ ?_ _|refine kd_ ?_|refine ka_ ?_ _));refine blk_far ?_ Nuw.out _;(with_reducible repeat (first|refine kn_ ?_ _|refine kd_ ?_|refine ka_ ?_ _));refine blk_far ?_ Nuw.out _;(with_reducible repeat (first|refine kn_ ?_ _|refine kd_ ?_|refine ka_ ?_ _));exact BKu.out) hb);have m3_:=am_ (blk_below (g:=gw) (o:=(.cells #[.pointer none,.pointer (some ⟨gu,0,none⟩),.pointer none,.pointer (some ⟨gu,1,none⟩),.pointer (some ⟨gu,2,none⟩),.pointer (some ⟨gu,3,none⟩),.pointer (some ⟨gu,4,none⟩),.pointer (some ⟨gu,5,none⟩),.pointer (some ⟨gu,6,none⟩),.pointer (some ⟨gu,7,none⟩),.pointer (some ⟨gu,8,none⟩),.pointer (some ⟨gu,9,none⟩),.pointer none,.pointer none,.pointer (some ⟨gu,10,none⟩)] 49 (0,0))) (by (with_reducible repeat (first|refine kn_ ?_ _|refine kd_ ?_|refine ka_ ?_ _));refine blk_put (cs:=#[.pointer none,.pointer (some ⟨gu,0,none⟩),.pointer none,.pointer (some ⟨gu,1,none⟩),.pointer (some ⟨gu,2,none⟩),.pointer (some ⟨gu,3,none⟩),.pointer (some ⟨gu,4,none⟩),.pointer (some ⟨gu,5,none⟩),.pointer (some ⟨gu,6,none⟩),.pointer (some ⟨gu,7,none⟩),.pointer (some ⟨gu,8,none⟩),.pointer (some ⟨gu,9,none⟩),.pointer none,.pointer none,.pointer none]) ?_ 14 _ rfl;(with_reducible repeat (first|refine kn_ ?_ _|refine kd_ ?_|refine ka_ ?_ _));refine blk_put (cs:=#[.pointer none,.pointer (some ⟨gu,0,none⟩),.pointer none,.pointer (some ⟨gu,1,none⟩),.pointer (some ⟨gu,2,none⟩),.pointer (some ⟨gu,3,none⟩),.pointer (some ⟨gu,4,none⟩),.pointer (some ⟨gu,5,none⟩),.pointer (some ⟨gu,6,none⟩),.pointer (some ⟨gu,7,none⟩),.pointer (some ⟨gu,8,none⟩),.pointer (some ⟨gu,9,none⟩),.pointer none,.pointer none,.pointer none]) ?_ 13 _ rfl;(with_reducible repeat (first|refine kn_ ?_ _|refine kd_ ?_|refine ka_ ?_ _));refine blk_put (cs:=#[.pointer none,.pointer (some ⟨gu,0,none⟩),.pointer none,.pointer (some ⟨gu,1,none⟩),.pointer (some ⟨gu,2,none⟩),.pointer (some ⟨gu,3,none⟩),.pointer (some ⟨gu,4,none⟩),.pointer (some ⟨gu,5,none⟩),.pointer (some ⟨gu,6,none⟩),.pointer (some ⟨gu,7,none⟩),.pointer (some ⟨gu,8,none⟩),.pointer (some ⟨gu,9,none⟩),.pointer none,.pointer none,.pointer none]) ?_ 12 _ rfl;(with_reducible repeat (first|refine kn_ ?_ _|refine kd_ ?_|refine ka_ ?_ _));refine blk_put (cs:=#[.pointer none,.pointer (some ⟨gu,0,none⟩),.pointer none,.pointer (some ⟨gu,1,none⟩),.pointer (some ⟨gu,2,none⟩),.pointer (some ⟨gu,3,none⟩),.pointer (some ⟨gu,4,none⟩),.pointer (some ⟨gu,5,none⟩),.pointer (some ⟨gu,6,none⟩),.pointer (some ⟨gu,7,none⟩),.pointer (some ⟨gu,8,none⟩),.pointer none,.pointer none,.pointer none,.pointer none]) ?_ 11 _ rfl;(with_reducible repeat (first|refine kn_ ?_ _|refine kd_ ?_|refine ka_ ?_ _));refine blk_put (cs:=#[.pointer none,.pointer (some ⟨gu,0,none⟩),.pointer none,.pointer (some ⟨gu,1,none⟩),.pointer (some ⟨gu,2,none⟩),.pointer (some ⟨gu,3,none⟩),.pointer (some ⟨gu,4,none⟩),.pointer (some ⟨gu,5,none⟩),.pointer (some ⟨gu,6,none⟩),.pointer (some ⟨gu,7,none⟩),.pointer none,.pointer none,.pointer none,.pointer none,.pointer none]) ?_ 10 _ rfl;(with_reducible repeat (first|refine kn_ ?_ _|refine kd_ ?_|refine ka_ ?_ _));refine blk_put (cs:=#[.pointer none,.pointer (some ⟨gu,0,none⟩),.pointer none,.pointer (some ⟨gu,1,none⟩),.pointer (some ⟨gu,2,none⟩),.pointer (some ⟨gu,3,none⟩),.pointer (some ⟨gu,4,none⟩),.pointer (some ⟨gu,5,none⟩),.pointer (some ⟨gu,6,none⟩),.pointer none,.pointer none,.pointer none,.pointer none,.pointer none,.pointer none]) ?_ 9 _ rfl;(with_reducible repeat (first|refine kn_ ?_ _|refine kd_ ?_|refine ka_ ?_ _));refine blk_put (cs:=#[.pointer none,.pointer (some ⟨gu,0,none⟩),.pointer none,.pointer (some ⟨gu,1,none⟩),.pointer (some ⟨gu,2,none⟩),.pointer (some ⟨gu,3,none⟩),.pointer (some ⟨gu,4,none⟩),.pointer (some ⟨gu,5,none⟩),.pointer none,.pointer none,.pointer none,.pointer none,.pointer none,.pointer none,.pointer none]) ?_ 8 _ rfl;(with_reducible repeat (first|refine kn_ ?_ _|refine kd_ ?_|refine ka_ ?_ _));refine blk_put (cs:=#[.pointer none,.pointer (some ⟨gu,0,none⟩),.pointer none,.pointer (some ⟨gu,1,none⟩),.pointer (some ⟨gu,2,none⟩),.pointer (some ⟨gu,3,none⟩),.pointer (some ⟨gu,4,none⟩),.pointer none,.pointer none,.pointer none,.pointer none,.pointer none,.pointer none,.pointer none,.pointer none]) ?_ 7 _ rfl;(with_reducible repeat (first|refine kn_ ?_ _|refine kd_ ?_|refine ka_ ?_ _));refine blk_put (cs:=#[.pointer none,.pointer (some ⟨gu,0,none⟩),.pointer none,.pointer (some ⟨gu,1,none⟩),.pointer (some ⟨gu,2,none⟩),.pointer (some ⟨gu,3,none⟩),.pointer none,.pointer none,.pointer none,.pointer none,.pointer none,.pointer none,.pointer none,.pointer none,.pointer none]) ?_ 6 _ rfl;(with_reducible repeat (first|refine kn_ ?_ _|refine kd_ ?_|refine ka_ ?_ _));refine blk_put (cs:=#[.pointer none,.pointer (some ⟨gu,0,none⟩),.pointer none,.pointer (some ⟨gu,1,none⟩),.pointer (some ⟨gu,2,none⟩),.pointer none,.pointer none,.pointer none,.pointer none,.pointer none,.pointer none,.pointer none,.pointer none,.pointer none,.pointer none]) ?_ 5 _ rfl;(with_reducible repeat (first|refine kn_ ?_ _|refine kd_ ?_|refine ka_ ?_ _));refine blk_put (cs:=#[.pointer none,.pointer (some ⟨gu,0,none⟩),.pointer none,.pointer (some ⟨gu,1,none⟩),.pointer none,.pointer none,.pointer none,.pointer none,.pointer none,.pointer none,.pointer none,.pointer none,.pointer none,.pointer none,.pointer none]) ?_ 4 _ rfl;(with_reducible repeat (first|refine kn_ ?_ _|refine kd_ ?_|refine ka_ ?_ _));refine blk_put (cs:=#[.pointer none,.pointer (some ⟨gu,0,none⟩),.pointer none,.pointer none,.pointer none,.pointer none,.pointer none,.pointer none,.pointer none,.pointer none,.pointer none,.pointer none,.pointer none,.pointer none,.pointer none]) ?_ 3 _ rfl;(with_reducible repeat (first|refine kn_ ?_ _|refine kd_ ?_|refine ka_ ?_ _));refine blk_put (cs:=#[.pointer none,.pointer (some ⟨gu,0,none⟩),.pointer none,.pointer none,.pointer none,.pointer none,.pointer none,.pointer none,.pointer none,.pointer none,.pointer none,.pointer none,.pointer none,.pointer none,.pointer none]) ?_ 2 _ rfl;(with_reducible repeat (first|refine kn_ ?_ _|refine kd_ ?_|refine ka_ ?_ _));refine blk_put (cs:=kk3_) ?_ 1 _ rfl;(with_reducible repeat (first|refine kn_ ?_ _|refine kd_ ?_|refine ka_ ?_ _));refine blk_put (cs:=kk3_) ?_ 0 _ rfl;(with_reducible repeat (first|refine kn_ ?_ _|refine kd_ ?_|refine ka_ ?_ _));exact BKw.out) hb);have m4_:=am_ (below_step (by repeat (first|(with_reducible first|exact HB.out|apply ba_|apply pn_|apply pd_|refine bs_ ?_ GEw.out)|exact HB.out)) hb);clear BKp BKb BKu BKw HB;have BKp:=m0_;have BKb:=m1_;have BKu:=m2_;have BKw:=m3_;have HB:=m4_;clear m0_ m1_ m2_ m3_ m4_;clear hb))
  try clear hzu0 fzu0
  try clear hzu1 fzu1
  try clear hzu2 fzu2
  try clear hzu3 fzu3
  try clear hzu4 fzu4
  try clear hzu5 fzu5
  try clear hzu6 fzu6
  try clear hzu7 fzu7
  try clear hzu8 fzu8
  try clear hzu9 fzu9
  try clear hzu10 fzu10
  try clear hzu11 fzu11
  try clear hzw0 fzw0
  try clear hzw1 fzw1
  try clear hzw2 fzw2
  try clear hzw3 fzw3
  try clear hzw4 fzw4
  try clear hzw5 fzw5
  try clear hzw6 fzw6
  try clear hzw7 fzw7
  try clear hzw8 fzw8
  try clear hzw9 fzw9
  try clear hzw10 fzw10
  try clear hzw11 fzw11
  try clear hzw12 fzw12
  try clear hzw13 fzw13
  try clear hzw14 fzw14
  obtain ⟨Br,hBr⟩ : ∃ g,g = w9.heap.size:=⟨_,rfl⟩
  have HZ : Aside0 (Br = w9.heap.size ∧ gp < Br ∧ gb < Br ∧ gu < Br ∧ gw < Br ∧ w.heap.size ≤ Br):=⟨⟨hBr,by rw [hBr];exact blk_lt BKp.out,by rw [hBr];exact blk_lt BKb.out,by rw [hBr];exact blk_lt BKu.out,by rw [hBr];exact blk_lt BKw.out,by rw [hBr];exact HB.out.size⟩⟩
  clear hBr
  have HB0 : Aside0 (Bldr Br gb 0 47 [.pointer none,.slice none 0 0] ⟨#[]⟩ w9):=⟨⟨BKb.out,Or.inl rfl,.slice none 0 0,rfl,own_nil w9 Br _ _,by simp [Value.ownBlock]⟩⟩
  clear BKb
  go_loopw [20] (fun i wr => ∃ (k : Nat) (acc : ByteArray) (p v : Value),k ≤ 15 ∧ i = .int .i64 k ∧ Aside0 (putE a0_11 k ((prmE a0_0 a0_1 a0_2 a0_3 a0_4 a0_5 a0_6 a0_7 a0_8 a0_9 a0_10).drop k) acc = some s_) ∧ Aside0 (Bldr Br gb 0 47 [p,v] acc wr) ∧ Aside0 (KeptG Br gb w9 wr)) (fun i _ => 15 - (intOf i).toNat)
  case atStart => exact ⟨0,_,_,_,by omega,rfl,HP,HB0,⟨KeptG.refl _ _ _⟩⟩
  case round =>
   clear HP HB0
   obtain ⟨k,acc,p,v,hk,rfl,HP,HD,HK⟩:=hrel
   have hsz : Br ≤ wr.heap.size:=by rw [HZ.out.1];exact HK.out.size
   have HKC : Aside0 (∀ g i u,g < Br → g ≠ gb → w9.cell? ⟨g,i,none⟩ = some u → wr.cell? ⟨g,i,none⟩ = some u):=⟨fun g i u h1 h2 h3 => (HK.out.cell ⟨g,i,none⟩ h1 h2).trans h3⟩
   have HWR : Aside0 (Below w.heap.size w wr):=⟨HB.out.trans (HK.out.below HZ.out.2.2.2.2.2 GEb.out)⟩
   have h15 : k = 0 ∨ k = 1 ∨ k = 2 ∨ k = 3 ∨ k = 4 ∨ k = 5 ∨ k = 6 ∨ k = 7 ∨ k = 8 ∨ k = 9 ∨ k = 10 ∨ k = 11 ∨ k = 12 ∨ k = 13 ∨ k = 14 ∨ k = 15:=by omega
   clear hk
   rcases h15 with rfl|rfl|rfl|rfl|rfl|rfl|rfl|rfl|rfl|rfl|rfl|rfl|rfl|rfl|rfl|rfl
   ·as_aux_lemma =>
     have hp : ((tokS a0_11 0 acc).bind fun s1 => (numS 0 (none) s1).bind fun s2 => putE a0_11 1 ((prmE a0_0 a0_1 a0_2 a0_3 a0_4 a0_5 a0_6 a0_7 a0_8 a0_9 a0_10).drop 1) s2) = some s_:=HP.out
     rw [show tokS a0_11 0 acc = some acc from rfl,Option.bind_some] at hp
     rw [show numS 0 none acc = some acc from rfl,Option.bind_some] at hp
     have HP2 : Aside0 (putE a0_11 1 ((prmE a0_0 a0_1 a0_2 a0_3 a0_4 a0_5 a0_6 a0_7 a0_8 a0_9 a0_10).drop 1) acc = some s_):=⟨hp⟩
     clear hp
     go_upto_region 12 with (first|((with_reducible refine gate_dst (N:=23) rfl ?_);refine Kd.event_run (v:=.pointer none) (w1:=wr) rfl (by kernel_rfl) ?_)|go_in)
     have HT_ : Aside0 (rtab .any (opsOf Tryd.f9 12) = rtab .any (opsOf Tryd.f9 12)):=⟨rfl⟩
     refine start_ (n:=13) (S:=fun _ => True) (ds:=[]) #[F_,F_,F_,F_,F_,F_,F_,F_,F_,F_,F_,F_,F_] (by kernel_rfl) rfl rfl trivial (fun hHeld => ?_)
     refine pure_ (i:=0) (N:=some 35) (v:=?_) (a':=?_) #[T_,F_,F_,F_,F_,F_,F_,F_,F_,F_,F_,F_,F_] rfl rfl (any_of HT_.out (by kernel_rfl)) (fun _ _ _ h => h) (Or.inl ⟨by rfl,?_⟩) ?_ ?_
     rotate_left;(intro w';go_simp;with_reducible rfl);rotate_left;(simp only [Act.put,ps_,i64_w,i32_w];rfl)
     refine pure_ (i:=1) (N:=some 36) (v:=?_) (a':=?_) #[T_,T_,F_,F_,F_,F_,F_,F_,F_,F_,F_,F_,F_] rfl rfl (any_of HT_.out (by kernel_rfl)) (fun _ _ _ h => h) (Or.inl ⟨by rfl,?_⟩) ?_ ?_
     rotate_left;(intro w';go_simp;with_reducible rfl);rotate_left;(simp only [Act.put,ps_,i64_w,i32_w];rfl)
     refine pure_ (i:=2) (N:=some 37) (v:=?_) (a':=?_) #[T_,T_,T_,F_,F_,F_,F_,F_,F_,F_,F_,F_,F_] rfl rfl (any_of HT_.out (by kernel_rfl)) (fun _ _ _ h => h) (Or.inl ⟨by rfl,?_⟩) ?_ ?_
     rotate_left;(intro w';go_simp;with_reducible rfl);rotate_left;(simp only [Act.put,ps_,i64_w,i32_w];rfl)
     refine pure_ (i:=3) (N:=some 38) (v:=undef) (a':=?_) #[T_,T_,T_,T_,F_,F_,F_,F_,F_,F_,F_,F_,F_] rfl rfl (any_of HT_.out (by kernel_rfl)) (fun _ _ _ h => h) (Or.inr ⟨by rfl,rfl⟩) ?_ ?_
     rotate_left
     ·simp only [Act.put,ps_,i64_w,i32_w]
      rfl
     refine pure_ (i:=4) (N:=some 39) (v:=undef) (a':=?_) #[T_,T_,T_,T_,T_,F_,F_,F_,F_,F_,F_,F_,F_] rfl rfl (any_of HT_.out (by kernel_rfl)) (fun _ _ _ h => h) (Or.inr ⟨by rfl,rfl⟩) ?_ ?_
     rotate_left
     ·simp only [Act.put,ps_,i64_w,i32_w]
      rfl
     refine pure_ (i:=5) (N:=some 40) (v:=undef) (a':=?_) #[T_,T_,T_,T_,T_,T_,F_,F_,F_,F_,F_,F_,F_] rfl rfl (any_of HT_.out (by kernel_rfl)) (fun _ _ _ h => h) (Or.inr ⟨by rfl,rfl⟩) ?_ ?_
     rotate_left
     ·simp only [Act.put,ps_,i64_w,i32_w]
      rfl
     refine pure_ (i:=6) (N:=some 41) (v:=undef) (a':=?_) #[T_,T_,T_,T_,T_,T_,T_,F_,F_,F_,F_,F_,F_] rfl rfl (any_of HT_.out (by kernel_rfl)) (fun _ _ _ h => h) (Or.inr ⟨by rfl,rfl⟩) ?_ ?_
     rotate_left
     ·simp only [Act.put,ps_,i64_w,i32_w]
      rfl
     refine pure_ (i:=7) (N:=some 42) (v:=undef) (a':=?_) #[T_,T_,T_,T_,T_,T_,T_,T_,F_,F_,F_,F_,F_] rfl rfl (any_of HT_.out (by kernel_rfl)) (fun _ _ _ h => h) (Or.inr ⟨by rfl,rfl⟩) ?_ ?_
     rotate_left
     ·simp only [Act.put,ps_,i64_w,i32_w]
      rfl
     refine pure_ (i:=8) (N:=some 43) (v:=undef) (a':=?_) #[T_,T_,T_,T_,T_,T_,T_,T_,T_,F_,F_,F_,F_] rfl rfl (any_of HT_.out (by kernel_rfl)) (fun _ _ _ h => h) (Or.inr ⟨by rfl,rfl⟩) ?_ ?_
     rotate_left
     ·simp only [Act.put,ps_,i64_w,i32_w]
      rfl
     refine pure_ (i:=9) (N:=some 44) (v:=undef) (a':=?_) #[T_,T_,T_,T_,T_,T_,T_,T_,T_,T_,F_,F_,F_] rfl rfl (any_of HT_.out (by kernel_rfl)) (fun _ _ _ h => h) (Or.inr ⟨by rfl,rfl⟩) ?_ ?_
     rotate_left
     ·simp only [Act.put,ps_,i64_w,i32_w]
      rfl
     refine pure_ (i:=10) (N:=some 45) (v:=undef) (a':=?_) #[T_,T_,T_,T_,T_,T_,T_,T_,T_,T_,T_,F_,F_] rfl rfl (any_of HT_.out (by kernel_rfl)) (fun _ _ _ h => h) (Or.inr ⟨by rfl,rfl⟩) ?_ ?_
     rotate_left
     ·simp only [Act.put,ps_,i64_w,i32_w]
      rfl
     refine pure_ (i:=11) (N:=some 46) (v:=undef) (a':=?_) #[T_,T_,T_,T_,T_,T_,T_,T_,T_,T_,T_,T_,F_] rfl rfl (any_of HT_.out (by kernel_rfl)) (fun _ _ _ h => h) (Or.inr ⟨by rfl,rfl⟩) ?_ ?_
     rotate_left
     ·simp only [Act.put,ps_,i64_w,i32_w]
      rfl
     refine pure_ (i:=12) (N:=some 47) (v:=?_) (a':=?_) #[T_,T_,T_,T_,T_,T_,T_,T_,T_,T_,T_,T_,T_] rfl rfl (any_of HT_.out (by kernel_rfl)) (fun _ _ _ h => h) (Or.inl ⟨by rfl,?_⟩) ?_ ?_
     rotate_left;(intro w';go_simp;with_reducible rfl);rotate_left;(simp only [Act.put,ps_,i64_w,i32_w];rfl)
     refine done_ (done_of HT_.out (by kernel_rfl)) ?_
     go_wp2
     go_roundw
     case rel => exact ⟨1,acc,_,_,by omega,rfl,HP2,⟨by first|exact HD.out|exact HD.out.drewN _|exact HD.out.drew⟩,⟨by first|exact HK.out|exact HK.out.drewN _|exact HK.out.drew⟩⟩
     case measure => simp [intOf]
   ·as_aux_lemma =>
     have hp : ((tokS a0_11 1 acc).bind fun s1 => (numS 1 (some (a0_0,0)) s1).bind fun s2 => putE a0_11 2 ((prmE a0_0 a0_1 a0_2 a0_3 a0_4 a0_5 a0_6 a0_7 a0_8 a0_9 a0_10).drop 2) s2) = some s_:=HP.out
     rw [show tokS a0_11 1 acc = some acc from rfl,Option.bind_some] at hp
     have hcp : wr.cell? ⟨gp,0,none⟩ = some (.int .u64 a0_0):=HKC.out gp 0 _ HZ.out.2.1 Npb.out ((kc_ BKp.out 0).trans rfl)
     have hcu : wr.cell? ⟨gu,0,none⟩ = some (.int .u64 0):=HKC.out gu 0 _ HZ.out.2.2.2.1 Nbu.out.symm ((kc_ BKu.out 0).trans rfl)
     have hcw : wr.cell? ⟨gw,1,none⟩ = some (.pointer (some ⟨gu,0,none⟩)):=HKC.out gw 1 _ HZ.out.2.2.2.2.1 Nbw.out.symm ((kc_ BKw.out 1).trans rfl)
     by_cases t0 : a0_0 = 0
     ·have HP2 : Aside0 (putE a0_11 2 ((prmE a0_0 a0_1 a0_2 a0_3 a0_4 a0_5 a0_6 a0_7 a0_8 a0_9 a0_10).drop 2) acc = some s_):=⟨by rw [show numS 1 (some (a0_0,0)) acc = some acc from if_pos t0,Option.bind_some] at hp;exact hp⟩
      clear hp
      have t0_ : (a0_0 == 0) = true:=beq_iff_eq.mpr t0
      have t1_ : (a0_0 != 0) = false:=bne_eq_false_iff_eq.mpr t0
      have T0:=am_ t0
      clear t0
      go_wp2_with (first|((with_reducible refine gate_dst (N:=23) rfl ?_);refine Kd.event_run (v:=.pointer (some ⟨gp,0,none⟩)) (w1:=wr) rfl (by kernel_rfl) ?_)|go_in)
      try go_quiet (fail)
      try go_wp2
      go_roundw
      case rel => exact ⟨2,acc,_,_,by omega,rfl,HP2,⟨by first|exact HD.out|exact HD.out.drewN _|exact HD.out.drew⟩,⟨by first|exact HK.out|exact HK.out.drewN _|exact HK.out.drew⟩⟩
      case measure => simp [intOf]
     ·rw [show numS 1 (some (a0_0,0)) acc = (varint_Put.f a0_0).bind fun p => (params_pair.f 1 p.1).bind fun q => addS acc q from if_neg t0] at hp
      obtain ⟨s2,h1,h2⟩:=Option.bind_eq_some_iff.1 hp
      obtain ⟨⟨n1,n2⟩,hn,h3⟩:=Option.bind_eq_some_iff.1 h1
      obtain ⟨q,hq,ha⟩:=Option.bind_eq_some_iff.1 h3
      unfold addS at ha
      by_cases hs : acc.size + q.size ≤ 140737488355328
      ·rw [if_pos hs] at ha
       obtain rfl:=Option.some.inj ha
       have HP2 : Aside0 (putE a0_11 2 ((prmE a0_0 a0_1 a0_2 a0_3 a0_4 a0_5 a0_6 a0_7 a0_8 a0_9 a0_10).drop 2) (acc ++ q) = some s_):=⟨h2⟩
       have HQ : Aside0 (params_pair.f 1 n1 = some q):=⟨hq⟩
       have HN:=am_ hn
       have HS:=am_ hs
       clear hp h1 h2 h3 hq hn ha hs
       have t0_ : (a0_0 == 0) = false:=beq_eq_false_iff_ne.mpr t0
       have t1_ : (a0_0 != 0) = true:=bne_iff_ne.mpr t0
       have T0:=am_ t0
       clear t0
       go_wp2_with (first|((with_reducible refine gate_dst (N:=23) rfl ?_);refine Kd.event_run (v:=.pointer (some ⟨gp,0,none⟩)) (w1:=wr) rfl (by kernel_rfl) ?_)|(go_at_call 20;(with_reducible refine (varint_Put.calls _ n1 n2 _ (tab_below HT.out (by repeat (first|(with_reducible first|exact HWR.out|apply pn_|apply pd_)|exact HWR.out))) HN.out).mono ?_);rintro e wn ⟨rfl,hb⟩;have HD2:=am_ (by first|exact HD.out.below hb|exact (HD.out.drewN _).below hb : Bldr Br gb 0 47 [p,v] acc _);have HK2:=am_ (KeptG.ofBelow (by first|exact HK.out|exact HK.out.drewN _) (hb.mono hsz) : KeptG Br gb w9 _);have HWR2:=am_ (below_step (by repeat (first|(with_reducible first|exact HWR.out|apply pn_|apply pd_)|exact HWR.out)) hb);have hsz2:=Nat.le_trans hsz hb.size;clear HD HK HWR hsz hb;have HD:=HD2;have HK:=HK2;have HWR:=HWR2;have hsz:=hsz2;clear HD2 HK2 HWR2 hsz2)|(go_at_call 19;(with_reducible refine (params_pair.calls 1 n1 q _ (tab_below HT.out (by repeat (first|(with_reducible first|exact HWR.out|apply pn_|apply pd_)|exact HWR.out))) HQ.out).mono ?_);rintro e wq ⟨rfl,hb⟩;have HD2:=am_ (by first|exact HD.out.below hb|exact (HD.out.drewN _).below hb : Bldr Br gb 0 47 [p,v] acc _);have HK2:=am_ (KeptG.ofBelow (by first|exact HK.out|exact HK.out.drewN _) (hb.mono hsz) : KeptG Br gb w9 _);have HWR2:=am_ (below_step (by repeat (first|(with_reducible first|exact HWR.out|apply pn_|apply pd_)|exact HWR.out)) hb);have hsz2:=Nat.le_trans hsz hb.size;clear HD HK HWR hsz hb;have HD:=HD2;have HK:=HK2;have HWR:=HWR2;have hsz:=hsz2;clear HD2 HK2 HWR2 hsz2)|(go_at_call 18;refine (bldr_write Br gb 0 47 [p,v] acc q _ put_T HD.out HS.out hsz).mono ?_;rintro e wz ⟨rfl,⟨v4,hd4⟩,hk4⟩;have HD4:=am_ hd4;have HK4:=am_ (HK.out.trans hk4);clear hd4 hk4)|go_in)
       try go_quiet (fail)
       try go_wp2_with (first|(go_at_call 20;(with_reducible refine (varint_Put.calls _ n1 n2 _ (tab_below HT.out (by repeat (first|(with_reducible first|exact HWR.out|apply pn_|apply pd_)|exact HWR.out))) HN.out).mono ?_);rintro e wn ⟨rfl,hb⟩;have HD2:=am_ (by first|exact HD.out.below hb|exact (HD.out.drewN _).below hb : Bldr Br gb 0 47 [p,v] acc _);have HK2:=am_ (KeptG.ofBelow (by first|exact HK.out|exact HK.out.drewN _) (hb.mono hsz) : KeptG Br gb w9 _);have HWR2:=am_ (below_step (by repeat (first|(with_reducible first|exact HWR.out|apply pn_|apply pd_)|exact HWR.out)) hb);have hsz2:=Nat.le_trans hsz hb.size;clear HD HK HWR hsz hb;have HD:=HD2;have HK:=HK2;have HWR:=HWR2;have hsz:=hsz2;clear HD2 HK2 HWR2 hsz2)|(go_at_call 19;(with_reducible refine (params_pair.calls 1 n1 q _ (tab_below HT.out (by repeat (first|(with_reducible first|exact HWR.out|apply pn_|apply pd_)|exact HWR.out))) HQ.out).mono ?_);rintro e wq ⟨rfl,hb⟩;have HD2:=am_ (by first|exact HD.out.below hb|exact (HD.out.drewN _).below hb : Bldr Br gb 0 47 [p,v] acc _);have HK2:=am_ (KeptG.ofBelow (by first|exact HK.out|exact HK.out.drewN _) (hb.mono hsz) : KeptG Br gb w9 _);have HWR2:=am_ (below_step (by repeat (first|(with_reducible first|exact HWR.out|apply pn_|apply pd_)|exact HWR.out)) hb);have hsz2:=Nat.le_trans hsz hb.size;clear HD HK HWR hsz hb;have HD:=HD2;have HK:=HK2;have HWR:=HWR2;have hsz:=hsz2;clear HD2 HK2 HWR2 hsz2)|(go_at_call 18;refine (bldr_write Br gb 0 47 [p,v] acc q _ put_T HD.out HS.out hsz).mono ?_;rintro e wz ⟨rfl,⟨v4,hd4⟩,hk4⟩;have HD4:=am_ hd4;have HK4:=am_ (HK.out.trans hk4);clear hd4 hk4)|go_in)
       go_roundw
       case rel => exact ⟨2,acc ++ q,_,_,by omega,rfl,HP2,⟨by first|exact HD4.out|exact HD4.out.drewN _|exact HD4.out.drew⟩,⟨by first|exact HK4.out|exact HK4.out.drewN _|exact HK4.out.drew⟩⟩
       case measure => simp [intOf]
      ·rw [if_neg hs] at ha
       cases ha
   ·as_aux_lemma =>
     have hp : ((tokS a0_11 2 acc).bind fun s1 => (numS 2 (none) s1).bind fun s2 => putE a0_11 3 ((prmE a0_0 a0_1 a0_2 a0_3 a0_4 a0_5 a0_6 a0_7 a0_8 a0_9 a0_10).drop 3) s2) = some s_:=HP.out
     have hc11 : wr.cell? ⟨gp,11,none⟩ = some (.string a0_11):=HKC.out gp 11 _ HZ.out.2.1 Npb.out ((kc_ BKp.out 11).trans rfl)
     by_cases t0 : a0_11.toList = ([] : List UInt8)
     ·have HP2 : Aside0 (putE a0_11 3 ((prmE a0_0 a0_1 a0_2 a0_3 a0_4 a0_5 a0_6 a0_7 a0_8 a0_9 a0_10).drop 3) acc = some s_):=⟨by rw [show tokS a0_11 2 acc = some acc from if_pos t0,Option.bind_some,show numS 2 none acc = some acc from rfl,Option.bind_some] at hp;exact hp⟩
      clear hp
      have t0_ : (a0_11.toList == ([] : List UInt8)) = true:=beq_iff_eq.mpr t0
      have t1_ : (a0_11.toList != ([] : List UInt8)) = false:=bne_eq_false_iff_eq.mpr t0
      clear t0
      go_upto_region 12 with (first|((with_reducible refine gate_dst (N:=23) rfl ?_);refine Kd.event_run (v:=.pointer none) (w1:=wr) rfl (by kernel_rfl) ?_)|go_in)
      have HT_ : Aside0 (rtab .any (opsOf Tryd.f9 12) = rtab .any (opsOf Tryd.f9 12)):=⟨rfl⟩
      refine start_ (n:=13) (S:=fun _ => True) (ds:=[]) #[F_,F_,F_,F_,F_,F_,F_,F_,F_,F_,F_,F_,F_] (by kernel_rfl) rfl rfl trivial (fun hHeld => ?_)
      refine pure_ (i:=0) (N:=some 35) (v:=?_) (a':=?_) #[T_,F_,F_,F_,F_,F_,F_,F_,F_,F_,F_,F_,F_] rfl rfl (any_of HT_.out (by kernel_rfl)) (fun _ _ _ h => h) (Or.inl ⟨by rfl,?_⟩) ?_ ?_
      rotate_left;(intro w';go_simp;with_reducible rfl);rotate_left;(simp only [Act.put,ps_,i64_w,i32_w];rfl)
      refine pure_ (i:=1) (N:=some 36) (v:=?_) (a':=?_) #[T_,T_,F_,F_,F_,F_,F_,F_,F_,F_,F_,F_,F_] rfl rfl (any_of HT_.out (by kernel_rfl)) (fun _ _ _ h => h) (Or.inl ⟨by rfl,?_⟩) ?_ ?_
      rotate_left;(intro w';go_simp;with_reducible rfl);rotate_left;(simp only [Act.put,ps_,i64_w,i32_w];rfl)
      refine pure_ (i:=2) (N:=some 37) (v:=?_) (a':=?_) #[T_,T_,T_,F_,F_,F_,F_,F_,F_,F_,F_,F_,F_] rfl rfl (any_of HT_.out (by kernel_rfl)) (fun _ _ _ h => h) (Or.inl ⟨by rfl,?_⟩) ?_ ?_
      rotate_left;(intro w';go_simp;with_reducible rfl);rotate_left;(simp only [Act.put,ps_,i64_w,i32_w];rfl)
      refine pure_ (i:=3) (N:=some 38) (v:=undef) (a':=?_) #[T_,T_,T_,T_,F_,F_,F_,F_,F_,F_,F_,F_,F_] rfl rfl (any_of HT_.out (by kernel_rfl)) (fun _ _ _ h => h) (Or.inr ⟨by rfl,rfl⟩) ?_ ?_
      rotate_left
      ·simp only [Act.put,ps_,i64_w,i32_w]
       rfl
      refine pure_ (i:=4) (N:=some 39) (v:=undef) (a':=?_) #[T_,T_,T_,T_,T_,F_,F_,F_,F_,F_,F_,F_,F_] rfl rfl (any_of HT_.out (by kernel_rfl)) (fun _ _ _ h => h) (Or.inr ⟨by rfl,rfl⟩) ?_ ?_
      rotate_left
      ·simp only [Act.put,ps_,i64_w,i32_w]
       rfl
      refine pure_ (i:=5) (N:=some 40) (v:=undef) (a':=?_) #[T_,T_,T_,T_,T_,T_,F_,F_,F_,F_,F_,F_,F_] rfl rfl (any_of HT_.out (by kernel_rfl)) (fun _ _ _ h => h) (Or.inr ⟨by rfl,rfl⟩) ?_ ?_
      rotate_left
      ·simp only [Act.put,ps_,i64_w,i32_w]
       rfl
      refine pure_ (i:=6) (N:=some 41) (v:=undef) (a':=?_) #[T_,T_,T_,T_,T_,T_,T_,F_,F_,F_,F_,F_,F_] rfl rfl (any_of HT_.out (by kernel_rfl)) (fun _ _ _ h => h) (Or.inr ⟨by rfl,rfl⟩) ?_ ?_
      rotate_left
      ·simp only [Act.put,ps_,i64_w,i32_w]
       rfl
      refine pure_ (i:=7) (N:=some 42) (v:=undef) (a':=?_) #[T_,T_,T_,T_,T_,T_,T_,T_,F_,F_,F_,F_,F_] rfl rfl (any_of HT_.out (by kernel_rfl)) (fun _ _ _ h => h) (Or.inr ⟨by rfl,rfl⟩) ?_ ?_
      rotate_left
      ·simp only [Act.put,ps_,i64_w,i32_w]
       rfl
      refine pure_ (i:=8) (N:=some 43) (v:=undef) (a':=?_) #[T_,T_,T_,T_,T_,T_,T_,T_,T_,F_,F_,F_,F_] rfl rfl (any_of HT_.out (by kernel_rfl)) (fun _ _ _ h => h) (Or.inr ⟨by rfl,rfl⟩) ?_ ?_
      rotate_left
      ·simp only [Act.put,ps_,i64_w,i32_w]
       rfl
      refine pure_ (i:=9) (N:=some 44) (v:=undef) (a':=?_) #[T_,T_,T_,T_,T_,T_,T_,T_,T_,T_,F_,F_,F_] rfl rfl (any_of HT_.out (by kernel_rfl)) (fun _ _ _ h => h) (Or.inr ⟨by rfl,rfl⟩) ?_ ?_
      rotate_left
      ·simp only [Act.put,ps_,i64_w,i32_w]
       rfl
      refine pure_ (i:=10) (N:=some 45) (v:=undef) (a':=?_) #[T_,T_,T_,T_,T_,T_,T_,T_,T_,T_,T_,F_,F_] rfl rfl (any_of HT_.out (by kernel_rfl)) (fun _ _ _ h => h) (Or.inr ⟨by rfl,rfl⟩) ?_ ?_
      rotate_left
      ·simp only [Act.put,ps_,i64_w,i32_w]
       rfl
      refine pure_ (i:=11) (N:=some 46) (v:=undef) (a':=?_) #[T_,T_,T_,T_,T_,T_,T_,T_,T_,T_,T_,T_,F_] rfl rfl (any_of HT_.out (by kernel_rfl)) (fun _ _ _ h => h) (Or.inr ⟨by rfl,rfl⟩) ?_ ?_
      rotate_left
      ·simp only [Act.put,ps_,i64_w,i32_w]
       rfl
      refine pure_ (i:=12) (N:=some 47) (v:=?_) (a':=?_) #[T_,T_,T_,T_,T_,T_,T_,T_,T_,T_,T_,T_,T_] rfl rfl (any_of HT_.out (by kernel_rfl)) (fun _ _ _ h => h) (Or.inl ⟨by rfl,?_⟩) ?_ ?_
      rotate_left;(intro w';go_simp;with_reducible rfl);rotate_left;(simp only [Act.put,ps_,i64_w,i32_w];rfl)
      refine done_ (done_of HT_.out (by kernel_rfl)) ?_
      go_wp2
      go_roundw
      case rel => exact ⟨3,acc,_,_,by omega,rfl,HP2,⟨by first|exact HD.out|exact HD.out.drewN _|exact HD.out.drew⟩,⟨by first|exact HK.out|exact HK.out.drewN _|exact HK.out.drew⟩⟩
      case measure => simp [intOf]
     ·rw [show tokS a0_11 2 acc = (params_pair.f 2 a0_11).bind fun q => addS acc q from if_neg t0] at hp
      obtain ⟨s1,h1,h2⟩:=Option.bind_eq_some_iff.1 hp
      obtain ⟨q,hq,ha⟩:=Option.bind_eq_some_iff.1 h1
      unfold addS at ha
      by_cases hs : acc.size + q.size ≤ 140737488355328
      ·rw [if_pos hs] at ha
       obtain rfl:=Option.some.inj ha
       have HP2 : Aside0 (putE a0_11 3 ((prmE a0_0 a0_1 a0_2 a0_3 a0_4 a0_5 a0_6 a0_7 a0_8 a0_9 a0_10).drop 3) (acc ++ q) = some s_):=⟨by rw [show numS 2 none (acc ++ q) = some (acc ++ q) from rfl,Option.bind_some] at h2;exact h2⟩
       have HQ:=am_ hq
       have HS:=am_ hs
       clear hp h1 h2 hq ha hs
       have t0_ : (a0_11.toList == ([] : List UInt8)) = false:=beq_eq_false_iff_ne.mpr t0
       have t1_ : (a0_11.toList != ([] : List UInt8)) = true:=bne_iff_ne.mpr t0
       clear t0
       go_upto_region 12 with (first|((with_reducible refine gate_dst (N:=23) rfl ?_);refine Kd.event_run (v:=.pointer none) (w1:=wr) rfl (by kernel_rfl) ?_)|(go_at_call 19;(with_reducible refine (params_pair.calls 2 a0_11 q _ (tab_below HT.out (by repeat (first|(with_reducible first|exact HWR.out|apply pn_|apply pd_)|exact HWR.out))) HQ.out).mono ?_);rintro e wq ⟨rfl,hb⟩;have HD2:=am_ (by first|exact HD.out.below hb|exact (HD.out.drewN _).below hb : Bldr Br gb 0 47 [p,v] acc _);have HK2:=am_ (KeptG.ofBelow (by first|exact HK.out|exact HK.out.drewN _) (hb.mono hsz) : KeptG Br gb w9 _);have HWR2:=am_ (below_step (by repeat (first|(with_reducible first|exact HWR.out|apply pn_|apply pd_)|exact HWR.out)) hb);have hsz2:=Nat.le_trans hsz hb.size;clear HD HK HWR hsz hb;have HD:=HD2;have HK:=HK2;have HWR:=HWR2;have hsz:=hsz2;clear HD2 HK2 HWR2 hsz2)|(go_at_call 18;refine (bldr_write Br gb 0 47 [p,v] acc q _ put_T HD.out HS.out hsz).mono ?_;rintro e wz ⟨rfl,⟨v4,hd4⟩,hk4⟩;have HD4:=am_ hd4;have HK4:=am_ (HK.out.trans hk4);clear hd4 hk4)|go_in)
       have HT_ : Aside0 (rtab .any (opsOf Tryd.f9 12) = rtab .any (opsOf Tryd.f9 12)):=⟨rfl⟩
       refine start_ (n:=13) (S:=fun _ => True) (ds:=[]) #[F_,F_,F_,F_,F_,F_,F_,F_,F_,F_,F_,F_,F_] (by kernel_rfl) rfl rfl trivial (fun hHeld => ?_)
       refine pure_ (i:=0) (N:=some 35) (v:=?_) (a':=?_) #[T_,F_,F_,F_,F_,F_,F_,F_,F_,F_,F_,F_,F_] rfl rfl (any_of HT_.out (by kernel_rfl)) (fun _ _ _ h => h) (Or.inl ⟨by rfl,?_⟩) ?_ ?_
       rotate_left;(intro w';go_simp;with_reducible rfl);rotate_left;(simp only [Act.put,ps_,i64_w,i32_w];rfl)
       refine pure_ (i:=1) (N:=some 36) (v:=?_) (a':=?_) #[T_,T_,F_,F_,F_,F_,F_,F_,F_,F_,F_,F_,F_] rfl rfl (any_of HT_.out (by kernel_rfl)) (fun _ _ _ h => h) (Or.inl ⟨by rfl,?_⟩) ?_ ?_
       rotate_left;(intro w';go_simp;with_reducible rfl);rotate_left;(simp only [Act.put,ps_,i64_w,i32_w];rfl)
       refine pure_ (i:=2) (N:=some 37) (v:=?_) (a':=?_) #[T_,T_,T_,F_,F_,F_,F_,F_,F_,F_,F_,F_,F_] rfl rfl (any_of HT_.out (by kernel_rfl)) (fun _ _ _ h => h) (Or.inl ⟨by rfl,?_⟩) ?_ ?_
       rotate_left;(intro w';go_simp;with_reducible rfl);rotate_left;(simp only [Act.put,ps_,i64_w,i32_w];rfl)
       refine pure_ (i:=3) (N:=some 38) (v:=undef) (a':=?_) #[T_,T_,T_,T_,F_,F_,F_,F_,F_,F_,F_,F_,F_] rfl rfl (any_of HT_.out (by kernel_rfl)) (fun _ _ _ h => h) (Or.inr ⟨by rfl,rfl⟩) ?_ ?_
       rotate_left
       ·simp only [Act.put,ps_,i64_w,i32_w]
        rfl
       refine pure_ (i:=4) (N:=some 39) (v:=undef) (a':=?_) #[T_,T_,T_,T_,T_,F_,F_,F_,F_,F_,F_,F_,F_] rfl rfl (any_of HT_.out (by kernel_rfl)) (fun _ _ _ h => h) (Or.inr ⟨by rfl,rfl⟩) ?_ ?_
       rotate_left
       ·simp only [Act.put,ps_,i64_w,i32_w]
        rfl
       refine pure_ (i:=5) (N:=some 40) (v:=undef) (a':=?_) #[T_,T_,T_,T_,T_,T_,F_,F_,F_,F_,F_,F_,F_] rfl rfl (any_of HT_.out (by kernel_rfl)) (fun _ _ _ h => h) (Or.inr ⟨by rfl,rfl⟩) ?_ ?_
       rotate_left
       ·simp only [Act.put,ps_,i64_w,i32_w]
        rfl
       refine pure_ (i:=6) (N:=some 41) (v:=undef) (a':=?_) #[T_,T_,T_,T_,T_,T_,T_,F_,F_,F_,F_,F_,F_] rfl rfl (any_of HT_.out (by kernel_rfl)) (fun _ _ _ h => h) (Or.inr ⟨by rfl,rfl⟩) ?_ ?_
       rotate_left
       ·simp only [Act.put,ps_,i64_w,i32_w]
        rfl
       refine pure_ (i:=7) (N:=some 42) (v:=undef) (a':=?_) #[T_,T_,T_,T_,T_,T_,T_,T_,F_,F_,F_,F_,F_] rfl rfl (any_of HT_.out (by kernel_rfl)) (fun _ _ _ h => h) (Or.inr ⟨by rfl,rfl⟩) ?_ ?_
       rotate_left
       ·simp only [Act.put,ps_,i64_w,i32_w]
        rfl
       refine pure_ (i:=8) (N:=some 43) (v:=undef) (a':=?_) #[T_,T_,T_,T_,T_,T_,T_,T_,T_,F_,F_,F_,F_] rfl rfl (any_of HT_.out (by kernel_rfl)) (fun _ _ _ h => h) (Or.inr ⟨by rfl,rfl⟩) ?_ ?_
       rotate_left
       ·simp only [Act.put,ps_,i64_w,i32_w]
        rfl
       refine pure_ (i:=9) (N:=some 44) (v:=undef) (a':=?_) #[T_,T_,T_,T_,T_,T_,T_,T_,T_,T_,F_,F_,F_] rfl rfl (any_of HT_.out (by kernel_rfl)) (fun _ _ _ h => h) (Or.inr ⟨by rfl,rfl⟩) ?_ ?_
       rotate_left
       ·simp only [Act.put,ps_,i64_w,i32_w]
        rfl
       refine pure_ (i:=10) (N:=some 45) (v:=undef) (a':=?_) #[T_,T_,T_,T_,T_,T_,T_,T_,T_,T_,T_,F_,F_] rfl rfl (any_of HT_.out (by kernel_rfl)) (fun _ _ _ h => h) (Or.inr ⟨by rfl,rfl⟩) ?_ ?_
       rotate_left
       ·simp only [Act.put,ps_,i64_w,i32_w]
        rfl
       refine pure_ (i:=11) (N:=some 46) (v:=undef) (a':=?_) #[T_,T_,T_,T_,T_,T_,T_,T_,T_,T_,T_,T_,F_] rfl rfl (any_of HT_.out (by kernel_rfl)) (fun _ _ _ h => h) (Or.inr ⟨by rfl,rfl⟩) ?_ ?_
       rotate_left
       ·simp only [Act.put,ps_,i64_w,i32_w]
        rfl
       refine pure_ (i:=12) (N:=some 47) (v:=?_) (a':=?_) #[T_,T_,T_,T_,T_,T_,T_,T_,T_,T_,T_,T_,T_] rfl rfl (any_of HT_.out (by kernel_rfl)) (fun _ _ _ h => h) (Or.inl ⟨by rfl,?_⟩) ?_ ?_
       rotate_left;(intro w';go_simp;with_reducible rfl);rotate_left;(simp only [Act.put,ps_,i64_w,i32_w];rfl)
       refine done_ (done_of HT_.out (by kernel_rfl)) ?_
       go_wp2
       go_roundw
       case rel => exact ⟨3,acc ++ q,_,_,by omega,rfl,HP2,⟨by first|exact HD4.out|exact HD4.out.drewN _|exact HD4.out.drew⟩,⟨by first|exact HK4.out|exact HK4.out.drewN _|exact HK4.out.drew⟩⟩
       case measure => simp [intOf]
      ·rw [if_neg hs] at ha
       cases ha
   ·as_aux_lemma =>
     have hp : ((tokS a0_11 3 acc).bind fun s1 => (numS 3 (some (a0_1,65527)) s1).bind fun s2 => putE a0_11 4 ((prmE a0_0 a0_1 a0_2 a0_3 a0_4 a0_5 a0_6 a0_7 a0_8 a0_9 a0_10).drop 4) s2) = some s_:=HP.out
     rw [show tokS a0_11 3 acc = some acc from rfl,Option.bind_some] at hp
     have hcp : wr.cell? ⟨gp,1,none⟩ = some (.int .u64 a0_1):=HKC.out gp 1 _ HZ.out.2.1 Npb.out ((kc_ BKp.out 1).trans rfl)
     have hcu : wr.cell? ⟨gu,1,none⟩ = some (.int .u64 65527):=HKC.out gu 1 _ HZ.out.2.2.2.1 Nbu.out.symm ((kc_ BKu.out 1).trans rfl)
     have hcw : wr.cell? ⟨gw,3,none⟩ = some (.pointer (some ⟨gu,1,none⟩)):=HKC.out gw 3 _ HZ.out.2.2.2.2.1 Nbw.out.symm ((kc_ BKw.out 3).trans rfl)
     by_cases t0 : a0_1 = 65527
     ·have HP2 : Aside0 (putE a0_11 4 ((prmE a0_0 a0_1 a0_2 a0_3 a0_4 a0_5 a0_6 a0_7 a0_8 a0_9 a0_10).drop 4) acc = some s_):=⟨by rw [show numS 3 (some (a0_1,65527)) acc = some acc from if_pos t0,Option.bind_some] at hp;exact hp⟩
      clear hp
      have t0_ : (a0_1 == 65527) = true:=beq_iff_eq.mpr t0
      have t1_ : (a0_1 != 65527) = false:=bne_eq_false_iff_eq.mpr t0
      have T0:=am_ t0
      clear t0
      go_wp2_with (first|((with_reducible refine gate_dst (N:=23) rfl ?_);refine Kd.event_run (v:=.pointer (some ⟨gp,1,none⟩)) (w1:=wr) rfl (by kernel_rfl) ?_)|go_in)
      try go_quiet (fail)
      try go_wp2
      go_roundw
      case rel => exact ⟨4,acc,_,_,by omega,rfl,HP2,⟨by first|exact HD.out|exact HD.out.drewN _|exact HD.out.drew⟩,⟨by first|exact HK.out|exact HK.out.drewN _|exact HK.out.drew⟩⟩
      case measure => simp [intOf]
     ·rw [show numS 3 (some (a0_1,65527)) acc = (varint_Put.f a0_1).bind fun p => (params_pair.f 3 p.1).bind fun q => addS acc q from if_neg t0] at hp
      obtain ⟨s2,h1,h2⟩:=Option.bind_eq_some_iff.1 hp
      obtain ⟨⟨n1,n2⟩,hn,h3⟩:=Option.bind_eq_some_iff.1 h1
      obtain ⟨q,hq,ha⟩:=Option.bind_eq_some_iff.1 h3
      unfold addS at ha
      by_cases hs : acc.size + q.size ≤ 140737488355328
      ·rw [if_pos hs] at ha
       obtain rfl:=Option.some.inj ha
       have HP2 : Aside0 (putE a0_11 4 ((prmE a0_0 a0_1 a0_2 a0_3 a0_4 a0_5 a0_6 a0_7 a0_8 a0_9 a0_10).drop 4) (acc ++ q) = some s_):=⟨h2⟩
       have HQ : Aside0 (params_pair.f 3 n1 = some q):=⟨hq⟩
       have HN:=am_ hn
       have HS:=am_ hs
       clear hp h1 h2 h3 hq hn ha hs
       have t0_ : (a0_1 == 65527) = false:=beq_eq_false_iff_ne.mpr t0
       have t1_ : (a0_1 != 65527) = true:=bne_iff_ne.mpr t0
       have T0:=am_ t0
       clear t0
       go_wp2_with (first|((with_reducible refine gate_dst (N:=23) rfl ?_);refine Kd.event_run (v:=.pointer (some ⟨gp,1,none⟩)) (w1:=wr) rfl (by kernel_rfl) ?_)|(go_at_call 20;(with_reducible refine (varint_Put.calls _ n1 n2 _ (tab_below HT.out (by repeat (first|(with_reducible first|exact HWR.out|apply pn_|apply pd_)|exact HWR.out))) HN.out).mono ?_);rintro e wn ⟨rfl,hb⟩;have HD2:=am_ (by first|exact HD.out.below hb|exact (HD.out.drewN _).below hb : Bldr Br gb 0 47 [p,v] acc _);have HK2:=am_ (KeptG.ofBelow (by first|exact HK.out|exact HK.out.drewN _) (hb.mono hsz) : KeptG Br gb w9 _);have HWR2:=am_ (below_step (by repeat (first|(with_reducible first|exact HWR.out|apply pn_|apply pd_)|exact HWR.out)) hb);have hsz2:=Nat.le_trans hsz hb.size;clear HD HK HWR hsz hb;have HD:=HD2;have HK:=HK2;have HWR:=HWR2;have hsz:=hsz2;clear HD2 HK2 HWR2 hsz2)|(go_at_call 19;(with_reducible refine (params_pair.calls 3 n1 q _ (tab_below HT.out (by repeat (first|(with_reducible first|exact HWR.out|apply pn_|apply pd_)|exact HWR.out))) HQ.out).mono ?_);rintro e wq ⟨rfl,hb⟩;have HD2:=am_ (by first|exact HD.out.below hb|exact (HD.out.drewN _).below hb : Bldr Br gb 0 47 [p,v] acc _);have HK2:=am_ (KeptG.ofBelow (by first|exact HK.out|exact HK.out.drewN _) (hb.mono hsz) : KeptG Br gb w9 _);have HWR2:=am_ (below_step (by repeat (first|(with_reducible first|exact HWR.out|apply pn_|apply pd_)|exact HWR.out)) hb);have hsz2:=Nat.le_trans hsz hb.size;clear HD HK HWR hsz hb;have HD:=HD2;have HK:=HK2;have HWR:=HWR2;have hsz:=hsz2;clear HD2 HK2 HWR2 hsz2)|(go_at_call 18;refine (bldr_write Br gb 0 47 [p,v] acc q _ put_T HD.out HS.out hsz).mono ?_;rintro e wz ⟨rfl,⟨v4,hd4⟩,hk4⟩;have HD4:=am_ hd4;have HK4:=am_ (HK.out.trans hk4);clear hd4 hk4)|go_in)
       try go_quiet (fail)
       try go_wp2_with (first|(go_at_call 20;(with_reducible refine (varint_Put.calls _ n1 n2 _ (tab_below HT.out (by repeat (first|(with_reducible first|exact HWR.out|apply pn_|apply pd_)|exact HWR.out))) HN.out).mono ?_);rintro e wn ⟨rfl,hb⟩;have HD2:=am_ (by first|exact HD.out.below hb|exact (HD.out.drewN _).below hb : Bldr Br gb 0 47 [p,v] acc _);have HK2:=am_ (KeptG.ofBelow (by first|exact HK.out|exact HK.out.drewN _) (hb.mono hsz) : KeptG Br gb w9 _);have HWR2:=am_ (below_step (by repeat (first|(with_reducible first|exact HWR.out|apply pn_|apply pd_)|exact HWR.out)) hb);have hsz2:=Nat.le_trans hsz hb.size;clear HD HK HWR hsz hb;have HD:=HD2;have HK:=HK2;have HWR:=HWR2;have hsz:=hsz2;clear HD2 HK2 HWR2 hsz2)|(go_at_call 19;(with_reducible refine (params_pair.calls 3 n1 q _ (tab_below HT.out (by repeat (first|(with_reducible first|exact HWR.out|apply pn_|apply pd_)|exact HWR.out))) HQ.out).mono ?_);rintro e wq ⟨rfl,hb⟩;have HD2:=am_ (by first|exact HD.out.below hb|exact (HD.out.drewN _).below hb : Bldr Br gb 0 47 [p,v] acc _);have HK2:=am_ (KeptG.ofBelow (by first|exact HK.out|exact HK.out.drewN _) (hb.mono hsz) : KeptG Br gb w9 _);have HWR2:=am_ (below_step (by repeat (first|(with_reducible first|exact HWR.out|apply pn_|apply pd_)|exact HWR.out)) hb);have hsz2:=Nat.le_trans hsz hb.size;clear HD HK HWR hsz hb;have HD:=HD2;have HK:=HK2;have HWR:=HWR2;have hsz:=hsz2;clear HD2 HK2 HWR2 hsz2)|(go_at_call 18;refine (bldr_write Br gb 0 47 [p,v] acc q _ put_T HD.out HS.out hsz).mono ?_;rintro e wz ⟨rfl,⟨v4,hd4⟩,hk4⟩;have HD4:=am_ hd4;have HK4:=am_ (HK.out.trans hk4);clear hd4 hk4)|go_in)
       go_roundw
       case rel => exact ⟨4,acc ++ q,_,_,by omega,rfl,HP2,⟨by first|exact HD4.out|exact HD4.out.drewN _|exact HD4.out.drew⟩,⟨by first|exact HK4.out|exact HK4.out.drewN _|exact HK4.out.drew⟩⟩
       case measure => simp [intOf]
      ·rw [if_neg hs] at ha
       cases ha
   ·as_aux_lemma =>
     have hp : ((tokS a0_11 4 acc).bind fun s1 => (numS 4 (some (a0_2,0)) s1).bind fun s2 => putE a0_11 5 ((prmE a0_0 a0_1 a0_2 a0_3 a0_4 a0_5 a0_6 a0_7 a0_8 a0_9 a0_10).drop 5) s2) = some s_:=HP.out
     rw [show tokS a0_11 4 acc = some acc from rfl,Option.bind_some] at hp
     have hcp : wr.cell? ⟨gp,2,none⟩ = some (.int .u64 a0_2):=HKC.out gp 2 _ HZ.out.2.1 Npb.out ((kc_ BKp.out 2).trans rfl)
     have hcu : wr.cell? ⟨gu,2,none⟩ = some (.int .u64 0):=HKC.out gu 2 _ HZ.out.2.2.2.1 Nbu.out.symm ((kc_ BKu.out 2).trans rfl)
     have hcw : wr.cell? ⟨gw,4,none⟩ = some (.pointer (some ⟨gu,2,none⟩)):=HKC.out gw 4 _ HZ.out.2.2.2.2.1 Nbw.out.symm ((kc_ BKw.out 4).trans rfl)
     by_cases t0 : a0_2 = 0
     ·have HP2 : Aside0 (putE a0_11 5 ((prmE a0_0 a0_1 a0_2 a0_3 a0_4 a0_5 a0_6 a0_7 a0_8 a0_9 a0_10).drop 5) acc = some s_):=⟨by rw [show numS 4 (some (a0_2,0)) acc = some acc from if_pos t0,Option.bind_some] at hp;exact hp⟩
      clear hp
      have t0_ : (a0_2 == 0) = true:=beq_iff_eq.mpr t0
      have t1_ : (a0_2 != 0) = false:=bne_eq_false_iff_eq.mpr t0
      have T0:=am_ t0
      clear t0
      go_wp2_with (first|((with_reducible refine gate_dst (N:=23) rfl ?_);refine Kd.event_run (v:=.pointer (some ⟨gp,2,none⟩)) (w1:=wr) rfl (by kernel_rfl) ?_)|go_in)
      try go_quiet (fail)
      try go_wp2
      go_roundw
      case rel => exact ⟨5,acc,_,_,by omega,rfl,HP2,⟨by first|exact HD.out|exact HD.out.drewN _|exact HD.out.drew⟩,⟨by first|exact HK.out|exact HK.out.drewN _|exact HK.out.drew⟩⟩
      case measure => simp [intOf]
     ·rw [show numS 4 (some (a0_2,0)) acc = (varint_Put.f a0_2).bind fun p => (params_pair.f 4 p.1).bind fun q => addS acc q from if_neg t0] at hp
      obtain ⟨s2,h1,h2⟩:=Option.bind_eq_some_iff.1 hp
      obtain ⟨⟨n1,n2⟩,hn,h3⟩:=Option.bind_eq_some_iff.1 h1
      obtain ⟨q,hq,ha⟩:=Option.bind_eq_some_iff.1 h3
      unfold addS at ha
      by_cases hs : acc.size + q.size ≤ 140737488355328
      ·rw [if_pos hs] at ha
       obtain rfl:=Option.some.inj ha
       have HP2 : Aside0 (putE a0_11 5 ((prmE a0_0 a0_1 a0_2 a0_3 a0_4 a0_5 a0_6 a0_7 a0_8 a0_9 a0_10).drop 5) (acc ++ q) = some s_):=⟨h2⟩
       have HQ : Aside0 (params_pair.f 4 n1 = some q):=⟨hq⟩
       have HN:=am_ hn
       have HS:=am_ hs
       clear hp h1 h2 h3 hq hn ha hs
       have t0_ : (a0_2 == 0) = false:=beq_eq_false_iff_ne.mpr t0
       have t1_ : (a0_2 != 0) = true:=bne_iff_ne.mpr t0
       have T0:=am_ t0
       clear t0
       go_wp2_with (first|((with_reducible refine gate_dst (N:=23) rfl ?_);refine Kd.event_run (v:=.pointer (some ⟨gp,2,none⟩)) (w1:=wr) rfl (by kernel_rfl) ?_)|(go_at_call 20;(with_reducible refine (varint_Put.calls _ n1 n2 _ (tab_below HT.out (by repeat (first|(with_reducible first|exact HWR.out|apply pn_|apply pd_)|exact HWR.out))) HN.out).mono ?_);rintro e wn ⟨rfl,hb⟩;have HD2:=am_ (by first|exact HD.out.below hb|exact (HD.out.drewN _).below hb : Bldr Br gb 0 47 [p,v] acc _);have HK2:=am_ (KeptG.ofBelow (by first|exact HK.out|exact HK.out.drewN _) (hb.mono hsz) : KeptG Br gb w9 _);have HWR2:=am_ (below_step (by repeat (first|(with_reducible first|exact HWR.out|apply pn_|apply pd_)|exact HWR.out)) hb);have hsz2:=Nat.le_trans hsz hb.size;clear HD HK HWR hsz hb;have HD:=HD2;have HK:=HK2;have HWR:=HWR2;have hsz:=hsz2;clear HD2 HK2 HWR2 hsz2)|(go_at_call 19;(with_reducible refine (params_pair.calls 4 n1 q _ (tab_below HT.out (by repeat (first|(with_reducible first|exact HWR.out|apply pn_|apply pd_)|exact HWR.out))) HQ.out).mono ?_);rintro e wq ⟨rfl,hb⟩;have HD2:=am_ (by first|exact HD.out.below hb|exact (HD.out.drewN _).below hb : Bldr Br gb 0 47 [p,v] acc _);have HK2:=am_ (KeptG.ofBelow (by first|exact HK.out|exact HK.out.drewN _) (hb.mono hsz) : KeptG Br gb w9 _);have HWR2:=am_ (below_step (by repeat (first|(with_reducible first|exact HWR.out|apply pn_|apply pd_)|exact HWR.out)) hb);have hsz2:=Nat.le_trans hsz hb.size;clear HD HK HWR hsz hb;have HD:=HD2;have HK:=HK2;have HWR:=HWR2;have hsz:=hsz2;clear HD2 HK2 HWR2 hsz2)|(go_at_call 18;refine (bldr_write Br gb 0 47 [p,v] acc q _ put_T HD.out HS.out hsz).mono ?_;rintro e wz ⟨rfl,⟨v4,hd4⟩,hk4⟩;have HD4:=am_ hd4;have HK4:=am_ (HK.out.trans hk4);clear hd4 hk4)|go_in)
       try go_quiet (fail)
       try go_wp2_with (first|(go_at_call 20;(with_reducible refine (varint_Put.calls _ n1 n2 _ (tab_below HT.out (by repeat (first|(with_reducible first|exact HWR.out|apply pn_|apply pd_)|exact HWR.out))) HN.out).mono ?_);rintro e wn ⟨rfl,hb⟩;have HD2:=am_ (by first|exact HD.out.below hb|exact (HD.out.drewN _).below hb : Bldr Br gb 0 47 [p,v] acc _);have HK2:=am_ (KeptG.ofBelow (by first|exact HK.out|exact HK.out.drewN _) (hb.mono hsz) : KeptG Br gb w9 _);have HWR2:=am_ (below_step (by repeat (first|(with_reducible first|exact HWR.out|apply pn_|apply pd_)|exact HWR.out)) hb);have hsz2:=Nat.le_trans hsz hb.size;clear HD HK HWR hsz hb;have HD:=HD2;have HK:=HK2;have HWR:=HWR2;have hsz:=hsz2;clear HD2 HK2 HWR2 hsz2)|(go_at_call 19;(with_reducible refine (params_pair.calls 4 n1 q _ (tab_below HT.out (by repeat (first|(with_reducible first|exact HWR.out|apply pn_|apply pd_)|exact HWR.out))) HQ.out).mono ?_);rintro e wq ⟨rfl,hb⟩;have HD2:=am_ (by first|exact HD.out.below hb|exact (HD.out.drewN _).below hb : Bldr Br gb 0 47 [p,v] acc _);have HK2:=am_ (KeptG.ofBelow (by first|exact HK.out|exact HK.out.drewN _) (hb.mono hsz) : KeptG Br gb w9 _);have HWR2:=am_ (below_step (by repeat (first|(with_reducible first|exact HWR.out|apply pn_|apply pd_)|exact HWR.out)) hb);have hsz2:=Nat.le_trans hsz hb.size;clear HD HK HWR hsz hb;have HD:=HD2;have HK:=HK2;have HWR:=HWR2;have hsz:=hsz2;clear HD2 HK2 HWR2 hsz2)|(go_at_call 18;refine (bldr_write Br gb 0 47 [p,v] acc q _ put_T HD.out HS.out hsz).mono ?_;rintro e wz ⟨rfl,⟨v4,hd4⟩,hk4⟩;have HD4:=am_ hd4;have HK4:=am_ (HK.out.trans hk4);clear hd4 hk4)|go_in)
       go_roundw
       case rel => exact ⟨5,acc ++ q,_,_,by omega,rfl,HP2,⟨by first|exact HD4.out|exact HD4.out.drewN _|exact HD4.out.drew⟩,⟨by first|exact HK4.out|exact HK4.out.drewN _|exact HK4.out.drew⟩⟩
       case measure => simp [intOf]
      ·rw [if_neg hs] at ha
       cases ha
   ·as_aux_lemma =>
     have hp : ((tokS a0_11 5 acc).bind fun s1 => (numS 5 (some (a0_3,0)) s1).bind fun s2 => putE a0_11 6 ((prmE a0_0 a0_1 a0_2 a0_3 a0_4 a0_5 a0_6 a0_7 a0_8 a0_9 a0_10).drop 6) s2) = some s_:=HP.out
     rw [show tokS a0_11 5 acc = some acc from rfl,Option.bind_some] at hp
     have hcp : wr.cell? ⟨gp,3,none⟩ = some (.int .u64 a0_3):=HKC.out gp 3 _ HZ.out.2.1 Npb.out ((kc_ BKp.out 3).trans rfl)
     have hcu : wr.cell? ⟨gu,3,none⟩ = some (.int .u64 0):=HKC.out gu 3 _ HZ.out.2.2.2.1 Nbu.out.symm ((kc_ BKu.out 3).trans rfl)
     have hcw : wr.cell? ⟨gw,5,none⟩ = some (.pointer (some ⟨gu,3,none⟩)):=HKC.out gw 5 _ HZ.out.2.2.2.2.1 Nbw.out.symm ((kc_ BKw.out 5).trans rfl)
     by_cases t0 : a0_3 = 0
     ·have HP2 : Aside0 (putE a0_11 6 ((prmE a0_0 a0_1 a0_2 a0_3 a0_4 a0_5 a0_6 a0_7 a0_8 a0_9 a0_10).drop 6) acc = some s_):=⟨by rw [show numS 5 (some (a0_3,0)) acc = some acc from if_pos t0,Option.bind_some] at hp;exact hp⟩
      clear hp
      have t0_ : (a0_3 == 0) = true:=beq_iff_eq.mpr t0
      have t1_ : (a0_3 != 0) = false:=bne_eq_false_iff_eq.mpr t0
      have T0:=am_ t0
      clear t0
      go_wp2_with (first|((with_reducible refine gate_dst (N:=23) rfl ?_);refine Kd.event_run (v:=.pointer (some ⟨gp,3,none⟩)) (w1:=wr) rfl (by kernel_rfl) ?_)|go_in)
      try go_quiet (fail)
      try go_wp2
      go_roundw
      case rel => exact ⟨6,acc,_,_,by omega,rfl,HP2,⟨by first|exact HD.out|exact HD.out.drewN _|exact HD.out.drew⟩,⟨by first|exact HK.out|exact HK.out.drewN _|exact HK.out.drew⟩⟩
      case measure => simp [intOf]
     ·rw [show numS 5 (some (a0_3,0)) acc = (varint_Put.f a0_3).bind fun p => (params_pair.f 5 p.1).bind fun q => addS acc q from if_neg t0] at hp
      obtain ⟨s2,h1,h2⟩:=Option.bind_eq_some_iff.1 hp
      obtain ⟨⟨n1,n2⟩,hn,h3⟩:=Option.bind_eq_some_iff.1 h1
      obtain ⟨q,hq,ha⟩:=Option.bind_eq_some_iff.1 h3
      unfold addS at ha
      by_cases hs : acc.size + q.size ≤ 140737488355328
      ·rw [if_pos hs] at ha
       obtain rfl:=Option.some.inj ha
       have HP2 : Aside0 (putE a0_11 6 ((prmE a0_0 a0_1 a0_2 a0_3 a0_4 a0_5 a0_6 a0_7 a0_8 a0_9 a0_10).drop 6) (acc ++ q) = some s_):=⟨h2⟩
       have HQ : Aside0 (params_pair.f 5 n1 = some q):=⟨hq⟩
       have HN:=am_ hn
       have HS:=am_ hs
       clear hp h1 h2 h3 hq hn ha hs
       have t0_ : (a0_3 == 0) = false:=beq_eq_false_iff_ne.mpr t0
       have t1_ : (a0_3 != 0) = true:=bne_iff_ne.mpr t0
       have T0:=am_ t0
       clear t0
       go_wp2_with (first|((with_reducible refine gate_dst (N:=23) rfl ?_);refine Kd.event_run (v:=.pointer (some ⟨gp,3,none⟩)) (w1:=wr) rfl (by kernel_rfl) ?_)|(go_at_call 20;(with_reducible refine (varint_Put.calls _ n1 n2 _ (tab_below HT.out (by repeat (first|(with_reducible first|exact HWR.out|apply pn_|apply pd_)|exact HWR.out))) HN.out).mono ?_);rintro e wn ⟨rfl,hb⟩;have HD2:=am_ (by first|exact HD.out.below hb|exact (HD.out.drewN _).below hb : Bldr Br gb 0 47 [p,v] acc _);have HK2:=am_ (KeptG.ofBelow (by first|exact HK.out|exact HK.out.drewN _) (hb.mono hsz) : KeptG Br gb w9 _);have HWR2:=am_ (below_step (by repeat (first|(with_reducible first|exact HWR.out|apply pn_|apply pd_)|exact HWR.out)) hb);have hsz2:=Nat.le_trans hsz hb.size;clear HD HK HWR hsz hb;have HD:=HD2;have HK:=HK2;have HWR:=HWR2;have hsz:=hsz2;clear HD2 HK2 HWR2 hsz2)|(go_at_call 19;(with_reducible refine (params_pair.calls 5 n1 q _ (tab_below HT.out (by repeat (first|(with_reducible first|exact HWR.out|apply pn_|apply pd_)|exact HWR.out))) HQ.out).mono ?_);rintro e wq ⟨rfl,hb⟩;have HD2:=am_ (by first|exact HD.out.below hb|exact (HD.out.drewN _).below hb : Bldr Br gb 0 47 [p,v] acc _);have HK2:=am_ (KeptG.ofBelow (by first|exact HK.out|exact HK.out.drewN _) (hb.mono hsz) : KeptG Br gb w9 _);have HWR2:=am_ (below_step (by repeat (first|(with_reducible first|exact HWR.out|apply pn_|apply pd_)|exact HWR.out)) hb);have hsz2:=Nat.le_trans hsz hb.size;clear HD HK HWR hsz hb;have HD:=HD2;have HK:=HK2;have HWR:=HWR2;have hsz:=hsz2;clear HD2 HK2 HWR2 hsz2)|(go_at_call 18;refine (bldr_write Br gb 0 47 [p,v] acc q _ put_T HD.out HS.out hsz).mono ?_;rintro e wz ⟨rfl,⟨v4,hd4⟩,hk4⟩;have HD4:=am_ hd4;have HK4:=am_ (HK.out.trans hk4);clear hd4 hk4)|go_in)
       try go_quiet (fail)
       try go_wp2_with (first|(go_at_call 20;(with_reducible refine (varint_Put.calls _ n1 n2 _ (tab_below HT.out (by repeat (first|(with_reducible first|exact HWR.out|apply pn_|apply pd_)|exact HWR.out))) HN.out).mono ?_);rintro e wn ⟨rfl,hb⟩;have HD2:=am_ (by first|exact HD.out.below hb|exact (HD.out.drewN _).below hb : Bldr Br gb 0 47 [p,v] acc _);have HK2:=am_ (KeptG.ofBelow (by first|exact HK.out|exact HK.out.drewN _) (hb.mono hsz) : KeptG Br gb w9 _);have HWR2:=am_ (below_step (by repeat (first|(with_reducible first|exact HWR.out|apply pn_|apply pd_)|exact HWR.out)) hb);have hsz2:=Nat.le_trans hsz hb.size;clear HD HK HWR hsz hb;have HD:=HD2;have HK:=HK2;have HWR:=HWR2;have hsz:=hsz2;clear HD2 HK2 HWR2 hsz2)|(go_at_call 19;(with_reducible refine (params_pair.calls 5 n1 q _ (tab_below HT.out (by repeat (first|(with_reducible first|exact HWR.out|apply pn_|apply pd_)|exact HWR.out))) HQ.out).mono ?_);rintro e wq ⟨rfl,hb⟩;have HD2:=am_ (by first|exact HD.out.below hb|exact (HD.out.drewN _).below hb : Bldr Br gb 0 47 [p,v] acc _);have HK2:=am_ (KeptG.ofBelow (by first|exact HK.out|exact HK.out.drewN _) (hb.mono hsz) : KeptG Br gb w9 _);have HWR2:=am_ (below_step (by repeat (first|(with_reducible first|exact HWR.out|apply pn_|apply pd_)|exact HWR.out)) hb);have hsz2:=Nat.le_trans hsz hb.size;clear HD HK HWR hsz hb;have HD:=HD2;have HK:=HK2;have HWR:=HWR2;have hsz:=hsz2;clear HD2 HK2 HWR2 hsz2)|(go_at_call 18;refine (bldr_write Br gb 0 47 [p,v] acc q _ put_T HD.out HS.out hsz).mono ?_;rintro e wz ⟨rfl,⟨v4,hd4⟩,hk4⟩;have HD4:=am_ hd4;have HK4:=am_ (HK.out.trans hk4);clear hd4 hk4)|go_in)
       go_roundw
       case rel => exact ⟨6,acc ++ q,_,_,by omega,rfl,HP2,⟨by first|exact HD4.out|exact HD4.out.drewN _|exact HD4.out.drew⟩,⟨by first|exact HK4.out|exact HK4.out.drewN _|exact HK4.out.drew⟩⟩
       case measure => simp [intOf]
      ·rw [if_neg hs] at ha
       cases ha
   ·as_aux_lemma =>
     have hp : ((tokS a0_11 6 acc).bind fun s1 => (numS 6 (some (a0_4,0)) s1).bind fun s2 => putE a0_11 7 ((prmE a0_0 a0_1 a0_2 a0_3 a0_4 a0_5 a0_6 a0_7 a0_8 a0_9 a0_10).drop 7) s2) = some s_:=HP.out
     rw [show tokS a0_11 6 acc = some acc from rfl,Option.bind_some] at hp
     have hcp : wr.cell? ⟨gp,4,none⟩ = some (.int .u64 a0_4):=HKC.out gp 4 _ HZ.out.2.1 Npb.out ((kc_ BKp.out 4).trans rfl)
     have hcu : wr.cell? ⟨gu,4,none⟩ = some (.int .u64 0):=HKC.out gu 4 _ HZ.out.2.2.2.1 Nbu.out.symm ((kc_ BKu.out 4).trans rfl)
     have hcw : wr.cell? ⟨gw,6,none⟩ = some (.pointer (some ⟨gu,4,none⟩)):=HKC.out gw 6 _ HZ.out.2.2.2.2.1 Nbw.out.symm ((kc_ BKw.out 6).trans rfl)
     by_cases t0 : a0_4 = 0
     ·have HP2 : Aside0 (putE a0_11 7 ((prmE a0_0 a0_1 a0_2 a0_3 a0_4 a0_5 a0_6 a0_7 a0_8 a0_9 a0_10).drop 7) acc = some s_):=⟨by rw [show numS 6 (some (a0_4,0)) acc = some acc from if_pos t0,Option.bind_some] at hp;exact hp⟩
      clear hp
      have t0_ : (a0_4 == 0) = true:=beq_iff_eq.mpr t0
      have t1_ : (a0_4 != 0) = false:=bne_eq_false_iff_eq.mpr t0
      have T0:=am_ t0
      clear t0
      go_wp2_with (first|((with_reducible refine gate_dst (N:=23) rfl ?_);refine Kd.event_run (v:=.pointer (some ⟨gp,4,none⟩)) (w1:=wr) rfl (by kernel_rfl) ?_)|go_in)
      try go_quiet (fail)
      try go_wp2
      go_roundw
      case rel => exact ⟨7,acc,_,_,by omega,rfl,HP2,⟨by first|exact HD.out|exact HD.out.drewN _|exact HD.out.drew⟩,⟨by first|exact HK.out|exact HK.out.drewN _|exact HK.out.drew⟩⟩
      case measure => simp [intOf]
     ·rw [show numS 6 (some (a0_4,0)) acc = (varint_Put.f a0_4).bind fun p => (params_pair.f 6 p.1).bind fun q => addS acc q from if_neg t0] at hp
      obtain ⟨s2,h1,h2⟩:=Option.bind_eq_some_iff.1 hp
      obtain ⟨⟨n1,n2⟩,hn,h3⟩:=Option.bind_eq_some_iff.1 h1
      obtain ⟨q,hq,ha⟩:=Option.bind_eq_some_iff.1 h3
      unfold addS at ha
      by_cases hs : acc.size + q.size ≤ 140737488355328
      ·rw [if_pos hs] at ha
       obtain rfl:=Option.some.inj ha
       have HP2 : Aside0 (putE a0_11 7 ((prmE a0_0 a0_1 a0_2 a0_3 a0_4 a0_5 a0_6 a0_7 a0_8 a0_9 a0_10).drop 7) (acc ++ q) = some s_):=⟨h2⟩
       have HQ : Aside0 (params_pair.f 6 n1 = some q):=⟨hq⟩
       have HN:=am_ hn
       have HS:=am_ hs
       clear hp h1 h2 h3 hq hn ha hs
       have t0_ : (a0_4 == 0) = false:=beq_eq_false_iff_ne.mpr t0
       have t1_ : (a0_4 != 0) = true:=bne_iff_ne.mpr t0
       have T0:=am_ t0
       clear t0
       go_wp2_with (first|((with_reducible refine gate_dst (N:=23) rfl ?_);refine Kd.event_run (v:=.pointer (some ⟨gp,4,none⟩)) (w1:=wr) rfl (by kernel_rfl) ?_)|(go_at_call 20;(with_reducible refine (varint_Put.calls _ n1 n2 _ (tab_below HT.out (by repeat (first|(with_reducible first|exact HWR.out|apply pn_|apply pd_)|exact HWR.out))) HN.out).mono ?_);rintro e wn ⟨rfl,hb⟩;have HD2:=am_ (by first|exact HD.out.below hb|exact (HD.out.drewN _).below hb : Bldr Br gb 0 47 [p,v] acc _);have HK2:=am_ (KeptG.ofBelow (by first|exact HK.out|exact HK.out.drewN _) (hb.mono hsz) : KeptG Br gb w9 _);have HWR2:=am_ (below_step (by repeat (first|(with_reducible first|exact HWR.out|apply pn_|apply pd_)|exact HWR.out)) hb);have hsz2:=Nat.le_trans hsz hb.size;clear HD HK HWR hsz hb;have HD:=HD2;have HK:=HK2;have HWR:=HWR2;have hsz:=hsz2;clear HD2 HK2 HWR2 hsz2)|(go_at_call 19;(with_reducible refine (params_pair.calls 6 n1 q _ (tab_below HT.out (by repeat (first|(with_reducible first|exact HWR.out|apply pn_|apply pd_)|exact HWR.out))) HQ.out).mono ?_);rintro e wq ⟨rfl,hb⟩;have HD2:=am_ (by first|exact HD.out.below hb|exact (HD.out.drewN _).below hb : Bldr Br gb 0 47 [p,v] acc _);have HK2:=am_ (KeptG.ofBelow (by first|exact HK.out|exact HK.out.drewN _) (hb.mono hsz) : KeptG Br gb w9 _);have HWR2:=am_ (below_step (by repeat (first|(with_reducible first|exact HWR.out|apply pn_|apply pd_)|exact HWR.out)) hb);have hsz2:=Nat.le_trans hsz hb.size;clear HD HK HWR hsz hb;have HD:=HD2;have HK:=HK2;have HWR:=HWR2;have hsz:=hsz2;clear HD2 HK2 HWR2 hsz2)|(go_at_call 18;refine (bldr_write Br gb 0 47 [p,v] acc q _ put_T HD.out HS.out hsz).mono ?_;rintro e wz ⟨rfl,⟨v4,hd4⟩,hk4⟩;have HD4:=am_ hd4;have HK4:=am_ (HK.out.trans hk4);clear hd4 hk4)|go_in)
       try go_quiet (fail)
       try go_wp2_with (first|(go_at_call 20;(with_reducible refine (varint_Put.calls _ n1 n2 _ (tab_below HT.out (by repeat (first|(with_reducible first|exact HWR.out|apply pn_|apply pd_)|exact HWR.out))) HN.out).mono ?_);rintro e wn ⟨rfl,hb⟩;have HD2:=am_ (by first|exact HD.out.below hb|exact (HD.out.drewN _).below hb : Bldr Br gb 0 47 [p,v] acc _);have HK2:=am_ (KeptG.ofBelow (by first|exact HK.out|exact HK.out.drewN _) (hb.mono hsz) : KeptG Br gb w9 _);have HWR2:=am_ (below_step (by repeat (first|(with_reducible first|exact HWR.out|apply pn_|apply pd_)|exact HWR.out)) hb);have hsz2:=Nat.le_trans hsz hb.size;clear HD HK HWR hsz hb;have HD:=HD2;have HK:=HK2;have HWR:=HWR2;have hsz:=hsz2;clear HD2 HK2 HWR2 hsz2)|(go_at_call 19;(with_reducible refine (params_pair.calls 6 n1 q _ (tab_below HT.out (by repeat (first|(with_reducible first|exact HWR.out|apply pn_|apply pd_)|exact HWR.out))) HQ.out).mono ?_);rintro e wq ⟨rfl,hb⟩;have HD2:=am_ (by first|exact HD.out.below hb|exact (HD.out.drewN _).below hb : Bldr Br gb 0 47 [p,v] acc _);have HK2:=am_ (KeptG.ofBelow (by first|exact HK.out|exact HK.out.drewN _) (hb.mono hsz) : KeptG Br gb w9 _);have HWR2:=am_ (below_step (by repeat (first|(with_reducible first|exact HWR.out|apply pn_|apply pd_)|exact HWR.out)) hb);have hsz2:=Nat.le_trans hsz hb.size;clear HD HK HWR hsz hb;have HD:=HD2;have HK:=HK2;have HWR:=HWR2;have hsz:=hsz2;clear HD2 HK2 HWR2 hsz2)|(go_at_call 18;refine (bldr_write Br gb 0 47 [p,v] acc q _ put_T HD.out HS.out hsz).mono ?_;rintro e wz ⟨rfl,⟨v4,hd4⟩,hk4⟩;have HD4:=am_ hd4;have HK4:=am_ (HK.out.trans hk4);clear hd4 hk4)|go_in)
       go_roundw
       case rel => exact ⟨7,acc ++ q,_,_,by omega,rfl,HP2,⟨by first|exact HD4.out|exact HD4.out.drewN _|exact HD4.out.drew⟩,⟨by first|exact HK4.out|exact HK4.out.drewN _|exact HK4.out.drew⟩⟩
       case measure => simp [intOf]
      ·rw [if_neg hs] at ha
       cases ha
   ·as_aux_lemma =>
     have hp : ((tokS a0_11 7 acc).bind fun s1 => (numS 7 (some (a0_5,0)) s1).bind fun s2 => putE a0_11 8 ((prmE a0_0 a0_1 a0_2 a0_3 a0_4 a0_5 a0_6 a0_7 a0_8 a0_9 a0_10).drop 8) s2) = some s_:=HP.out
     rw [show tokS a0_11 7 acc = some acc from rfl,Option.bind_some] at hp
     have hcp : wr.cell? ⟨gp,5,none⟩ = some (.int .u64 a0_5):=HKC.out gp 5 _ HZ.out.2.1 Npb.out ((kc_ BKp.out 5).trans rfl)
     have hcu : wr.cell? ⟨gu,5,none⟩ = some (.int .u64 0):=HKC.out gu 5 _ HZ.out.2.2.2.1 Nbu.out.symm ((kc_ BKu.out 5).trans rfl)
     have hcw : wr.cell? ⟨gw,7,none⟩ = some (.pointer (some ⟨gu,5,none⟩)):=HKC.out gw 7 _ HZ.out.2.2.2.2.1 Nbw.out.symm ((kc_ BKw.out 7).trans rfl)
     by_cases t0 : a0_5 = 0
     ·have HP2 : Aside0 (putE a0_11 8 ((prmE a0_0 a0_1 a0_2 a0_3 a0_4 a0_5 a0_6 a0_7 a0_8 a0_9 a0_10).drop 8) acc = some s_):=⟨by rw [show numS 7 (some (a0_5,0)) acc = some acc from if_pos t0,Option.bind_some] at hp;exact hp⟩
      clear hp
      have t0_ : (a0_5 == 0) = true:=beq_iff_eq.mpr t0
      have t1_ : (a0_5 != 0) = false:=bne_eq_false_iff_eq.mpr t0
      have T0:=am_ t0
      clear t0
      go_wp2_with (first|((with_reducible refine gate_dst (N:=23) rfl ?_);refine Kd.event_run (v:=.pointer (some ⟨gp,5,none⟩)) (w1:=wr) rfl (by kernel_rfl) ?_)|go_in)
      try go_quiet (fail)
      try go_wp2
      go_roundw
      case rel => exact ⟨8,acc,_,_,by omega,rfl,HP2,⟨by first|exact HD.out|exact HD.out.drewN _|exact HD.out.drew⟩,⟨by first|exact HK.out|exact HK.out.drewN _|exact HK.out.drew⟩⟩
      case measure => simp [intOf]
     ·rw [show numS 7 (some (a0_5,0)) acc = (varint_Put.f a0_5).bind fun p => (params_pair.f 7 p.1).bind fun q => addS acc q from if_neg t0] at hp
      obtain ⟨s2,h1,h2⟩:=Option.bind_eq_some_iff.1 hp
      obtain ⟨⟨n1,n2⟩,hn,h3⟩:=Option.bind_eq_some_iff.1 h1
      obtain ⟨q,hq,ha⟩:=Option.bind_eq_some_iff.1 h3
      unfold addS at ha
      by_cases hs : acc.size + q.size ≤ 140737488355328
      ·rw [if_pos hs] at ha
       obtain rfl:=Option.some.inj ha
       have HP2 : Aside0 (putE a0_11 8 ((prmE a0_0 a0_1 a0_2 a0_3 a0_4 a0_5 a0_6 a0_7 a0_8 a0_9 a0_10).drop 8) (acc ++ q) = some s_):=⟨h2⟩
       have HQ : Aside0 (params_pair.f 7 n1 = some q):=⟨hq⟩
       have HN:=am_ hn
       have HS:=am_ hs
       clear hp h1 h2 h3 hq hn ha hs
       have t0_ : (a0_5 == 0) = false:=beq_eq_false_iff_ne.mpr t0
       have t1_ : (a0_5 != 0) = true:=bne_iff_ne.mpr t0
       have T0:=am_ t0
       clear t0
       go_wp2_with (first|((with_reducible refine gate_dst (N:=23) rfl ?_);refine Kd.event_run (v:=.pointer (some ⟨gp,5,none⟩)) (w1:=wr) rfl (by kernel_rfl) ?_)|(go_at_call 20;(with_reducible refine (varint_Put.calls _ n1 n2 _ (tab_below HT.out (by repeat (first|(with_reducible first|exact HWR.out|apply pn_|apply pd_)|exact HWR.out))) HN.out).mono ?_);rintro e wn ⟨rfl,hb⟩;have HD2:=am_ (by first|exact HD.out.below hb|exact (HD.out.drewN _).below hb : Bldr Br gb 0 47 [p,v] acc _);have HK2:=am_ (KeptG.ofBelow (by first|exact HK.out|exact HK.out.drewN _) (hb.mono hsz) : KeptG Br gb w9 _);have HWR2:=am_ (below_step (by repeat (first|(with_reducible first|exact HWR.out|apply pn_|apply pd_)|exact HWR.out)) hb);have hsz2:=Nat.le_trans hsz hb.size;clear HD HK HWR hsz hb;have HD:=HD2;have HK:=HK2;have HWR:=HWR2;have hsz:=hsz2;clear HD2 HK2 HWR2 hsz2)|(go_at_call 19;(with_reducible refine (params_pair.calls 7 n1 q _ (tab_below HT.out (by repeat (first|(with_reducible first|exact HWR.out|apply pn_|apply pd_)|exact HWR.out))) HQ.out).mono ?_);rintro e wq ⟨rfl,hb⟩;have HD2:=am_ (by first|exact HD.out.below hb|exact (HD.out.drewN _).below hb : Bldr Br gb 0 47 [p,v] acc _);have HK2:=am_ (KeptG.ofBelow (by first|exact HK.out|exact HK.out.drewN _) (hb.mono hsz) : KeptG Br gb w9 _);have HWR2:=am_ (below_step (by repeat (first|(with_reducible first|exact HWR.out|apply pn_|apply pd_)|exact HWR.out)) hb);have hsz2:=Nat.le_trans hsz hb.size;clear HD HK HWR hsz hb;have HD:=HD2;have HK:=HK2;have HWR:=HWR2;have hsz:=hsz2;clear HD2 HK2 HWR2 hsz2)|(go_at_call 18;refine (bldr_write Br gb 0 47 [p,v] acc q _ put_T HD.out HS.out hsz).mono ?_;rintro e wz ⟨rfl,⟨v4,hd4⟩,hk4⟩;have HD4:=am_ hd4;have HK4:=am_ (HK.out.trans hk4);clear hd4 hk4)|go_in)
       try go_quiet (fail)
       try go_wp2_with (first|(go_at_call 20;(with_reducible refine (varint_Put.calls _ n1 n2 _ (tab_below HT.out (by repeat (first|(with_reducible first|exact HWR.out|apply pn_|apply pd_)|exact HWR.out))) HN.out).mono ?_);rintro e wn ⟨rfl,hb⟩;have HD2:=am_ (by first|exact HD.out.below hb|exact (HD.out.drewN _).below hb : Bldr Br gb 0 47 [p,v] acc _);have HK2:=am_ (KeptG.ofBelow (by first|exact HK.out|exact HK.out.drewN _) (hb.mono hsz) : KeptG Br gb w9 _);have HWR2:=am_ (below_step (by repeat (first|(with_reducible first|exact HWR.out|apply pn_|apply pd_)|exact HWR.out)) hb);have hsz2:=Nat.le_trans hsz hb.size;clear HD HK HWR hsz hb;have HD:=HD2;have HK:=HK2;have HWR:=HWR2;have hsz:=hsz2;clear HD2 HK2 HWR2 hsz2)|(go_at_call 19;(with_reducible refine (params_pair.calls 7 n1 q _ (tab_below HT.out (by repeat (first|(with_reducible first|exact HWR.out|apply pn_|apply pd_)|exact HWR.out))) HQ.out).mono ?_);rintro e wq ⟨rfl,hb⟩;have HD2:=am_ (by first|exact HD.out.below hb|exact (HD.out.drewN _).below hb : Bldr Br gb 0 47 [p,v] acc _);have HK2:=am_ (KeptG.ofBelow (by first|exact HK.out|exact HK.out.drewN _) (hb.mono hsz) : KeptG Br gb w9 _);have HWR2:=am_ (below_step (by repeat (first|(with_reducible first|exact HWR.out|apply pn_|apply pd_)|exact HWR.out)) hb);have hsz2:=Nat.le_trans hsz hb.size;clear HD HK HWR hsz hb;have HD:=HD2;have HK:=HK2;have HWR:=HWR2;have hsz:=hsz2;clear HD2 HK2 HWR2 hsz2)|(go_at_call 18;refine (bldr_write Br gb 0 47 [p,v] acc q _ put_T HD.out HS.out hsz).mono ?_;rintro e wz ⟨rfl,⟨v4,hd4⟩,hk4⟩;have HD4:=am_ hd4;have HK4:=am_ (HK.out.trans hk4);clear hd4 hk4)|go_in)
       go_roundw
       case rel => exact ⟨8,acc ++ q,_,_,by omega,rfl,HP2,⟨by first|exact HD4.out|exact HD4.out.drewN _|exact HD4.out.drew⟩,⟨by first|exact HK4.out|exact HK4.out.drewN _|exact HK4.out.drew⟩⟩
       case measure => simp [intOf]
      ·rw [if_neg hs] at ha
       cases ha
   ·as_aux_lemma =>
     have hp : ((tokS a0_11 8 acc).bind fun s1 => (numS 8 (some (a0_6,0)) s1).bind fun s2 => putE a0_11 9 ((prmE a0_0 a0_1 a0_2 a0_3 a0_4 a0_5 a0_6 a0_7 a0_8 a0_9 a0_10).drop 9) s2) = some s_:=HP.out
     rw [show tokS a0_11 8 acc = some acc from rfl,Option.bind_some] at hp
     have hcp : wr.cell? ⟨gp,6,none⟩ = some (.int .u64 a0_6):=HKC.out gp 6 _ HZ.out.2.1 Npb.out ((kc_ BKp.out 6).trans rfl)
     have hcu : wr.cell? ⟨gu,6,none⟩ = some (.int .u64 0):=HKC.out gu 6 _ HZ.out.2.2.2.1 Nbu.out.symm ((kc_ BKu.out 6).trans rfl)
     have hcw : wr.cell? ⟨gw,8,none⟩ = some (.pointer (some ⟨gu,6,none⟩)):=HKC.out gw 8 _ HZ.out.2.2.2.2.1 Nbw.out.symm ((kc_ BKw.out 8).trans rfl)
     by_cases t0 : a0_6 = 0
     ·have HP2 : Aside0 (putE a0_11 9 ((prmE a0_0 a0_1 a0_2 a0_3 a0_4 a0_5 a0_6 a0_7 a0_8 a0_9 a0_10).drop 9) acc = some s_):=⟨by rw [show numS 8 (some (a0_6,0)) acc = some acc from if_pos t0,Option.bind_some] at hp;exact hp⟩
      clear hp
      have t0_ : (a0_6 == 0) = true:=beq_iff_eq.mpr t0
      have t1_ : (a0_6 != 0) = false:=bne_eq_false_iff_eq.mpr t0
      have T0:=am_ t0
      clear t0
      go_wp2_with (first|((with_reducible refine gate_dst (N:=23) rfl ?_);refine Kd.event_run (v:=.pointer (some ⟨gp,6,none⟩)) (w1:=wr) rfl (by kernel_rfl) ?_)|go_in)
      try go_quiet (fail)
      try go_wp2
      go_roundw
      case rel => exact ⟨9,acc,_,_,by omega,rfl,HP2,⟨by first|exact HD.out|exact HD.out.drewN _|exact HD.out.drew⟩,⟨by first|exact HK.out|exact HK.out.drewN _|exact HK.out.drew⟩⟩
      case measure => simp [intOf]
     ·rw [show numS 8 (some (a0_6,0)) acc = (varint_Put.f a0_6).bind fun p => (params_pair.f 8 p.1).bind fun q => addS acc q from if_neg t0] at hp
      obtain ⟨s2,h1,h2⟩:=Option.bind_eq_some_iff.1 hp
      obtain ⟨⟨n1,n2⟩,hn,h3⟩:=Option.bind_eq_some_iff.1 h1
      obtain ⟨q,hq,ha⟩:=Option.bind_eq_some_iff.1 h3
      unfold addS at ha
      by_cases hs : acc.size + q.size ≤ 140737488355328
      ·rw [if_pos hs] at ha
       obtain rfl:=Option.some.inj ha
       have HP2 : Aside0 (putE a0_11 9 ((prmE a0_0 a0_1 a0_2 a0_3 a0_4 a0_5 a0_6 a0_7 a0_8 a0_9 a0_10).drop 9) (acc ++ q) = some s_):=⟨h2⟩
       have HQ : Aside0 (params_pair.f 8 n1 = some q):=⟨hq⟩
       have HN:=am_ hn
       have HS:=am_ hs
       clear hp h1 h2 h3 hq hn ha hs
       have t0_ : (a0_6 == 0) = false:=beq_eq_false_iff_ne.mpr t0
       have t1_ : (a0_6 != 0) = true:=bne_iff_ne.mpr t0
       have T0:=am_ t0
       clear t0
       go_wp2_with (first|((with_reducible refine gate_dst (N:=23) rfl ?_);refine Kd.event_run (v:=.pointer (some ⟨gp,6,none⟩)) (w1:=wr) rfl (by kernel_rfl) ?_)|(go_at_call 20;(with_reducible refine (varint_Put.calls _ n1 n2 _ (tab_below HT.out (by repeat (first|(with_reducible first|exact HWR.out|apply pn_|apply pd_)|exact HWR.out))) HN.out).mono ?_);rintro e wn ⟨rfl,hb⟩;have HD2:=am_ (by first|exact HD.out.below hb|exact (HD.out.drewN _).below hb : Bldr Br gb 0 47 [p,v] acc _);have HK2:=am_ (KeptG.ofBelow (by first|exact HK.out|exact HK.out.drewN _) (hb.mono hsz) : KeptG Br gb w9 _);have HWR2:=am_ (below_step (by repeat (first|(with_reducible first|exact HWR.out|apply pn_|apply pd_)|exact HWR.out)) hb);have hsz2:=Nat.le_trans hsz hb.size;clear HD HK HWR hsz hb;have HD:=HD2;have HK:=HK2;have HWR:=HWR2;have hsz:=hsz2;clear HD2 HK2 HWR2 hsz2)|(go_at_call 19;(with_reducible refine (params_pair.calls 8 n1 q _ (tab_below HT.out (by repeat (first|(with_reducible first|exact HWR.out|apply pn_|apply pd_)|exact HWR.out))) HQ.out).mono ?_);rintro e wq ⟨rfl,hb⟩;have HD2:=am_ (by first|exact HD.out.below hb|exact (HD.out.drewN _).below hb : Bldr Br gb 0 47 [p,v] acc _);have HK2:=am_ (KeptG.ofBelow (by first|exact HK.out|exact HK.out.drewN _) (hb.mono hsz) : KeptG Br gb w9 _);have HWR2:=am_ (below_step (by repeat (first|(with_reducible first|exact HWR.out|apply pn_|apply pd_)|exact HWR.out)) hb);have hsz2:=Nat.le_trans hsz hb.size;clear HD HK HWR hsz hb;have HD:=HD2;have HK:=HK2;have HWR:=HWR2;have hsz:=hsz2;clear HD2 HK2 HWR2 hsz2)|(go_at_call 18;refine (bldr_write Br gb 0 47 [p,v] acc q _ put_T HD.out HS.out hsz).mono ?_;rintro e wz ⟨rfl,⟨v4,hd4⟩,hk4⟩;have HD4:=am_ hd4;have HK4:=am_ (HK.out.trans hk4);clear hd4 hk4)|go_in)
       try go_quiet (fail)
       try go_wp2_with (first|(go_at_call 20;(with_reducible refine (varint_Put.calls _ n1 n2 _ (tab_below HT.out (by repeat (first|(with_reducible first|exact HWR.out|apply pn_|apply pd_)|exact HWR.out))) HN.out).mono ?_);rintro e wn ⟨rfl,hb⟩;have HD2:=am_ (by first|exact HD.out.below hb|exact (HD.out.drewN _).below hb : Bldr Br gb 0 47 [p,v] acc _);have HK2:=am_ (KeptG.ofBelow (by first|exact HK.out|exact HK.out.drewN _) (hb.mono hsz) : KeptG Br gb w9 _);have HWR2:=am_ (below_step (by repeat (first|(with_reducible first|exact HWR.out|apply pn_|apply pd_)|exact HWR.out)) hb);have hsz2:=Nat.le_trans hsz hb.size;clear HD HK HWR hsz hb;have HD:=HD2;have HK:=HK2;have HWR:=HWR2;have hsz:=hsz2;clear HD2 HK2 HWR2 hsz2)|(go_at_call 19;(with_reducible refine (params_pair.calls 8 n1 q _ (tab_below HT.out (by repeat (first|(with_reducible first|exact HWR.out|apply pn_|apply pd_)|exact HWR.out))) HQ.out).mono ?_);rintro e wq ⟨rfl,hb⟩;have HD2:=am_ (by first|exact HD.out.below hb|exact (HD.out.drewN _).below hb : Bldr Br gb 0 47 [p,v] acc _);have HK2:=am_ (KeptG.ofBelow (by first|exact HK.out|exact HK.out.drewN _) (hb.mono hsz) : KeptG Br gb w9 _);have HWR2:=am_ (below_step (by repeat (first|(with_reducible first|exact HWR.out|apply pn_|apply pd_)|exact HWR.out)) hb);have hsz2:=Nat.le_trans hsz hb.size;clear HD HK HWR hsz hb;have HD:=HD2;have HK:=HK2;have HWR:=HWR2;have hsz:=hsz2;clear HD2 HK2 HWR2 hsz2)|(go_at_call 18;refine (bldr_write Br gb 0 47 [p,v] acc q _ put_T HD.out HS.out hsz).mono ?_;rintro e wz ⟨rfl,⟨v4,hd4⟩,hk4⟩;have HD4:=am_ hd4;have HK4:=am_ (HK.out.trans hk4);clear hd4 hk4)|go_in)
       go_roundw
       case rel => exact ⟨9,acc ++ q,_,_,by omega,rfl,HP2,⟨by first|exact HD4.out|exact HD4.out.drewN _|exact HD4.out.drew⟩,⟨by first|exact HK4.out|exact HK4.out.drewN _|exact HK4.out.drew⟩⟩
       case measure => simp [intOf]
      ·rw [if_neg hs] at ha
       cases ha
   ·as_aux_lemma =>
     have hp : ((tokS a0_11 9 acc).bind fun s1 => (numS 9 (some (a0_7,0)) s1).bind fun s2 => putE a0_11 10 ((prmE a0_0 a0_1 a0_2 a0_3 a0_4 a0_5 a0_6 a0_7 a0_8 a0_9 a0_10).drop 10) s2) = some s_:=HP.out
     rw [show tokS a0_11 9 acc = some acc from rfl,Option.bind_some] at hp
     have hcp : wr.cell? ⟨gp,7,none⟩ = some (.int .u64 a0_7):=HKC.out gp 7 _ HZ.out.2.1 Npb.out ((kc_ BKp.out 7).trans rfl)
     have hcu : wr.cell? ⟨gu,7,none⟩ = some (.int .u64 0):=HKC.out gu 7 _ HZ.out.2.2.2.1 Nbu.out.symm ((kc_ BKu.out 7).trans rfl)
     have hcw : wr.cell? ⟨gw,9,none⟩ = some (.pointer (some ⟨gu,7,none⟩)):=HKC.out gw 9 _ HZ.out.2.2.2.2.1 Nbw.out.symm ((kc_ BKw.out 9).trans rfl)
     by_cases t0 : a0_7 = 0
     ·have HP2 : Aside0 (putE a0_11 10 ((prmE a0_0 a0_1 a0_2 a0_3 a0_4 a0_5 a0_6 a0_7 a0_8 a0_9 a0_10).drop 10) acc = some s_):=⟨by rw [show numS 9 (some (a0_7,0)) acc = some acc from if_pos t0,Option.bind_some] at hp;exact hp⟩
      clear hp
      have t0_ : (a0_7 == 0) = true:=beq_iff_eq.mpr t0
      have t1_ : (a0_7 != 0) = false:=bne_eq_false_iff_eq.mpr t0
      have T0:=am_ t0
      clear t0
      go_wp2_with (first|((with_reducible refine gate_dst (N:=23) rfl ?_);refine Kd.event_run (v:=.pointer (some ⟨gp,7,none⟩)) (w1:=wr) rfl (by kernel_rfl) ?_)|go_in)
      try go_quiet (fail)
      try go_wp2
      go_roundw
      case rel => exact ⟨10,acc,_,_,by omega,rfl,HP2,⟨by first|exact HD.out|exact HD.out.drewN _|exact HD.out.drew⟩,⟨by first|exact HK.out|exact HK.out.drewN _|exact HK.out.drew⟩⟩
      case measure => simp [intOf]
     ·rw [show numS 9 (some (a0_7,0)) acc = (varint_Put.f a0_7).bind fun p => (params_pair.f 9 p.1).bind fun q => addS acc q from if_neg t0] at hp
      obtain ⟨s2,h1,h2⟩:=Option.bind_eq_some_iff.1 hp
      obtain ⟨⟨n1,n2⟩,hn,h3⟩:=Option.bind_eq_some_iff.1 h1
      obtain ⟨q,hq,ha⟩:=Option.bind_eq_some_iff.1 h3
      unfold addS at ha
      by_cases hs : acc.size + q.size ≤ 140737488355328
      ·rw [if_pos hs] at ha
       obtain rfl:=Option.some.inj ha
       have HP2 : Aside0 (putE a0_11 10 ((prmE a0_0 a0_1 a0_2 a0_3 a0_4 a0_5 a0_6 a0_7 a0_8 a0_9 a0_10).drop 10) (acc ++ q) = some s_):=⟨h2⟩
       have HQ : Aside0 (params_pair.f 9 n1 = some q):=⟨hq⟩
       have HN:=am_ hn
       have HS:=am_ hs
       clear hp h1 h2 h3 hq hn ha hs
       have t0_ : (a0_7 == 0) = false:=beq_eq_false_iff_ne.mpr t0
       have t1_ : (a0_7 != 0) = true:=bne_iff_ne.mpr t0
       have T0:=am_ t0
       clear t0
       go_wp2_with (first|((with_reducible refine gate_dst (N:=23) rfl ?_);refine Kd.event_run (v:=.pointer (some ⟨gp,7,none⟩)) (w1:=wr) rfl (by kernel_rfl) ?_)|(go_at_call 20;(with_reducible refine (varint_Put.calls _ n1 n2 _ (tab_below HT.out (by repeat (first|(with_reducible first|exact HWR.out|apply pn_|apply pd_)|exact HWR.out))) HN.out).mono ?_);rintro e wn ⟨rfl,hb⟩;have HD2:=am_ (by first|exact HD.out.below hb|exact (HD.out.drewN _).below hb : Bldr Br gb 0 47 [p,v] acc _);have HK2:=am_ (KeptG.ofBelow (by first|exact HK.out|exact HK.out.drewN _) (hb.mono hsz) : KeptG Br gb w9 _);have HWR2:=am_ (below_step (by repeat (first|(with_reducible first|exact HWR.out|apply pn_|apply pd_)|exact HWR.out)) hb);have hsz2:=Nat.le_trans hsz hb.size;clear HD HK HWR hsz hb;have HD:=HD2;have HK:=HK2;have HWR:=HWR2;have hsz:=hsz2;clear HD2 HK2 HWR2 hsz2)|(go_at_call 19;(with_reducible refine (params_pair.calls 9 n1 q _ (tab_below HT.out (by repeat (first|(with_reducible first|exact HWR.out|apply pn_|apply pd_)|exact HWR.out))) HQ.out).mono ?_);rintro e wq ⟨rfl,hb⟩;have HD2:=am_ (by first|exact HD.out.below hb|exact (HD.out.drewN _).below hb : Bldr Br gb 0 47 [p,v] acc _);have HK2:=am_ (KeptG.ofBelow (by first|exact HK.out|exact HK.out.drewN _) (hb.mono hsz) : KeptG Br gb w9 _);have HWR2:=am_ (below_step (by repeat (first|(with_reducible first|exact HWR.out|apply pn_|apply pd_)|exact HWR.out)) hb);have hsz2:=Nat.le_trans hsz hb.size;clear HD HK HWR hsz hb;have HD:=HD2;have HK:=HK2;have HWR:=HWR2;have hsz:=hsz2;clear HD2 HK2 HWR2 hsz2)|(go_at_call 18;refine (bldr_write Br gb 0 47 [p,v] acc q _ put_T HD.out HS.out hsz).mono ?_;rintro e wz ⟨rfl,⟨v4,hd4⟩,hk4⟩;have HD4:=am_ hd4;have HK4:=am_ (HK.out.trans hk4);clear hd4 hk4)|go_in)
       try go_quiet (fail)
       try go_wp2_with (first|(go_at_call 20;(with_reducible refine (varint_Put.calls _ n1 n2 _ (tab_below HT.out (by repeat (first|(with_reducible first|exact HWR.out|apply pn_|apply pd_)|exact HWR.out))) HN.out).mono ?_);rintro e wn ⟨rfl,hb⟩;have HD2:=am_ (by first|exact HD.out.below hb|exact (HD.out.drewN _).below hb : Bldr Br gb 0 47 [p,v] acc _);have HK2:=am_ (KeptG.ofBelow (by first|exact HK.out|exact HK.out.drewN _) (hb.mono hsz) : KeptG Br gb w9 _);have HWR2:=am_ (below_step (by repeat (first|(with_reducible first|exact HWR.out|apply pn_|apply pd_)|exact HWR.out)) hb);have hsz2:=Nat.le_trans hsz hb.size;clear HD HK HWR hsz hb;have HD:=HD2;have HK:=HK2;have HWR:=HWR2;have hsz:=hsz2;clear HD2 HK2 HWR2 hsz2)|(go_at_call 19;(with_reducible refine (params_pair.calls 9 n1 q _ (tab_below HT.out (by repeat (first|(with_reducible first|exact HWR.out|apply pn_|apply pd_)|exact HWR.out))) HQ.out).mono ?_);rintro e wq ⟨rfl,hb⟩;have HD2:=am_ (by first|exact HD.out.below hb|exact (HD.out.drewN _).below hb : Bldr Br gb 0 47 [p,v] acc _);have HK2:=am_ (KeptG.ofBelow (by first|exact HK.out|exact HK.out.drewN _) (hb.mono hsz) : KeptG Br gb w9 _);have HWR2:=am_ (below_step (by repeat (first|(with_reducible first|exact HWR.out|apply pn_|apply pd_)|exact HWR.out)) hb);have hsz2:=Nat.le_trans hsz hb.size;clear HD HK HWR hsz hb;have HD:=HD2;have HK:=HK2;have HWR:=HWR2;have hsz:=hsz2;clear HD2 HK2 HWR2 hsz2)|(go_at_call 18;refine (bldr_write Br gb 0 47 [p,v] acc q _ put_T HD.out HS.out hsz).mono ?_;rintro e wz ⟨rfl,⟨v4,hd4⟩,hk4⟩;have HD4:=am_ hd4;have HK4:=am_ (HK.out.trans hk4);clear hd4 hk4)|go_in)
       go_roundw
       case rel => exact ⟨10,acc ++ q,_,_,by omega,rfl,HP2,⟨by first|exact HD4.out|exact HD4.out.drewN _|exact HD4.out.drew⟩,⟨by first|exact HK4.out|exact HK4.out.drewN _|exact HK4.out.drew⟩⟩
       case measure => simp [intOf]
      ·rw [if_neg hs] at ha
       cases ha
   ·as_aux_lemma =>
     have hp : ((tokS a0_11 10 acc).bind fun s1 => (numS 10 (some (a0_8,3)) s1).bind fun s2 => putE a0_11 11 ((prmE a0_0 a0_1 a0_2 a0_3 a0_4 a0_5 a0_6 a0_7 a0_8 a0_9 a0_10).drop 11) s2) = some s_:=HP.out
     rw [show tokS a0_11 10 acc = some acc from rfl,Option.bind_some] at hp
     have hcp : wr.cell? ⟨gp,8,none⟩ = some (.int .u64 a0_8):=HKC.out gp 8 _ HZ.out.2.1 Npb.out ((kc_ BKp.out 8).trans rfl)
     have hcu : wr.cell? ⟨gu,8,none⟩ = some (.int .u64 3):=HKC.out gu 8 _ HZ.out.2.2.2.1 Nbu.out.symm ((kc_ BKu.out 8).trans rfl)
     have hcw : wr.cell? ⟨gw,10,none⟩ = some (.pointer (some ⟨gu,8,none⟩)):=HKC.out gw 10 _ HZ.out.2.2.2.2.1 Nbw.out.symm ((kc_ BKw.out 10).trans rfl)
     by_cases t0 : a0_8 = 3
     ·have HP2 : Aside0 (putE a0_11 11 ((prmE a0_0 a0_1 a0_2 a0_3 a0_4 a0_5 a0_6 a0_7 a0_8 a0_9 a0_10).drop 11) acc = some s_):=⟨by rw [show numS 10 (some (a0_8,3)) acc = some acc from if_pos t0,Option.bind_some] at hp;exact hp⟩
      clear hp
      have t0_ : (a0_8 == 3) = true:=beq_iff_eq.mpr t0
      have t1_ : (a0_8 != 3) = false:=bne_eq_false_iff_eq.mpr t0
      have T0:=am_ t0
      clear t0
      go_wp2_with (first|((with_reducible refine gate_dst (N:=23) rfl ?_);refine Kd.event_run (v:=.pointer (some ⟨gp,8,none⟩)) (w1:=wr) rfl (by kernel_rfl) ?_)|go_in)
      try go_quiet (fail)
      try go_wp2
      go_roundw
      case rel => exact ⟨11,acc,_,_,by omega,rfl,HP2,⟨by first|exact HD.out|exact HD.out.drewN _|exact HD.out.drew⟩,⟨by first|exact HK.out|exact HK.out.drewN _|exact HK.out.drew⟩⟩
      case measure => simp [intOf]
     ·rw [show numS 10 (some (a0_8,3)) acc = (varint_Put.f a0_8).bind fun p => (params_pair.f 10 p.1).bind fun q => addS acc q from if_neg t0] at hp
      obtain ⟨s2,h1,h2⟩:=Option.bind_eq_some_iff.1 hp
      obtain ⟨⟨n1,n2⟩,hn,h3⟩:=Option.bind_eq_some_iff.1 h1
      obtain ⟨q,hq,ha⟩:=Option.bind_eq_some_iff.1 h3
      unfold addS at ha
      by_cases hs : acc.size + q.size ≤ 140737488355328
      ·rw [if_pos hs] at ha
       obtain rfl:=Option.some.inj ha
       have HP2 : Aside0 (putE a0_11 11 ((prmE a0_0 a0_1 a0_2 a0_3 a0_4 a0_5 a0_6 a0_7 a0_8 a0_9 a0_10).drop 11) (acc ++ q) = some s_):=⟨h2⟩
       have HQ : Aside0 (params_pair.f 10 n1 = some q):=⟨hq⟩
       have HN:=am_ hn
       have HS:=am_ hs
       clear hp h1 h2 h3 hq hn ha hs
       have t0_ : (a0_8 == 3) = false:=beq_eq_false_iff_ne.mpr t0
       have t1_ : (a0_8 != 3) = true:=bne_iff_ne.mpr t0
       have T0:=am_ t0
       clear t0
       go_wp2_with (first|((with_reducible refine gate_dst (N:=23) rfl ?_);refine Kd.event_run (v:=.pointer (some ⟨gp,8,none⟩)) (w1:=wr) rfl (by kernel_rfl) ?_)|(go_at_call 20;(with_reducible refine (varint_Put.calls _ n1 n2 _ (tab_below HT.out (by repeat (first|(with_reducible first|exact HWR.out|apply pn_|apply pd_)|exact HWR.out))) HN.out).mono ?_);rintro e wn ⟨rfl,hb⟩;have HD2:=am_ (by first|exact HD.out.below hb|exact (HD.out.drewN _).below hb : Bldr Br gb 0 47 [p,v] acc _);have HK2:=am_ (KeptG.ofBelow (by first|exact HK.out|exact HK.out.drewN _) (hb.mono hsz) : KeptG Br gb w9 _);have HWR2:=am_ (below_step (by repeat (first|(with_reducible first|exact HWR.out|apply pn_|apply pd_)|exact HWR.out)) hb);have hsz2:=Nat.le_trans hsz hb.size;clear HD HK HWR hsz hb;have HD:=HD2;have HK:=HK2;have HWR:=HWR2;have hsz:=hsz2;clear HD2 HK2 HWR2 hsz2)|(go_at_call 19;(with_reducible refine (params_pair.calls 10 n1 q _ (tab_below HT.out (by repeat (first|(with_reducible first|exact HWR.out|apply pn_|apply pd_)|exact HWR.out))) HQ.out).mono ?_);rintro e wq ⟨rfl,hb⟩;have HD2:=am_ (by first|exact HD.out.below hb|exact (HD.out.drewN _).below hb : Bldr Br gb 0 47 [p,v] acc _);have HK2:=am_ (KeptG.ofBelow (by first|exact HK.out|exact HK.out.drewN _) (hb.mono hsz) : KeptG Br gb w9 _);have HWR2:=am_ (below_step (by repeat (first|(with_reducible first|exact HWR.out|apply pn_|apply pd_)|exact HWR.out)) hb);have hsz2:=Nat.le_trans hsz hb.size;clear HD HK HWR hsz hb;have HD:=HD2;have HK:=HK2;have HWR:=HWR2;have hsz:=hsz2;clear HD2 HK2 HWR2 hsz2)|(go_at_call 18;refine (bldr_write Br gb 0 47 [p,v] acc q _ put_T HD.out HS.out hsz).mono ?_;rintro e wz ⟨rfl,⟨v4,hd4⟩,hk4⟩;have HD4:=am_ hd4;have HK4:=am_ (HK.out.trans hk4);clear hd4 hk4)|go_in)
       try go_quiet (fail)
       try go_wp2_with (first|(go_at_call 20;(with_reducible refine (varint_Put.calls _ n1 n2 _ (tab_below HT.out (by repeat (first|(with_reducible first|exact HWR.out|apply pn_|apply pd_)|exact HWR.out))) HN.out).mono ?_);rintro e wn ⟨rfl,hb⟩;have HD2:=am_ (by first|exact HD.out.below hb|exact (HD.out.drewN _).below hb : Bldr Br gb 0 47 [p,v] acc _);have HK2:=am_ (KeptG.ofBelow (by first|exact HK.out|exact HK.out.drewN _) (hb.mono hsz) : KeptG Br gb w9 _);have HWR2:=am_ (below_step (by repeat (first|(with_reducible first|exact HWR.out|apply pn_|apply pd_)|exact HWR.out)) hb);have hsz2:=Nat.le_trans hsz hb.size;clear HD HK HWR hsz hb;have HD:=HD2;have HK:=HK2;have HWR:=HWR2;have hsz:=hsz2;clear HD2 HK2 HWR2 hsz2)|(go_at_call 19;(with_reducible refine (params_pair.calls 10 n1 q _ (tab_below HT.out (by repeat (first|(with_reducible first|exact HWR.out|apply pn_|apply pd_)|exact HWR.out))) HQ.out).mono ?_);rintro e wq ⟨rfl,hb⟩;have HD2:=am_ (by first|exact HD.out.below hb|exact (HD.out.drewN _).below hb : Bldr Br gb 0 47 [p,v] acc _);have HK2:=am_ (KeptG.ofBelow (by first|exact HK.out|exact HK.out.drewN _) (hb.mono hsz) : KeptG Br gb w9 _);have HWR2:=am_ (below_step (by repeat (first|(with_reducible first|exact HWR.out|apply pn_|apply pd_)|exact HWR.out)) hb);have hsz2:=Nat.le_trans hsz hb.size;clear HD HK HWR hsz hb;have HD:=HD2;have HK:=HK2;have HWR:=HWR2;have hsz:=hsz2;clear HD2 HK2 HWR2 hsz2)|(go_at_call 18;refine (bldr_write Br gb 0 47 [p,v] acc q _ put_T HD.out HS.out hsz).mono ?_;rintro e wz ⟨rfl,⟨v4,hd4⟩,hk4⟩;have HD4:=am_ hd4;have HK4:=am_ (HK.out.trans hk4);clear hd4 hk4)|go_in)
       go_roundw
       case rel => exact ⟨11,acc ++ q,_,_,by omega,rfl,HP2,⟨by first|exact HD4.out|exact HD4.out.drewN _|exact HD4.out.drew⟩,⟨by first|exact HK4.out|exact HK4.out.drewN _|exact HK4.out.drew⟩⟩
       case measure => simp [intOf]
      ·rw [if_neg hs] at ha
       cases ha
   ·as_aux_lemma =>
     have hp : ((tokS a0_11 11 acc).bind fun s1 => (numS 11 (some (a0_9,25)) s1).bind fun s2 => putE a0_11 12 ((prmE a0_0 a0_1 a0_2 a0_3 a0_4 a0_5 a0_6 a0_7 a0_8 a0_9 a0_10).drop 12) s2) = some s_:=HP.out
     rw [show tokS a0_11 11 acc = some acc from rfl,Option.bind_some] at hp
     have hcp : wr.cell? ⟨gp,9,none⟩ = some (.int .u64 a0_9):=HKC.out gp 9 _ HZ.out.2.1 Npb.out ((kc_ BKp.out 9).trans rfl)
     have hcu : wr.cell? ⟨gu,9,none⟩ = some (.int .u64 25):=HKC.out gu 9 _ HZ.out.2.2.2.1 Nbu.out.symm ((kc_ BKu.out 9).trans rfl)
     have hcw : wr.cell? ⟨gw,11,none⟩ = some (.pointer (some ⟨gu,9,none⟩)):=HKC.out gw 11 _ HZ.out.2.2.2.2.1 Nbw.out.symm ((kc_ BKw.out 11).trans rfl)
     by_cases t0 : a0_9 = 25
     ·have HP2 : Aside0 (putE a0_11 12 ((prmE a0_0 a0_1 a0_2 a0_3 a0_4 a0_5 a0_6 a0_7 a0_8 a0_9 a0_10).drop 12) acc = some s_):=⟨by rw [show numS 11 (some (a0_9,25)) acc = some acc from if_pos t0,Option.bind_some] at hp;exact hp⟩
      clear hp
      have t0_ : (a0_9 == 25) = true:=beq_iff_eq.mpr t0
      have t1_ : (a0_9 != 25) = false:=bne_eq_false_iff_eq.mpr t0
      have T0:=am_ t0
      clear t0
      go_wp2_with (first|((with_reducible refine gate_dst (N:=23) rfl ?_);refine Kd.event_run (v:=.pointer (some ⟨gp,9,none⟩)) (w1:=wr) rfl (by kernel_rfl) ?_)|go_in)
      try go_quiet (fail)
      try go_wp2
      go_roundw
      case rel => exact ⟨12,acc,_,_,by omega,rfl,HP2,⟨by first|exact HD.out|exact HD.out.drewN _|exact HD.out.drew⟩,⟨by first|exact HK.out|exact HK.out.drewN _|exact HK.out.drew⟩⟩
      case measure => simp [intOf]
     ·rw [show numS 11 (some (a0_9,25)) acc = (varint_Put.f a0_9).bind fun p => (params_pair.f 11 p.1).bind fun q => addS acc q from if_neg t0] at hp
      obtain ⟨s2,h1,h2⟩:=Option.bind_eq_some_iff.1 hp
      obtain ⟨⟨n1,n2⟩,hn,h3⟩:=Option.bind_eq_some_iff.1 h1
      obtain ⟨q,hq,ha⟩:=Option.bind_eq_some_iff.1 h3
      unfold addS at ha
      by_cases hs : acc.size + q.size ≤ 140737488355328
      ·rw [if_pos hs] at ha
       obtain rfl:=Option.some.inj ha
       have HP2 : Aside0 (putE a0_11 12 ((prmE a0_0 a0_1 a0_2 a0_3 a0_4 a0_5 a0_6 a0_7 a0_8 a0_9 a0_10).drop 12) (acc ++ q) = some s_):=⟨h2⟩
       have HQ : Aside0 (params_pair.f 11 n1 = some q):=⟨hq⟩
       have HN:=am_ hn
       have HS:=am_ hs
       clear hp h1 h2 h3 hq hn ha hs
       have t0_ : (a0_9 == 25) = false:=beq_eq_false_iff_ne.mpr t0
       have t1_ : (a0_9 != 25) = true:=bne_iff_ne.mpr t0
       have T0:=am_ t0
       clear t0
       go_wp2_with (first|((with_reducible refine gate_dst (N:=23) rfl ?_);refine Kd.event_run (v:=.pointer (some ⟨gp,9,none⟩)) (w1:=wr) rfl (by kernel_rfl) ?_)|(go_at_call 20;(with_reducible refine (varint_Put.calls _ n1 n2 _ (tab_below HT.out (by repeat (first|(with_reducible first|exact HWR.out|apply pn_|apply pd_)|exact HWR.out))) HN.out).mono ?_);rintro e wn ⟨rfl,hb⟩;have HD2:=am_ (by first|exact HD.out.below hb|exact (HD.out.drewN _).below hb : Bldr Br gb 0 47 [p,v] acc _);have HK2:=am_ (KeptG.ofBelow (by first|exact HK.out|exact HK.out.drewN _) (hb.mono hsz) : KeptG Br gb w9 _);have HWR2:=am_ (below_step (by repeat (first|(with_reducible first|exact HWR.out|apply pn_|apply pd_)|exact HWR.out)) hb);have hsz2:=Nat.le_trans hsz hb.size;clear HD HK HWR hsz hb;have HD:=HD2;have HK:=HK2;have HWR:=HWR2;have hsz:=hsz2;clear HD2 HK2 HWR2 hsz2)|(go_at_call 19;(with_reducible refine (params_pair.calls 11 n1 q _ (tab_below HT.out (by repeat (first|(with_reducible first|exact HWR.out|apply pn_|apply pd_)|exact HWR.out))) HQ.out).mono ?_);rintro e wq ⟨rfl,hb⟩;have HD2:=am_ (by first|exact HD.out.below hb|exact (HD.out.drewN _).below hb : Bldr Br gb 0 47 [p,v] acc _);have HK2:=am_ (KeptG.ofBelow (by first|exact HK.out|exact HK.out.drewN _) (hb.mono hsz) : KeptG Br gb w9 _);have HWR2:=am_ (below_step (by repeat (first|(with_reducible first|exact HWR.out|apply pn_|apply pd_)|exact HWR.out)) hb);have hsz2:=Nat.le_trans hsz hb.size;clear HD HK HWR hsz hb;have HD:=HD2;have HK:=HK2;have HWR:=HWR2;have hsz:=hsz2;clear HD2 HK2 HWR2 hsz2)|(go_at_call 18;refine (bldr_write Br gb 0 47 [p,v] acc q _ put_T HD.out HS.out hsz).mono ?_;rintro e wz ⟨rfl,⟨v4,hd4⟩,hk4⟩;have HD4:=am_ hd4;have HK4:=am_ (HK.out.trans hk4);clear hd4 hk4)|go_in)
       try go_quiet (fail)
       try go_wp2_with (first|(go_at_call 20;(with_reducible refine (varint_Put.calls _ n1 n2 _ (tab_below HT.out (by repeat (first|(with_reducible first|exact HWR.out|apply pn_|apply pd_)|exact HWR.out))) HN.out).mono ?_);rintro e wn ⟨rfl,hb⟩;have HD2:=am_ (by first|exact HD.out.below hb|exact (HD.out.drewN _).below hb : Bldr Br gb 0 47 [p,v] acc _);have HK2:=am_ (KeptG.ofBelow (by first|exact HK.out|exact HK.out.drewN _) (hb.mono hsz) : KeptG Br gb w9 _);have HWR2:=am_ (below_step (by repeat (first|(with_reducible first|exact HWR.out|apply pn_|apply pd_)|exact HWR.out)) hb);have hsz2:=Nat.le_trans hsz hb.size;clear HD HK HWR hsz hb;have HD:=HD2;have HK:=HK2;have HWR:=HWR2;have hsz:=hsz2;clear HD2 HK2 HWR2 hsz2)|(go_at_call 19;(with_reducible refine (params_pair.calls 11 n1 q _ (tab_below HT.out (by repeat (first|(with_reducible first|exact HWR.out|apply pn_|apply pd_)|exact HWR.out))) HQ.out).mono ?_);rintro e wq ⟨rfl,hb⟩;have HD2:=am_ (by first|exact HD.out.below hb|exact (HD.out.drewN _).below hb : Bldr Br gb 0 47 [p,v] acc _);have HK2:=am_ (KeptG.ofBelow (by first|exact HK.out|exact HK.out.drewN _) (hb.mono hsz) : KeptG Br gb w9 _);have HWR2:=am_ (below_step (by repeat (first|(with_reducible first|exact HWR.out|apply pn_|apply pd_)|exact HWR.out)) hb);have hsz2:=Nat.le_trans hsz hb.size;clear HD HK HWR hsz hb;have HD:=HD2;have HK:=HK2;have HWR:=HWR2;have hsz:=hsz2;clear HD2 HK2 HWR2 hsz2)|(go_at_call 18;refine (bldr_write Br gb 0 47 [p,v] acc q _ put_T HD.out HS.out hsz).mono ?_;rintro e wz ⟨rfl,⟨v4,hd4⟩,hk4⟩;have HD4:=am_ hd4;have HK4:=am_ (HK.out.trans hk4);clear hd4 hk4)|go_in)
       go_roundw
       case rel => exact ⟨12,acc ++ q,_,_,by omega,rfl,HP2,⟨by first|exact HD4.out|exact HD4.out.drewN _|exact HD4.out.drew⟩,⟨by first|exact HK4.out|exact HK4.out.drewN _|exact HK4.out.drew⟩⟩
       case measure => simp [intOf]
      ·rw [if_neg hs] at ha
       cases ha
   ·as_aux_lemma =>
     have hp : ((tokS a0_11 12 acc).bind fun s1 => (numS 12 (none) s1).bind fun s2 => putE a0_11 13 ((prmE a0_0 a0_1 a0_2 a0_3 a0_4 a0_5 a0_6 a0_7 a0_8 a0_9 a0_10).drop 13) s2) = some s_:=HP.out
     rw [show tokS a0_11 12 acc = some acc from rfl,Option.bind_some] at hp
     rw [show numS 12 none acc = some acc from rfl,Option.bind_some] at hp
     have HP2 : Aside0 (putE a0_11 13 ((prmE a0_0 a0_1 a0_2 a0_3 a0_4 a0_5 a0_6 a0_7 a0_8 a0_9 a0_10).drop 13) acc = some s_):=⟨hp⟩
     clear hp
     go_upto_region 12 with (first|((with_reducible refine gate_dst (N:=23) rfl ?_);refine Kd.event_run (v:=.pointer none) (w1:=wr) rfl (by kernel_rfl) ?_)|go_in)
     have HT_ : Aside0 (rtab .any (opsOf Tryd.f9 12) = rtab .any (opsOf Tryd.f9 12)):=⟨rfl⟩
     refine start_ (n:=13) (S:=fun _ => True) (ds:=[]) #[F_,F_,F_,F_,F_,F_,F_,F_,F_,F_,F_,F_,F_] (by kernel_rfl) rfl rfl trivial (fun hHeld => ?_)
     refine pure_ (i:=0) (N:=some 35) (v:=?_) (a':=?_) #[T_,F_,F_,F_,F_,F_,F_,F_,F_,F_,F_,F_,F_] rfl rfl (any_of HT_.out (by kernel_rfl)) (fun _ _ _ h => h) (Or.inl ⟨by rfl,?_⟩) ?_ ?_
     rotate_left;(intro w';go_simp;with_reducible rfl);rotate_left;(simp only [Act.put,ps_,i64_w,i32_w];rfl)
     refine pure_ (i:=1) (N:=some 36) (v:=?_) (a':=?_) #[T_,T_,F_,F_,F_,F_,F_,F_,F_,F_,F_,F_,F_] rfl rfl (any_of HT_.out (by kernel_rfl)) (fun _ _ _ h => h) (Or.inl ⟨by rfl,?_⟩) ?_ ?_
     rotate_left;(intro w';go_simp;with_reducible rfl);rotate_left;(simp only [Act.put,ps_,i64_w,i32_w];rfl)
     refine pure_ (i:=2) (N:=some 37) (v:=?_) (a':=?_) #[T_,T_,T_,F_,F_,F_,F_,F_,F_,F_,F_,F_,F_] rfl rfl (any_of HT_.out (by kernel_rfl)) (fun _ _ _ h => h) (Or.inl ⟨by rfl,?_⟩) ?_ ?_
     rotate_left;(intro w';go_simp;with_reducible rfl);rotate_left;(simp only [Act.put,ps_,i64_w,i32_w];rfl)
     refine pure_ (i:=3) (N:=some 38) (v:=undef) (a':=?_) #[T_,T_,T_,T_,F_,F_,F_,F_,F_,F_,F_,F_,F_] rfl rfl (any_of HT_.out (by kernel_rfl)) (fun _ _ _ h => h) (Or.inr ⟨by rfl,rfl⟩) ?_ ?_
     rotate_left
     ·simp only [Act.put,ps_,i64_w,i32_w]
      rfl
     refine pure_ (i:=4) (N:=some 39) (v:=undef) (a':=?_) #[T_,T_,T_,T_,T_,F_,F_,F_,F_,F_,F_,F_,F_] rfl rfl (any_of HT_.out (by kernel_rfl)) (fun _ _ _ h => h) (Or.inr ⟨by rfl,rfl⟩) ?_ ?_
     rotate_left
     ·simp only [Act.put,ps_,i64_w,i32_w]
      rfl
     refine pure_ (i:=5) (N:=some 40) (v:=undef) (a':=?_) #[T_,T_,T_,T_,T_,T_,F_,F_,F_,F_,F_,F_,F_] rfl rfl (any_of HT_.out (by kernel_rfl)) (fun _ _ _ h => h) (Or.inr ⟨by rfl,rfl⟩) ?_ ?_
     rotate_left
     ·simp only [Act.put,ps_,i64_w,i32_w]
      rfl
     refine pure_ (i:=6) (N:=some 41) (v:=undef) (a':=?_) #[T_,T_,T_,T_,T_,T_,T_,F_,F_,F_,F_,F_,F_] rfl rfl (any_of HT_.out (by kernel_rfl)) (fun _ _ _ h => h) (Or.inr ⟨by rfl,rfl⟩) ?_ ?_
     rotate_left
     ·simp only [Act.put,ps_,i64_w,i32_w]
      rfl
     refine pure_ (i:=7) (N:=some 42) (v:=undef) (a':=?_) #[T_,T_,T_,T_,T_,T_,T_,T_,F_,F_,F_,F_,F_] rfl rfl (any_of HT_.out (by kernel_rfl)) (fun _ _ _ h => h) (Or.inr ⟨by rfl,rfl⟩) ?_ ?_
     rotate_left
     ·simp only [Act.put,ps_,i64_w,i32_w]
      rfl
     refine pure_ (i:=8) (N:=some 43) (v:=undef) (a':=?_) #[T_,T_,T_,T_,T_,T_,T_,T_,T_,F_,F_,F_,F_] rfl rfl (any_of HT_.out (by kernel_rfl)) (fun _ _ _ h => h) (Or.inr ⟨by rfl,rfl⟩) ?_ ?_
     rotate_left
     ·simp only [Act.put,ps_,i64_w,i32_w]
      rfl
     refine pure_ (i:=9) (N:=some 44) (v:=undef) (a':=?_) #[T_,T_,T_,T_,T_,T_,T_,T_,T_,T_,F_,F_,F_] rfl rfl (any_of HT_.out (by kernel_rfl)) (fun _ _ _ h => h) (Or.inr ⟨by rfl,rfl⟩) ?_ ?_
     rotate_left
     ·simp only [Act.put,ps_,i64_w,i32_w]
      rfl
     refine pure_ (i:=10) (N:=some 45) (v:=undef) (a':=?_) #[T_,T_,T_,T_,T_,T_,T_,T_,T_,T_,T_,F_,F_] rfl rfl (any_of HT_.out (by kernel_rfl)) (fun _ _ _ h => h) (Or.inr ⟨by rfl,rfl⟩) ?_ ?_
     rotate_left
     ·simp only [Act.put,ps_,i64_w,i32_w]
      rfl
     refine pure_ (i:=11) (N:=some 46) (v:=undef) (a':=?_) #[T_,T_,T_,T_,T_,T_,T_,T_,T_,T_,T_,T_,F_] rfl rfl (any_of HT_.out (by kernel_rfl)) (fun _ _ _ h => h) (Or.inr ⟨by rfl,rfl⟩) ?_ ?_
     rotate_left
     ·simp only [Act.put,ps_,i64_w,i32_w]
      rfl
     refine pure_ (i:=12) (N:=some 47) (v:=?_) (a':=?_) #[T_,T_,T_,T_,T_,T_,T_,T_,T_,T_,T_,T_,T_] rfl rfl (any_of HT_.out (by kernel_rfl)) (fun _ _ _ h => h) (Or.inl ⟨by rfl,?_⟩) ?_ ?_
     rotate_left;(intro w';go_simp;with_reducible rfl);rotate_left;(simp only [Act.put,ps_,i64_w,i32_w];rfl)
     refine done_ (done_of HT_.out (by kernel_rfl)) ?_
     go_wp2
     go_roundw
     case rel => exact ⟨13,acc,_,_,by omega,rfl,HP2,⟨by first|exact HD.out|exact HD.out.drewN _|exact HD.out.drew⟩,⟨by first|exact HK.out|exact HK.out.drewN _|exact HK.out.drew⟩⟩
     case measure => simp [intOf]
   ·as_aux_lemma =>
     have hp : ((tokS a0_11 13 acc).bind fun s1 => (numS 13 (none) s1).bind fun s2 => putE a0_11 14 ((prmE a0_0 a0_1 a0_2 a0_3 a0_4 a0_5 a0_6 a0_7 a0_8 a0_9 a0_10).drop 14) s2) = some s_:=HP.out
     rw [show tokS a0_11 13 acc = some acc from rfl,Option.bind_some] at hp
     rw [show numS 13 none acc = some acc from rfl,Option.bind_some] at hp
     have HP2 : Aside0 (putE a0_11 14 ((prmE a0_0 a0_1 a0_2 a0_3 a0_4 a0_5 a0_6 a0_7 a0_8 a0_9 a0_10).drop 14) acc = some s_):=⟨hp⟩
     clear hp
     go_upto_region 12 with (first|((with_reducible refine gate_dst (N:=23) rfl ?_);refine Kd.event_run (v:=.pointer none) (w1:=wr) rfl (by kernel_rfl) ?_)|go_in)
     have HT_ : Aside0 (rtab .any (opsOf Tryd.f9 12) = rtab .any (opsOf Tryd.f9 12)):=⟨rfl⟩
     refine start_ (n:=13) (S:=fun _ => True) (ds:=[]) #[F_,F_,F_,F_,F_,F_,F_,F_,F_,F_,F_,F_,F_] (by kernel_rfl) rfl rfl trivial (fun hHeld => ?_)
     refine pure_ (i:=0) (N:=some 35) (v:=?_) (a':=?_) #[T_,F_,F_,F_,F_,F_,F_,F_,F_,F_,F_,F_,F_] rfl rfl (any_of HT_.out (by kernel_rfl)) (fun _ _ _ h => h) (Or.inl ⟨by rfl,?_⟩) ?_ ?_
     rotate_left;(intro w';go_simp;with_reducible rfl);rotate_left;(simp only [Act.put,ps_,i64_w,i32_w];rfl)
     refine pure_ (i:=1) (N:=some 36) (v:=?_) (a':=?_) #[T_,T_,F_,F_,F_,F_,F_,F_,F_,F_,F_,F_,F_] rfl rfl (any_of HT_.out (by kernel_rfl)) (fun _ _ _ h => h) (Or.inl ⟨by rfl,?_⟩) ?_ ?_
     rotate_left;(intro w';go_simp;with_reducible rfl);rotate_left;(simp only [Act.put,ps_,i64_w,i32_w];rfl)
     refine pure_ (i:=2) (N:=some 37) (v:=?_) (a':=?_) #[T_,T_,T_,F_,F_,F_,F_,F_,F_,F_,F_,F_,F_] rfl rfl (any_of HT_.out (by kernel_rfl)) (fun _ _ _ h => h) (Or.inl ⟨by rfl,?_⟩) ?_ ?_
     rotate_left;(intro w';go_simp;with_reducible rfl);rotate_left;(simp only [Act.put,ps_,i64_w,i32_w];rfl)
     refine pure_ (i:=3) (N:=some 38) (v:=undef) (a':=?_) #[T_,T_,T_,T_,F_,F_,F_,F_,F_,F_,F_,F_,F_] rfl rfl (any_of HT_.out (by kernel_rfl)) (fun _ _ _ h => h) (Or.inr ⟨by rfl,rfl⟩) ?_ ?_
     rotate_left
     ·simp only [Act.put,ps_,i64_w,i32_w]
      rfl
     refine pure_ (i:=4) (N:=some 39) (v:=undef) (a':=?_) #[T_,T_,T_,T_,T_,F_,F_,F_,F_,F_,F_,F_,F_] rfl rfl (any_of HT_.out (by kernel_rfl)) (fun _ _ _ h => h) (Or.inr ⟨by rfl,rfl⟩) ?_ ?_
     rotate_left
     ·simp only [Act.put,ps_,i64_w,i32_w]
      rfl
     refine pure_ (i:=5) (N:=some 40) (v:=undef) (a':=?_) #[T_,T_,T_,T_,T_,T_,F_,F_,F_,F_,F_,F_,F_] rfl rfl (any_of HT_.out (by kernel_rfl)) (fun _ _ _ h => h) (Or.inr ⟨by rfl,rfl⟩) ?_ ?_
     rotate_left
     ·simp only [Act.put,ps_,i64_w,i32_w]
      rfl
     refine pure_ (i:=6) (N:=some 41) (v:=undef) (a':=?_) #[T_,T_,T_,T_,T_,T_,T_,F_,F_,F_,F_,F_,F_] rfl rfl (any_of HT_.out (by kernel_rfl)) (fun _ _ _ h => h) (Or.inr ⟨by rfl,rfl⟩) ?_ ?_
     rotate_left
     ·simp only [Act.put,ps_,i64_w,i32_w]
      rfl
     refine pure_ (i:=7) (N:=some 42) (v:=undef) (a':=?_) #[T_,T_,T_,T_,T_,T_,T_,T_,F_,F_,F_,F_,F_] rfl rfl (any_of HT_.out (by kernel_rfl)) (fun _ _ _ h => h) (Or.inr ⟨by rfl,rfl⟩) ?_ ?_
     rotate_left
     ·simp only [Act.put,ps_,i64_w,i32_w]
      rfl
     refine pure_ (i:=8) (N:=some 43) (v:=undef) (a':=?_) #[T_,T_,T_,T_,T_,T_,T_,T_,T_,F_,F_,F_,F_] rfl rfl (any_of HT_.out (by kernel_rfl)) (fun _ _ _ h => h) (Or.inr ⟨by rfl,rfl⟩) ?_ ?_
     rotate_left
     ·simp only [Act.put,ps_,i64_w,i32_w]
      rfl
     refine pure_ (i:=9) (N:=some 44) (v:=undef) (a':=?_) #[T_,T_,T_,T_,T_,T_,T_,T_,T_,T_,F_,F_,F_] rfl rfl (any_of HT_.out (by kernel_rfl)) (fun _ _ _ h => h) (Or.inr ⟨by rfl,rfl⟩) ?_ ?_
     rotate_left
     ·simp only [Act.put,ps_,i64_w,i32_w]
      rfl
     refine pure_ (i:=10) (N:=some 45) (v:=undef) (a':=?_) #[T_,T_,T_,T_,T_,T_,T_,T_,T_,T_,T_,F_,F_] rfl rfl (any_of HT_.out (by kernel_rfl)) (fun _ _ _ h => h) (Or.inr ⟨by rfl,rfl⟩) ?_ ?_
     rotate_left
     ·simp only [Act.put,ps_,i64_w,i32_w]
      rfl
     refine pure_ (i:=11) (N:=some 46) (v:=undef) (a':=?_) #[T_,T_,T_,T_,T_,T_,T_,T_,T_,T_,T_,T_,F_] rfl rfl (any_of HT_.out (by kernel_rfl)) (fun _ _ _ h => h) (Or.inr ⟨by rfl,rfl⟩) ?_ ?_
     rotate_left
     ·simp only [Act.put,ps_,i64_w,i32_w]
      rfl
     refine pure_ (i:=12) (N:=some 47) (v:=?_) (a':=?_) #[T_,T_,T_,T_,T_,T_,T_,T_,T_,T_,T_,T_,T_] rfl rfl (any_of HT_.out (by kernel_rfl)) (fun _ _ _ h => h) (Or.inl ⟨by rfl,?_⟩) ?_ ?_
     rotate_left;(intro w';go_simp;with_reducible rfl);rotate_left;(simp only [Act.put,ps_,i64_w,i32_w];rfl)
     refine done_ (done_of HT_.out (by kernel_rfl)) ?_
     go_wp2
     go_roundw
     case rel => exact ⟨14,acc,_,_,by omega,rfl,HP2,⟨by first|exact HD.out|exact HD.out.drewN _|exact HD.out.drew⟩,⟨by first|exact HK.out|exact HK.out.drewN _|exact HK.out.drew⟩⟩
     case measure => simp [intOf]
   ·as_aux_lemma =>
     have hp : ((tokS a0_11 14 acc).bind fun s1 => (numS 14 (some (a0_10,2)) s1).bind fun s2 => putE a0_11 15 ((prmE a0_0 a0_1 a0_2 a0_3 a0_4 a0_5 a0_6 a0_7 a0_8 a0_9 a0_10).drop 15) s2) = some s_:=HP.out
     rw [show tokS a0_11 14 acc = some acc from rfl,Option.bind_some] at hp
     have hcp : wr.cell? ⟨gp,10,none⟩ = some (.int .u64 a0_10):=HKC.out gp 10 _ HZ.out.2.1 Npb.out ((kc_ BKp.out 10).trans rfl)
     have hcu : wr.cell? ⟨gu,10,none⟩ = some (.int .u64 2):=HKC.out gu 10 _ HZ.out.2.2.2.1 Nbu.out.symm ((kc_ BKu.out 10).trans rfl)
     have hcw : wr.cell? ⟨gw,14,none⟩ = some (.pointer (some ⟨gu,10,none⟩)):=HKC.out gw 14 _ HZ.out.2.2.2.2.1 Nbw.out.symm ((kc_ BKw.out 14).trans rfl)
     by_cases t0 : a0_10 = 2
     ·have HP2 : Aside0 (putE a0_11 15 ((prmE a0_0 a0_1 a0_2 a0_3 a0_4 a0_5 a0_6 a0_7 a0_8 a0_9 a0_10).drop 15) acc = some s_):=⟨by rw [show numS 14 (some (a0_10,2)) acc = some acc from if_pos t0,Option.bind_some] at hp;exact hp⟩
      clear hp
      have t0_ : (a0_10 == 2) = true:=beq_iff_eq.mpr t0
      have t1_ : (a0_10 != 2) = false:=bne_eq_false_iff_eq.mpr t0
      have T0:=am_ t0
      clear t0
      go_wp2_with (first|((with_reducible refine gate_dst (N:=23) rfl ?_);refine Kd.event_run (v:=.pointer (some ⟨gp,10,none⟩)) (w1:=wr) rfl (by kernel_rfl) ?_)|go_in)
      try go_quiet (fail)
      try go_wp2
      go_roundw
      case rel => exact ⟨15,acc,_,_,by omega,rfl,HP2,⟨by first|exact HD.out|exact HD.out.drewN _|exact HD.out.drew⟩,⟨by first|exact HK.out|exact HK.out.drewN _|exact HK.out.drew⟩⟩
      case measure => simp [intOf]
     ·rw [show numS 14 (some (a0_10,2)) acc = (varint_Put.f a0_10).bind fun p => (params_pair.f 14 p.1).bind fun q => addS acc q from if_neg t0] at hp
      obtain ⟨s2,h1,h2⟩:=Option.bind_eq_some_iff.1 hp
      obtain ⟨⟨n1,n2⟩,hn,h3⟩:=Option.bind_eq_some_iff.1 h1
      obtain ⟨q,hq,ha⟩:=Option.bind_eq_some_iff.1 h3
      unfold addS at ha
      by_cases hs : acc.size + q.size ≤ 140737488355328
      ·rw [if_pos hs] at ha
       obtain rfl:=Option.some.inj ha
       have HP2 : Aside0 (putE a0_11 15 ((prmE a0_0 a0_1 a0_2 a0_3 a0_4 a0_5 a0_6 a0_7 a0_8 a0_9 a0_10).drop 15) (acc ++ q) = some s_):=⟨h2⟩
       have HQ : Aside0 (params_pair.f 14 n1 = some q):=⟨hq⟩
       have HN:=am_ hn
       have HS:=am_ hs
       clear hp h1 h2 h3 hq hn ha hs
       have t0_ : (a0_10 == 2) = false:=beq_eq_false_iff_ne.mpr t0
       have t1_ : (a0_10 != 2) = true:=bne_iff_ne.mpr t0
       have T0:=am_ t0
       clear t0
       go_wp2_with (first|((with_reducible refine gate_dst (N:=23) rfl ?_);refine Kd.event_run (v:=.pointer (some ⟨gp,10,none⟩)) (w1:=wr) rfl (by kernel_rfl) ?_)|(go_at_call 20;(with_reducible refine (varint_Put.calls _ n1 n2 _ (tab_below HT.out (by repeat (first|(with_reducible first|exact HWR.out|apply pn_|apply pd_)|exact HWR.out))) HN.out).mono ?_);rintro e wn ⟨rfl,hb⟩;have HD2:=am_ (by first|exact HD.out.below hb|exact (HD.out.drewN _).below hb : Bldr Br gb 0 47 [p,v] acc _);have HK2:=am_ (KeptG.ofBelow (by first|exact HK.out|exact HK.out.drewN _) (hb.mono hsz) : KeptG Br gb w9 _);have HWR2:=am_ (below_step (by repeat (first|(with_reducible first|exact HWR.out|apply pn_|apply pd_)|exact HWR.out)) hb);have hsz2:=Nat.le_trans hsz hb.size;clear HD HK HWR hsz hb;have HD:=HD2;have HK:=HK2;have HWR:=HWR2;have hsz:=hsz2;clear HD2 HK2 HWR2 hsz2)|(go_at_call 19;(with_reducible refine (params_pair.calls 14 n1 q _ (tab_below HT.out (by repeat (first|(with_reducible first|exact HWR.out|apply pn_|apply pd_)|exact HWR.out))) HQ.out).mono ?_);rintro e wq ⟨rfl,hb⟩;have HD2:=am_ (by first|exact HD.out.below hb|exact (HD.out.drewN _).below hb : Bldr Br gb 0 47 [p,v] acc _);have HK2:=am_ (KeptG.ofBelow (by first|exact HK.out|exact HK.out.drewN _) (hb.mono hsz) : KeptG Br gb w9 _);have HWR2:=am_ (below_step (by repeat (first|(with_reducible first|exact HWR.out|apply pn_|apply pd_)|exact HWR.out)) hb);have hsz2:=Nat.le_trans hsz hb.size;clear HD HK HWR hsz hb;have HD:=HD2;have HK:=HK2;have HWR:=HWR2;have hsz:=hsz2;clear HD2 HK2 HWR2 hsz2)|(go_at_call 18;refine (bldr_write Br gb 0 47 [p,v] acc q _ put_T HD.out HS.out hsz).mono ?_;rintro e wz ⟨rfl,⟨v4,hd4⟩,hk4⟩;have HD4:=am_ hd4;have HK4:=am_ (HK.out.trans hk4);clear hd4 hk4)|go_in)
       try go_quiet (fail)
       try go_wp2_with (first|(go_at_call 20;(with_reducible refine (varint_Put.calls _ n1 n2 _ (tab_below HT.out (by repeat (first|(with_reducible first|exact HWR.out|apply pn_|apply pd_)|exact HWR.out))) HN.out).mono ?_);rintro e wn ⟨rfl,hb⟩;have HD2:=am_ (by first|exact HD.out.below hb|exact (HD.out.drewN _).below hb : Bldr Br gb 0 47 [p,v] acc _);have HK2:=am_ (KeptG.ofBelow (by first|exact HK.out|exact HK.out.drewN _) (hb.mono hsz) : KeptG Br gb w9 _);have HWR2:=am_ (below_step (by repeat (first|(with_reducible first|exact HWR.out|apply pn_|apply pd_)|exact HWR.out)) hb);have hsz2:=Nat.le_trans hsz hb.size;clear HD HK HWR hsz hb;have HD:=HD2;have HK:=HK2;have HWR:=HWR2;have hsz:=hsz2;clear HD2 HK2 HWR2 hsz2)|(go_at_call 19;(with_reducible refine (params_pair.calls 14 n1 q _ (tab_below HT.out (by repeat (first|(with_reducible first|exact HWR.out|apply pn_|apply pd_)|exact HWR.out))) HQ.out).mono ?_);rintro e wq ⟨rfl,hb⟩;have HD2:=am_ (by first|exact HD.out.below hb|exact (HD.out.drewN _).below hb : Bldr Br gb 0 47 [p,v] acc _);have HK2:=am_ (KeptG.ofBelow (by first|exact HK.out|exact HK.out.drewN _) (hb.mono hsz) : KeptG Br gb w9 _);have HWR2:=am_ (below_step (by repeat (first|(with_reducible first|exact HWR.out|apply pn_|apply pd_)|exact HWR.out)) hb);have hsz2:=Nat.le_trans hsz hb.size;clear HD HK HWR hsz hb;have HD:=HD2;have HK:=HK2;have HWR:=HWR2;have hsz:=hsz2;clear HD2 HK2 HWR2 hsz2)|(go_at_call 18;refine (bldr_write Br gb 0 47 [p,v] acc q _ put_T HD.out HS.out hsz).mono ?_;rintro e wz ⟨rfl,⟨v4,hd4⟩,hk4⟩;have HD4:=am_ hd4;have HK4:=am_ (HK.out.trans hk4);clear hd4 hk4)|go_in)
       go_roundw
       case rel => exact ⟨15,acc ++ q,_,_,by omega,rfl,HP2,⟨by first|exact HD4.out|exact HD4.out.drewN _|exact HD4.out.drew⟩,⟨by first|exact HK4.out|exact HK4.out.drewN _|exact HK4.out.drew⟩⟩
       case measure => simp [intOf]
      ·rw [if_neg hs] at ha
       cases ha
   ·as_aux_lemma =>
     have hp : some acc = some s_:=HP.out
     obtain rfl:=Option.some.inj hp
     clear hp
     go_wp2_with (first|(go_at_call 21;refine (bldr_string Br gb 0 47 [p,v] _ wr HD.out hsz).mono ?_;rintro e wz ⟨rfl,hb⟩;have HB3:=am_ hb;clear hb)|go_in)
     go_ret2
     exact ⟨rfl,HB.out.trans ((HK.out.ofBelow HB3.out).below HZ.out.2.2.2.2.2 GEb.out)⟩
 ·rw [if_neg hok] at h
  simp only [Option.some.injEq,Prod.mk.injEq] at h
  obtain ⟨rfl,rfl⟩:=h
  have HCK : Aside0 (params_Check.f a0_0 a0_1 a0_2 a0_3 a0_4 a0_5 a0_6 a0_7 a0_8 a0_9 a0_10 a0_11 = some 50):=⟨by unfold params_Check.f;rw [if_neg hok]⟩
  clear hok
  go_enter Tryd.func9,Tryd.ntmps9
  go_wp2_with (first|((with_reducible refine gate_dst (N:=1) rfl ?_);(try (refine gate_guard (by rfl) ?_;dsimp only));refine box_event ?hg (N:=1) ?hd (cs:=#[.int .u64 a0_0,.int .u64 a0_1,.int .u64 a0_2,.int .u64 a0_3,.int .u64 a0_4,.int .u64 a0_5,.int .u64 a0_6,.int .u64 a0_7,.int .u64 a0_8,.int .u64 a0_9,.int .u64 a0_10,.string a0_11]) (t:=24) ?hr ?_;(case hd => rfl);(case hg => rfl);(case hr => first|(go_simp;done)|(go_simp;rfl));intro gp hg w1 hbox hb;have GEp:=am_ (by rw [hg];exact (below_size (by repeat (first|(with_reducible first|exact HB.out|apply ba_|apply pn_|apply pd_)|exact HB.out))) : w.heap.size ≤ gp);have m0_:=am_ (below_step HB.out hb);clear HB;have HB:=m0_;clear m0_;have BKp:=am_ hbox;clear hbox hb hg;have hcp0 : w1.cell? ⟨gp,0,none⟩ = some (.int .u64 a0_0):=(kc_ BKp.out 0).trans rfl;have hcp1 : w1.cell? ⟨gp,1,none⟩ = some (.int .u64 a0_1):=(kc_ BKp.out 1).trans rfl;have hcp2 : w1.cell? ⟨gp,2,none⟩ = some (.int .u64 a0_2):=(kc_ BKp.out 2).trans rfl;have hcp3 : w1.cell? ⟨gp,3,none⟩ = some (.int .u64 a0_3):=(kc_ BKp.out 3).trans rfl;have hcp4 : w1.cell? ⟨gp,4,none⟩ = some (.int .u64 a0_4):=(kc_ BKp.out 4).trans rfl;have hcp5 : w1.cell? ⟨gp,5,none⟩ = some (.int .u64 a0_5):=(kc_ BKp.out 5).trans rfl;have hcp6 : w1.cell? ⟨gp,6,none⟩ = some (.int .u64 a0_6):=(kc_ BKp.out 6).trans rfl;have hcp7 : w1.cell? ⟨gp,7,none⟩ = some (.int .u64 a0_7):=(kc_ BKp.out 7).trans rfl;have hcp8 : w1.cell? ⟨gp,8,none⟩ = some (.int .u64 a0_8):=(kc_ BKp.out 8).trans rfl;have hcp9 : w1.cell? ⟨gp,9,none⟩ = some (.int .u64 a0_9):=(kc_ BKp.out 9).trans rfl;have hcp10 : w1.cell? ⟨gp,10,none⟩ = some (.int .u64 a0_10):=(kc_ BKp.out 10).trans rfl;have hcp11 : w1.cell? ⟨gp,11,none⟩ = some (.string a0_11):=(kc_ BKp.out 11).trans rfl)|(go_at_call 13;(with_reducible refine (params_Check.calls a0_0 a0_1 a0_2 a0_3 a0_4 a0_5 a0_6 a0_7 a0_8 a0_9 a0_10 a0_11 _ _ HCK.out).mono ?_);rintro e w2 ⟨rfl,hb⟩;have m0_:=am_ (blk_below (g:=gp) (o:=(.cells #[.int .u64 a0_0,.int .u64 a0_1,.int .u64 a0_2,.int .u64 a0_3,.int .u64 a0_4,.int .u64 a0_5,.int .u64 a0_6,.int .u64 a0_7,.int .u64 a0_8,.int .u64 a0_9,.int .u64 a0_10,.string a0_11] 24 (0,0))) (by (with_reducible repeat (first|refine kn_ ?_ _|refine kd_ ?_|refine ka_ ?_ _));exact BKp.out) hb);have m1_:=am_ (below_step (by repeat (first|(with_reducible first|exact HB.out|apply ba_|apply pn_|apply pd_)|exact HB.out)) hb);clear BKp HB;have BKp:=m0_;have HB:=m1_;clear m0_ m1_;clear hb))
  go_ret2
  exact ⟨rfl,by repeat (first|(with_reducible first|exact HB.out|apply ba_|apply pn_|apply pd_)|exact HB.out)⟩

end Go.Proofs.YthbnedjcaflofaaDoor.PPax
