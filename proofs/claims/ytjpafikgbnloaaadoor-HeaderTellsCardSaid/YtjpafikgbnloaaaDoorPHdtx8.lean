-- printed for this claim by a program of the claim (wip/tools/pp.py over the kit's print)
import Derived.Test.YtjpafikgbnloaaaDoorPHdtx0
import Derived.Test.YtjpafikgbnloaaaDoorPHdtx1
import Derived.Test.YtjpafikgbnloaaaDoorPHdtx3
import Derived.Test.YtjpafikgbnloaaaDoorPHdtx4
import Derived.Test.YtjpafikgbnloaaaDoorPHdtx5
import Derived.Test.YtjpafikgbnloaaaDoorPHdtx6
import Derived.Test.YtjpafikgbnloaaaDoorPHdtx7
namespace Go.Proofs.YtjpafikgbnloaaaDoor.PHdt
open Go.RowKit Go.Proofs.YtjpafikgbnloaaaDoorW.PrintWords Go.Proofs.YtjpafikgbnloaaaDoorW.PrintLast Go.Proofs.YtjpafikgbnloaaaDoorW.PrintMore
attribute [local go_sem] max2_int min2_int max_two min_two max_three min_three max_four min_four   -- for this text's walks alone
set_option linter.unusedVariables false
set_option linter.unusedSimpArgs false

attribute [local go_sem] isSome_setCell_
attribute [local go_sem high] eqA25
/-! ### a row of bytes that a conversion has made,byte by byte -/
structure BRow (g : Nat) (m : List Int) (w0 w : World) : Prop where
 cell : ∀ j,j < m.length → w.cell? ⟨g,j,none⟩ = some (.int .u8 (m.getD j 0))
 free : ∀ j,j < m.length → w.frozen? ⟨g,j,none⟩ = false
 below : Below w0.heap.size w0 w
 low : w0.heap.size ≤ g
theorem BRow.new (w : World) (s : ByteArray) : BRow w.heap.size (bytesOf s) w (Lib.bytesWorld w 5 s):=by
 refine ⟨fun j hj => ?_,fun j hj => ?_,below_bytes w 5 s,Nat.le_refl _⟩
 ·rw [bytesOf_length] at hj
  rw [Lib.bytesWorld_cell w 5 s j hj]
  unfold bytesOf
  simp [List.getD_eq_getElem?_getD,hj]
 ·rw [bytesOf_length] at hj
  unfold World.frozen?
  rw [Lib.bytesWorld_at_new]
  have : s.size ≤ (Lib.bytesCells w 5 s).size:=by simp [Lib.bytesCells]
  simp
  omega
theorem BRow.drew {g : Nat} {m : List Int} {w0 w : World} (h : BRow g m w0 w) : BRow g m w0 w.drew:=⟨h.cell,h.free,pd_ h.below,h.low⟩
theorem BRow.put {g : Nat} {m : List Int} {w0 w : World} (h : BRow g m w0 w) (k : Nat) (hk : k < m.length) (x : Int) : BRow g (m.set k x) w0 (w.setCell ⟨g,k,none⟩ (.int .u8 x)):=by
 refine ⟨fun j hj => ?_,fun j hj => ?_,bs_ h.below h.low,h.low⟩
 ·rw [List.length_set] at hj
  by_cases e : k = j
  ·subst e
   rw [World.cell?_setCell_same w ⟨g,k,none⟩ (.int .u8 x) (h.cell k hk)]
   simp [List.getD_eq_getElem?_getD,hk]
  ·rw [World.cell?_setCell_other w ⟨g,k,none⟩ ⟨g,j,none⟩ (.int .u8 x) (fun h => e (by injection h)),h.cell j hj]
   simp [List.getD_eq_getElem?_getD,e]
 ·rw [List.length_set] at hj
  exact (World.frozen?_setCell _ _ _ _).trans (h.free j hj)
theorem BRow.reads {g : Nat} {m : List Int} {w0 w : World} (h : BRow g m w0 w) (hm : m.length ≤ 9223372036854775807) : ReadsInt w .u8 (some ⟨g,0,none⟩) m.length m :=
 ⟨rfl,hm,fun _ => ⟨_,rfl,fun j hj => by
  have e : (⟨g,0,none⟩ : Addr).add j = ⟨g,j,none⟩:=by unfold Addr.add;split <;> simp_all
  rw [e];exact h.cell j hj⟩⟩
theorem toNat1_ (i : Nat) : ((1 : Int) + (i : Int)).toNat = 1 + i:=by omega
theorem bt1_ (a : ByteArray) (i : Nat) : ∀ h : 1 + i < a.size,((a[1 + i]'h).toNat : Int) = bt a (1 + (i : Int)):=fun h => by
 have h2:=bt_at a (1 + (i : Int)) (by rw [toNat1_];exact h)
 simpa only [toNat1_] using h2

/-! ### header_lay: function 38 -/
def layL (mask : ByteArray) : List Int → Nat → List Int → Option (List Int)
 | [],_,m => some m
 | k :: t,i,m => if 0 ≤ k ∧ k < (m.length : Int) ∧ 1 + i < mask.size then layL mask t (i + 1) (m.set k.toNat (Go.bits .xor .u8 (m.getD k.toNat 0) (bt mask (1 + (i : Int))))) else none
def header_lay.f (a0 : ByteArray) (a1 : ByteArray) (a2 : Int) (l3 : List Int) : Option (ByteArray) :=
 if 0 < a0.size ∧ a0.size ≤ 9223372036854775807 ∧ 0 < a1.size ∧ a1.size ≤ 9223372036854775807 ∧ l3.length < 9223372036854775807 then ((layL a1 l3 0 ((bytesOf a0).set 0 (Go.bits .xor .u8 ((bytesOf a0).getD 0 0) (Go.bits .and .u8 (bt a1 0) a2)))).bind fun m => some (strOfNums m)) else none
set_option maxHeartbeats 1600000 in
set_option maxRecDepth 100000 in
theorem header_lay.calls (a0 : ByteArray) (a1 : ByteArray) (a2 : Int) (A3 : Option Addr) (c3 : Nat) (l3 : List Int) (r : ByteArray) (w : World) (hr3 : Kd.C (Kd.int .i64) w A3 l3.length l3) (hc3 : l3.length ≤ c3) (h : header_lay.f a0 a1 a2 l3 = some r) :
  Calls Tryd.prog 38 #[.string a0,.string a1,.int .u8 a2,.slice A3 l3.length c3] w fun e w' => e = .returned (.string r) ∧ Below w.heap.size w w':=by
 unfold header_lay.f at h
 by_cases hg : 0 < a0.size ∧ a0.size ≤ 9223372036854775807 ∧ 0 < a1.size ∧ a1.size ≤ 9223372036854775807 ∧ l3.length < 9223372036854775807
 rotate_left
 ·rw [if_neg hg] at h
  simp at h
 rw [if_pos hg] at h
 obtain ⟨h0,hmax,h1,hmax1,hl3⟩:=hg
 obtain ⟨m,hm,h⟩:=Option.bind_eq_some_iff.1 h
 obtain rfl:=Option.some.inj h
 have HM:=am_ hm
 have HR:=am_ hr3
 have HB0:=am_ (BRow.new w a0)
 have hbl:=bytesOf_length a0
 have hcv:=Lib.run_convert_string_bytes (P:=Tryd.prog) w 9 44 5 a0 Tryd.underlying9 Tryd.underlying44 Tryd.underlying5
 have HX : Aside0 (∀ w',BRow w.heap.size (bytesOf a0) w w' → w'.cell? ⟨w.heap.size,0,none⟩ = some (.int .u8 ((bytesOf a0).getD 0 0))):=⟨fun w' h => h.cell 0 (by omega)⟩
 have hl1 : ((bytesOf a0).set 0 (Go.bits .xor .u8 ((bytesOf a0).getD 0 0) (Go.bits .and .u8 (bt a1 0) a2))).length = a0.size:=by rw [List.length_set];exact hbl
 generalize (bytesOf a0).getD 0 0 = x0 at HM hl1 HX
 clear hm h hr3
 obtain ⟨g,hg⟩ : ∃ g,g = w.heap.size:=⟨_,rfl⟩
 rw [← hg] at hcv HX
 have HB0 : Aside0 (BRow g (bytesOf a0) w (Lib.bytesWorld w 5 a0)):=⟨by rw [hg];exact HB0.out⟩
 clear hg
 go_enter Tryd.func38,Tryd.ntmps38
 go_wp2_with fail
 clear hcv
 generalize Lib.bytesWorld w 5 a0 = w1 at HB0 ⊢
 have H1:=am_ (BRow.drew HB0.out)
 have hc : w1.drew.cell? ⟨g,0,none⟩ = some (.int .u8 x0):=HX.out _ H1.out
 have hf : w1.drew.frozen? ⟨g,0,none⟩ = false:=H1.out.free 0 (by omega)
 have hx10 : ∀ h : 0 < a1.size,((a1[0]'h).toNat : Int) = bt a1 0:=bt_at a1 0
 have qi : (0 < a1.size) = True:=eq_true h1
 have qj : (0 < a0.size) = True:=eq_true h0
 clear HB0
 go_still_tail 9,(by kernel_rfl)
 change wpList _ _ _ _ _ w1.drew
 generalize w1.drew = w2 at H1 hc hf ⊢
 have H2:=am_ (BRow.put H1.out 0 (by omega) (Go.bits .xor .u8 x0 (Go.bits .and .u8 (bt a1 0) a2)))
 generalize (bytesOf a0).set 0 (Go.bits .xor .u8 x0 (Go.bits .and .u8 (bt a1 0) a2)) = m1 at H2 hl1 HM
 clear H1
 go_wp2
 clear hc hf
 go_loopw [25] (fun v25 wr => ∃ (i : Nat) (m' : List Int),i ≤ l3.length ∧ v25 = .int .i64 i ∧ m'.length = a0.size ∧ Aside0 (layL a1 (l3.drop i) i m' = some m) ∧ Aside0 (BRow g m' w wr)) (fun v _ => l3.length - (intOf v).toNat)
 case atStart => exact ⟨0,_,by omega,rfl,hl1,⟨by rw [List.drop_zero];exact HM.out⟩,H2⟩
 case round =>
  obtain ⟨i,m',hi,rfl,hm',HP,HB⟩:=hrel
  by_cases hlt : i < l3.length
  ·obtain ⟨ad,rfl,hx⟩:=Kd.at_int HR.out (i : Int) (by omega) (by omega)
   rw [Int.toNat_natCast] at hx
   replace hx:=(HB.out.below.cell (World.block_lt_of_cell? w _ hx)).trans hx
   have e : l3.drop i = rd l3 (i : Int) :: l3.drop (i + 1):=by
    rw [List.drop_eq_getElem_cons hlt]
    congr 1
    unfold rd
    rw [Int.toNat_natCast,List.getD_eq_getElem?_getD,List.getElem?_eq_getElem hlt]
    rfl
   have hp:=HP.out
   rw [e,layL] at hp
   generalize rd l3 (i : Int) = kk at hp hx
   by_cases c : 0 ≤ kk ∧ kk < (m'.length : Int) ∧ 1 + i < a1.size
   rotate_left
   ·rw [if_neg c] at hp
    simp at hp
   rw [if_pos c] at hp
   obtain ⟨e1,e2,e3⟩:=c
   obtain ⟨kn,rfl⟩ : ∃ kn : Nat,kk = (kn : Int):=⟨kk.toNat,by omega⟩
   rw [Int.toNat_natCast] at hp
   have H3:=am_ (BRow.drew HB.out)
   have hc : wr.drew.cell? ⟨g,kn,none⟩ = some (.int .u8 (m'.getD kn 0)):=H3.out.cell kn (by omega)
   have hf : wr.drew.frozen? ⟨g,kn,none⟩ = false:=H3.out.free kn (by omega)
   generalize m'.getD kn 0 = xk at hp hc
   have HP2:=am_ hp
   have hkm : kn < m'.length:=by omega
   have hkn : kn < a0.size:=by omega
   have hki : (kn : Int) < (a0.size : Int):=by omega
   have hii : (1 : Int) + (i : Int) < (a1.size : Int):=by omega
   have hi0 : (0 : Int) ≤ 1 + (i : Int):=by omega
   have hw : wrap64 (1 + (i : Int)) = 1 + (i : Int):=by unfold wrap64;omega
   have hw3 : IntKind.i64.wrap (1 + (i : Int)) = 1 + (i : Int):=(i64_w _).trans hw
   have hw2 : wrap64 ((i : Int) + 1) = (i : Int) + 1:=by unfold wrap64;omega
   have hti:=toNat1_ i
   have hbi:=bt1_ a1 i
   clear HP hp e
   go_wp2_with fail
   go_still_tail 10,(by kernel_rfl)
   change wpList _ _ _ _ _ wr.drew
   generalize wr.drew = w4 at H3 hc hf ⊢
   have H4:=am_ (BRow.put H3.out kn hkm (Go.bits .xor .u8 xk (bt a1 (1 + (i : Int)))))
   clear H3
   clear hti hbi hi0 hw hw3 hii hki e1 e2 e3
   go_wp2
   go_roundw
   case rel => exact ⟨i + 1,_,Nat.succ_le_of_lt hlt,by go_num,by rw [List.length_set];exact hm',HP2,H4⟩
   case measure => simp [intOf];omega
  ·have e : l3.drop i = []:=List.drop_of_length_le (by omega)
   have hp:=HP.out
   rw [e,layL] at hp
   obtain rfl:=Option.some.inj hp
   have hcv:=string_of_reads (src:=44) (dst:=9) (e:=5) (c:=grownCap w a0.size 0 5) Tryd.underlying44 Tryd.underlying5 Tryd.underlying9 (HB.out.reads (by omega))
   rw [hm'] at hcv
   clear HP hp e
   go_wp2
   go_ret
   exact ⟨rfl,HB.out.below⟩

/-! ### header_low: function 39 -/
def header_low.f (a0 : Int) : Option (Int):=if (Go.bits .and .u8 a0 128) = 0 then (some 31) else (some 15)
set_option maxHeartbeats 8000000 in
set_option maxRecDepth 100000 in
theorem header_low.calls (a0 : Int) (r : Int) (w : World) (h : header_low.f a0 = some r) :
  Calls Tryd.prog 39 #[.int .u8 a0] w fun e w' => e = .returned (.int .u8 r) ∧ Drawn0 w w':=by
 have H : (if (Go.bits .and .u8 a0 128) = 0 then (some 31) else (some 15)) = some r:=h
 clear h
 by_cases c2 : (Go.bits .and .u8 a0 128) = 0
 ·rw [if_pos c2] at H
  have c2b0 : ((Go.bits .and .u8 a0 128) == 0) = true:=beq_iff_eq.mpr c2
  have c2b1 : ((Go.bits .and .u8 a0 128) != 0) = false:=bne_eq_false_iff_eq.mpr c2
  clear c2
  obtain rfl:=Option.some.inj H
  go_enter Tryd.func39,Tryd.ntmps39
  go_wp2
  go_ret
  exact ⟨by first|rfl|(simp;done)|(simp [*];done),by repeat (first|exact Drawn0.refl _|apply Drawn0.step)⟩
 ·rw [if_neg c2] at H
  have c2b0 : ((Go.bits .and .u8 a0 128) == 0) = false:=beq_eq_false_iff_ne.mpr c2
  have c2b1 : ((Go.bits .and .u8 a0 128) != 0) = true:=bne_iff_ne.mpr c2
  obtain rfl:=Option.some.inj H
  go_enter Tryd.func39,Tryd.ntmps39
  go_wp2
  go_ret
  exact ⟨by first|rfl|(simp;done)|(simp [*];done),by repeat (first|exact Drawn0.refl _|apply Drawn0.step)⟩

/-! ### header_places: function 40 -/
def header_places.l0 : Nat → Int → List Int → Int → Int → Option (List Int)
 | 0,_,_,_,_ => none
 | k + 1,x0,x4,x6,x7 => if x7 < x6 then (if x4.length < 17592186044416 then (header_places.l0 k x0 (x4 ++ [wrap64 (x0 + x7)]) x6 (wrap64 (x7 + 1))) else (none)) else (some x4)
def header_places.f (k : Nat) (a0 : Int) (a1 : Int) : Option (List Int):=header_places.l0 k a0 ([] : List Int) a1 0
theorem header_places.mono_l : ∀ k,(∀ y0 y1 y2 y3,LeO (header_places.l0 k y0 y1 y2 y3) (header_places.l0 (k + 1) y0 y1 y2 y3))
 | 0 => fun _ _ _ _ r h => by simp [header_places.l0] at h
 | k + 1 => by
  have ih0:=header_places.mono_l k
  ·intro y0 y1 y2 y3
   unfold header_places.l0
   repeat' first
   | (with_reducible exact ih0 _ _ _ _)
   | (with_reducible exact LeO.refl _)
   | (with_reducible exact LeO.none _)
   | (with_reducible refine LeO.ite ?_ ?_)
   | (with_reducible refine LeO.bind ?_ (fun _ => ?_))
   | exact ih0 _ _ _ _
   | exact LeO.none _
   | refine LeO.ite ?_ ?_
   | refine LeO.bind ?_ (fun _ => ?_)
theorem header_places.mono : ∀ a0 a1 k,LeO (header_places.f k a0 a1) (header_places.f (k + 1) a0 a1):=by
 intro a0 a1 k
 have ih0:=header_places.mono_l k
 unfold header_places.f
 repeat' first
   | (with_reducible exact ih0 _ _ _ _)
   | (with_reducible exact LeO.refl _)
   | (with_reducible exact LeO.none _)
   | (with_reducible refine LeO.ite ?_ ?_)
   | (with_reducible refine LeO.bind ?_ (fun _ => ?_))
   | exact ih0 _ _ _ _
   | exact LeO.none _
   | refine LeO.ite ?_ ?_
   | refine LeO.bind ?_ (fun _ => ?_)
set_option maxHeartbeats 8000000 in
set_option maxRecDepth 100000 in
theorem header_places.calls (k : Nat) (a0 : Int) (a1 : Int) (r : List Int) (w : World) (h : header_places.f k a0 a1 = some r) :
  Calls Tryd.prog 40 #[.int .i64 a0,.int .i64 a1] w fun e w' => ∃ v0_ : Value,e = .returned (v0_) ∧ Kd.R (Kd.int .i64) 3 w' w.heap.size (fun _ => True) v0_ r ∧ Below w.heap.size w w':=by
 have HB:=am_ (Below.refl w.heap.size w)
 have H : (header_places.l0 k a0 ([] : List Int) a1 0) = some r:=h
 clear h
 have H':=am_ H
 clear H
 go_enter Tryd.func40,Tryd.ntmps40
 go_wp2
 go_loopg [4,7] k (fun kq v4 v7 w' => ∃ (x4_1 : List Int) (x7_1 : Int),v7 = .int .i64 x7_1 ∧ Aside0 (header_places.l0 kq a0 x4_1 a1 x7_1 = some r) ∧ Aside0 (kq ≤ k) ∧ Aside0 (Kd.R (Kd.int .i64) 3 w' w.heap.size (fun _ => True) v4 x4_1) ∧ Aside0 (Below w.heap.size w w'))
 case atStart => exact ⟨(([] : List Int)),(0),(by first|rfl|(simp;done)|(simp [*];done)),H',⟨Nat.le_refl _⟩,⟨by first|exact Kd.R_nil _ _ _ _ _|exact Kd.N_nil _ _ _ _ _|exact Kd.V_nil _ _ _ _ _|exact Kd.Q_nil _ _ _ _ _|exact Kd.S_nil _ _ _ _ _⟩,⟨by repeat (first|(with_reducible first|exact HB.out|apply ba_|apply pn_|apply pd_)|exact HB.out)⟩⟩
 case round =>
  clear H'
  try clear p2
  obtain ⟨x4_1,x7_1,rfl,HA,HK1,HO_4,HB⟩:=hrel
  cases gk with
  | zero => exact absurd HA.out (by simp [header_places.l0])
  | succ k1 =>
   have H:=HA.out
   clear HA
   simp only [header_places.l0] at H
   by_cases c3 : x7_1 < a1
   ·rw [if_pos c3] at H
    have c3b0 : decide (x7_1 < a1) = true:=decide_eq_true c3
    clear c3
    by_cases c4 : x4_1.length < 17592186044416
    ·rw [if_pos c4] at H
     have LMc4:=am_ c4
     clear c4
     obtain ⟨y135,hy135⟩ : ∃ y_ : List Int,y_ = (x4_1 ++ [wrap64 (a0 + x7_1)]):=⟨_,rfl⟩
     replace H : (header_places.l0 k1 a0 y135 a1 (wrap64 (x7_1 + 1))) = some r:=by first|(rw [hy135];with_reducible exact H)|(have H2_:=(Option.bind_some _ _).symm.trans H;rw [hy135];with_reducible exact H2_)|(have H2_:=(Option.bind_some _ _).symm.trans H;with_reducible exact H2_)|with_reducible exact H|(rw [hy135];exact H)|exact H
     have Ny135:=am_ hy135
     clear hy135
     have H':=am_ H
     clear H
     go_wp2_with (first|((with_reducible refine gate_builtin (b:=.append) (xs:=#[.tmp 10,.tmp 14]) rfl ?_);at_builtin;refine Kd.R_append (Kd.int .i64) (w0:=w) w.heap.size rfl (.tmp 10) (.tmp 14) 65 3 (.int .i64 0) 8 rfl Tryd.underlying65 info3 rfl (by decide) (by omega) u4 x4_1 (wrap64 (a0 + x7_1)) [.int .i64 (wrap64 (a0 + x7_1))] (fun _ => True) (fun _ => False) rfl rfl ?aP (fun _ hk => hk.elim) ?aF ?aO ?aB ?aS ?aL ?_;(case aP => exact rfl);(case aB => exact (by repeat (first|(with_reducible first|exact HB.out|apply ba_|apply pn_|apply pd_)|exact HB.out)));(case aF => exact (fun _ _ => trivial));(case aO => exact (by (with_reducible repeat (first|apply ra_|apply rn_|apply rd_));exact HO_4.out));(case aS => exact (below_size (by repeat (first|(with_reducible first|exact HB.out|apply ba_|apply pn_|apply pd_)|exact HB.out))));(case aL => have:=LMc4.out;omega);intro v136 w5 ho hb hg hat;rw [← Ny135.out] at ho;have n0_:=am_ (hb);have n1_:=am_ (ho);clear HB;clear HO_4;have HB:=n0_;have HO137:=n1_;clear n0_ n1_;clear ho hb hg hat))
     go_roundg k1
     case measure => have:=HK1.out;omega
     case rel => exact ⟨(y135),(wrap64 (x7_1 + 1)),(by first|rfl|(simp;done)|(simp [*];done)),H',⟨by have:=HK1.out;omega⟩,⟨by (with_reducible repeat (first|apply ra_|apply rn_|apply rd_));exact HO137.out⟩,⟨by repeat (first|(with_reducible first|exact HB.out|apply ba_|apply pn_|apply pd_)|exact HB.out)⟩⟩
    ·rw [if_neg c4] at H
     exact absurd H (by simp)
   ·rw [if_neg c3] at H
    have c3b0 : decide (x7_1 < a1) = false:=decide_eq_false c3
    clear c3
    obtain rfl:=Option.some.inj H
    go_wp2
    go_ret
    exact ⟨_,by first|rfl|(simp [errW_none,errW_some] <;> rfl)|(simp [*,errW_none,errW_some] <;> rfl),by (with_reducible repeat (first|apply ra_|apply rn_|apply rd_));exact HO_4.out,by repeat (first|(with_reducible first|exact HB.out|apply ba_|apply pn_|apply pd_)|exact HB.out)⟩

/-! ### header_Mask: function 20 -/
def header_Mask.f (k : Nat) (a0 : ByteArray) (a1 : ByteArray) : Option (ByteArray × Int):=if (a1.size : Int) = 5 then ((header_Get.f k a0).bind fun bt138 => (if bt138.2.2.2.2.2.2.2.2.2.2.2.2 = 0 then (if 0 < (a0.size : Int) then ((header_low.f (bt a0 0)).bind fun t152 => ((header_places.f k (wrap64 ((wrap64 ((a0.size : Int) - (bt138.2.2.2.2.2.2.2.2.2.2.2.1.size : Int))) - bt138.2.2.2.2.2.2.2.2.2.1)) bt138.2.2.2.2.2.2.2.2.2.1).bind fun t153 => ((header_lay.f a0 a1 t152 t153).bind fun t156 => (some (t156,0))))) else (none)) else (some ((⟨#[]⟩ : ByteArray),bt138.2.2.2.2.2.2.2.2.2.2.2.2)))) else (some ((⟨#[]⟩ : ByteArray),1))
theorem header_Mask.mono : ∀ a0 a1 k,LeO (header_Mask.f k a0 a1) (header_Mask.f (k + 1) a0 a1):=by
 intro a0 a1 k
 unfold header_Mask.f
 repeat' first
   | (with_reducible exact header_Get.mono _ _)
   | (with_reducible exact header_places.mono _ _ _)
   | (with_reducible exact LeO.refl _)
   | (with_reducible exact LeO.none _)
   | (with_reducible refine LeO.ite ?_ ?_)
   | (with_reducible refine LeO.bind ?_ (fun _ => ?_))
   | exact header_Get.mono _ _
   | exact header_places.mono _ _ _
   | exact LeO.none _
   | refine LeO.ite ?_ ?_
   | refine LeO.bind ?_ (fun _ => ?_)
def header_Mask.T6 : Bool × List (List Nat × List Nat):=(true,[([],[]),([],[]),([],[]),([2],[2]),([3],[3]),([],[]),([5],[5]),([],[]),([7],[7]),([6,8],[6,8]),([],[]),([10],[10]),([9,11],[9,11]),([],[]),([13],[13]),([12,14,4],[12,14]),([0,1,4,15,15],[0,1,4,15]),([16,16,0,1,2,3,4,5,6,7,8,9,10,11,12,13,14,15,16],[16]),([17,0,1,2,3,4,5,6,7,8,9,10,11,12,13,14,15,16,17],[])])
def header_Mask.B6 : List Nat:=[0,0,0,4,12,0,32,0,128,480,0,1024,4064,0,8192,32764,65535,131071,262143]
theorem header_Mask.tab6 : rtab .any (opsOf Tryd.f20 6) = header_Mask.T6:=by kernel_rfl
theorem header_Mask.bits6 : waitsOk header_Mask.T6.2 header_Mask.B6 = true:=by kernel_rfl
set_option maxHeartbeats 8000000 in
set_option maxRecDepth 100000 in
theorem header_Mask.calls (k : Nat) (a0 : ByteArray) (a1 : ByteArray) (r1 : ByteArray) (r2 : Int) (w : World) (h : header_Mask.f k a0 a1 = some (r1,r2)) :
  Calls Tryd.prog 20 #[.string a0,.string a1] w fun e w' => e = .returned (.tuple #[.string r1,.int .i64 r2]) ∧ Below w.heap.size w w':=by
 have hu25:=Tryd.underlying25
 have HB:=am_ (Below.refl w.heap.size w)
 have H : (if (a1.size : Int) = 5 then ((header_Get.f k a0).bind fun bt138 => (if bt138.2.2.2.2.2.2.2.2.2.2.2.2 = 0 then (if 0 < (a0.size : Int) then ((header_low.f (bt a0 0)).bind fun t152 => ((header_places.f k (wrap64 ((wrap64 ((a0.size : Int) - (bt138.2.2.2.2.2.2.2.2.2.2.2.1.size : Int))) - bt138.2.2.2.2.2.2.2.2.2.1)) bt138.2.2.2.2.2.2.2.2.2.1).bind fun t153 => ((header_lay.f a0 a1 t152 t153).bind fun t156 => (some (t156,0))))) else (none)) else (some ((⟨#[]⟩ : ByteArray),bt138.2.2.2.2.2.2.2.2.2.2.2.2)))) else (some ((⟨#[]⟩ : ByteArray),1))) = some (r1,r2):=h
 clear h
 by_cases c3 : (a1.size : Int) = 5
 ·rw [if_pos c3] at H
  have c3b0 : ((a1.size : Int) == 5) = true:=beq_iff_eq.mpr c3
  have c3b1 : ((a1.size : Int) != 5) = false:=bne_eq_false_iff_eq.mpr c3
  clear c3
  replace H:=Option.bind_eq_some_iff.mp H
  obtain ⟨⟨t138,t139,t140,t141,t142,t143,t144,t145,t146,t147,t148,t149,t150⟩,A40,H⟩:=H
  replace H : (if t150 = 0 then (if 0 < (a0.size : Int) then ((header_low.f (bt a0 0)).bind fun t152 => ((header_places.f k (wrap64 ((wrap64 ((a0.size : Int) - (t149.size : Int))) - t147)) t147).bind fun t153 => ((header_lay.f a0 a1 t152 t153).bind fun t156 => (some (t156,0))))) else (none)) else (some ((⟨#[]⟩ : ByteArray),t150))) = some (r1,r2):=H
  have A4:=am_ A40
  clear A40
  by_cases c5 : t150 = 0
  ·rw [if_pos c5] at H
   have c5b0 : (t150 == 0) = true:=beq_iff_eq.mpr c5
   have c5b1 : (t150 != 0) = false:=bne_eq_false_iff_eq.mpr c5
   clear c5
   by_cases c6 : 0 < (a0.size : Int)
   ·rw [if_pos c6] at H
    have c6b0 : decide (0 < (a0.size : Int)) = true:=decide_eq_true c6
    have c6b1 : decide (0 < a0.size) = true:=decide_eq_true (by omega)
    clear c6
    replace H:=Option.bind_eq_some_iff.mp H
    obtain ⟨t152,A80,H⟩:=H
    replace H : ((header_places.f k (wrap64 ((wrap64 ((a0.size : Int) - (t149.size : Int))) - t147)) t147).bind fun t153 => ((header_lay.f a0 a1 t152 t153).bind fun t156 => (some (t156,0)))) = some (r1,r2):=H
    have A8:=am_ A80
    clear A80
    replace H:=Option.bind_eq_some_iff.mp H
    obtain ⟨t153,A90,H⟩:=H
    replace H : ((header_lay.f a0 a1 t152 t153).bind fun t156 => (some (t156,0))) = some (r1,r2):=H
    have A9:=am_ A90
    clear A90
    replace H:=Option.bind_eq_some_iff.mp H
    obtain ⟨t156,A100,H⟩:=H
    replace H : (some (t156,0)) = some (r1,r2):=H
    have A10:=am_ A100
    clear A100
    simp only [Option.some.injEq,Prod.mk.injEq] at H
    obtain ⟨rfl,rfl⟩:=H
    go_enter Tryd.func20,Tryd.ntmps20
    try go_wp2_with (first|((with_reducible refine gate_callee (f:=14) rfl ?_);refine goesL_ (some 14) rfl rfl Tryd.func14 (by kernel_rfl) rfl #[.string a0] rfl (by (try simp only [List.map_toArray,List.map_cons,List.map_nil]);first|done|rfl|(simp only [List.length_drop,List.length_take];rfl)) ?_;(with_reducible refine (header_Get.calls k a0 t138 t139 t140 t141 t142 t143 t144 t145 t146 t147 t148 t149 t150 _ A4.out).mono ?_);rintro e w11 ⟨rfl,hb⟩;refine ⟨_,rfl,?_⟩;have n0_:=am_ (below_step (by repeat (first|(with_reducible first|exact HB.out|apply ba_|apply pn_|apply pd_)|exact HB.out)) hb);clear HB;have HB:=n0_;clear n0_;(try clear hb);(try clear hb2);(try clear hk);(try clear hi))|((with_reducible refine gate_dst (N:=6) rfl ?_);refine box_event ?hg (N:=6) ?hd (cs:=#[.bool false,.bool false,.bool false,.int .i64 0,.int .u32 0,.string (⟨#[]⟩ : ByteArray),.string (⟨#[]⟩ : ByteArray),.string (⟨#[]⟩ : ByteArray),.int .u64 0,.int .i64 0,.int .u64 0]) (t:=25) ?hr ?_;(case hd => rfl);(case hg => rfl);(case hr => first|(go_simp;done)|(go_simp;rfl));intro gb151 hg w12 hbox hb;have n0_:=am_ (below_step (by repeat (first|(with_reducible first|exact HB.out|apply ba_|apply pn_|apply pd_)|exact HB.out)) hb);have n1_:=am_ (hbox);have n2_:=am_ ((by rw [hg];exact (below_size (by repeat (first|(with_reducible first|exact HB.out|apply ba_|apply pn_|apply pd_)|exact HB.out))) : w.heap.size ≤ gb151));have n3_:=am_ ((by rw [hg];exact (below_size (by repeat (first|(with_reducible first|exact HB.out|apply ba_|apply pn_|apply pd_)|exact HB.out))) : w.heap.size ≤ gb151));clear HB;have HB:=n0_;have BK151:=n1_;have GW151:=n2_;have GE151:=n3_;clear n0_ n1_ n2_ n3_;clear hb hbox hg;obtain ⟨hcz13_0,hcz13_1,hcz13_2,hcz13_3,hcz13_4,hcz13_5,hcz13_6,hcz13_7,hcz13_8,hcz13_9,hcz13_10,hfz13_0,hfz13_1,hfz13_2,hfz13_3,hfz13_4,hfz13_5,hfz13_6,hfz13_7,hfz13_8,hfz13_9,hfz13_10⟩:=cs11f_ BK151.out;skip))
    have n0_ : Aside0 ((((((((((((w12.setCell ⟨gb151,0,none⟩ (.bool t138)).setCell ⟨gb151,1,none⟩ (.bool t139)).setCell ⟨gb151,2,none⟩ (.bool t140)).setCell ⟨gb151,3,none⟩ (.int .i64 t141)).setCell ⟨gb151,4,none⟩ (.int .u32 t142)).setCell ⟨gb151,5,none⟩ (.string t143)).setCell ⟨gb151,6,none⟩ (.string t144)).setCell ⟨gb151,7,none⟩ (.string t145)).setCell ⟨gb151,8,none⟩ (.int .u64 t146)).setCell ⟨gb151,9,none⟩ (.int .i64 t147)).setCell ⟨gb151,10,none⟩ (.int .u64 t148)).heap[gb151]? = some (.cells #[.bool t138,.bool t139,.bool t140,.int .i64 t141,.int .u32 t142,.string t143,.string t144,.string t145,.int .u64 t146,.int .i64 t147,.int .u64 t148] 25 (0,0))):=⟨by (with_reducible repeat (first|refine kn_ ?_ _|refine kd_ ?_|refine ka_ ?_ _));refine blk_put (cs:=#[.bool t138,.bool t139,.bool t140,.int .i64 t141,.int .u32 t142,.string t143,.string t144,.string t145,.int .u64 t146,.int .i64 t147,.int .u64 0]) ?_ 10 _ rfl;(with_reducible repeat (first|refine kn_ ?_ _|refine kd_ ?_|refine ka_ ?_ _));refine blk_put (cs:=#[.bool t138,.bool t139,.bool t140,.int .i64 t141,.int .u32 t142,.string t143,.string t144,.string t145,.int .u64 t146,.int .i64 0,.int .u64 0]) ?_ 9 _ rfl;(with_reducible repeat (first|refine kn_ ?_ _|refine kd_ ?_|refine ka_ ?_ _));refine blk_put (cs:=#[.bool t138,.bool t139,.bool t140,.int .i64 t141,.int .u32 t142,.string t143,.string t144,.string t145,.int .u64 0,.int .i64 0,.int .u64 0]) ?_ 8 _ rfl;(with_reducible repeat (first|refine kn_ ?_ _|refine kd_ ?_|refine ka_ ?_ _));refine blk_put (cs:=#[.bool t138,.bool t139,.bool t140,.int .i64 t141,.int .u32 t142,.string t143,.string t144,.string (⟨#[]⟩ : ByteArray),.int .u64 0,.int .i64 0,.int .u64 0]) ?_ 7 _ rfl;(with_reducible repeat (first|refine kn_ ?_ _|refine kd_ ?_|refine ka_ ?_ _));refine blk_put (cs:=#[.bool t138,.bool t139,.bool t140,.int .i64 t141,.int .u32 t142,.string t143,.string (⟨#[]⟩ : ByteArray),.string (⟨#[]⟩ : ByteArray),.int .u64 0,.int .i64 0,.int .u64 0]) ?_ 6 _ rfl;(with_reducible repeat (first|refine kn_ ?_ _|refine kd_ ?_|refine ka_ ?_ _));refine blk_put (cs:=#[.bool t138,.bool t139,.bool t140,.int .i64 t141,.int .u32 t142,.string (⟨#[]⟩ : ByteArray),.string (⟨#[]⟩ : ByteArray),.string (⟨#[]⟩ : ByteArray),.int .u64 0,.int .i64 0,.int .u64 0]) ?_ 5 _ rfl;(with_reducible repeat (first|refine kn_ ?_ _|refine kd_ ?_|refine ka_ ?_ _));refine blk_put (cs:=#[.bool t138,.bool t139,.bool t140,.int .i64 t141,.int .u32 0,.string (⟨#[]⟩ : ByteArray),.string (⟨#[]⟩ : ByteArray),.string (⟨#[]⟩ : ByteArray),.int .u64 0,.int .i64 0,.int .u64 0]) ?_ 4 _ rfl;(with_reducible repeat (first|refine kn_ ?_ _|refine kd_ ?_|refine ka_ ?_ _));refine blk_put (cs:=#[.bool t138,.bool t139,.bool t140,.int .i64 0,.int .u32 0,.string (⟨#[]⟩ : ByteArray),.string (⟨#[]⟩ : ByteArray),.string (⟨#[]⟩ : ByteArray),.int .u64 0,.int .i64 0,.int .u64 0]) ?_ 3 _ rfl;(with_reducible repeat (first|refine kn_ ?_ _|refine kd_ ?_|refine ka_ ?_ _));refine blk_put (cs:=#[.bool t138,.bool t139,.bool false,.int .i64 0,.int .u32 0,.string (⟨#[]⟩ : ByteArray),.string (⟨#[]⟩ : ByteArray),.string (⟨#[]⟩ : ByteArray),.int .u64 0,.int .i64 0,.int .u64 0]) ?_ 2 _ rfl;(with_reducible repeat (first|refine kn_ ?_ _|refine kd_ ?_|refine ka_ ?_ _));refine blk_put (cs:=#[.bool t138,.bool false,.bool false,.int .i64 0,.int .u32 0,.string (⟨#[]⟩ : ByteArray),.string (⟨#[]⟩ : ByteArray),.string (⟨#[]⟩ : ByteArray),.int .u64 0,.int .i64 0,.int .u64 0]) ?_ 1 _ rfl;(with_reducible repeat (first|refine kn_ ?_ _|refine kd_ ?_|refine ka_ ?_ _));refine blk_put (cs:=#[.bool false,.bool false,.bool false,.int .i64 0,.int .u32 0,.string (⟨#[]⟩ : ByteArray),.string (⟨#[]⟩ : ByteArray),.string (⟨#[]⟩ : ByteArray),.int .u64 0,.int .i64 0,.int .u64 0]) ?_ 0 _ rfl;(with_reducible repeat (first|refine kn_ ?_ _|refine kd_ ?_|refine ka_ ?_ _));exact BK151.out⟩
    have n1_ : Aside0 (Below w.heap.size w (((((((((((w12.setCell ⟨gb151,0,none⟩ (.bool t138)).setCell ⟨gb151,1,none⟩ (.bool t139)).setCell ⟨gb151,2,none⟩ (.bool t140)).setCell ⟨gb151,3,none⟩ (.int .i64 t141)).setCell ⟨gb151,4,none⟩ (.int .u32 t142)).setCell ⟨gb151,5,none⟩ (.string t143)).setCell ⟨gb151,6,none⟩ (.string t144)).setCell ⟨gb151,7,none⟩ (.string t145)).setCell ⟨gb151,8,none⟩ (.int .u64 t146)).setCell ⟨gb151,9,none⟩ (.int .i64 t147)).setCell ⟨gb151,10,none⟩ (.int .u64 t148))):=⟨by repeat (first|(with_reducible first|exact HB.out|apply ba_|apply pn_|apply pd_|refine bs_ ?_ GE151.out)|exact HB.out)⟩
    (try clear BK151)
    (try clear HB)
    generalize (((((((((((w12.setCell ⟨gb151,0,none⟩ (.bool t138)).setCell ⟨gb151,1,none⟩ (.bool t139)).setCell ⟨gb151,2,none⟩ (.bool t140)).setCell ⟨gb151,3,none⟩ (.int .i64 t141)).setCell ⟨gb151,4,none⟩ (.int .u32 t142)).setCell ⟨gb151,5,none⟩ (.string t143)).setCell ⟨gb151,6,none⟩ (.string t144)).setCell ⟨gb151,7,none⟩ (.string t145)).setCell ⟨gb151,8,none⟩ (.int .u64 t146)).setCell ⟨gb151,9,none⟩ (.int .i64 t147)).setCell ⟨gb151,10,none⟩ (.int .u64 t148)) = w14 at n0_ n1_ ⊢
    have BK151:=n0_
    have HB:=n1_
    clear n0_ n1_
    have n0_:=am_ (kd_ BK151.out)
    have n1_:=am_ (pd_ HB.out)
    clear BK151
    clear HB
    have BK151:=n0_
    have HB:=n1_
    clear n0_ n1_
    have p7 : 0 ≤ (0 : Int):=(by omega)
    have q7 : 0 < a0.size:=(by have : (0 : Int) < (a0.size : Int):=of_decide_eq_true (by first|(with_reducible assumption)|assumption);omega)
    have hx7 : ∀ h : 0 < a0.size,((a0[0]'h).toNat : Int) = bt a0 0:=bt_at a0 0
    clear p7
    have qi7 : (0 < (a0.size : Int)) = True:=eq_true (of_decide_eq_true (by first|(with_reducible assumption)|assumption))
    replace q7:=eq_true q7
    refine start_ (n:=19) (S:=fun w' => w'.cell? ⟨gb151,0,none⟩ = some (.bool t138) ∧ w'.cell? ⟨gb151,1,none⟩ = some (.bool t139) ∧ w'.cell? ⟨gb151,2,none⟩ = some (.bool t140) ∧ w'.cell? ⟨gb151,3,none⟩ = some (.int .i64 t141) ∧ w'.cell? ⟨gb151,4,none⟩ = some (.int .u32 t142) ∧ w'.cell? ⟨gb151,5,none⟩ = some (.string t143) ∧ w'.cell? ⟨gb151,6,none⟩ = some (.string t144) ∧ w'.cell? ⟨gb151,7,none⟩ = some (.string t145) ∧ w'.cell? ⟨gb151,8,none⟩ = some (.int .u64 t146) ∧ w'.cell? ⟨gb151,9,none⟩ = some (.int .i64 t147) ∧ w'.cell? ⟨gb151,10,none⟩ = some (.int .u64 t148)) (ds:=[]) #[F_,F_,F_,F_,F_,F_,F_,F_,F_,F_,F_,F_,F_,F_,F_,F_,F_,F_,F_] (by kernel_rfl) rfl rfl ⟨(kc_ BK151.out 0).trans rfl,(kc_ BK151.out 1).trans rfl,(kc_ BK151.out 2).trans rfl,(kc_ BK151.out 3).trans rfl,(kc_ BK151.out 4).trans rfl,(kc_ BK151.out 5).trans rfl,(kc_ BK151.out 6).trans rfl,(kc_ BK151.out 7).trans rfl,(kc_ BK151.out 8).trans rfl,(kc_ BK151.out 9).trans rfl,(kc_ BK151.out 10).trans rfl⟩ (fun hHeld => ?_);refine with_tabW header_Mask.tab6 header_Mask.bits6 (fun HT_ HW_ => ?_)
    generalize w14.drew = w15 at BK151 HB hHeld ⊢
    refine pure_ (i:=0) (N:=some 21) (v:=?_) (a':=?_) #[T_,F_,F_,F_,F_,F_,F_,F_,F_,F_,F_,F_,F_,F_,F_,F_,F_,F_,F_] rfl rfl (any_of HT_.out (by kernel_rfl)) (fun _ _ _ h => h) (Or.inl ⟨by rfl,?_⟩) ?_ ?_
    rotate_left;(intro w';go_simp;with_reducible rfl);rotate_left;(simp only [Act.put,ps_,i64_w,i32_w];rfl)
    refine pure_ (i:=1) (N:=some 22) (v:=?_) (a':=?_) #[T_,T_,F_,F_,F_,F_,F_,F_,F_,F_,F_,F_,F_,F_,F_,F_,F_,F_,F_] rfl rfl (any_of HT_.out (by kernel_rfl)) (fun _ _ _ h => h) (Or.inl ⟨by rfl,?_⟩) ?_ ?_
    rotate_left;(intro w';go_simp;with_reducible rfl);rotate_left;(simp only [Act.put,ps_,i64_w,i32_w];rfl)
    refine pure_ (i:=2) (N:=some 23) (v:=?_) (a':=?_) #[T_,T_,T_,F_,F_,F_,F_,F_,F_,F_,F_,F_,F_,F_,F_,F_,F_,F_,F_] rfl rfl (any_of HT_.out (by kernel_rfl)) (fun _ _ _ h => h) (Or.inl ⟨by rfl,?_⟩) ?_ ?_
    rotate_left;(intro w';go_simp;with_reducible rfl);rotate_left;(simp only [Act.put,ps_,i64_w,i32_w];rfl)
    refine pure_ (i:=5) (N:=some 26) (v:=?_) (a':=?_) #[T_,T_,T_,F_,F_,T_,F_,F_,F_,F_,F_,F_,F_,F_,F_,F_,F_,F_,F_] rfl rfl (any_of HT_.out (by kernel_rfl)) (fun _ _ _ h => h) (Or.inl ⟨by rfl,?_⟩) ?_ ?_
    rotate_left;(intro w';go_simp;with_reducible rfl);rotate_left;(simp only [Act.put,ps_,i64_w,i32_w];rfl)
    refine pure_ (i:=6) (N:=some 27) (v:=?_) (a':=?_) #[T_,T_,T_,F_,F_,T_,T_,F_,F_,F_,F_,F_,F_,F_,F_,F_,F_,F_,F_] rfl rfl (any_of HT_.out (by kernel_rfl)) (fun _ _ _ h => h) (Or.inl ⟨by rfl,?_⟩) ?_ ?_
    rotate_left;(intro w';go_simp;with_reducible rfl);rotate_left;(simp only [Act.put,ps_,i64_w,i32_w];rfl)
    refine pure_ (i:=7) (N:=some 28) (v:=?_) (a':=?_) #[T_,T_,T_,F_,F_,T_,T_,T_,F_,F_,F_,F_,F_,F_,F_,F_,F_,F_,F_] rfl rfl (any_of HT_.out (by kernel_rfl)) (fun _ _ _ h => h) (Or.inl ⟨by rfl,?_⟩) ?_ ?_
    rotate_left;(intro w';go_simp;with_reducible rfl);rotate_left;(simp only [Act.put,ps_,i64_w,i32_w];rfl)
    refine pure_ (i:=8) (N:=some 29) (v:=?_) (a':=?_) #[T_,T_,T_,F_,F_,T_,T_,T_,T_,F_,F_,F_,F_,F_,F_,F_,F_,F_,F_] rfl rfl (any_of HT_.out (by kernel_rfl)) (fun _ _ _ h => h) (Or.inl ⟨by rfl,?_⟩) ?_ ?_
    rotate_left;(intro w';go_simp;with_reducible rfl);rotate_left;(simp only [Act.put,ps_,i64_w,i32_w];rfl)
    refine pure_ (i:=9) (N:=some 30) (v:=?_) (a':=?_) #[T_,T_,T_,F_,F_,T_,T_,T_,T_,T_,F_,F_,F_,F_,F_,F_,F_,F_,F_] rfl rfl (any_of HT_.out (by kernel_rfl)) (fun _ _ _ h => h) (Or.inl ⟨by rfl,?_⟩) ?_ ?_
    rotate_left;(intro w';go_simp;with_reducible rfl);rotate_left;(simp only [Act.put,ps_,i64_w,i32_w];rfl)
    refine pure_ (i:=10) (N:=some 31) (v:=?_) (a':=?_) #[T_,T_,T_,F_,F_,T_,T_,T_,T_,T_,T_,F_,F_,F_,F_,F_,F_,F_,F_] rfl rfl (any_of HT_.out (by kernel_rfl)) (fun _ _ _ h => h) (Or.inl ⟨by rfl,?_⟩) ?_ ?_
    rotate_left;(intro w';go_simp;with_reducible rfl);rotate_left;(simp only [Act.put,ps_,i64_w,i32_w];rfl)
    refine pure_ (i:=13) (N:=some 34) (v:=?_) (a':=?_) #[T_,T_,T_,F_,F_,T_,T_,T_,T_,T_,T_,F_,F_,T_,F_,F_,F_,F_,F_] rfl rfl (any_of HT_.out (by kernel_rfl)) (fun _ _ _ h => h) (Or.inl ⟨by rfl,?_⟩) ?_ ?_
    rotate_left;(intro w';go_simp;with_reducible rfl);rotate_left;(simp only [Act.put,ps_,i64_w,i32_w];rfl)
    refine take_ (i:=3) (N:=some 24) (v:=?_) (a':=?_) #[T_,T_,T_,T_,F_,T_,T_,T_,T_,T_,T_,F_,F_,T_,F_,F_,F_,F_,F_] rfl rfl (take_ofW HT_.out HW_.out (by kernel_rfl)) (fun _ _ _ h => h) (Or.inl ⟨by rfl,?_⟩) hHeld ?_ ?_
    rotate_left
    ·rintro w' ⟨s0,s1,s2,s3,s4,s5,s6,s7,s8,s9,s10⟩
     go_simp
     with_reducible rfl
    rotate_left
    ·simp only [Act.put,ps_,i64_w,i32_w]
     rfl
    refine take_ (i:=11) (N:=some 32) (v:=?_) (a':=?_) #[T_,T_,T_,T_,F_,T_,T_,T_,T_,T_,T_,T_,F_,T_,F_,F_,F_,F_,F_] rfl rfl (take_ofW HT_.out HW_.out (by kernel_rfl)) (fun _ _ _ h => h) (Or.inl ⟨by rfl,?_⟩) hHeld ?_ ?_
    rotate_left
    ·rintro w' ⟨s0,s1,s2,s3,s4,s5,s6,s7,s8,s9,s10⟩
     go_simp
     with_reducible rfl
    rotate_left
    ·simp only [Act.put,ps_,i64_w,i32_w]
     rfl
    refine pure_ (i:=12) (N:=some 33) (v:=?_) (a':=?_) #[T_,T_,T_,T_,F_,T_,T_,T_,T_,T_,T_,T_,T_,T_,F_,F_,F_,F_,F_] rfl rfl (any_of HT_.out (by kernel_rfl)) (fun _ _ _ h => h) (Or.inl ⟨by rfl,?_⟩) ?_ ?_
    rotate_left;(intro w';go_simp;with_reducible rfl);rotate_left;(simp only [Act.put,ps_,i64_w,i32_w];rfl)
    refine take_ (i:=14) (N:=some 35) (v:=?_) (a':=?_) #[T_,T_,T_,T_,F_,T_,T_,T_,T_,T_,T_,T_,T_,T_,T_,F_,F_,F_,F_] rfl rfl (take_ofW HT_.out HW_.out (by kernel_rfl)) (fun _ _ _ h => h) (Or.inl ⟨by rfl,?_⟩) hHeld ?_ ?_
    rotate_left
    ·rintro w' ⟨s0,s1,s2,s3,s4,s5,s6,s7,s8,s9,s10⟩
     go_simp
     with_reducible rfl
    rotate_left
    ·simp only [Act.put,ps_,i64_w,i32_w]
     rfl
    refine one_ (i:=4) (N:=some 25) #[T_,T_,T_,T_,T_,T_,T_,T_,T_,T_,T_,T_,T_,T_,T_,F_,F_,F_,F_] rfl rfl (one_of HT_.out (by kernel_rfl)) (by decide) (fun K hK => ?_)
    refine goes_ Tryd.func39 (by kernel_rfl) rfl #[.int .u8 (bt a0 0)] (by rfl) rfl rfl (by (try simp only [List.map_toArray,List.map_cons,List.map_nil]);first|done|rfl|(simp only [List.length_drop,List.length_take];rfl)) ?_
    with_reducible refine (header_low.calls (bt a0 0) t152 _ A8.out).mono ?_
    rintro e w' ⟨rfl,⟨nd,rfl⟩⟩
    refine ⟨_,rfl,?_⟩
    refine hK.out _ _ ⟨(kc_ BK151.out 0).trans rfl,(kc_ BK151.out 1).trans rfl,(kc_ BK151.out 2).trans rfl,(kc_ BK151.out 3).trans rfl,(kc_ BK151.out 4).trans rfl,(kc_ BK151.out 5).trans rfl,(kc_ BK151.out 6).trans rfl,(kc_ BK151.out 7).trans rfl,(kc_ BK151.out 8).trans rfl,(kc_ BK151.out 9).trans rfl,(kc_ BK151.out 10).trans rfl⟩ (fun hHeld => ?_)
    clear hK K
    refine norm_ (a':=?_) ?_ ?_
    rotate_left
    ·show Act.put _ (some 25) _ = _
     simp only [Act.put,ps_,i64_w,i32_w]
     rfl
    refine one_ (i:=15) (N:=some 36) #[T_,T_,T_,T_,T_,T_,T_,T_,T_,T_,T_,T_,T_,T_,T_,T_,F_,F_,F_] rfl rfl (one_of HT_.out (by kernel_rfl)) (by decide) (fun K hK => ?_)
    refine goes_ Tryd.func40 (by kernel_rfl) rfl #[.int .i64 (wrap64 ((wrap64 ((a0.size : Int) - (t149.size : Int))) - t147)),.int .i64 t147] (by rfl) rfl rfl (by (try simp only [List.map_toArray,List.map_cons,List.map_nil]);first|done|rfl|(simp only [List.length_drop,List.length_take];rfl)) ?_
    with_reducible refine (header_places.calls k (wrap64 ((wrap64 ((a0.size : Int) - (t149.size : Int))) - t147)) t147 t153 _ A9.out).mono ?_
    rintro e w16 ⟨v154,rfl,ho0,hb⟩
    refine ⟨_,rfl,?_⟩
    have n0_:=am_ (Kd.R_lower ho0 (below_size (by repeat (first|(with_reducible first|exact HB.out|apply ba_|apply pn_|apply pd_|refine bs_ ?_ GE151.out)|exact HB.out))))
    have n1_:=am_ (blk_below (g:=gb151) (o:=.cells #[.bool t138,.bool t139,.bool t140,.int .i64 t141,.int .u32 t142,.string t143,.string t144,.string t145,.int .u64 t146,.int .i64 t147,.int .u64 t148] 25 (0,0)) (by (with_reducible repeat (first|refine kn_ ?_ _|refine kd_ ?_|refine ka_ ?_ _));exact BK151.out) hb)
    have n2_:=am_ (below_step (by repeat (first|(with_reducible first|exact HB.out|apply ba_|apply pn_|apply pd_|refine bs_ ?_ GE151.out)|exact HB.out)) hb)
    clear BK151
    clear HB
    have HO155:=n0_
    have BK151:=n1_
    have HB:=n2_
    clear n0_ n1_ n2_
    (try clear hb)
    (try clear hb2)
    (try clear hk)
    (try clear hi)
    (try clear ho0)
    obtain ⟨Ao17,co17,eo17⟩:=Kd.R_slice HO155.out
    (first|subst eo17|(injection eo17 with f1_ f2_ f3_;have f4_:=f1_.symm;have f5_:=f3_.symm;clear f1_ f2_ f3_;subst f4_;subst f5_))
    refine hK.out _ _ ⟨(kc_ BK151.out 0).trans rfl,(kc_ BK151.out 1).trans rfl,(kc_ BK151.out 2).trans rfl,(kc_ BK151.out 3).trans rfl,(kc_ BK151.out 4).trans rfl,(kc_ BK151.out 5).trans rfl,(kc_ BK151.out 6).trans rfl,(kc_ BK151.out 7).trans rfl,(kc_ BK151.out 8).trans rfl,(kc_ BK151.out 9).trans rfl,(kc_ BK151.out 10).trans rfl⟩ (fun hHeld => ?_)
    clear hK K
    refine norm_ (a':=?_) ?_ ?_
    rotate_left
    ·show Act.put _ (some 36) _ = _
     simp only [Act.put,ps_,i64_w,i32_w]
     rfl
    refine one_ (i:=16) (N:=some 37) #[T_,T_,T_,T_,T_,T_,T_,T_,T_,T_,T_,T_,T_,T_,T_,T_,T_,F_,F_] rfl rfl (one_of HT_.out (by kernel_rfl)) (by decide) (fun K hK => ?_)
    refine goes_ Tryd.func38 (by kernel_rfl) rfl #[.string a0,.string a1,.int .u8 t152,.slice Ao17 t153.length co17] (by rfl) rfl rfl (by (try simp only [List.map_toArray,List.map_cons,List.map_nil]);first|done|rfl|(simp only [List.length_drop,List.length_take];rfl)) ?_
    with_reducible refine (header_lay.calls a0 a1 t152 _ _ t153 t156 _ ?side1 ?side2 A10.out).mono ?_
    (case side1 => repeat (first|exact (Kd.R_reads' HO155.out).2.2|(with_reducible refine Kd.C_alloc ?_ _)|(with_reducible refine Kd.C_drewN ?_ _)|(with_reducible refine Kd.C_drew ?_)))
    (case side2 => exact (Kd.R_reads' HO155.out).2.1)
    rintro e w18 ⟨rfl,hb⟩
    refine ⟨_,rfl,?_⟩
    have n0_:=am_ (Kd.R_below (by (with_reducible repeat (first|apply ra_|apply rn_|apply rd_));exact HO155.out) hb)
    have n1_:=am_ (blk_below (g:=gb151) (o:=.cells #[.bool t138,.bool t139,.bool t140,.int .i64 t141,.int .u32 t142,.string t143,.string t144,.string t145,.int .u64 t146,.int .i64 t147,.int .u64 t148] 25 (0,0)) (by (with_reducible repeat (first|refine kn_ ?_ _|refine kd_ ?_|refine ka_ ?_ _));exact BK151.out) hb)
    have n2_:=am_ (below_step (by repeat (first|(with_reducible first|exact HB.out|apply ba_|apply pn_|apply pd_|refine bs_ ?_ GE151.out)|exact HB.out)) hb)
    clear HO155
    clear BK151
    clear HB
    have HO155:=n0_
    have BK151:=n1_
    have HB:=n2_
    clear n0_ n1_ n2_
    (try clear hb)
    (try clear hb2)
    (try clear hk)
    (try clear hi)
    refine hK.out _ _ ⟨(kc_ BK151.out 0).trans rfl,(kc_ BK151.out 1).trans rfl,(kc_ BK151.out 2).trans rfl,(kc_ BK151.out 3).trans rfl,(kc_ BK151.out 4).trans rfl,(kc_ BK151.out 5).trans rfl,(kc_ BK151.out 6).trans rfl,(kc_ BK151.out 7).trans rfl,(kc_ BK151.out 8).trans rfl,(kc_ BK151.out 9).trans rfl,(kc_ BK151.out 10).trans rfl⟩ (fun hHeld => ?_)
    clear hK K
    refine norm_ (a':=?_) ?_ ?_
    rotate_left
    ·show Act.put _ (some 37) _ = _
     simp only [Act.put,ps_,i64_w,i32_w]
     rfl
    refine pure_ (i:=17) (N:=some 4) (v:=?_) (a':=?_) #[T_,T_,T_,T_,T_,T_,T_,T_,T_,T_,T_,T_,T_,T_,T_,T_,T_,T_,F_] rfl rfl (any_of HT_.out (by kernel_rfl)) (fun _ _ _ h => h) (Or.inl ⟨by rfl,?_⟩) ?_ ?_
    rotate_left;(intro w';go_simp;with_reducible rfl);rotate_left;(simp only [Act.put,ps_,i64_w,i32_w];rfl)
    refine pure_ (i:=18) (N:=some 5) (v:=?_) (a':=?_) #[T_,T_,T_,T_,T_,T_,T_,T_,T_,T_,T_,T_,T_,T_,T_,T_,T_,T_,T_] rfl rfl (any_of HT_.out (by kernel_rfl)) (fun _ _ _ h => h) (Or.inl ⟨by rfl,?_⟩) ?_ ?_
    rotate_left;(intro w';go_simp;with_reducible rfl);rotate_left;(simp only [Act.put,ps_,i64_w,i32_w];rfl)
    refine done_ (done_of HT_.out (by kernel_rfl)) ?_
    try go_wp2
    go_ret2
    exact ⟨by first|rfl|(simp [errW_none,errW_some] <;> rfl)|(simp [*,errW_none,errW_some] <;> rfl),by repeat (first|(with_reducible first|exact HB.out|apply ba_|apply pn_|apply pd_|refine bs_ ?_ GE151.out)|exact HB.out)⟩
   ·rw [if_neg c6] at H
    exact absurd H (by simp)
  ·rw [if_neg c5] at H
   have c5b0 : (t150 == 0) = false:=beq_eq_false_iff_ne.mpr c5
   have c5b1 : (t150 != 0) = true:=bne_iff_ne.mpr c5
   simp only [Option.some.injEq,Prod.mk.injEq] at H
   obtain ⟨rfl,rfl⟩:=H
   go_enter Tryd.func20,Tryd.ntmps20
   go_wp2_with (first|((with_reducible refine gate_callee (f:=14) rfl ?_);refine goesL_ (some 14) rfl rfl Tryd.func14 (by kernel_rfl) rfl #[.string a0] rfl (by (try simp only [List.map_toArray,List.map_cons,List.map_nil]);first|done|rfl|(simp only [List.length_drop,List.length_take];rfl)) ?_;(with_reducible refine (header_Get.calls k a0 t138 t139 t140 t141 t142 t143 t144 t145 t146 t147 t148 t149 t150 _ A4.out).mono ?_);rintro e w19 ⟨rfl,hb⟩;refine ⟨_,rfl,?_⟩;have n0_:=am_ (below_step (by repeat (first|(with_reducible first|exact HB.out|apply ba_|apply pn_|apply pd_)|exact HB.out)) hb);clear HB;have HB:=n0_;clear n0_;(try clear hb);(try clear hb2);(try clear hk);(try clear hi))|((with_reducible refine gate_dst (N:=6) rfl ?_);refine box_event ?hg (N:=6) ?hd (cs:=#[.bool false,.bool false,.bool false,.int .i64 0,.int .u32 0,.string (⟨#[]⟩ : ByteArray),.string (⟨#[]⟩ : ByteArray),.string (⟨#[]⟩ : ByteArray),.int .u64 0,.int .i64 0,.int .u64 0]) (t:=25) ?hr ?_;(case hd => rfl);(case hg => rfl);(case hr => first|(go_simp;done)|(go_simp;rfl));intro gb151 hg w20 hbox hb;have n0_:=am_ (below_step (by repeat (first|(with_reducible first|exact HB.out|apply ba_|apply pn_|apply pd_)|exact HB.out)) hb);have n1_:=am_ (hbox);have n2_:=am_ ((by rw [hg];exact (below_size (by repeat (first|(with_reducible first|exact HB.out|apply ba_|apply pn_|apply pd_)|exact HB.out))) : w.heap.size ≤ gb151));have n3_:=am_ ((by rw [hg];exact (below_size (by repeat (first|(with_reducible first|exact HB.out|apply ba_|apply pn_|apply pd_)|exact HB.out))) : w.heap.size ≤ gb151));clear HB;have HB:=n0_;have BK151:=n1_;have GW151:=n2_;have GE151:=n3_;clear n0_ n1_ n2_ n3_;clear hb hbox hg;obtain ⟨hcz21_0,hcz21_1,hcz21_2,hcz21_3,hcz21_4,hcz21_5,hcz21_6,hcz21_7,hcz21_8,hcz21_9,hcz21_10,hfz21_0,hfz21_1,hfz21_2,hfz21_3,hfz21_4,hfz21_5,hfz21_6,hfz21_7,hfz21_8,hfz21_9,hfz21_10⟩:=cs11f_ BK151.out;skip))
   go_ret2
   exact ⟨by first|rfl|(simp [errW_none,errW_some] <;> rfl)|(simp [*,errW_none,errW_some] <;> rfl),by repeat (first|(with_reducible first|exact HB.out|apply ba_|apply pn_|apply pd_|refine bs_ ?_ GE151.out)|exact HB.out)⟩
 ·rw [if_neg c3] at H
  have c3b0 : ((a1.size : Int) == 5) = false:=beq_eq_false_iff_ne.mpr c3
  have c3b1 : ((a1.size : Int) != 5) = true:=bne_iff_ne.mpr c3
  simp only [Option.some.injEq,Prod.mk.injEq] at H
  obtain ⟨rfl,rfl⟩:=H
  go_enter Tryd.func20,Tryd.ntmps20
  go_wp2
  go_ret2
  exact ⟨by first|rfl|(simp [errW_none,errW_some] <;> rfl)|(simp [*,errW_none,errW_some] <;> rfl),by repeat (first|(with_reducible first|exact HB.out|apply ba_|apply pn_|apply pd_)|exact HB.out)⟩

/-! ### header_Place: function 16 -/
def header_Place.f (k : Nat) (a0 : ByteArray) : Option (Int × Int) :=
 (parsedF k a0).bind fun r => match r with
 | none => some (0,40)
 | some q => some (wrap64 ((a0.size : Int) - (q.rest.size : Int)),0)
theorem header_Place.mono : ∀ a0 k,LeO (header_Place.f k a0) (header_Place.f (k + 1) a0):=fun a0 k => LeO.bind (parsedF.mono a0 k) fun _ => LeO.refl _
set_option maxHeartbeats 2000000 in
set_option maxRecDepth 100000 in
theorem header_Place.calls (k : Nat) (a0 : ByteArray) (r1 : Int) (r2 : Int) (w : World) (h : header_Place.f k a0 = some (r1,r2)) :
  Calls Tryd.prog 16 #[.string a0] w fun e w' => e = .returned (.tuple #[.int .i64 r1,.int .i64 r2]) ∧ Below w.heap.size w w':=by
 obtain ⟨q,hq,h⟩:=Option.bind_eq_some_iff.1 h
 have HQ:=am_ hq
 have HF:=am_ h
 clear hq h
 go_enter Tryd.func16,Tryd.ntmps16
 go_wp2_with fail
 refine (parsed_calls k a0 q _ HQ.out).mono ?_
 rintro e w2 ⟨he,hb⟩
 have B2:=am_ hb
 clear hb HQ
 cases q with
 | none =>
  dsimp only at he
  subst he
  have hf:=HF.out
  simp only [Option.some.injEq,Prod.mk.injEq] at hf
  obtain ⟨rfl,rfl⟩:=hf
  clear HF
  go_wp2
  go_ret2
  exact ⟨rfl,B2.out⟩
 | some q =>
  obtain ⟨g,hg,rfl,h2⟩:=he
  obtain ⟨long,spin,ty,ver,dcid,scid,token,len,rest,first⟩:=q
  have hf:=HF.out
  simp only [Option.some.injEq,Prod.mk.injEq] at hf
  obtain ⟨rfl,rfl⟩:=hf
  have c0 : w2.cell? ⟨g,0,none⟩ = some (.string rest):=(kc_ h2 0).trans rfl
  clear HF h2 hg
  go_wp2
  go_ret2
  exact ⟨rfl,B2.out⟩

/-! ### header_Unmask: function 22 -/
def header_Unmask.f (k : Nat) (a0 : ByteArray) (a1 : ByteArray) : Option (ByteArray × Int):=if (a1.size : Int) = 5 then ((header_Place.f k a0).bind fun bt157 => (if bt157.2 = 0 then (if 0 < (a0.size : Int) then (if 0 < (a1.size : Int) then ((header_low.f (bt a0 0)).bind fun t159 => (if (wrap64 (bt157.1 + (wrap64 (1 + (wrap64 (Go.bits .and .u8 (Go.bits .xor .u8 (bt a0 0) (Go.bits .and .u8 (bt a1 0) t159)) 3)))))) > (a0.size : Int) then (some ((⟨#[]⟩ : ByteArray),40)) else ((header_places.f k bt157.1 (wrap64 (1 + (wrap64 (Go.bits .and .u8 (Go.bits .xor .u8 (bt a0 0) (Go.bits .and .u8 (bt a1 0) t159)) 3))))).bind fun t160 => ((header_lay.f a0 a1 t159 t160).bind fun t163 => ((header_Get.f k t163).bind fun bt164 => (if bt164.2.2.2.2.2.2.2.2.2.2.2.2 = 0 then (some (t163,0)) else (some ((⟨#[]⟩ : ByteArray),40)))))))) else (none)) else (none)) else (some ((⟨#[]⟩ : ByteArray),bt157.2)))) else (some ((⟨#[]⟩ : ByteArray),1))
theorem header_Unmask.mono : ∀ a0 a1 k,LeO (header_Unmask.f k a0 a1) (header_Unmask.f (k + 1) a0 a1):=by
 intro a0 a1 k
 unfold header_Unmask.f
 repeat' first
   | (with_reducible exact header_Get.mono _ _)
   | (with_reducible exact header_Place.mono _ _)
   | (with_reducible exact header_places.mono _ _ _)
   | (with_reducible exact LeO.refl _)
   | (with_reducible exact LeO.none _)
   | (with_reducible refine LeO.ite ?_ ?_)
   | (with_reducible refine LeO.bind ?_ (fun _ => ?_))
   | exact header_Get.mono _ _
   | exact header_Place.mono _ _
   | exact header_places.mono _ _ _
   | exact LeO.none _
   | refine LeO.ite ?_ ?_
   | refine LeO.bind ?_ (fun _ => ?_)
set_option maxHeartbeats 8000000 in
set_option maxRecDepth 100000 in
theorem header_Unmask.calls (k : Nat) (a0 : ByteArray) (a1 : ByteArray) (r1 : ByteArray) (r2 : Int) (w : World) (h : header_Unmask.f k a0 a1 = some (r1,r2)) :
  Calls Tryd.prog 22 #[.string a0,.string a1] w fun e w' => e = .returned (.tuple #[.string r1,.int .i64 r2]) ∧ Below w.heap.size w w':=by
 have hu25:=Tryd.underlying25
 have HB:=am_ (Below.refl w.heap.size w)
 have H : (if (a1.size : Int) = 5 then ((header_Place.f k a0).bind fun bt157 => (if bt157.2 = 0 then (if 0 < (a0.size : Int) then (if 0 < (a1.size : Int) then ((header_low.f (bt a0 0)).bind fun t159 => (if (wrap64 (bt157.1 + (wrap64 (1 + (wrap64 (Go.bits .and .u8 (Go.bits .xor .u8 (bt a0 0) (Go.bits .and .u8 (bt a1 0) t159)) 3)))))) > (a0.size : Int) then (some ((⟨#[]⟩ : ByteArray),40)) else ((header_places.f k bt157.1 (wrap64 (1 + (wrap64 (Go.bits .and .u8 (Go.bits .xor .u8 (bt a0 0) (Go.bits .and .u8 (bt a1 0) t159)) 3))))).bind fun t160 => ((header_lay.f a0 a1 t159 t160).bind fun t163 => ((header_Get.f k t163).bind fun bt164 => (if bt164.2.2.2.2.2.2.2.2.2.2.2.2 = 0 then (some (t163,0)) else (some ((⟨#[]⟩ : ByteArray),40)))))))) else (none)) else (none)) else (some ((⟨#[]⟩ : ByteArray),bt157.2)))) else (some ((⟨#[]⟩ : ByteArray),1))) = some (r1,r2):=h
 clear h
 by_cases c3 : (a1.size : Int) = 5
 ·rw [if_pos c3] at H
  have c3b0 : ((a1.size : Int) == 5) = true:=beq_iff_eq.mpr c3
  have c3b1 : ((a1.size : Int) != 5) = false:=bne_eq_false_iff_eq.mpr c3
  clear c3
  replace H:=Option.bind_eq_some_iff.mp H
  obtain ⟨⟨t157,t158⟩,A40,H⟩:=H
  replace H : (if t158 = 0 then (if 0 < (a0.size : Int) then (if 0 < (a1.size : Int) then ((header_low.f (bt a0 0)).bind fun t159 => (if (wrap64 (t157 + (wrap64 (1 + (wrap64 (Go.bits .and .u8 (Go.bits .xor .u8 (bt a0 0) (Go.bits .and .u8 (bt a1 0) t159)) 3)))))) > (a0.size : Int) then (some ((⟨#[]⟩ : ByteArray),40)) else ((header_places.f k t157 (wrap64 (1 + (wrap64 (Go.bits .and .u8 (Go.bits .xor .u8 (bt a0 0) (Go.bits .and .u8 (bt a1 0) t159)) 3))))).bind fun t160 => ((header_lay.f a0 a1 t159 t160).bind fun t163 => ((header_Get.f k t163).bind fun bt164 => (if bt164.2.2.2.2.2.2.2.2.2.2.2.2 = 0 then (some (t163,0)) else (some ((⟨#[]⟩ : ByteArray),40)))))))) else (none)) else (none)) else (some ((⟨#[]⟩ : ByteArray),t158))) = some (r1,r2):=H
  have A4:=am_ A40
  clear A40
  by_cases c5 : t158 = 0
  ·rw [if_pos c5] at H
   have c5b0 : (t158 == 0) = true:=beq_iff_eq.mpr c5
   have c5b1 : (t158 != 0) = false:=bne_eq_false_iff_eq.mpr c5
   clear c5
   by_cases c6 : 0 < (a0.size : Int)
   ·rw [if_pos c6] at H
    have c6b0 : decide (0 < (a0.size : Int)) = true:=decide_eq_true c6
    have c6b1 : decide (0 < a0.size) = true:=decide_eq_true (by omega)
    clear c6
    by_cases c8 : 0 < (a1.size : Int)
    ·rw [if_pos c8] at H
     have c8b0 : decide (0 < (a1.size : Int)) = true:=decide_eq_true c8
     have c8b1 : decide (0 < a1.size) = true:=decide_eq_true (by omega)
     clear c8
     replace H:=Option.bind_eq_some_iff.mp H
     obtain ⟨t159,A110,H⟩:=H
     replace H : (if (wrap64 (t157 + (wrap64 (1 + (wrap64 (Go.bits .and .u8 (Go.bits .xor .u8 (bt a0 0) (Go.bits .and .u8 (bt a1 0) t159)) 3)))))) > (a0.size : Int) then (some ((⟨#[]⟩ : ByteArray),40)) else ((header_places.f k t157 (wrap64 (1 + (wrap64 (Go.bits .and .u8 (Go.bits .xor .u8 (bt a0 0) (Go.bits .and .u8 (bt a1 0) t159)) 3))))).bind fun t160 => ((header_lay.f a0 a1 t159 t160).bind fun t163 => ((header_Get.f k t163).bind fun bt164 => (if bt164.2.2.2.2.2.2.2.2.2.2.2.2 = 0 then (some (t163,0)) else (some ((⟨#[]⟩ : ByteArray),40))))))) = some (r1,r2):=H
     have A11:=am_ A110
     clear A110
     by_cases c12 : (wrap64 (t157 + (wrap64 (1 + (wrap64 (Go.bits .and .u8 (Go.bits .xor .u8 (bt a0 0) (Go.bits .and .u8 (bt a1 0) t159)) 3)))))) > (a0.size : Int)
     ·rw [if_pos c12] at H
      have c12b0 : decide ((a0.size : Int) < (wrap64 (t157 + (wrap64 (1 + (wrap64 (Go.bits .and .u8 (Go.bits .xor .u8 (bt a0 0) (Go.bits .and .u8 (bt a1 0) t159)) 3))))))) = true:=decide_eq_true c12
      clear c12
      simp only [Option.some.injEq,Prod.mk.injEq] at H
      obtain ⟨rfl,rfl⟩:=H
      go_enter Tryd.func22,Tryd.ntmps22
      go_wp2_with (first|(go_at_call 16;(with_reducible refine (header_Place.calls k a0 t157 t158 _ A4.out).mono ?_);rintro e w13 ⟨rfl,hb⟩;have n0_:=am_ (below_step (by repeat (first|(with_reducible first|exact HB.out|apply ba_|apply pn_|apply pd_)|exact HB.out)) hb);clear HB;have HB:=n0_;clear n0_;(try clear hb);(try clear hb2);(try clear hk);(try clear hi);have p7 : 0 ≤ (0 : Int):=(by omega);have q7 : 0 < a0.size:=(by have : (0 : Int) < (a0.size : Int):=of_decide_eq_true (by first|(with_reducible assumption)|assumption);omega);have hx7 : ∀ h : 0 < a0.size,((a0[0]'h).toNat : Int) = bt a0 0:=bt_at a0 0;clear p7;have qi7 : (0 < (a0.size : Int)) = True:=eq_true (of_decide_eq_true (by first|(with_reducible assumption)|assumption));replace q7:=eq_true q7;have p9 : 0 ≤ (0 : Int):=(by omega);have q9 : 0 < a1.size:=(by have : (0 : Int) < (a1.size : Int):=of_decide_eq_true (by first|(with_reducible assumption)|assumption);omega);have hx9 : ∀ h : 0 < a1.size,((a1[0]'h).toNat : Int) = bt a1 0:=bt_at a1 0;clear p9;have qi9 : (0 < (a1.size : Int)) = True:=eq_true (of_decide_eq_true (by first|(with_reducible assumption)|assumption));replace q9:=eq_true q9;have p10 : 0 ≤ (0 : Int):=(by omega);have q10 : 0 < a0.size:=(by have : (0 : Int) < (a0.size : Int):=of_decide_eq_true (by first|(with_reducible assumption)|assumption);omega);have hx10 : ∀ h : 0 < a0.size,((a0[0]'h).toNat : Int) = bt a0 0:=bt_at a0 0;clear p10;have qi10 : (0 < (a0.size : Int)) = True:=eq_true (of_decide_eq_true (by first|(with_reducible assumption)|assumption));replace q10:=eq_true q10)|(go_at_call 39;(with_reducible refine (header_low.calls (bt a0 0) t159 _ A11.out).mono ?_);rintro e w' ⟨rfl,⟨nd,rfl⟩⟩;(try first|exact ⟨rfl,_,World.drewN_drewN _ _ _⟩|exact ⟨rfl,_,Eq.trans (World.drewN_drewN _ _ _) (congrArg (World.drewN _) (Nat.add_assoc _ _ _))⟩)))
      repeat (go_quiet (first|(go_at_call 16;(with_reducible refine (header_Place.calls k a0 t157 t158 _ A4.out).mono ?_);rintro e w13 ⟨rfl,hb⟩;have n0_:=am_ (below_step (by repeat (first|(with_reducible first|exact HB.out|apply ba_|apply pn_|apply pd_)|exact HB.out)) hb);clear HB;have HB:=n0_;clear n0_;(try clear hb);(try clear hb2);(try clear hk);(try clear hi);have p7 : 0 ≤ (0 : Int):=(by omega);have q7 : 0 < a0.size:=(by have : (0 : Int) < (a0.size : Int):=of_decide_eq_true (by first|(with_reducible assumption)|assumption);omega);have hx7 : ∀ h : 0 < a0.size,((a0[0]'h).toNat : Int) = bt a0 0:=bt_at a0 0;clear p7;have qi7 : (0 < (a0.size : Int)) = True:=eq_true (of_decide_eq_true (by first|(with_reducible assumption)|assumption));replace q7:=eq_true q7;have p9 : 0 ≤ (0 : Int):=(by omega);have q9 : 0 < a1.size:=(by have : (0 : Int) < (a1.size : Int):=of_decide_eq_true (by first|(with_reducible assumption)|assumption);omega);have hx9 : ∀ h : 0 < a1.size,((a1[0]'h).toNat : Int) = bt a1 0:=bt_at a1 0;clear p9;have qi9 : (0 < (a1.size : Int)) = True:=eq_true (of_decide_eq_true (by first|(with_reducible assumption)|assumption));replace q9:=eq_true q9;have p10 : 0 ≤ (0 : Int):=(by omega);have q10 : 0 < a0.size:=(by have : (0 : Int) < (a0.size : Int):=of_decide_eq_true (by first|(with_reducible assumption)|assumption);omega);have hx10 : ∀ h : 0 < a0.size,((a0[0]'h).toNat : Int) = bt a0 0:=bt_at a0 0;clear p10;have qi10 : (0 < (a0.size : Int)) = True:=eq_true (of_decide_eq_true (by first|(with_reducible assumption)|assumption));replace q10:=eq_true q10)|(go_at_call 39;(with_reducible refine (header_low.calls (bt a0 0) t159 _ A11.out).mono ?_);rintro e w' ⟨rfl,⟨nd,rfl⟩⟩;(try first|exact ⟨rfl,_,World.drewN_drewN _ _ _⟩|exact ⟨rfl,_,Eq.trans (World.drewN_drewN _ _ _) (congrArg (World.drewN _) (Nat.add_assoc _ _ _))⟩)));try go_wp2_with (first|(go_at_call 16;(with_reducible refine (header_Place.calls k a0 t157 t158 _ A4.out).mono ?_);rintro e w13 ⟨rfl,hb⟩;have n0_:=am_ (below_step (by repeat (first|(with_reducible first|exact HB.out|apply ba_|apply pn_|apply pd_)|exact HB.out)) hb);clear HB;have HB:=n0_;clear n0_;(try clear hb);(try clear hb2);(try clear hk);(try clear hi);have p7 : 0 ≤ (0 : Int):=(by omega);have q7 : 0 < a0.size:=(by have : (0 : Int) < (a0.size : Int):=of_decide_eq_true (by first|(with_reducible assumption)|assumption);omega);have hx7 : ∀ h : 0 < a0.size,((a0[0]'h).toNat : Int) = bt a0 0:=bt_at a0 0;clear p7;have qi7 : (0 < (a0.size : Int)) = True:=eq_true (of_decide_eq_true (by first|(with_reducible assumption)|assumption));replace q7:=eq_true q7;have p9 : 0 ≤ (0 : Int):=(by omega);have q9 : 0 < a1.size:=(by have : (0 : Int) < (a1.size : Int):=of_decide_eq_true (by first|(with_reducible assumption)|assumption);omega);have hx9 : ∀ h : 0 < a1.size,((a1[0]'h).toNat : Int) = bt a1 0:=bt_at a1 0;clear p9;have qi9 : (0 < (a1.size : Int)) = True:=eq_true (of_decide_eq_true (by first|(with_reducible assumption)|assumption));replace q9:=eq_true q9;have p10 : 0 ≤ (0 : Int):=(by omega);have q10 : 0 < a0.size:=(by have : (0 : Int) < (a0.size : Int):=of_decide_eq_true (by first|(with_reducible assumption)|assumption);omega);have hx10 : ∀ h : 0 < a0.size,((a0[0]'h).toNat : Int) = bt a0 0:=bt_at a0 0;clear p10;have qi10 : (0 < (a0.size : Int)) = True:=eq_true (of_decide_eq_true (by first|(with_reducible assumption)|assumption));replace q10:=eq_true q10)|(go_at_call 39;(with_reducible refine (header_low.calls (bt a0 0) t159 _ A11.out).mono ?_);rintro e w' ⟨rfl,⟨nd,rfl⟩⟩;(try first|exact ⟨rfl,_,World.drewN_drewN _ _ _⟩|exact ⟨rfl,_,Eq.trans (World.drewN_drewN _ _ _) (congrArg (World.drewN _) (Nat.add_assoc _ _ _))⟩))))
      go_ret2
      exact ⟨by first|rfl|(simp [errW_none,errW_some] <;> rfl)|(simp [*,errW_none,errW_some] <;> rfl),by repeat (first|(with_reducible first|exact HB.out|apply ba_|apply pn_|apply pd_)|exact HB.out)⟩
     ·rw [if_neg c12] at H
      have c12b0 : decide ((a0.size : Int) < (wrap64 (t157 + (wrap64 (1 + (wrap64 (Go.bits .and .u8 (Go.bits .xor .u8 (bt a0 0) (Go.bits .and .u8 (bt a1 0) t159)) 3))))))) = false:=decide_eq_false c12
      clear c12
      replace H:=Option.bind_eq_some_iff.mp H
      obtain ⟨t160,A150,H⟩:=H
      replace H : ((header_lay.f a0 a1 t159 t160).bind fun t163 => ((header_Get.f k t163).bind fun bt164 => (if bt164.2.2.2.2.2.2.2.2.2.2.2.2 = 0 then (some (t163,0)) else (some ((⟨#[]⟩ : ByteArray),40))))) = some (r1,r2):=H
      have A15:=am_ A150
      clear A150
      replace H:=Option.bind_eq_some_iff.mp H
      obtain ⟨t163,A160,H⟩:=H
      replace H : ((header_Get.f k t163).bind fun bt164 => (if bt164.2.2.2.2.2.2.2.2.2.2.2.2 = 0 then (some (t163,0)) else (some ((⟨#[]⟩ : ByteArray),40)))) = some (r1,r2):=H
      have A16:=am_ A160
      clear A160
      replace H:=Option.bind_eq_some_iff.mp H
      obtain ⟨⟨t164,t165,t166,t167,t168,t169,t170,t171,t172,t173,t174,t175,t176⟩,A170,H⟩:=H
      replace H : (if t176 = 0 then (some (t163,0)) else (some ((⟨#[]⟩ : ByteArray),40))) = some (r1,r2):=H
      have A17:=am_ A170
      clear A170
      by_cases c18 : t176 = 0
      ·rw [if_pos c18] at H
       have c18b0 : (t176 == 0) = true:=beq_iff_eq.mpr c18
       have c18b1 : (t176 != 0) = false:=bne_eq_false_iff_eq.mpr c18
       clear c18
       simp only [Option.some.injEq,Prod.mk.injEq] at H
       obtain ⟨rfl,rfl⟩:=H
       go_enter Tryd.func22,Tryd.ntmps22
       go_wp2_with (first|(go_at_call 16;(with_reducible refine (header_Place.calls k a0 t157 t158 _ A4.out).mono ?_);rintro e w19 ⟨rfl,hb⟩;have n0_:=am_ (below_step (by repeat (first|(with_reducible first|exact HB.out|apply ba_|apply pn_|apply pd_)|exact HB.out)) hb);clear HB;have HB:=n0_;clear n0_;(try clear hb);(try clear hb2);(try clear hk);(try clear hi);have p7 : 0 ≤ (0 : Int):=(by omega);have q7 : 0 < a0.size:=(by have : (0 : Int) < (a0.size : Int):=of_decide_eq_true (by first|(with_reducible assumption)|assumption);omega);have hx7 : ∀ h : 0 < a0.size,((a0[0]'h).toNat : Int) = bt a0 0:=bt_at a0 0;clear p7;have qi7 : (0 < (a0.size : Int)) = True:=eq_true (of_decide_eq_true (by first|(with_reducible assumption)|assumption));replace q7:=eq_true q7;have p9 : 0 ≤ (0 : Int):=(by omega);have q9 : 0 < a1.size:=(by have : (0 : Int) < (a1.size : Int):=of_decide_eq_true (by first|(with_reducible assumption)|assumption);omega);have hx9 : ∀ h : 0 < a1.size,((a1[0]'h).toNat : Int) = bt a1 0:=bt_at a1 0;clear p9;have qi9 : (0 < (a1.size : Int)) = True:=eq_true (of_decide_eq_true (by first|(with_reducible assumption)|assumption));replace q9:=eq_true q9;have p10 : 0 ≤ (0 : Int):=(by omega);have q10 : 0 < a0.size:=(by have : (0 : Int) < (a0.size : Int):=of_decide_eq_true (by first|(with_reducible assumption)|assumption);omega);have hx10 : ∀ h : 0 < a0.size,((a0[0]'h).toNat : Int) = bt a0 0:=bt_at a0 0;clear p10;have qi10 : (0 < (a0.size : Int)) = True:=eq_true (of_decide_eq_true (by first|(with_reducible assumption)|assumption));replace q10:=eq_true q10)|(go_at_call 39;(with_reducible refine (header_low.calls (bt a0 0) t159 _ A11.out).mono ?_);rintro e w' ⟨rfl,⟨nd,rfl⟩⟩;(try first|exact ⟨rfl,_,World.drewN_drewN _ _ _⟩|exact ⟨rfl,_,Eq.trans (World.drewN_drewN _ _ _) (congrArg (World.drewN _) (Nat.add_assoc _ _ _))⟩);have p14 : 0 ≤ (0 : Int):=(by omega);have q14 : 0 < a0.size:=(by have : (0 : Int) < (a0.size : Int):=of_decide_eq_true (by first|(with_reducible assumption)|assumption);omega);have hx14 : ∀ h : 0 < a0.size,((a0[0]'h).toNat : Int) = bt a0 0:=bt_at a0 0;clear p14;have qi14 : (0 < (a0.size : Int)) = True:=eq_true (of_decide_eq_true (by first|(with_reducible assumption)|assumption));replace q14:=eq_true q14)|(go_at_call 39;(with_reducible refine (header_low.calls (bt a0 0) t159 _ A11.out).mono ?_);rintro e w' ⟨rfl,⟨nd,rfl⟩⟩;(try first|exact ⟨rfl,_,World.drewN_drewN _ _ _⟩|exact ⟨rfl,_,Eq.trans (World.drewN_drewN _ _ _) (congrArg (World.drewN _) (Nat.add_assoc _ _ _))⟩))|(go_at_call 40;(with_reducible refine (header_places.calls k t157 (wrap64 (1 + (wrap64 (Go.bits .and .u8 (Go.bits .xor .u8 (bt a0 0) (Go.bits .and .u8 (bt a1 0) t159)) 3)))) t160 _ A15.out).mono ?_);rintro e w20 ⟨v161,rfl,ho0,hb⟩;have n0_:=am_ (Kd.R_lower ho0 (below_size (by repeat (first|(with_reducible first|exact HB.out|apply ba_|apply pn_|apply pd_)|exact HB.out))));have n1_:=am_ (below_step (by repeat (first|(with_reducible first|exact HB.out|apply ba_|apply pn_|apply pd_)|exact HB.out)) hb);clear HB;have HO162:=n0_;have HB:=n1_;clear n0_ n1_;(try clear hb);(try clear hb2);(try clear hk);(try clear hi);(try clear ho0);obtain ⟨Ao21,co21,eo21⟩:=Kd.R_slice HO162.out;subst eo21)|(go_at_call 38;(with_reducible refine (header_lay.calls a0 a1 t159 _ _ t160 t163 _ ?side1 ?side2 A16.out).mono ?_);(case side1 => repeat (first|exact (Kd.R_reads' HO162.out).2.2|(with_reducible refine Kd.C_alloc ?_ _)|(with_reducible refine Kd.C_drewN ?_ _)|(with_reducible refine Kd.C_drew ?_)));(case side2 => exact (Kd.R_reads' HO162.out).2.1);rintro e w22 ⟨rfl,hb⟩;have n0_:=am_ (Kd.R_below (by (with_reducible repeat (first|apply ra_|apply rn_|apply rd_));exact HO162.out) hb);have n1_:=am_ (below_step (by repeat (first|(with_reducible first|exact HB.out|apply ba_|apply pn_|apply pd_)|exact HB.out)) hb);clear HO162;clear HB;have HO162:=n0_;have HB:=n1_;clear n0_ n1_;(try clear hb);(try clear hb2);(try clear hk);(try clear hi))|(go_at_call 14;(with_reducible refine (header_Get.calls k t163 t164 t165 t166 t167 t168 t169 t170 t171 t172 t173 t174 t175 t176 _ A17.out).mono ?_);rintro e w23 ⟨rfl,hb⟩;have n0_:=am_ (Kd.R_below (by (with_reducible repeat (first|apply ra_|apply rn_|apply rd_));exact HO162.out) hb);have n1_:=am_ (below_step (by repeat (first|(with_reducible first|exact HB.out|apply ba_|apply pn_|apply pd_)|exact HB.out)) hb);clear HO162;clear HB;have HO162:=n0_;have HB:=n1_;clear n0_ n1_;(try clear hb);(try clear hb2);(try clear hk);(try clear hi))|((with_reducible refine gate_dst (N:=10) rfl ?_);refine box_event ?hg (N:=10) ?hd (cs:=#[.bool false,.bool false,.bool false,.int .i64 0,.int .u32 0,.string (⟨#[]⟩ : ByteArray),.string (⟨#[]⟩ : ByteArray),.string (⟨#[]⟩ : ByteArray),.int .u64 0,.int .i64 0,.int .u64 0]) (t:=25) ?hr ?_;(case hd => rfl);(case hg => rfl);(case hr => first|(go_simp;done)|(go_simp;rfl));intro gb177 hg w24 hbox hb;have n0_:=am_ (Kd.R_below (by (with_reducible repeat (first|apply ra_|apply rn_|apply rd_));exact HO162.out) hb);have n1_:=am_ (below_step (by repeat (first|(with_reducible first|exact HB.out|apply ba_|apply pn_|apply pd_)|exact HB.out)) hb);have n2_:=am_ (hbox);have n3_:=am_ ((by rw [hg];exact (below_size (by repeat (first|(with_reducible first|exact HB.out|apply ba_|apply pn_|apply pd_)|exact HB.out))) : w.heap.size ≤ gb177));have n4_:=am_ ((by rw [hg];exact (below_size (by repeat (first|(with_reducible first|exact HB.out|apply ba_|apply pn_|apply pd_)|exact HB.out))) : w.heap.size ≤ gb177));clear HO162;clear HB;have HO162:=n0_;have HB:=n1_;have BK177:=n2_;have GW177:=n3_;have GE177:=n4_;clear n0_ n1_ n2_ n3_ n4_;clear hb hbox hg;obtain ⟨hcz25_0,hcz25_1,hcz25_2,hcz25_3,hcz25_4,hcz25_5,hcz25_6,hcz25_7,hcz25_8,hcz25_9,hcz25_10,hfz25_0,hfz25_1,hfz25_2,hfz25_3,hfz25_4,hfz25_5,hfz25_6,hfz25_7,hfz25_8,hfz25_9,hfz25_10⟩:=cs11f_ BK177.out;skip))
       repeat (go_quiet (first|(go_at_call 16;(with_reducible refine (header_Place.calls k a0 t157 t158 _ A4.out).mono ?_);rintro e w19 ⟨rfl,hb⟩;have n0_:=am_ (below_step (by repeat (first|(with_reducible first|exact HB.out|apply ba_|apply pn_|apply pd_)|exact HB.out)) hb);clear HB;have HB:=n0_;clear n0_;(try clear hb);(try clear hb2);(try clear hk);(try clear hi);have p7 : 0 ≤ (0 : Int):=(by omega);have q7 : 0 < a0.size:=(by have : (0 : Int) < (a0.size : Int):=of_decide_eq_true (by first|(with_reducible assumption)|assumption);omega);have hx7 : ∀ h : 0 < a0.size,((a0[0]'h).toNat : Int) = bt a0 0:=bt_at a0 0;clear p7;have qi7 : (0 < (a0.size : Int)) = True:=eq_true (of_decide_eq_true (by first|(with_reducible assumption)|assumption));replace q7:=eq_true q7;have p9 : 0 ≤ (0 : Int):=(by omega);have q9 : 0 < a1.size:=(by have : (0 : Int) < (a1.size : Int):=of_decide_eq_true (by first|(with_reducible assumption)|assumption);omega);have hx9 : ∀ h : 0 < a1.size,((a1[0]'h).toNat : Int) = bt a1 0:=bt_at a1 0;clear p9;have qi9 : (0 < (a1.size : Int)) = True:=eq_true (of_decide_eq_true (by first|(with_reducible assumption)|assumption));replace q9:=eq_true q9;have p10 : 0 ≤ (0 : Int):=(by omega);have q10 : 0 < a0.size:=(by have : (0 : Int) < (a0.size : Int):=of_decide_eq_true (by first|(with_reducible assumption)|assumption);omega);have hx10 : ∀ h : 0 < a0.size,((a0[0]'h).toNat : Int) = bt a0 0:=bt_at a0 0;clear p10;have qi10 : (0 < (a0.size : Int)) = True:=eq_true (of_decide_eq_true (by first|(with_reducible assumption)|assumption));replace q10:=eq_true q10)|(go_at_call 39;(with_reducible refine (header_low.calls (bt a0 0) t159 _ A11.out).mono ?_);rintro e w' ⟨rfl,⟨nd,rfl⟩⟩;(try first|exact ⟨rfl,_,World.drewN_drewN _ _ _⟩|exact ⟨rfl,_,Eq.trans (World.drewN_drewN _ _ _) (congrArg (World.drewN _) (Nat.add_assoc _ _ _))⟩);have p14 : 0 ≤ (0 : Int):=(by omega);have q14 : 0 < a0.size:=(by have : (0 : Int) < (a0.size : Int):=of_decide_eq_true (by first|(with_reducible assumption)|assumption);omega);have hx14 : ∀ h : 0 < a0.size,((a0[0]'h).toNat : Int) = bt a0 0:=bt_at a0 0;clear p14;have qi14 : (0 < (a0.size : Int)) = True:=eq_true (of_decide_eq_true (by first|(with_reducible assumption)|assumption));replace q14:=eq_true q14)|(go_at_call 39;(with_reducible refine (header_low.calls (bt a0 0) t159 _ A11.out).mono ?_);rintro e w' ⟨rfl,⟨nd,rfl⟩⟩;(try first|exact ⟨rfl,_,World.drewN_drewN _ _ _⟩|exact ⟨rfl,_,Eq.trans (World.drewN_drewN _ _ _) (congrArg (World.drewN _) (Nat.add_assoc _ _ _))⟩))|(go_at_call 40;(with_reducible refine (header_places.calls k t157 (wrap64 (1 + (wrap64 (Go.bits .and .u8 (Go.bits .xor .u8 (bt a0 0) (Go.bits .and .u8 (bt a1 0) t159)) 3)))) t160 _ A15.out).mono ?_);rintro e w20 ⟨v161,rfl,ho0,hb⟩;have n0_:=am_ (Kd.R_lower ho0 (below_size (by repeat (first|(with_reducible first|exact HB.out|apply ba_|apply pn_|apply pd_)|exact HB.out))));have n1_:=am_ (below_step (by repeat (first|(with_reducible first|exact HB.out|apply ba_|apply pn_|apply pd_)|exact HB.out)) hb);clear HB;have HO162:=n0_;have HB:=n1_;clear n0_ n1_;(try clear hb);(try clear hb2);(try clear hk);(try clear hi);(try clear ho0);obtain ⟨Ao21,co21,eo21⟩:=Kd.R_slice HO162.out;subst eo21)|(go_at_call 38;(with_reducible refine (header_lay.calls a0 a1 t159 _ _ t160 t163 _ ?side1 ?side2 A16.out).mono ?_);(case side1 => repeat (first|exact (Kd.R_reads' HO162.out).2.2|(with_reducible refine Kd.C_alloc ?_ _)|(with_reducible refine Kd.C_drewN ?_ _)|(with_reducible refine Kd.C_drew ?_)));(case side2 => exact (Kd.R_reads' HO162.out).2.1);rintro e w22 ⟨rfl,hb⟩;have n0_:=am_ (Kd.R_below (by (with_reducible repeat (first|apply ra_|apply rn_|apply rd_));exact HO162.out) hb);have n1_:=am_ (below_step (by repeat (first|(with_reducible first|exact HB.out|apply ba_|apply pn_|apply pd_)|exact HB.out)) hb);clear HO162;clear HB;have HO162:=n0_;have HB:=n1_;clear n0_ n1_;(try clear hb);(try clear hb2);(try clear hk);(try clear hi))|(go_at_call 14;(with_reducible refine (header_Get.calls k t163 t164 t165 t166 t167 t168 t169 t170 t171 t172 t173 t174 t175 t176 _ A17.out).mono ?_);rintro e w23 ⟨rfl,hb⟩;have n0_:=am_ (Kd.R_below (by (with_reducible repeat (first|apply ra_|apply rn_|apply rd_));exact HO162.out) hb);have n1_:=am_ (below_step (by repeat (first|(with_reducible first|exact HB.out|apply ba_|apply pn_|apply pd_)|exact HB.out)) hb);clear HO162;clear HB;have HO162:=n0_;have HB:=n1_;clear n0_ n1_;(try clear hb);(try clear hb2);(try clear hk);(try clear hi))|((with_reducible refine gate_dst (N:=10) rfl ?_);refine box_event ?hg (N:=10) ?hd (cs:=#[.bool false,.bool false,.bool false,.int .i64 0,.int .u32 0,.string (⟨#[]⟩ : ByteArray),.string (⟨#[]⟩ : ByteArray),.string (⟨#[]⟩ : ByteArray),.int .u64 0,.int .i64 0,.int .u64 0]) (t:=25) ?hr ?_;(case hd => rfl);(case hg => rfl);(case hr => first|(go_simp;done)|(go_simp;rfl));intro gb177 hg w24 hbox hb;have n0_:=am_ (Kd.R_below (by (with_reducible repeat (first|apply ra_|apply rn_|apply rd_));exact HO162.out) hb);have n1_:=am_ (below_step (by repeat (first|(with_reducible first|exact HB.out|apply ba_|apply pn_|apply pd_)|exact HB.out)) hb);have n2_:=am_ (hbox);have n3_:=am_ ((by rw [hg];exact (below_size (by repeat (first|(with_reducible first|exact HB.out|apply ba_|apply pn_|apply pd_)|exact HB.out))) : w.heap.size ≤ gb177));have n4_:=am_ ((by rw [hg];exact (below_size (by repeat (first|(with_reducible first|exact HB.out|apply ba_|apply pn_|apply pd_)|exact HB.out))) : w.heap.size ≤ gb177));clear HO162;clear HB;have HO162:=n0_;have HB:=n1_;have BK177:=n2_;have GW177:=n3_;have GE177:=n4_;clear n0_ n1_ n2_ n3_ n4_;clear hb hbox hg;obtain ⟨hcz25_0,hcz25_1,hcz25_2,hcz25_3,hcz25_4,hcz25_5,hcz25_6,hcz25_7,hcz25_8,hcz25_9,hcz25_10,hfz25_0,hfz25_1,hfz25_2,hfz25_3,hfz25_4,hfz25_5,hfz25_6,hfz25_7,hfz25_8,hfz25_9,hfz25_10⟩:=cs11f_ BK177.out;skip));try go_wp2_with (first|(go_at_call 16;(with_reducible refine (header_Place.calls k a0 t157 t158 _ A4.out).mono ?_);rintro e w19 ⟨rfl,hb⟩;have n0_:=am_ (below_step (by repeat (first|(with_reducible first|exact HB.out|apply ba_|apply pn_|apply pd_)|exact HB.out)) hb);clear HB;have HB:=n0_;clear n0_;(try clear hb);(try clear hb2);(try clear hk);(try clear hi);have p7 : 0 ≤ (0 : Int):=(by omega);have q7 : 0 < a0.size:=(by have : (0 : Int) < (a0.size : Int):=of_decide_eq_true (by first|(with_reducible assumption)|assumption);omega);have hx7 : ∀ h : 0 < a0.size,((a0[0]'h).toNat : Int) = bt a0 0:=bt_at a0 0;clear p7;have qi7 : (0 < (a0.size : Int)) = True:=eq_true (of_decide_eq_true (by first|(with_reducible assumption)|assumption));replace q7:=eq_true q7;have p9 : 0 ≤ (0 : Int):=(by omega);have q9 : 0 < a1.size:=(by have : (0 : Int) < (a1.size : Int):=of_decide_eq_true (by first|(with_reducible assumption)|assumption);omega);have hx9 : ∀ h : 0 < a1.size,((a1[0]'h).toNat : Int) = bt a1 0:=bt_at a1 0;clear p9;have qi9 : (0 < (a1.size : Int)) = True:=eq_true (of_decide_eq_true (by first|(with_reducible assumption)|assumption));replace q9:=eq_true q9;have p10 : 0 ≤ (0 : Int):=(by omega);have q10 : 0 < a0.size:=(by have : (0 : Int) < (a0.size : Int):=of_decide_eq_true (by first|(with_reducible assumption)|assumption);omega);have hx10 : ∀ h : 0 < a0.size,((a0[0]'h).toNat : Int) = bt a0 0:=bt_at a0 0;clear p10;have qi10 : (0 < (a0.size : Int)) = True:=eq_true (of_decide_eq_true (by first|(with_reducible assumption)|assumption));replace q10:=eq_true q10)|(go_at_call 39;(with_reducible refine (header_low.calls (bt a0 0) t159 _ A11.out).mono ?_);rintro e w' ⟨rfl,⟨nd,rfl⟩⟩;(try first|exact ⟨rfl,_,World.drewN_drewN _ _ _⟩|exact ⟨rfl,_,Eq.trans (World.drewN_drewN _ _ _) (congrArg (World.drewN _) (Nat.add_assoc _ _ _))⟩);have p14 : 0 ≤ (0 : Int):=(by omega);have q14 : 0 < a0.size:=(by have : (0 : Int) < (a0.size : Int):=of_decide_eq_true (by first|(with_reducible assumption)|assumption);omega);have hx14 : ∀ h : 0 < a0.size,((a0[0]'h).toNat : Int) = bt a0 0:=bt_at a0 0;clear p14;have qi14 : (0 < (a0.size : Int)) = True:=eq_true (of_decide_eq_true (by first|(with_reducible assumption)|assumption));replace q14:=eq_true q14)|(go_at_call 39;(with_reducible refine (header_low.calls (bt a0 0) t159 _ A11.out).mono ?_);rintro e w' ⟨rfl,⟨nd,rfl⟩⟩;(try first|exact ⟨rfl,_,World.drewN_drewN _ _ _⟩|exact ⟨rfl,_,Eq.trans (World.drewN_drewN _ _ _) (congrArg (World.drewN _) (Nat.add_assoc _ _ _))⟩))|(go_at_call 40;(with_reducible refine (header_places.calls k t157 (wrap64 (1 + (wrap64 (Go.bits .and .u8 (Go.bits .xor .u8 (bt a0 0) (Go.bits .and .u8 (bt a1 0) t159)) 3)))) t160 _ A15.out).mono ?_);rintro e w20 ⟨v161,rfl,ho0,hb⟩;have n0_:=am_ (Kd.R_lower ho0 (below_size (by repeat (first|(with_reducible first|exact HB.out|apply ba_|apply pn_|apply pd_)|exact HB.out))));have n1_:=am_ (below_step (by repeat (first|(with_reducible first|exact HB.out|apply ba_|apply pn_|apply pd_)|exact HB.out)) hb);clear HB;have HO162:=n0_;have HB:=n1_;clear n0_ n1_;(try clear hb);(try clear hb2);(try clear hk);(try clear hi);(try clear ho0);obtain ⟨Ao21,co21,eo21⟩:=Kd.R_slice HO162.out;subst eo21)|(go_at_call 38;(with_reducible refine (header_lay.calls a0 a1 t159 _ _ t160 t163 _ ?side1 ?side2 A16.out).mono ?_);(case side1 => repeat (first|exact (Kd.R_reads' HO162.out).2.2|(with_reducible refine Kd.C_alloc ?_ _)|(with_reducible refine Kd.C_drewN ?_ _)|(with_reducible refine Kd.C_drew ?_)));(case side2 => exact (Kd.R_reads' HO162.out).2.1);rintro e w22 ⟨rfl,hb⟩;have n0_:=am_ (Kd.R_below (by (with_reducible repeat (first|apply ra_|apply rn_|apply rd_));exact HO162.out) hb);have n1_:=am_ (below_step (by repeat (first|(with_reducible first|exact HB.out|apply ba_|apply pn_|apply pd_)|exact HB.out)) hb);clear HO162;clear HB;have HO162:=n0_;have HB:=n1_;clear n0_ n1_;(try clear hb);(try clear hb2);(try clear hk);(try clear hi))|(go_at_call 14;(with_reducible refine (header_Get.calls k t163 t164 t165 t166 t167 t168 t169 t170 t171 t172 t173 t174 t175 t176 _ A17.out).mono ?_);rintro e w23 ⟨rfl,hb⟩;have n0_:=am_ (Kd.R_below (by (with_reducible repeat (first|apply ra_|apply rn_|apply rd_));exact HO162.out) hb);have n1_:=am_ (below_step (by repeat (first|(with_reducible first|exact HB.out|apply ba_|apply pn_|apply pd_)|exact HB.out)) hb);clear HO162;clear HB;have HO162:=n0_;have HB:=n1_;clear n0_ n1_;(try clear hb);(try clear hb2);(try clear hk);(try clear hi))|((with_reducible refine gate_dst (N:=10) rfl ?_);refine box_event ?hg (N:=10) ?hd (cs:=#[.bool false,.bool false,.bool false,.int .i64 0,.int .u32 0,.string (⟨#[]⟩ : ByteArray),.string (⟨#[]⟩ : ByteArray),.string (⟨#[]⟩ : ByteArray),.int .u64 0,.int .i64 0,.int .u64 0]) (t:=25) ?hr ?_;(case hd => rfl);(case hg => rfl);(case hr => first|(go_simp;done)|(go_simp;rfl));intro gb177 hg w24 hbox hb;have n0_:=am_ (Kd.R_below (by (with_reducible repeat (first|apply ra_|apply rn_|apply rd_));exact HO162.out) hb);have n1_:=am_ (below_step (by repeat (first|(with_reducible first|exact HB.out|apply ba_|apply pn_|apply pd_)|exact HB.out)) hb);have n2_:=am_ (hbox);have n3_:=am_ ((by rw [hg];exact (below_size (by repeat (first|(with_reducible first|exact HB.out|apply ba_|apply pn_|apply pd_)|exact HB.out))) : w.heap.size ≤ gb177));have n4_:=am_ ((by rw [hg];exact (below_size (by repeat (first|(with_reducible first|exact HB.out|apply ba_|apply pn_|apply pd_)|exact HB.out))) : w.heap.size ≤ gb177));clear HO162;clear HB;have HO162:=n0_;have HB:=n1_;have BK177:=n2_;have GW177:=n3_;have GE177:=n4_;clear n0_ n1_ n2_ n3_ n4_;clear hb hbox hg;obtain ⟨hcz25_0,hcz25_1,hcz25_2,hcz25_3,hcz25_4,hcz25_5,hcz25_6,hcz25_7,hcz25_8,hcz25_9,hcz25_10,hfz25_0,hfz25_1,hfz25_2,hfz25_3,hfz25_4,hfz25_5,hfz25_6,hfz25_7,hfz25_8,hfz25_9,hfz25_10⟩:=cs11f_ BK177.out;skip)))
       go_ret2
       exact ⟨by first|rfl|(simp [errW_none,errW_some] <;> rfl)|(simp [*,errW_none,errW_some] <;> rfl),by repeat (first|(with_reducible first|exact HB.out|apply ba_|apply pn_|apply pd_|refine bs_ ?_ GE177.out)|exact HB.out)⟩
      ·rw [if_neg c18] at H
       have c18b0 : (t176 == 0) = false:=beq_eq_false_iff_ne.mpr c18
       have c18b1 : (t176 != 0) = true:=bne_iff_ne.mpr c18
       simp only [Option.some.injEq,Prod.mk.injEq] at H
       obtain ⟨rfl,rfl⟩:=H
       go_enter Tryd.func22,Tryd.ntmps22
       go_wp2_with (first|(go_at_call 16;(with_reducible refine (header_Place.calls k a0 t157 t158 _ A4.out).mono ?_);rintro e w26 ⟨rfl,hb⟩;have n0_:=am_ (below_step (by repeat (first|(with_reducible first|exact HB.out|apply ba_|apply pn_|apply pd_)|exact HB.out)) hb);clear HB;have HB:=n0_;clear n0_;(try clear hb);(try clear hb2);(try clear hk);(try clear hi);have p7 : 0 ≤ (0 : Int):=(by omega);have q7 : 0 < a0.size:=(by have : (0 : Int) < (a0.size : Int):=of_decide_eq_true (by first|(with_reducible assumption)|assumption);omega);have hx7 : ∀ h : 0 < a0.size,((a0[0]'h).toNat : Int) = bt a0 0:=bt_at a0 0;clear p7;have qi7 : (0 < (a0.size : Int)) = True:=eq_true (of_decide_eq_true (by first|(with_reducible assumption)|assumption));replace q7:=eq_true q7;have p9 : 0 ≤ (0 : Int):=(by omega);have q9 : 0 < a1.size:=(by have : (0 : Int) < (a1.size : Int):=of_decide_eq_true (by first|(with_reducible assumption)|assumption);omega);have hx9 : ∀ h : 0 < a1.size,((a1[0]'h).toNat : Int) = bt a1 0:=bt_at a1 0;clear p9;have qi9 : (0 < (a1.size : Int)) = True:=eq_true (of_decide_eq_true (by first|(with_reducible assumption)|assumption));replace q9:=eq_true q9;have p10 : 0 ≤ (0 : Int):=(by omega);have q10 : 0 < a0.size:=(by have : (0 : Int) < (a0.size : Int):=of_decide_eq_true (by first|(with_reducible assumption)|assumption);omega);have hx10 : ∀ h : 0 < a0.size,((a0[0]'h).toNat : Int) = bt a0 0:=bt_at a0 0;clear p10;have qi10 : (0 < (a0.size : Int)) = True:=eq_true (of_decide_eq_true (by first|(with_reducible assumption)|assumption));replace q10:=eq_true q10)|(go_at_call 39;(with_reducible refine (header_low.calls (bt a0 0) t159 _ A11.out).mono ?_);rintro e w' ⟨rfl,⟨nd,rfl⟩⟩;(try first|exact ⟨rfl,_,World.drewN_drewN _ _ _⟩|exact ⟨rfl,_,Eq.trans (World.drewN_drewN _ _ _) (congrArg (World.drewN _) (Nat.add_assoc _ _ _))⟩);have p14 : 0 ≤ (0 : Int):=(by omega);have q14 : 0 < a0.size:=(by have : (0 : Int) < (a0.size : Int):=of_decide_eq_true (by first|(with_reducible assumption)|assumption);omega);have hx14 : ∀ h : 0 < a0.size,((a0[0]'h).toNat : Int) = bt a0 0:=bt_at a0 0;clear p14;have qi14 : (0 < (a0.size : Int)) = True:=eq_true (of_decide_eq_true (by first|(with_reducible assumption)|assumption));replace q14:=eq_true q14)|(go_at_call 39;(with_reducible refine (header_low.calls (bt a0 0) t159 _ A11.out).mono ?_);rintro e w' ⟨rfl,⟨nd,rfl⟩⟩;(try first|exact ⟨rfl,_,World.drewN_drewN _ _ _⟩|exact ⟨rfl,_,Eq.trans (World.drewN_drewN _ _ _) (congrArg (World.drewN _) (Nat.add_assoc _ _ _))⟩))|(go_at_call 40;(with_reducible refine (header_places.calls k t157 (wrap64 (1 + (wrap64 (Go.bits .and .u8 (Go.bits .xor .u8 (bt a0 0) (Go.bits .and .u8 (bt a1 0) t159)) 3)))) t160 _ A15.out).mono ?_);rintro e w27 ⟨v161,rfl,ho0,hb⟩;have n0_:=am_ (Kd.R_lower ho0 (below_size (by repeat (first|(with_reducible first|exact HB.out|apply ba_|apply pn_|apply pd_)|exact HB.out))));have n1_:=am_ (below_step (by repeat (first|(with_reducible first|exact HB.out|apply ba_|apply pn_|apply pd_)|exact HB.out)) hb);clear HB;have HO162:=n0_;have HB:=n1_;clear n0_ n1_;(try clear hb);(try clear hb2);(try clear hk);(try clear hi);(try clear ho0);obtain ⟨Ao28,co28,eo28⟩:=Kd.R_slice HO162.out;subst eo28)|(go_at_call 38;(with_reducible refine (header_lay.calls a0 a1 t159 _ _ t160 t163 _ ?side1 ?side2 A16.out).mono ?_);(case side1 => repeat (first|exact (Kd.R_reads' HO162.out).2.2|(with_reducible refine Kd.C_alloc ?_ _)|(with_reducible refine Kd.C_drewN ?_ _)|(with_reducible refine Kd.C_drew ?_)));(case side2 => exact (Kd.R_reads' HO162.out).2.1);rintro e w29 ⟨rfl,hb⟩;have n0_:=am_ (Kd.R_below (by (with_reducible repeat (first|apply ra_|apply rn_|apply rd_));exact HO162.out) hb);have n1_:=am_ (below_step (by repeat (first|(with_reducible first|exact HB.out|apply ba_|apply pn_|apply pd_)|exact HB.out)) hb);clear HO162;clear HB;have HO162:=n0_;have HB:=n1_;clear n0_ n1_;(try clear hb);(try clear hb2);(try clear hk);(try clear hi))|(go_at_call 14;(with_reducible refine (header_Get.calls k t163 t164 t165 t166 t167 t168 t169 t170 t171 t172 t173 t174 t175 t176 _ A17.out).mono ?_);rintro e w30 ⟨rfl,hb⟩;have n0_:=am_ (Kd.R_below (by (with_reducible repeat (first|apply ra_|apply rn_|apply rd_));exact HO162.out) hb);have n1_:=am_ (below_step (by repeat (first|(with_reducible first|exact HB.out|apply ba_|apply pn_|apply pd_)|exact HB.out)) hb);clear HO162;clear HB;have HO162:=n0_;have HB:=n1_;clear n0_ n1_;(try clear hb);(try clear hb2);(try clear hk);(try clear hi))|((with_reducible refine gate_dst (N:=10) rfl ?_);refine box_event ?hg (N:=10) ?hd (cs:=#[.bool false,.bool false,.bool false,.int .i64 0,.int .u32 0,.string (⟨#[]⟩ : ByteArray),.string (⟨#[]⟩ : ByteArray),.string (⟨#[]⟩ : ByteArray),.int .u64 0,.int .i64 0,.int .u64 0]) (t:=25) ?hr ?_;(case hd => rfl);(case hg => rfl);(case hr => first|(go_simp;done)|(go_simp;rfl));intro gb177 hg w31 hbox hb;have n0_:=am_ (Kd.R_below (by (with_reducible repeat (first|apply ra_|apply rn_|apply rd_));exact HO162.out) hb);have n1_:=am_ (below_step (by repeat (first|(with_reducible first|exact HB.out|apply ba_|apply pn_|apply pd_)|exact HB.out)) hb);have n2_:=am_ (hbox);have n3_:=am_ ((by rw [hg];exact (below_size (by repeat (first|(with_reducible first|exact HB.out|apply ba_|apply pn_|apply pd_)|exact HB.out))) : w.heap.size ≤ gb177));have n4_:=am_ ((by rw [hg];exact (below_size (by repeat (first|(with_reducible first|exact HB.out|apply ba_|apply pn_|apply pd_)|exact HB.out))) : w.heap.size ≤ gb177));clear HO162;clear HB;have HO162:=n0_;have HB:=n1_;have BK177:=n2_;have GW177:=n3_;have GE177:=n4_;clear n0_ n1_ n2_ n3_ n4_;clear hb hbox hg;obtain ⟨hcz32_0,hcz32_1,hcz32_2,hcz32_3,hcz32_4,hcz32_5,hcz32_6,hcz32_7,hcz32_8,hcz32_9,hcz32_10,hfz32_0,hfz32_1,hfz32_2,hfz32_3,hfz32_4,hfz32_5,hfz32_6,hfz32_7,hfz32_8,hfz32_9,hfz32_10⟩:=cs11f_ BK177.out;skip))
       repeat (go_quiet (first|(go_at_call 16;(with_reducible refine (header_Place.calls k a0 t157 t158 _ A4.out).mono ?_);rintro e w26 ⟨rfl,hb⟩;have n0_:=am_ (below_step (by repeat (first|(with_reducible first|exact HB.out|apply ba_|apply pn_|apply pd_)|exact HB.out)) hb);clear HB;have HB:=n0_;clear n0_;(try clear hb);(try clear hb2);(try clear hk);(try clear hi);have p7 : 0 ≤ (0 : Int):=(by omega);have q7 : 0 < a0.size:=(by have : (0 : Int) < (a0.size : Int):=of_decide_eq_true (by first|(with_reducible assumption)|assumption);omega);have hx7 : ∀ h : 0 < a0.size,((a0[0]'h).toNat : Int) = bt a0 0:=bt_at a0 0;clear p7;have qi7 : (0 < (a0.size : Int)) = True:=eq_true (of_decide_eq_true (by first|(with_reducible assumption)|assumption));replace q7:=eq_true q7;have p9 : 0 ≤ (0 : Int):=(by omega);have q9 : 0 < a1.size:=(by have : (0 : Int) < (a1.size : Int):=of_decide_eq_true (by first|(with_reducible assumption)|assumption);omega);have hx9 : ∀ h : 0 < a1.size,((a1[0]'h).toNat : Int) = bt a1 0:=bt_at a1 0;clear p9;have qi9 : (0 < (a1.size : Int)) = True:=eq_true (of_decide_eq_true (by first|(with_reducible assumption)|assumption));replace q9:=eq_true q9;have p10 : 0 ≤ (0 : Int):=(by omega);have q10 : 0 < a0.size:=(by have : (0 : Int) < (a0.size : Int):=of_decide_eq_true (by first|(with_reducible assumption)|assumption);omega);have hx10 : ∀ h : 0 < a0.size,((a0[0]'h).toNat : Int) = bt a0 0:=bt_at a0 0;clear p10;have qi10 : (0 < (a0.size : Int)) = True:=eq_true (of_decide_eq_true (by first|(with_reducible assumption)|assumption));replace q10:=eq_true q10)|(go_at_call 39;(with_reducible refine (header_low.calls (bt a0 0) t159 _ A11.out).mono ?_);rintro e w' ⟨rfl,⟨nd,rfl⟩⟩;(try first|exact ⟨rfl,_,World.drewN_drewN _ _ _⟩|exact ⟨rfl,_,Eq.trans (World.drewN_drewN _ _ _) (congrArg (World.drewN _) (Nat.add_assoc _ _ _))⟩);have p14 : 0 ≤ (0 : Int):=(by omega);have q14 : 0 < a0.size:=(by have : (0 : Int) < (a0.size : Int):=of_decide_eq_true (by first|(with_reducible assumption)|assumption);omega);have hx14 : ∀ h : 0 < a0.size,((a0[0]'h).toNat : Int) = bt a0 0:=bt_at a0 0;clear p14;have qi14 : (0 < (a0.size : Int)) = True:=eq_true (of_decide_eq_true (by first|(with_reducible assumption)|assumption));replace q14:=eq_true q14)|(go_at_call 39;(with_reducible refine (header_low.calls (bt a0 0) t159 _ A11.out).mono ?_);rintro e w' ⟨rfl,⟨nd,rfl⟩⟩;(try first|exact ⟨rfl,_,World.drewN_drewN _ _ _⟩|exact ⟨rfl,_,Eq.trans (World.drewN_drewN _ _ _) (congrArg (World.drewN _) (Nat.add_assoc _ _ _))⟩))|(go_at_call 40;(with_reducible refine (header_places.calls k t157 (wrap64 (1 + (wrap64 (Go.bits .and .u8 (Go.bits .xor .u8 (bt a0 0) (Go.bits .and .u8 (bt a1 0) t159)) 3)))) t160 _ A15.out).mono ?_);rintro e w27 ⟨v161,rfl,ho0,hb⟩;have n0_:=am_ (Kd.R_lower ho0 (below_size (by repeat (first|(with_reducible first|exact HB.out|apply ba_|apply pn_|apply pd_)|exact HB.out))));have n1_:=am_ (below_step (by repeat (first|(with_reducible first|exact HB.out|apply ba_|apply pn_|apply pd_)|exact HB.out)) hb);clear HB;have HO162:=n0_;have HB:=n1_;clear n0_ n1_;(try clear hb);(try clear hb2);(try clear hk);(try clear hi);(try clear ho0);obtain ⟨Ao28,co28,eo28⟩:=Kd.R_slice HO162.out;subst eo28)|(go_at_call 38;(with_reducible refine (header_lay.calls a0 a1 t159 _ _ t160 t163 _ ?side1 ?side2 A16.out).mono ?_);(case side1 => repeat (first|exact (Kd.R_reads' HO162.out).2.2|(with_reducible refine Kd.C_alloc ?_ _)|(with_reducible refine Kd.C_drewN ?_ _)|(with_reducible refine Kd.C_drew ?_)));(case side2 => exact (Kd.R_reads' HO162.out).2.1);rintro e w29 ⟨rfl,hb⟩;have n0_:=am_ (Kd.R_below (by (with_reducible repeat (first|apply ra_|apply rn_|apply rd_));exact HO162.out) hb);have n1_:=am_ (below_step (by repeat (first|(with_reducible first|exact HB.out|apply ba_|apply pn_|apply pd_)|exact HB.out)) hb);clear HO162;clear HB;have HO162:=n0_;have HB:=n1_;clear n0_ n1_;(try clear hb);(try clear hb2);(try clear hk);(try clear hi))|(go_at_call 14;(with_reducible refine (header_Get.calls k t163 t164 t165 t166 t167 t168 t169 t170 t171 t172 t173 t174 t175 t176 _ A17.out).mono ?_);rintro e w30 ⟨rfl,hb⟩;have n0_:=am_ (Kd.R_below (by (with_reducible repeat (first|apply ra_|apply rn_|apply rd_));exact HO162.out) hb);have n1_:=am_ (below_step (by repeat (first|(with_reducible first|exact HB.out|apply ba_|apply pn_|apply pd_)|exact HB.out)) hb);clear HO162;clear HB;have HO162:=n0_;have HB:=n1_;clear n0_ n1_;(try clear hb);(try clear hb2);(try clear hk);(try clear hi))|((with_reducible refine gate_dst (N:=10) rfl ?_);refine box_event ?hg (N:=10) ?hd (cs:=#[.bool false,.bool false,.bool false,.int .i64 0,.int .u32 0,.string (⟨#[]⟩ : ByteArray),.string (⟨#[]⟩ : ByteArray),.string (⟨#[]⟩ : ByteArray),.int .u64 0,.int .i64 0,.int .u64 0]) (t:=25) ?hr ?_;(case hd => rfl);(case hg => rfl);(case hr => first|(go_simp;done)|(go_simp;rfl));intro gb177 hg w31 hbox hb;have n0_:=am_ (Kd.R_below (by (with_reducible repeat (first|apply ra_|apply rn_|apply rd_));exact HO162.out) hb);have n1_:=am_ (below_step (by repeat (first|(with_reducible first|exact HB.out|apply ba_|apply pn_|apply pd_)|exact HB.out)) hb);have n2_:=am_ (hbox);have n3_:=am_ ((by rw [hg];exact (below_size (by repeat (first|(with_reducible first|exact HB.out|apply ba_|apply pn_|apply pd_)|exact HB.out))) : w.heap.size ≤ gb177));have n4_:=am_ ((by rw [hg];exact (below_size (by repeat (first|(with_reducible first|exact HB.out|apply ba_|apply pn_|apply pd_)|exact HB.out))) : w.heap.size ≤ gb177));clear HO162;clear HB;have HO162:=n0_;have HB:=n1_;have BK177:=n2_;have GW177:=n3_;have GE177:=n4_;clear n0_ n1_ n2_ n3_ n4_;clear hb hbox hg;obtain ⟨hcz32_0,hcz32_1,hcz32_2,hcz32_3,hcz32_4,hcz32_5,hcz32_6,hcz32_7,hcz32_8,hcz32_9,hcz32_10,hfz32_0,hfz32_1,hfz32_2,hfz32_3,hfz32_4,hfz32_5,hfz32_6,hfz32_7,hfz32_8,hfz32_9,hfz32_10⟩:=cs11f_ BK177.out;skip));try go_wp2_with (first|(go_at_call 16;(with_reducible refine (header_Place.calls k a0 t157 t158 _ A4.out).mono ?_);rintro e w26 ⟨rfl,hb⟩;have n0_:=am_ (below_step (by repeat (first|(with_reducible first|exact HB.out|apply ba_|apply pn_|apply pd_)|exact HB.out)) hb);clear HB;have HB:=n0_;clear n0_;(try clear hb);(try clear hb2);(try clear hk);(try clear hi);have p7 : 0 ≤ (0 : Int):=(by omega);have q7 : 0 < a0.size:=(by have : (0 : Int) < (a0.size : Int):=of_decide_eq_true (by first|(with_reducible assumption)|assumption);omega);have hx7 : ∀ h : 0 < a0.size,((a0[0]'h).toNat : Int) = bt a0 0:=bt_at a0 0;clear p7;have qi7 : (0 < (a0.size : Int)) = True:=eq_true (of_decide_eq_true (by first|(with_reducible assumption)|assumption));replace q7:=eq_true q7;have p9 : 0 ≤ (0 : Int):=(by omega);have q9 : 0 < a1.size:=(by have : (0 : Int) < (a1.size : Int):=of_decide_eq_true (by first|(with_reducible assumption)|assumption);omega);have hx9 : ∀ h : 0 < a1.size,((a1[0]'h).toNat : Int) = bt a1 0:=bt_at a1 0;clear p9;have qi9 : (0 < (a1.size : Int)) = True:=eq_true (of_decide_eq_true (by first|(with_reducible assumption)|assumption));replace q9:=eq_true q9;have p10 : 0 ≤ (0 : Int):=(by omega);have q10 : 0 < a0.size:=(by have : (0 : Int) < (a0.size : Int):=of_decide_eq_true (by first|(with_reducible assumption)|assumption);omega);have hx10 : ∀ h : 0 < a0.size,((a0[0]'h).toNat : Int) = bt a0 0:=bt_at a0 0;clear p10;have qi10 : (0 < (a0.size : Int)) = True:=eq_true (of_decide_eq_true (by first|(with_reducible assumption)|assumption));replace q10:=eq_true q10)|(go_at_call 39;(with_reducible refine (header_low.calls (bt a0 0) t159 _ A11.out).mono ?_);rintro e w' ⟨rfl,⟨nd,rfl⟩⟩;(try first|exact ⟨rfl,_,World.drewN_drewN _ _ _⟩|exact ⟨rfl,_,Eq.trans (World.drewN_drewN _ _ _) (congrArg (World.drewN _) (Nat.add_assoc _ _ _))⟩);have p14 : 0 ≤ (0 : Int):=(by omega);have q14 : 0 < a0.size:=(by have : (0 : Int) < (a0.size : Int):=of_decide_eq_true (by first|(with_reducible assumption)|assumption);omega);have hx14 : ∀ h : 0 < a0.size,((a0[0]'h).toNat : Int) = bt a0 0:=bt_at a0 0;clear p14;have qi14 : (0 < (a0.size : Int)) = True:=eq_true (of_decide_eq_true (by first|(with_reducible assumption)|assumption));replace q14:=eq_true q14)|(go_at_call 39;(with_reducible refine (header_low.calls (bt a0 0) t159 _ A11.out).mono ?_);rintro e w' ⟨rfl,⟨nd,rfl⟩⟩;(try first|exact ⟨rfl,_,World.drewN_drewN _ _ _⟩|exact ⟨rfl,_,Eq.trans (World.drewN_drewN _ _ _) (congrArg (World.drewN _) (Nat.add_assoc _ _ _))⟩))|(go_at_call 40;(with_reducible refine (header_places.calls k t157 (wrap64 (1 + (wrap64 (Go.bits .and .u8 (Go.bits .xor .u8 (bt a0 0) (Go.bits .and .u8 (bt a1 0) t159)) 3)))) t160 _ A15.out).mono ?_);rintro e w27 ⟨v161,rfl,ho0,hb⟩;have n0_:=am_ (Kd.R_lower ho0 (below_size (by repeat (first|(with_reducible first|exact HB.out|apply ba_|apply pn_|apply pd_)|exact HB.out))));have n1_:=am_ (below_step (by repeat (first|(with_reducible first|exact HB.out|apply ba_|apply pn_|apply pd_)|exact HB.out)) hb);clear HB;have HO162:=n0_;have HB:=n1_;clear n0_ n1_;(try clear hb);(try clear hb2);(try clear hk);(try clear hi);(try clear ho0);obtain ⟨Ao28,co28,eo28⟩:=Kd.R_slice HO162.out;subst eo28)|(go_at_call 38;(with_reducible refine (header_lay.calls a0 a1 t159 _ _ t160 t163 _ ?side1 ?side2 A16.out).mono ?_);(case side1 => repeat (first|exact (Kd.R_reads' HO162.out).2.2|(with_reducible refine Kd.C_alloc ?_ _)|(with_reducible refine Kd.C_drewN ?_ _)|(with_reducible refine Kd.C_drew ?_)));(case side2 => exact (Kd.R_reads' HO162.out).2.1);rintro e w29 ⟨rfl,hb⟩;have n0_:=am_ (Kd.R_below (by (with_reducible repeat (first|apply ra_|apply rn_|apply rd_));exact HO162.out) hb);have n1_:=am_ (below_step (by repeat (first|(with_reducible first|exact HB.out|apply ba_|apply pn_|apply pd_)|exact HB.out)) hb);clear HO162;clear HB;have HO162:=n0_;have HB:=n1_;clear n0_ n1_;(try clear hb);(try clear hb2);(try clear hk);(try clear hi))|(go_at_call 14;(with_reducible refine (header_Get.calls k t163 t164 t165 t166 t167 t168 t169 t170 t171 t172 t173 t174 t175 t176 _ A17.out).mono ?_);rintro e w30 ⟨rfl,hb⟩;have n0_:=am_ (Kd.R_below (by (with_reducible repeat (first|apply ra_|apply rn_|apply rd_));exact HO162.out) hb);have n1_:=am_ (below_step (by repeat (first|(with_reducible first|exact HB.out|apply ba_|apply pn_|apply pd_)|exact HB.out)) hb);clear HO162;clear HB;have HO162:=n0_;have HB:=n1_;clear n0_ n1_;(try clear hb);(try clear hb2);(try clear hk);(try clear hi))|((with_reducible refine gate_dst (N:=10) rfl ?_);refine box_event ?hg (N:=10) ?hd (cs:=#[.bool false,.bool false,.bool false,.int .i64 0,.int .u32 0,.string (⟨#[]⟩ : ByteArray),.string (⟨#[]⟩ : ByteArray),.string (⟨#[]⟩ : ByteArray),.int .u64 0,.int .i64 0,.int .u64 0]) (t:=25) ?hr ?_;(case hd => rfl);(case hg => rfl);(case hr => first|(go_simp;done)|(go_simp;rfl));intro gb177 hg w31 hbox hb;have n0_:=am_ (Kd.R_below (by (with_reducible repeat (first|apply ra_|apply rn_|apply rd_));exact HO162.out) hb);have n1_:=am_ (below_step (by repeat (first|(with_reducible first|exact HB.out|apply ba_|apply pn_|apply pd_)|exact HB.out)) hb);have n2_:=am_ (hbox);have n3_:=am_ ((by rw [hg];exact (below_size (by repeat (first|(with_reducible first|exact HB.out|apply ba_|apply pn_|apply pd_)|exact HB.out))) : w.heap.size ≤ gb177));have n4_:=am_ ((by rw [hg];exact (below_size (by repeat (first|(with_reducible first|exact HB.out|apply ba_|apply pn_|apply pd_)|exact HB.out))) : w.heap.size ≤ gb177));clear HO162;clear HB;have HO162:=n0_;have HB:=n1_;have BK177:=n2_;have GW177:=n3_;have GE177:=n4_;clear n0_ n1_ n2_ n3_ n4_;clear hb hbox hg;obtain ⟨hcz32_0,hcz32_1,hcz32_2,hcz32_3,hcz32_4,hcz32_5,hcz32_6,hcz32_7,hcz32_8,hcz32_9,hcz32_10,hfz32_0,hfz32_1,hfz32_2,hfz32_3,hfz32_4,hfz32_5,hfz32_6,hfz32_7,hfz32_8,hfz32_9,hfz32_10⟩:=cs11f_ BK177.out;skip)))
       go_ret2
       exact ⟨by first|rfl|(simp [errW_none,errW_some] <;> rfl)|(simp [*,errW_none,errW_some] <;> rfl),by repeat (first|(with_reducible first|exact HB.out|apply ba_|apply pn_|apply pd_|refine bs_ ?_ GE177.out)|exact HB.out)⟩
    ·rw [if_neg c8] at H
     exact absurd H (by simp)
   ·rw [if_neg c6] at H
    exact absurd H (by simp)
  ·rw [if_neg c5] at H
   have c5b0 : (t158 == 0) = false:=beq_eq_false_iff_ne.mpr c5
   have c5b1 : (t158 != 0) = true:=bne_iff_ne.mpr c5
   simp only [Option.some.injEq,Prod.mk.injEq] at H
   obtain ⟨rfl,rfl⟩:=H
   go_enter Tryd.func22,Tryd.ntmps22
   go_wp2_with (first|(go_at_call 16;(with_reducible refine (header_Place.calls k a0 t157 t158 _ A4.out).mono ?_);rintro e w33 ⟨rfl,hb⟩;have n0_:=am_ (below_step (by repeat (first|(with_reducible first|exact HB.out|apply ba_|apply pn_|apply pd_)|exact HB.out)) hb);clear HB;have HB:=n0_;clear n0_;(try clear hb);(try clear hb2);(try clear hk);(try clear hi)))
   repeat (go_quiet (first|(go_at_call 16;(with_reducible refine (header_Place.calls k a0 t157 t158 _ A4.out).mono ?_);rintro e w33 ⟨rfl,hb⟩;have n0_:=am_ (below_step (by repeat (first|(with_reducible first|exact HB.out|apply ba_|apply pn_|apply pd_)|exact HB.out)) hb);clear HB;have HB:=n0_;clear n0_;(try clear hb);(try clear hb2);(try clear hk);(try clear hi)));try go_wp2_with (first|(go_at_call 16;(with_reducible refine (header_Place.calls k a0 t157 t158 _ A4.out).mono ?_);rintro e w33 ⟨rfl,hb⟩;have n0_:=am_ (below_step (by repeat (first|(with_reducible first|exact HB.out|apply ba_|apply pn_|apply pd_)|exact HB.out)) hb);clear HB;have HB:=n0_;clear n0_;(try clear hb);(try clear hb2);(try clear hk);(try clear hi))))
   go_ret2
   exact ⟨by first|rfl|(simp [errW_none,errW_some] <;> rfl)|(simp [*,errW_none,errW_some] <;> rfl),by repeat (first|(with_reducible first|exact HB.out|apply ba_|apply pn_|apply pd_)|exact HB.out)⟩
 ·rw [if_neg c3] at H
  have c3b0 : ((a1.size : Int) == 5) = false:=beq_eq_false_iff_ne.mpr c3
  have c3b1 : ((a1.size : Int) != 5) = true:=bne_iff_ne.mpr c3
  simp only [Option.some.injEq,Prod.mk.injEq] at H
  obtain ⟨rfl,rfl⟩:=H
  go_enter Tryd.func22,Tryd.ntmps22
  go_wp2
  repeat (go_quiet (fail);try go_wp2)
  go_ret2
  exact ⟨by first|rfl|(simp [errW_none,errW_some] <;> rfl)|(simp [*,errW_none,errW_some] <;> rfl),by repeat (first|(with_reducible first|exact HB.out|apply ba_|apply pn_|apply pd_)|exact HB.out)⟩

/-! ### dominolaw04_shown: function 11 -/
def dominolaw04_shown.f (k : Nat)  : Option (Bool):=(header_Put.f k false false false 0 0 (⟨#[1,1,1,1,1,1,1,1]⟩ : ByteArray) (⟨#[]⟩ : ByteArray) (⟨#[]⟩ : ByteArray) 0 2 258).bind fun bt179 => (if bt179.1.size + 1 ≤ 9223372036854775807 then ((header_Get.f k (bt179.1 ++ (⟨#[120]⟩ : ByteArray))).bind fun bt181 => ((header_Mask.f k (bt179.1 ++ (⟨#[120]⟩ : ByteArray)) (⟨#[255,1,2,3,4]⟩ : ByteArray)).bind fun bt195 => ((header_Unmask.f k bt195.1 (⟨#[255,1,2,3,4]⟩ : ByteArray)).bind fun bt197 => (if bt179.2 = 0 then (if bt181.2.2.2.2.2.2.2.2.2.2.2.2 = 0 then (if bt195.2 = 0 then (if bt197.2 = 0 then (if bt179.1.toList = ([65,1,1,1,1,1,1,1,1,1,2] : List UInt8) then (if (!bt181.1 && (!bt181.2.1 && (!bt181.2.2.1 && (bt181.2.2.2.1 == 0 && (bt181.2.2.2.2.1 == 0 && (bt181.2.2.2.2.2.1.toList == ([1,1,1,1,1,1,1,1] : List UInt8) && (bt181.2.2.2.2.2.2.1.toList == ([] : List UInt8) && (bt181.2.2.2.2.2.2.2.1.toList == ([] : List UInt8) && (bt181.2.2.2.2.2.2.2.2.1 == 0 && (bt181.2.2.2.2.2.2.2.2.2.1 == 2 && (bt181.2.2.2.2.2.2.2.2.2.2.1 == 258))))))))))) = true then (if bt181.2.2.2.2.2.2.2.2.2.2.2.1.toList = ([120] : List UInt8) then (if bt197.1.toList = (bt179.1 ++ (⟨#[120]⟩ : ByteArray)).toList then (some (bt195.1.toList != bt197.1.toList)) else (none)) else (none)) else (none)) else (none)) else (none)) else (none)) else (none)) else (none))))) else (none))
theorem dominolaw04_shown.mono : ∀ k,LeO (dominolaw04_shown.f k ) (dominolaw04_shown.f (k + 1) ):=by
 intro  k
 unfold dominolaw04_shown.f
 repeat' first
   | (with_reducible exact header_Get.mono _ _)
   | (with_reducible exact header_Mask.mono _ _ _)
   | (with_reducible exact header_Put.mono _ _ _ _ _ _ _ _ _ _ _ _)
   | (with_reducible exact header_Unmask.mono _ _ _)
   | (with_reducible exact LeO.refl _)
   | (with_reducible exact LeO.none _)
   | (with_reducible refine LeO.ite ?_ ?_)
   | (with_reducible refine LeO.bind ?_ (fun _ => ?_))
   | exact header_Get.mono _ _
   | exact header_Mask.mono _ _ _
   | exact header_Put.mono _ _ _ _ _ _ _ _ _ _ _ _
   | exact header_Unmask.mono _ _ _
   | exact LeO.none _
   | refine LeO.ite ?_ ?_
   | refine LeO.bind ?_ (fun _ => ?_)
set_option maxHeartbeats 8000000 in
set_option maxRecDepth 100000 in
theorem dominolaw04_shown.calls (k : Nat)  (r : Bool) (w : World) (ht : Tab w) (h : dominolaw04_shown.f k  = some r) :
  Calls Tryd.prog 11 #[] w fun e w' => e = .returned (.bool r) ∧ Below w.heap.size w w':=by
 have HTab:=am_ ht
 clear ht
 have hu25:=Tryd.underlying25
 have HB:=am_ (Below.refl w.heap.size w)
 have H : ((header_Put.f k false false false 0 0 (⟨#[1,1,1,1,1,1,1,1]⟩ : ByteArray) (⟨#[]⟩ : ByteArray) (⟨#[]⟩ : ByteArray) 0 2 258).bind fun bt179 => (if bt179.1.size + 1 ≤ 9223372036854775807 then ((header_Get.f k (bt179.1 ++ (⟨#[120]⟩ : ByteArray))).bind fun bt181 => ((header_Mask.f k (bt179.1 ++ (⟨#[120]⟩ : ByteArray)) (⟨#[255,1,2,3,4]⟩ : ByteArray)).bind fun bt195 => ((header_Unmask.f k bt195.1 (⟨#[255,1,2,3,4]⟩ : ByteArray)).bind fun bt197 => (if bt179.2 = 0 then (if bt181.2.2.2.2.2.2.2.2.2.2.2.2 = 0 then (if bt195.2 = 0 then (if bt197.2 = 0 then (if bt179.1.toList = ([65,1,1,1,1,1,1,1,1,1,2] : List UInt8) then (if (!bt181.1 && (!bt181.2.1 && (!bt181.2.2.1 && (bt181.2.2.2.1 == 0 && (bt181.2.2.2.2.1 == 0 && (bt181.2.2.2.2.2.1.toList == ([1,1,1,1,1,1,1,1] : List UInt8) && (bt181.2.2.2.2.2.2.1.toList == ([] : List UInt8) && (bt181.2.2.2.2.2.2.2.1.toList == ([] : List UInt8) && (bt181.2.2.2.2.2.2.2.2.1 == 0 && (bt181.2.2.2.2.2.2.2.2.2.1 == 2 && (bt181.2.2.2.2.2.2.2.2.2.2.1 == 258))))))))))) = true then (if bt181.2.2.2.2.2.2.2.2.2.2.2.1.toList = ([120] : List UInt8) then (if bt197.1.toList = (bt179.1 ++ (⟨#[120]⟩ : ByteArray)).toList then (some (bt195.1.toList != bt197.1.toList)) else (none)) else (none)) else (none)) else (none)) else (none)) else (none)) else (none)) else (none))))) else (none))) = some r:=h
 clear h
 replace H:=Option.bind_eq_some_iff.mp H
 obtain ⟨⟨t179,t180⟩,A10,H⟩:=H
 replace H : (if t179.size + 1 ≤ 9223372036854775807 then ((header_Get.f k (t179 ++ (⟨#[120]⟩ : ByteArray))).bind fun bt181 => ((header_Mask.f k (t179 ++ (⟨#[120]⟩ : ByteArray)) (⟨#[255,1,2,3,4]⟩ : ByteArray)).bind fun bt195 => ((header_Unmask.f k bt195.1 (⟨#[255,1,2,3,4]⟩ : ByteArray)).bind fun bt197 => (if t180 = 0 then (if bt181.2.2.2.2.2.2.2.2.2.2.2.2 = 0 then (if bt195.2 = 0 then (if bt197.2 = 0 then (if t179.toList = ([65,1,1,1,1,1,1,1,1,1,2] : List UInt8) then (if (!bt181.1 && (!bt181.2.1 && (!bt181.2.2.1 && (bt181.2.2.2.1 == 0 && (bt181.2.2.2.2.1 == 0 && (bt181.2.2.2.2.2.1.toList == ([1,1,1,1,1,1,1,1] : List UInt8) && (bt181.2.2.2.2.2.2.1.toList == ([] : List UInt8) && (bt181.2.2.2.2.2.2.2.1.toList == ([] : List UInt8) && (bt181.2.2.2.2.2.2.2.2.1 == 0 && (bt181.2.2.2.2.2.2.2.2.2.1 == 2 && (bt181.2.2.2.2.2.2.2.2.2.2.1 == 258))))))))))) = true then (if bt181.2.2.2.2.2.2.2.2.2.2.2.1.toList = ([120] : List UInt8) then (if bt197.1.toList = (t179 ++ (⟨#[120]⟩ : ByteArray)).toList then (some (bt195.1.toList != bt197.1.toList)) else (none)) else (none)) else (none)) else (none)) else (none)) else (none)) else (none)) else (none))))) else (none)) = some r:=H
 have A1:=am_ A10
 clear A10
 by_cases c2 : t179.size + 1 ≤ 9223372036854775807
 ·rw [if_pos c2] at H
  have c2b0:=eq_true c2
  have c2b1 : decide (t179.size + 1 ≤ 9223372036854775807) = true:=decide_eq_true c2
  try have c2b2 : (9223372036854775807 < t179.size + 1) = False:=eq_false (Nat.not_lt.2 c2)
  replace H:=Option.bind_eq_some_iff.mp H
  obtain ⟨⟨t181,t182,t183,t184,t185,t186,t187,t188,t189,t190,t191,t192,t193⟩,A30,H⟩:=H
  replace H : ((header_Mask.f k (t179 ++ (⟨#[120]⟩ : ByteArray)) (⟨#[255,1,2,3,4]⟩ : ByteArray)).bind fun bt195 => ((header_Unmask.f k bt195.1 (⟨#[255,1,2,3,4]⟩ : ByteArray)).bind fun bt197 => (if t180 = 0 then (if t193 = 0 then (if bt195.2 = 0 then (if bt197.2 = 0 then (if t179.toList = ([65,1,1,1,1,1,1,1,1,1,2] : List UInt8) then (if (!t181 && (!t182 && (!t183 && (t184 == 0 && (t185 == 0 && (t186.toList == ([1,1,1,1,1,1,1,1] : List UInt8) && (t187.toList == ([] : List UInt8) && (t188.toList == ([] : List UInt8) && (t189 == 0 && (t190 == 2 && (t191 == 258))))))))))) = true then (if t192.toList = ([120] : List UInt8) then (if bt197.1.toList = (t179 ++ (⟨#[120]⟩ : ByteArray)).toList then (some (bt195.1.toList != bt197.1.toList)) else (none)) else (none)) else (none)) else (none)) else (none)) else (none)) else (none)) else (none)))) = some r:=H
  have A3:=am_ A30
  clear A30
  replace H:=Option.bind_eq_some_iff.mp H
  obtain ⟨⟨t195,t196⟩,A40,H⟩:=H
  replace H : ((header_Unmask.f k t195 (⟨#[255,1,2,3,4]⟩ : ByteArray)).bind fun bt197 => (if t180 = 0 then (if t193 = 0 then (if t196 = 0 then (if bt197.2 = 0 then (if t179.toList = ([65,1,1,1,1,1,1,1,1,1,2] : List UInt8) then (if (!t181 && (!t182 && (!t183 && (t184 == 0 && (t185 == 0 && (t186.toList == ([1,1,1,1,1,1,1,1] : List UInt8) && (t187.toList == ([] : List UInt8) && (t188.toList == ([] : List UInt8) && (t189 == 0 && (t190 == 2 && (t191 == 258))))))))))) = true then (if t192.toList = ([120] : List UInt8) then (if bt197.1.toList = (t179 ++ (⟨#[120]⟩ : ByteArray)).toList then (some (t195.toList != bt197.1.toList)) else (none)) else (none)) else (none)) else (none)) else (none)) else (none)) else (none)) else (none))) = some r:=H
  have A4:=am_ A40
  clear A40
  replace H:=Option.bind_eq_some_iff.mp H
  obtain ⟨⟨t197,t198⟩,A50,H⟩:=H
  replace H : (if t180 = 0 then (if t193 = 0 then (if t196 = 0 then (if t198 = 0 then (if t179.toList = ([65,1,1,1,1,1,1,1,1,1,2] : List UInt8) then (if (!t181 && (!t182 && (!t183 && (t184 == 0 && (t185 == 0 && (t186.toList == ([1,1,1,1,1,1,1,1] : List UInt8) && (t187.toList == ([] : List UInt8) && (t188.toList == ([] : List UInt8) && (t189 == 0 && (t190 == 2 && (t191 == 258))))))))))) = true then (if t192.toList = ([120] : List UInt8) then (if t197.toList = (t179 ++ (⟨#[120]⟩ : ByteArray)).toList then (some (t195.toList != t197.toList)) else (none)) else (none)) else (none)) else (none)) else (none)) else (none)) else (none)) else (none)) = some r:=H
  have A5:=am_ A50
  clear A50
  by_cases c6 : t180 = 0
  ·rw [if_pos c6] at H
   have c6b0 : (t180 == 0) = true:=beq_iff_eq.mpr c6
   have c6b1 : (t180 != 0) = false:=bne_eq_false_iff_eq.mpr c6
   clear c6
   by_cases c7 : t193 = 0
   ·rw [if_pos c7] at H
    have c7b0 : (t193 == 0) = true:=beq_iff_eq.mpr c7
    have c7b1 : (t193 != 0) = false:=bne_eq_false_iff_eq.mpr c7
    clear c7
    by_cases c8 : t196 = 0
    ·rw [if_pos c8] at H
     have c8b0 : (t196 == 0) = true:=beq_iff_eq.mpr c8
     have c8b1 : (t196 != 0) = false:=bne_eq_false_iff_eq.mpr c8
     clear c8
     by_cases c9 : t198 = 0
     ·rw [if_pos c9] at H
      have c9b0 : (t198 == 0) = true:=beq_iff_eq.mpr c9
      have c9b1 : (t198 != 0) = false:=bne_eq_false_iff_eq.mpr c9
      clear c9
      by_cases c10 : t179.toList = ([65,1,1,1,1,1,1,1,1,1,2] : List UInt8)
      ·rw [if_pos c10] at H
       have c10b0 : (t179.toList == ([65,1,1,1,1,1,1,1,1,1,2] : List UInt8)) = true:=beq_iff_eq.mpr c10
       have c10b1 : (t179.toList != ([65,1,1,1,1,1,1,1,1,1,2] : List UInt8)) = false:=bne_eq_false_iff_eq.mpr c10
       clear c10
       by_cases c11 : (!t181 && (!t182 && (!t183 && (t184 == 0 && (t185 == 0 && (t186.toList == ([1,1,1,1,1,1,1,1] : List UInt8) && (t187.toList == ([] : List UInt8) && (t188.toList == ([] : List UInt8) && (t189 == 0 && (t190 == 2 && (t191 == 258))))))))))) = true
       ·rw [if_pos c11] at H
        have c11b0 : (!t181 && (!t182 && (!t183 && (t184 == 0 && (t185 == 0 && (t186.toList == ([1,1,1,1,1,1,1,1] : List UInt8) && (t187.toList == ([] : List UInt8) && (t188.toList == ([] : List UInt8) && (t189 == 0 && (t190 == 2 && (t191 == 258))))))))))) = true:=c11
        have c11q:=c11
        simp only [Bool.not_false,Bool.not_true,Bool.true_and,Bool.and_eq_true,Bool.or_eq_false_iff,Bool.not_eq_eq_eq_not,beq_iff_eq] at c11q
        replace c11q:=eq_true c11q
        clear c11
        by_cases c12 : t192.toList = ([120] : List UInt8)
        ·rw [if_pos c12] at H
         have c12b0 : (t192.toList == ([120] : List UInt8)) = true:=beq_iff_eq.mpr c12
         have c12b1 : (t192.toList != ([120] : List UInt8)) = false:=bne_eq_false_iff_eq.mpr c12
         clear c12
         by_cases c13 : t197.toList = (t179 ++ (⟨#[120]⟩ : ByteArray)).toList
         ·rw [if_pos c13] at H
          have c13b0 : (t197.toList == (t179 ++ (⟨#[120]⟩ : ByteArray)).toList) = true:=beq_iff_eq.mpr c13
          have c13b1 : (t197.toList != (t179 ++ (⟨#[120]⟩ : ByteArray)).toList) = false:=bne_eq_false_iff_eq.mpr c13
          clear c13
          obtain rfl:=Option.some.inj H
          go_enter Tryd.func11,Tryd.ntmps11
          go_wp2_with (first|((with_reducible refine gate_dst (N:=1) rfl ?_);refine box_event ?hg (N:=1) ?hd (cs:=#[.bool false,.bool false,.bool false,.int .i64 0,.int .u32 0,.string (⟨#[]⟩ : ByteArray),.string (⟨#[]⟩ : ByteArray),.string (⟨#[]⟩ : ByteArray),.int .u64 0,.int .i64 0,.int .u64 0]) (t:=25) ?hr ?_;(case hd => rfl);(case hg => rfl);(case hr => first|(go_simp;done)|(go_simp;rfl));intro gb178 hg w14 hbox hb;have n0_:=am_ (below_step (by repeat (first|(with_reducible first|exact HB.out|apply ba_|apply pn_|apply pd_)|exact HB.out)) hb);have n1_:=am_ (hbox);have n2_:=am_ ((by rw [hg];exact (below_size (by repeat (first|(with_reducible first|exact HB.out|apply ba_|apply pn_|apply pd_)|exact HB.out))) : w.heap.size ≤ gb178));have n3_:=am_ ((by rw [hg];exact (below_size (by repeat (first|(with_reducible first|exact HB.out|apply ba_|apply pn_|apply pd_)|exact HB.out))) : w.heap.size ≤ gb178));clear HB;have HB:=n0_;have BK178:=n1_;have GW178:=n2_;have GE178:=n3_;clear n0_ n1_ n2_ n3_;clear hb hbox hg;obtain ⟨hcz15_0,hcz15_1,hcz15_2,hcz15_3,hcz15_4,hcz15_5,hcz15_6,hcz15_7,hcz15_8,hcz15_9,hcz15_10,hfz15_0,hfz15_1,hfz15_2,hfz15_3,hfz15_4,hfz15_5,hfz15_6,hfz15_7,hfz15_8,hfz15_9,hfz15_10⟩:=cs11f_ BK178.out;skip)|((with_reducible refine gate_callee (f:=12) rfl ?_);refine goesL_ (some 14) rfl rfl Tryd.func12 (by kernel_rfl) rfl #[.agg #[.bool false,.bool false,.bool false,.int .i64 0,.int .u32 0,.string (⟨#[1,1,1,1,1,1,1,1]⟩ : ByteArray),.string (⟨#[]⟩ : ByteArray),.string (⟨#[]⟩ : ByteArray),.int .u64 0,.int .i64 2,.int .u64 258]] rfl (by (try simp only [List.map_toArray,List.map_cons,List.map_nil]);first|done|rfl|(simp only [List.length_drop,List.length_take];rfl)) ?_;(with_reducible refine (header_Put.calls k false false false 0 0 (⟨#[1,1,1,1,1,1,1,1]⟩ : ByteArray) (⟨#[]⟩ : ByteArray) (⟨#[]⟩ : ByteArray) 0 2 258 t179 t180 _ (by first|exact HTab.out|exact tab_below HTab.out HB.out|exact tab_below HTab.out (by repeat (first|exact HB.out|exact Below.refl _ _|apply ba_|apply pn_|apply pd_|refine bs_ ?_ GE178.out|refine bs_ ?_ GE194.out))) A1.out).mono ?_);rintro e w16 ⟨rfl,hb⟩;refine ⟨_,rfl,?_⟩;have n0_:=am_ (blk_below (g:=gb178) (o:=.cells #[.bool false,.bool false,.bool false,.int .i64 0,.int .u32 0,.string (⟨#[1,1,1,1,1,1,1,1]⟩ : ByteArray),.string (⟨#[]⟩ : ByteArray),.string (⟨#[]⟩ : ByteArray),.int .u64 0,.int .i64 2,.int .u64 258] 25 (0,0)) (by (with_reducible repeat (first|refine kn_ ?_ _|refine kd_ ?_|refine ka_ ?_ _));refine blk_put (cs:=#[.bool false,.bool false,.bool false,.int .i64 0,.int .u32 0,.string (⟨#[1,1,1,1,1,1,1,1]⟩ : ByteArray),.string (⟨#[]⟩ : ByteArray),.string (⟨#[]⟩ : ByteArray),.int .u64 0,.int .i64 2,.int .u64 0]) ?_ 10 _ rfl;(with_reducible repeat (first|refine kn_ ?_ _|refine kd_ ?_|refine ka_ ?_ _));refine blk_put (cs:=#[.bool false,.bool false,.bool false,.int .i64 0,.int .u32 0,.string (⟨#[1,1,1,1,1,1,1,1]⟩ : ByteArray),.string (⟨#[]⟩ : ByteArray),.string (⟨#[]⟩ : ByteArray),.int .u64 0,.int .i64 0,.int .u64 0]) ?_ 9 _ rfl;(with_reducible repeat (first|refine kn_ ?_ _|refine kd_ ?_|refine ka_ ?_ _));refine blk_put (cs:=#[.bool false,.bool false,.bool false,.int .i64 0,.int .u32 0,.string (⟨#[1,1,1,1,1,1,1,1]⟩ : ByteArray),.string (⟨#[]⟩ : ByteArray),.string (⟨#[]⟩ : ByteArray),.int .u64 0,.int .i64 0,.int .u64 0]) ?_ 8 _ rfl;(with_reducible repeat (first|refine kn_ ?_ _|refine kd_ ?_|refine ka_ ?_ _));refine blk_put (cs:=#[.bool false,.bool false,.bool false,.int .i64 0,.int .u32 0,.string (⟨#[1,1,1,1,1,1,1,1]⟩ : ByteArray),.string (⟨#[]⟩ : ByteArray),.string (⟨#[]⟩ : ByteArray),.int .u64 0,.int .i64 0,.int .u64 0]) ?_ 7 _ rfl;(with_reducible repeat (first|refine kn_ ?_ _|refine kd_ ?_|refine ka_ ?_ _));refine blk_put (cs:=#[.bool false,.bool false,.bool false,.int .i64 0,.int .u32 0,.string (⟨#[1,1,1,1,1,1,1,1]⟩ : ByteArray),.string (⟨#[]⟩ : ByteArray),.string (⟨#[]⟩ : ByteArray),.int .u64 0,.int .i64 0,.int .u64 0]) ?_ 6 _ rfl;(with_reducible repeat (first|refine kn_ ?_ _|refine kd_ ?_|refine ka_ ?_ _));refine blk_put (cs:=#[.bool false,.bool false,.bool false,.int .i64 0,.int .u32 0,.string (⟨#[]⟩ : ByteArray),.string (⟨#[]⟩ : ByteArray),.string (⟨#[]⟩ : ByteArray),.int .u64 0,.int .i64 0,.int .u64 0]) ?_ 5 _ rfl;(with_reducible repeat (first|refine kn_ ?_ _|refine kd_ ?_|refine ka_ ?_ _));refine blk_put (cs:=#[.bool false,.bool false,.bool false,.int .i64 0,.int .u32 0,.string (⟨#[]⟩ : ByteArray),.string (⟨#[]⟩ : ByteArray),.string (⟨#[]⟩ : ByteArray),.int .u64 0,.int .i64 0,.int .u64 0]) ?_ 4 _ rfl;(with_reducible repeat (first|refine kn_ ?_ _|refine kd_ ?_|refine ka_ ?_ _));refine blk_put (cs:=#[.bool false,.bool false,.bool false,.int .i64 0,.int .u32 0,.string (⟨#[]⟩ : ByteArray),.string (⟨#[]⟩ : ByteArray),.string (⟨#[]⟩ : ByteArray),.int .u64 0,.int .i64 0,.int .u64 0]) ?_ 3 _ rfl;(with_reducible repeat (first|refine kn_ ?_ _|refine kd_ ?_|refine ka_ ?_ _));refine blk_put (cs:=#[.bool false,.bool false,.bool false,.int .i64 0,.int .u32 0,.string (⟨#[]⟩ : ByteArray),.string (⟨#[]⟩ : ByteArray),.string (⟨#[]⟩ : ByteArray),.int .u64 0,.int .i64 0,.int .u64 0]) ?_ 2 _ rfl;(with_reducible repeat (first|refine kn_ ?_ _|refine kd_ ?_|refine ka_ ?_ _));refine blk_put (cs:=#[.bool false,.bool false,.bool false,.int .i64 0,.int .u32 0,.string (⟨#[]⟩ : ByteArray),.string (⟨#[]⟩ : ByteArray),.string (⟨#[]⟩ : ByteArray),.int .u64 0,.int .i64 0,.int .u64 0]) ?_ 1 _ rfl;(with_reducible repeat (first|refine kn_ ?_ _|refine kd_ ?_|refine ka_ ?_ _));refine blk_put (cs:=#[.bool false,.bool false,.bool false,.int .i64 0,.int .u32 0,.string (⟨#[]⟩ : ByteArray),.string (⟨#[]⟩ : ByteArray),.string (⟨#[]⟩ : ByteArray),.int .u64 0,.int .i64 0,.int .u64 0]) ?_ 0 _ rfl;(with_reducible repeat (first|refine kn_ ?_ _|refine kd_ ?_|refine ka_ ?_ _));exact BK178.out) hb);have n1_:=am_ (below_step (by repeat (first|(with_reducible first|exact HB.out|apply ba_|apply pn_|apply pd_|refine bs_ ?_ GE178.out)|exact HB.out)) hb);clear BK178;clear HB;have BK178:=n0_;have HB:=n1_;clear n0_ n1_;(try clear hb);(try clear hb2);(try clear hk);(try clear hi))|((with_reducible refine gate_callee (f:=14) rfl ?_);refine goesL_ (some 20) rfl rfl Tryd.func14 (by kernel_rfl) rfl #[.string (t179 ++ (⟨#[120]⟩ : ByteArray))] rfl (by (try simp only [List.map_toArray,List.map_cons,List.map_nil]);first|done|rfl|(simp only [List.length_drop,List.length_take];rfl)) ?_;(with_reducible refine (header_Get.calls k (t179 ++ (⟨#[120]⟩ : ByteArray)) t181 t182 t183 t184 t185 t186 t187 t188 t189 t190 t191 t192 t193 _ A3.out).mono ?_);rintro e w17 ⟨rfl,hb⟩;refine ⟨_,rfl,?_⟩;have n0_:=am_ (blk_below (g:=gb178) (o:=.cells #[.bool false,.bool false,.bool false,.int .i64 0,.int .u32 0,.string (⟨#[1,1,1,1,1,1,1,1]⟩ : ByteArray),.string (⟨#[]⟩ : ByteArray),.string (⟨#[]⟩ : ByteArray),.int .u64 0,.int .i64 2,.int .u64 258] 25 (0,0)) (by (with_reducible repeat (first|refine kn_ ?_ _|refine kd_ ?_|refine ka_ ?_ _));exact BK178.out) hb);have n1_:=am_ (below_step (by repeat (first|(with_reducible first|exact HB.out|apply ba_|apply pn_|apply pd_|refine bs_ ?_ GE178.out)|exact HB.out)) hb);clear BK178;clear HB;have BK178:=n0_;have HB:=n1_;clear n0_ n1_;(try clear hb);(try clear hb2);(try clear hk);(try clear hi))|((with_reducible refine gate_dst (N:=4) rfl ?_);refine box_event ?hg (N:=4) ?hd (cs:=#[.bool false,.bool false,.bool false,.int .i64 0,.int .u32 0,.string (⟨#[]⟩ : ByteArray),.string (⟨#[]⟩ : ByteArray),.string (⟨#[]⟩ : ByteArray),.int .u64 0,.int .i64 0,.int .u64 0]) (t:=25) ?hr ?_;(case hd => rfl);(case hg => rfl);(case hr => first|(go_simp;done)|(go_simp;rfl));intro gb194 hg w18 hbox hb;have n0_:=am_ (blk_below (g:=gb178) (o:=.cells #[.bool false,.bool false,.bool false,.int .i64 0,.int .u32 0,.string (⟨#[1,1,1,1,1,1,1,1]⟩ : ByteArray),.string (⟨#[]⟩ : ByteArray),.string (⟨#[]⟩ : ByteArray),.int .u64 0,.int .i64 2,.int .u64 258] 25 (0,0)) (by (with_reducible repeat (first|refine kn_ ?_ _|refine kd_ ?_|refine ka_ ?_ _));exact BK178.out) hb);have n1_:=am_ (below_step (by repeat (first|(with_reducible first|exact HB.out|apply ba_|apply pn_|apply pd_|refine bs_ ?_ GE178.out)|exact HB.out)) hb);have n2_:=am_ (hbox);have n3_:=am_ ((by rw [hg];exact (below_size (by repeat (first|(with_reducible first|exact HB.out|apply ba_|apply pn_|apply pd_|refine bs_ ?_ GE178.out)|exact HB.out))) : w.heap.size ≤ gb194));have n4_:=am_ ((by rw [hg];exact (below_size (by repeat (first|(with_reducible first|exact HB.out|apply ba_|apply pn_|apply pd_|refine bs_ ?_ GE178.out)|exact HB.out))) : w.heap.size ≤ gb194));have n5_:=am_ ((by rw [hg];exact Nat.ne_of_lt (blk_lt (g:=gb178) (o:=.cells #[.bool false,.bool false,.bool false,.int .i64 0,.int .u32 0,.string (⟨#[1,1,1,1,1,1,1,1]⟩ : ByteArray),.string (⟨#[]⟩ : ByteArray),.string (⟨#[]⟩ : ByteArray),.int .u64 0,.int .i64 2,.int .u64 258] 25 (0,0)) (by (with_reducible repeat (first|refine kn_ ?_ _|refine kd_ ?_|refine ka_ ?_ _));exact BK178.out)) : gb178 ≠ gb194));have n6_:=am_ ((by rw [hg];exact Nat.ne_of_gt (blk_lt (g:=gb178) (o:=.cells #[.bool false,.bool false,.bool false,.int .i64 0,.int .u32 0,.string (⟨#[1,1,1,1,1,1,1,1]⟩ : ByteArray),.string (⟨#[]⟩ : ByteArray),.string (⟨#[]⟩ : ByteArray),.int .u64 0,.int .i64 2,.int .u64 258] 25 (0,0)) (by (with_reducible repeat (first|refine kn_ ?_ _|refine kd_ ?_|refine ka_ ?_ _));exact BK178.out)) : gb194 ≠ gb178));clear BK178;clear HB;have BK178:=n0_;have HB:=n1_;have BK194:=n2_;have GW194:=n3_;have GE194:=n4_;have NB178_194:=n5_;have NB194_178:=n6_;clear n0_ n1_ n2_ n3_ n4_ n5_ n6_;clear hb hbox hg;have hnb19:=NB194_178.out;have hnc19:=NB178_194.out;obtain ⟨hcz20_0,hcz20_1,hcz20_2,hcz20_3,hcz20_4,hcz20_5,hcz20_6,hcz20_7,hcz20_8,hcz20_9,hcz20_10,hfz20_0,hfz20_1,hfz20_2,hfz20_3,hfz20_4,hfz20_5,hfz20_6,hfz20_7,hfz20_8,hfz20_9,hfz20_10⟩:=cs11f_ BK194.out;skip)|((with_reducible refine gate_callee (f:=20) rfl ?_);refine goesL_ (some 27) rfl rfl Tryd.func20 (by kernel_rfl) rfl #[.string (t179 ++ (⟨#[120]⟩ : ByteArray)),.string (⟨#[255,1,2,3,4]⟩ : ByteArray)] rfl (by (try simp only [List.map_toArray,List.map_cons,List.map_nil]);first|done|rfl|(simp only [List.length_drop,List.length_take];rfl)) ?_;(with_reducible refine (header_Mask.calls k (t179 ++ (⟨#[120]⟩ : ByteArray)) (⟨#[255,1,2,3,4]⟩ : ByteArray) t195 t196 _ A4.out).mono ?_);rintro e w21 ⟨rfl,hb⟩;refine ⟨_,rfl,?_⟩;have n0_:=am_ (blk_below (g:=gb178) (o:=.cells #[.bool false,.bool false,.bool false,.int .i64 0,.int .u32 0,.string (⟨#[1,1,1,1,1,1,1,1]⟩ : ByteArray),.string (⟨#[]⟩ : ByteArray),.string (⟨#[]⟩ : ByteArray),.int .u64 0,.int .i64 2,.int .u64 258] 25 (0,0)) (by (with_reducible repeat (first|refine kn_ ?_ _|refine kd_ ?_|refine ka_ ?_ _));refine blk_far ?_ NB178_194.out _;(with_reducible repeat (first|refine kn_ ?_ _|refine kd_ ?_|refine ka_ ?_ _));refine blk_far ?_ NB178_194.out _;(with_reducible repeat (first|refine kn_ ?_ _|refine kd_ ?_|refine ka_ ?_ _));refine blk_far ?_ NB178_194.out _;(with_reducible repeat (first|refine kn_ ?_ _|refine kd_ ?_|refine ka_ ?_ _));refine blk_far ?_ NB178_194.out _;(with_reducible repeat (first|refine kn_ ?_ _|refine kd_ ?_|refine ka_ ?_ _));refine blk_far ?_ NB178_194.out _;(with_reducible repeat (first|refine kn_ ?_ _|refine kd_ ?_|refine ka_ ?_ _));refine blk_far ?_ NB178_194.out _;(with_reducible repeat (first|refine kn_ ?_ _|refine kd_ ?_|refine ka_ ?_ _));refine blk_far ?_ NB178_194.out _;(with_reducible repeat (first|refine kn_ ?_ _|refine kd_ ?_|refine ka_ ?_ _));refine blk_far ?_ NB178_194.out _;(with_reducible repeat (first|refine kn_ ?_ _|refine kd_ ?_|refine ka_ ?_ _));refine blk_far ?_ NB178_194.out _;(with_reducible repeat (first|refine kn_ ?_ _|refine kd_ ?_|refine ka_ ?_ _));refine blk_far ?_ NB178_194.out _;(with_reducible repeat (first|refine kn_ ?_ _|refine kd_ ?_|refine ka_ ?_ _));refine blk_far ?_ NB178_194.out _;(with_reducible repeat (first|refine kn_ ?_ _|refine kd_ ?_|refine ka_ ?_ _));exact BK178.out) hb);have n1_:=am_ (blk_below (g:=gb194) (o:=.cells #[.bool t181,.bool t182,.bool t183,.int .i64 t184,.int .u32 t185,.string t186,.string t187,.string t188,.int .u64 t189,.int .i64 t190,.int .u64 t191] 25 (0,0)) (by (with_reducible repeat (first|refine kn_ ?_ _|refine kd_ ?_|refine ka_ ?_ _));refine blk_put (cs:=#[.bool t181,.bool t182,.bool t183,.int .i64 t184,.int .u32 t185,.string t186,.string t187,.string t188,.int .u64 t189,.int .i64 t190,.int .u64 0]) ?_ 10 _ rfl;(with_reducible repeat (first|refine kn_ ?_ _|refine kd_ ?_|refine ka_ ?_ _));refine blk_put (cs:=#[.bool t181,.bool t182,.bool t183,.int .i64 t184,.int .u32 t185,.string t186,.string t187,.string t188,.int .u64 t189,.int .i64 0,.int .u64 0]) ?_ 9 _ rfl;(with_reducible repeat (first|refine kn_ ?_ _|refine kd_ ?_|refine ka_ ?_ _));refine blk_put (cs:=#[.bool t181,.bool t182,.bool t183,.int .i64 t184,.int .u32 t185,.string t186,.string t187,.string t188,.int .u64 0,.int .i64 0,.int .u64 0]) ?_ 8 _ rfl;(with_reducible repeat (first|refine kn_ ?_ _|refine kd_ ?_|refine ka_ ?_ _));refine blk_put (cs:=#[.bool t181,.bool t182,.bool t183,.int .i64 t184,.int .u32 t185,.string t186,.string t187,.string (⟨#[]⟩ : ByteArray),.int .u64 0,.int .i64 0,.int .u64 0]) ?_ 7 _ rfl;(with_reducible repeat (first|refine kn_ ?_ _|refine kd_ ?_|refine ka_ ?_ _));refine blk_put (cs:=#[.bool t181,.bool t182,.bool t183,.int .i64 t184,.int .u32 t185,.string t186,.string (⟨#[]⟩ : ByteArray),.string (⟨#[]⟩ : ByteArray),.int .u64 0,.int .i64 0,.int .u64 0]) ?_ 6 _ rfl;(with_reducible repeat (first|refine kn_ ?_ _|refine kd_ ?_|refine ka_ ?_ _));refine blk_put (cs:=#[.bool t181,.bool t182,.bool t183,.int .i64 t184,.int .u32 t185,.string (⟨#[]⟩ : ByteArray),.string (⟨#[]⟩ : ByteArray),.string (⟨#[]⟩ : ByteArray),.int .u64 0,.int .i64 0,.int .u64 0]) ?_ 5 _ rfl;(with_reducible repeat (first|refine kn_ ?_ _|refine kd_ ?_|refine ka_ ?_ _));refine blk_put (cs:=#[.bool t181,.bool t182,.bool t183,.int .i64 t184,.int .u32 0,.string (⟨#[]⟩ : ByteArray),.string (⟨#[]⟩ : ByteArray),.string (⟨#[]⟩ : ByteArray),.int .u64 0,.int .i64 0,.int .u64 0]) ?_ 4 _ rfl;(with_reducible repeat (first|refine kn_ ?_ _|refine kd_ ?_|refine ka_ ?_ _));refine blk_put (cs:=#[.bool t181,.bool t182,.bool t183,.int .i64 0,.int .u32 0,.string (⟨#[]⟩ : ByteArray),.string (⟨#[]⟩ : ByteArray),.string (⟨#[]⟩ : ByteArray),.int .u64 0,.int .i64 0,.int .u64 0]) ?_ 3 _ rfl;(with_reducible repeat (first|refine kn_ ?_ _|refine kd_ ?_|refine ka_ ?_ _));refine blk_put (cs:=#[.bool t181,.bool t182,.bool false,.int .i64 0,.int .u32 0,.string (⟨#[]⟩ : ByteArray),.string (⟨#[]⟩ : ByteArray),.string (⟨#[]⟩ : ByteArray),.int .u64 0,.int .i64 0,.int .u64 0]) ?_ 2 _ rfl;(with_reducible repeat (first|refine kn_ ?_ _|refine kd_ ?_|refine ka_ ?_ _));refine blk_put (cs:=#[.bool t181,.bool false,.bool false,.int .i64 0,.int .u32 0,.string (⟨#[]⟩ : ByteArray),.string (⟨#[]⟩ : ByteArray),.string (⟨#[]⟩ : ByteArray),.int .u64 0,.int .i64 0,.int .u64 0]) ?_ 1 _ rfl;(with_reducible repeat (first|refine kn_ ?_ _|refine kd_ ?_|refine ka_ ?_ _));refine blk_put (cs:=#[.bool false,.bool false,.bool false,.int .i64 0,.int .u32 0,.string (⟨#[]⟩ : ByteArray),.string (⟨#[]⟩ : ByteArray),.string (⟨#[]⟩ : ByteArray),.int .u64 0,.int .i64 0,.int .u64 0]) ?_ 0 _ rfl;(with_reducible repeat (first|refine kn_ ?_ _|refine kd_ ?_|refine ka_ ?_ _));exact BK194.out) hb);have n2_:=am_ (below_step (by repeat (first|(with_reducible first|exact HB.out|apply ba_|apply pn_|apply pd_|refine bs_ ?_ GE178.out|refine bs_ ?_ GE194.out)|exact HB.out)) hb);clear BK178;clear BK194;clear HB;have BK178:=n0_;have BK194:=n1_;have HB:=n2_;clear n0_ n1_ n2_;(try clear hb);(try clear hb2);(try clear hk);(try clear hi))|((with_reducible refine gate_callee (f:=22) rfl ?_);refine goesL_ (some 32) rfl rfl Tryd.func22 (by kernel_rfl) rfl #[.string t195,.string (⟨#[255,1,2,3,4]⟩ : ByteArray)] rfl (by (try simp only [List.map_toArray,List.map_cons,List.map_nil]);first|done|rfl|(simp only [List.length_drop,List.length_take];rfl)) ?_;(with_reducible refine (header_Unmask.calls k t195 (⟨#[255,1,2,3,4]⟩ : ByteArray) t197 t198 _ A5.out).mono ?_);rintro e w22 ⟨rfl,hb⟩;refine ⟨_,rfl,?_⟩;have n0_:=am_ (blk_below (g:=gb178) (o:=.cells #[.bool false,.bool false,.bool false,.int .i64 0,.int .u32 0,.string (⟨#[1,1,1,1,1,1,1,1]⟩ : ByteArray),.string (⟨#[]⟩ : ByteArray),.string (⟨#[]⟩ : ByteArray),.int .u64 0,.int .i64 2,.int .u64 258] 25 (0,0)) (by (with_reducible repeat (first|refine kn_ ?_ _|refine kd_ ?_|refine ka_ ?_ _));exact BK178.out) hb);have n1_:=am_ (blk_below (g:=gb194) (o:=.cells #[.bool t181,.bool t182,.bool t183,.int .i64 t184,.int .u32 t185,.string t186,.string t187,.string t188,.int .u64 t189,.int .i64 t190,.int .u64 t191] 25 (0,0)) (by (with_reducible repeat (first|refine kn_ ?_ _|refine kd_ ?_|refine ka_ ?_ _));exact BK194.out) hb);have n2_:=am_ (below_step (by repeat (first|(with_reducible first|exact HB.out|apply ba_|apply pn_|apply pd_|refine bs_ ?_ GE178.out|refine bs_ ?_ GE194.out)|exact HB.out)) hb);clear BK178;clear BK194;clear HB;have BK178:=n0_;have BK194:=n1_;have HB:=n2_;clear n0_ n1_ n2_;(try clear hb);(try clear hb2);(try clear hk);(try clear hi);obtain ⟨hcz23_0,hcz23_1,hcz23_2,hcz23_3,hcz23_4,hcz23_5,hcz23_6,hcz23_7,hcz23_8,hcz23_9,hcz23_10,hfz23_0,hfz23_1,hfz23_2,hfz23_3,hfz23_4,hfz23_5,hfz23_6,hfz23_7,hfz23_8,hfz23_9,hfz23_10⟩:=cs11f_ BK194.out;obtain ⟨hcz24_0,hcz24_1,hcz24_2,hcz24_3,hcz24_4,hcz24_5,hcz24_6,hcz24_7,hcz24_8,hcz24_9,hcz24_10,hfz24_0,hfz24_1,hfz24_2,hfz24_3,hfz24_4,hfz24_5,hfz24_6,hfz24_7,hfz24_8,hfz24_9,hfz24_10⟩:=cs11f_ BK178.out;skip))
          go_ret
          exact ⟨by first|rfl|(have hq_:=of_eq_true c11q;simp [errW_none,errW_some,hq_,bne];done)|(have hq_:=of_eq_true c11q;simp [errW_none,errW_some,hq_,bne];rfl)|(simp [errW_none,errW_some] <;> rfl)|(simp [*,errW_none,errW_some] <;> rfl),by repeat (first|(with_reducible first|exact HB.out|apply ba_|apply pn_|apply pd_|refine bs_ ?_ GE178.out|refine bs_ ?_ GE194.out)|exact HB.out)⟩
         ·rw [if_neg c13] at H
          exact absurd H (by simp)
        ·rw [if_neg c12] at H
         exact absurd H (by simp)
       ·rw [if_neg c11] at H
        exact absurd H (by simp)
      ·rw [if_neg c10] at H
       exact absurd H (by simp)
     ·rw [if_neg c9] at H
      exact absurd H (by simp)
    ·rw [if_neg c8] at H
     exact absurd H (by simp)
   ·rw [if_neg c7] at H
    exact absurd H (by simp)
  ·rw [if_neg c6] at H
   exact absurd H (by simp)
 ·rw [if_neg c2] at H
  exact absurd H (by simp)

end Go.Proofs.YtjpafikgbnloaaaDoor.PHdt
