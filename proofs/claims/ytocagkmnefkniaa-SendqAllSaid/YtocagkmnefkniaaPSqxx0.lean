-- printed for this claim by a program of the claim (wip/tools/pp.py over the kit's print)
import Derived.Test.YtocagkmnefkniaaProg
import Derived.Below
import Derived.Deep.Draws
import Derived.Deep.AppendLies
import Derived.Maps.AppendAt
import Derived.OwnWalk
import Derived.Laws.BytesArg
import Derived.Laws.MakeOwn
import Derived.Laws.OwnMore
import Derived.Deep.OwnRows
import Derived.Tactics
import Derived.Lib.ConvBytes
import Derived.Laws.Slices
import Derived.WalkKit
import Derived.KernelRfl
import Derived.RowKit3
import Derived.Deep.LoopGhost
import Derived.Deep.QuietTactic
import Derived.BigQuiet
import Derived.WideLaws
import Derived.Deep.DeepCutAuto
import Derived.Deep.CutBlock
import Derived.Deep.RegionHeld3
import Derived.Laws.Rows
import Derived.Lib.AppendStr
import Derived.ArgAppend
import Derived.Laws.IdiomCopy
import Derived.OrdersHeld
import Derived.Laws.BitsLemmas
import Derived.RowKit
import Derived.Lib.Builder
import Derived.Lib.UnsafeStr
import Derived.Laws.Externs
import Derived.RegionTactic
import Derived.StillTailTactics
import Derived.Lib.BitFns
import Derived.Lib.ItoaNum
import Derived.Lib.TrailingZeros
import Derived.Lib.ConvBytes
import Derived.Laws.CopyOwn
import Derived.Deep.MidRow
import Derived.Lib.AppendZeros
import Derived.Test.YtocagkmnefkniaaShelf
import Derived.Test.YtocagkmnefkniaaLen64
import Derived.Test.YtocagkmnefkniaaRangesA
import Derived.Test.YtocagkmnefkniaaRangesB
import Derived.Test.YtocagkmnefkniaaRangesC
import Derived.Test.YtocagkmnefkniaaWWords
import Derived.Test.YtocagkmnefkniaaWLast
import Derived.Test.YtocagkmnefkniaaWTab
import Derived.Test.YtocagkmnefkniaaWFour
import Derived.Test.YtocagkmnefkniaaWQPut
import Derived.Test.YtocagkmnefkniaaWApart
import Derived.Test.YtocagkmnefkniaaWArr
import Derived.Test.YtocagkmnefkniaaWZeros
import Derived.Test.YtocagkmnefkniaaWFoot
import Derived.Test.YtocagkmnefkniaaWKept
import Derived.Test.YtocagkmnefkniaaWShare
import Derived.Test.YtocagkmnefkniaaWN
import Derived.Test.YtocagkmnefkniaaWFootNe
import Derived.Test.YtocagkmnefkniaaWAt
import Derived.Test.YtocagkmnefkniaaWEqStruct
import Derived.Test.YtocagkmnefkniaaWRepsOne
import Derived.Test.YtocagkmnefkniaaWInv
import Derived.Test.YtocagkmnefkniaaWInvWords
import Derived.Test.YtocagkmnefkniaaWGuard
import Derived.Test.YtocagkmnefkniaaWNEv
import Derived.Test.YtocagkmnefkniaaWMore
namespace Go.Proofs.Ytocagkmnefkniaa.PSqx
open Go.RowKit Go.Proofs.YtocagkmnefkniaaW.PrintWords Go.Proofs.YtocagkmnefkniaaW.PrintLast Go.Proofs.YtocagkmnefkniaaW.PrintMore
attribute [local go_sem] max2_int min2_int max_two min_two max_three min_three max_four min_four   -- for this text's walks alone
set_option linter.unusedVariables false
set_option linter.unusedSimpArgs false

theorem wrap_le_ {k : IntKind} {m : Int} (hk : k.signed = false) (hm : (2 : Int) ^ k.bits = m + 1) (n : Int) : k.wrap n ≤ m:=by
 unfold IntKind.wrap
 simp only [hk,Bool.false_and,Bool.false_eq_true,if_false]
 have h:=Int.emod_lt_of_pos n (b:=(2 : Int) ^ k.bits) (Int.pow_pos (by decide))
 omega
theorem wrap_nn_ {k : IntKind} (hk : k.signed = false) (n : Int) : 0 ≤ k.wrap n:=by
 unfold IntKind.wrap
 simp only [hk,Bool.false_and,Bool.false_eq_true,if_false]
 exact Int.emod_nonneg _ (Int.ne_of_gt (Int.pow_pos (by decide)))
theorem isSome_setCell_ (w : World) (a b : Addr) (v : Value) : ((w.setCell a v).cell? b).isSome = (w.cell? b).isSome:=by
 by_cases e : a = b
 ·subst e
  cases h : w.cell? a with
  | some u => rw [World.cell?_setCell_same w a v h];rfl
  | none =>
   unfold World.cell? at h
   unfold World.setCell World.cell?
   simp only [Array.getElem?_modify,↓reduceIte]
   cases hb : w.heap[a.block]? with
   | none => simp
   | some o =>
    rw [hb] at h
    cases o with
    | cells c t f =>
     simp only [Option.map_some] at h ⊢
     cases hs : a.spot.isSome with
     | true => simp
     | false =>
      simp only [hs,Bool.false_eq_true,if_false] at h ⊢
      have:=Array.getElem?_eq_none_iff.1 h
      simp [this]
    | _ => simp
 ·rw [World.cell?_setCell_other w a b v e]
theorem up_ {w w1 : World} (h : Below w.heap.size w w1) {a : Addr} {v : Value} (e : w.cell? a = some v) : w1.cell? a = some v:=(h.cell (World.block_lt_of_cell? w _ e)).trans e
theorem far_ {w W : World} {a : Addr} {v : Value} {g j : Nat} (h : w.cell? a = some v) (hg : w.heap.size ≤ g) (u : Value) : (W.setCell ⟨g,j,none⟩ u).cell? a = W.cell? a:=cell_far (p:=⟨g,j,none⟩) (Nat.ne_of_lt (Nat.lt_of_lt_of_le (World.block_lt_of_cell? w _ h) hg)) u
theorem ps_ {α : Type} : (∀ (l : List α) (i : Nat) (a : α),l.toArray.setIfInBounds i a = (l.set i a).toArray) ∧ (∀ (x : α) (l : List α) (a : α),(x :: l).set 0 a = a :: l) ∧ (∀ (x : α) (l : List α) (n : Nat) (a : α),(x :: l).set (n + 1) a = x :: l.set n a) :=
 ⟨List.setIfInBounds_toArray,fun _ _ _ => rfl,fun _ _ _ _ => rfl⟩
abbrev T_ : Bool:=true
abbrev F_ : Bool:=false
abbrev ba_:=@below_alloc
abbrev pn_:=@pw_below_drewN
abbrev pd_:=@below_drew1
abbrev bs_:=@below_set
abbrev kn_:=@blk_drewN
abbrev kd_:=@blk_drew
abbrev ka_:=@blk_alloc
abbrev kc_:=@blk_cell
abbrev am_:=@Aside0.mk
abbrev rn_:=@Kd.R_drewN
abbrev rd_:=@Kd.R_drew
abbrev ra_:=@Kd.R_alloc
theorem below_setRow_ {B g : Nat} {w0 w : World} (hb : Below B w0 w) (hBg : B ≤ g) (cs : Array Value) : Below B w0 (w.setRow g cs) :=
 hb.trans ⟨rfl,rfl,rfl,by simp [World.setRow],fun k hk => setRow_other w g k cs (by omega)⟩
theorem grown_set_ (w : World) (g i : Nat) (v : Value) : w.grownBy (w.setCell ⟨g,i,none⟩ v) (some g) :=
 ⟨rfl,rfl,rfl,by simp [World.setCell],fun k _ hk => Below.heap_setCell _ _ _ _ (fun e => hk (by rw [e]))⟩
theorem store_row_ {P : Program} {ops : Array Oper} {rest : List Oper} {o : Oper} {a : Act} {w : World} {Q : Exit → Act → World → Prop} (hgd : o.guard = none) (ty : TypeId) (x y : Operand) (ho : o.op = .store ty x y)
  (hd : o.dst = none) (g : Nat) (cells : Array Value) (hx : a.eval x = .pointer (some ⟨g,0,none⟩)) (hy : a.eval y = .agg cells)
  (t : TypeId) (old : Array Value) (hg : w.heap[g]? = some (.cells old t (0,0))) (hi : (P.info? ty).map (·.size) = some cells.size)
  (hold : old.size = cells.size) (h1 : cells.all (·.oneCell') = true) (B : Nat) (w0 : World) (hb : Below B w0 w) (hB : B ≤ g)
  (h : ∀ w',w'.heap[g]? = some (.cells cells t (0,0)) → Below B w0 w' → w.grownBy w' (some g) → wpList P ops Q rest a w') : wpList P ops Q (o :: rest) a w :=
 wpList_store_row hgd ty x y ho g cells hx hy t old hg hi hold h1 (by
  rw [hd]
  exact h _ (setRow_heap _ _ _ _ _ _ hg) (below_setRow_ hb hB _) ⟨rfl,rfl,rfl,by simp [World.setRow],fun k _ hk => setRow_other w g k cells (fun e => hk (by rw [e]))⟩)



def errW : Option Int → Value
 | none => .nilIface
 | some c => .iface 0 (.int .i64 c)
theorem errW_none : errW none = .nilIface:=rfl
theorem errW_some (c : Int) : errW (some c) = .iface 0 (.int .i64 c):=rfl

theorem info57 : (Try.prog.info? 57).map (fun i => (i.zero,i.size,i.bytes)) = some (some (.agg #[(.int .u64 0),(.int .i64 0),(.bool false)]),3,24):=by kernel_rfl
theorem info90 : (Try.prog.info? 90).map (fun i => (i.zero,i.size,i.bytes)) = some (some (.agg #[(.int .u64 0),(.int .i64 0)]),2,16):=by kernel_rfl
-- the values' own types
/-! #### struct type 67 -/
structure S67 where
 f0 : Int
 f1 : Int
def z67 : S67:=⟨(0 : Int),(0 : Int)⟩
def k67 : Kd S67:=Kd.iso (Kd.pair (Kd.int .u64) (Kd.int .u64)) (fun x : S67 => (x.f0,x.f1))
theorem k67_open {w : World} {x : S67} {cs : List Value} (h : k67.K w x cs) : cs = [.int .u64 x.f0,.int .u64 x.f1]:=by
 obtain ⟨_,_,rfl,rfl,rfl⟩:=h
 exact rfl
theorem k67_openM {w : World} {base : Nat} {ok : Nat → Prop} {x : S67} {cs : List Value} (h : k67.M w base ok x cs) : cs = [.int .u64 x.f0,.int .u64 x.f1]:=by
 obtain ⟨_,_,rfl,rfl,rfl⟩:=h
 exact rfl
theorem k67_mk (w : World) (x : S67)  : k67.K w x [.int .u64 x.f0,.int .u64 x.f1]:=⟨[.int .u64 x.f0],[.int .u64 x.f1],rfl,rfl,rfl⟩
theorem k67_mkM (w : World) (base : Nat) (ok : Nat → Prop) (x : S67)  : k67.M w base ok x [.int .u64 x.f0,.int .u64 x.f1]:=⟨[.int .u64 x.f0],[.int .u64 x.f1],rfl,rfl,rfl⟩
theorem k67_mkF (W : World) (ok : Nat → Prop) (x : S67) : Kd.FK k67 W ok x [.int .u64 x.f0,.int .u64 x.f1]:=fun W2 _ => k67_mk W2 x
def rd_T67 (xs : List S67) (i : Int) : S67:=xs.getD i.toNat z67
theorem at_T67 {w : World} {A : Option Addr} {n : Nat} {xs : List S67} (h : Kd.C k67 w A n xs) (i : Int) (h0 : 0 ≤ i) (h1 : i < n) : ∃ ad , A = some ad ∧ w.cell? (ad.add (i.toNat * 2)) = some (.int .u64 (rd_T67 xs i).f0) ∧ w.cell? ⟨(ad.add (i.toNat * 2)).block,(ad.add (i.toNat * 2)).off + 1,none⟩ = some (.int .u64 (rd_T67 xs i).f1):=by
 obtain ⟨ad,c,e,_,hK,hc0⟩:=Kd.C_get h z67 i h0 h1
 have hc : ∀ j u,c[j]? = some u → w.cell? (ad.add (i.toNat * 2 + j)) = some u:=hc0
 obtain rfl:=k67_open hK
 exact ⟨ad,e,hc 0 _ rfl,by rw [← add_field _ _ 1 (by omega)];exact hc 1 _ rfl⟩

/-! #### struct type 90 -/
structure S90 where
 f0 : Int
 f1 : Int
def z90 : S90:=⟨(0 : Int),(0 : Int)⟩
def k90 : Kd S90:=Kd.iso (Kd.pair (Kd.int .u64) (Kd.int .i64)) (fun x : S90 => (x.f0,x.f1))
theorem k90_open {w : World} {x : S90} {cs : List Value} (h : k90.K w x cs) : cs = [.int .u64 x.f0,.int .i64 x.f1]:=by
 obtain ⟨_,_,rfl,rfl,rfl⟩:=h
 exact rfl
theorem k90_openM {w : World} {base : Nat} {ok : Nat → Prop} {x : S90} {cs : List Value} (h : k90.M w base ok x cs) : cs = [.int .u64 x.f0,.int .i64 x.f1]:=by
 obtain ⟨_,_,rfl,rfl,rfl⟩:=h
 exact rfl
theorem k90_mk (w : World) (x : S90)  : k90.K w x [.int .u64 x.f0,.int .i64 x.f1]:=⟨[.int .u64 x.f0],[.int .i64 x.f1],rfl,rfl,rfl⟩
theorem k90_mkM (w : World) (base : Nat) (ok : Nat → Prop) (x : S90)  : k90.M w base ok x [.int .u64 x.f0,.int .i64 x.f1]:=⟨[.int .u64 x.f0],[.int .i64 x.f1],rfl,rfl,rfl⟩
theorem k90_mkF (W : World) (ok : Nat → Prop) (x : S90) : Kd.FK k90 W ok x [.int .u64 x.f0,.int .i64 x.f1]:=fun W2 _ => k90_mk W2 x
def rd_T90 (xs : List S90) (i : Int) : S90:=xs.getD i.toNat z90
theorem at_T90 {w : World} {A : Option Addr} {n : Nat} {xs : List S90} (h : Kd.C k90 w A n xs) (i : Int) (h0 : 0 ≤ i) (h1 : i < n) : ∃ ad , A = some ad ∧ w.cell? (ad.add (i.toNat * 2)) = some (.int .u64 (rd_T90 xs i).f0) ∧ w.cell? ⟨(ad.add (i.toNat * 2)).block,(ad.add (i.toNat * 2)).off + 1,none⟩ = some (.int .i64 (rd_T90 xs i).f1):=by
 obtain ⟨ad,c,e,_,hK,hc0⟩:=Kd.C_get h z90 i h0 h1
 have hc : ∀ j u,c[j]? = some u → w.cell? (ad.add (i.toNat * 2 + j)) = some u:=hc0
 obtain rfl:=k90_open hK
 exact ⟨ad,e,hc 0 _ rfl,by rw [← add_field _ _ 1 (by omega)];exact hc 1 _ rfl⟩

def rd_L4 (xs : List (List S90)) (i : Int) : (List S90):=xs.getD i.toNat ([] : List S90)
theorem at_L4 {w : World} {A : Option Addr} {n : Nat} {xs : List (List S90)} (h : Kd.C (Kd.slice 90 k90) w A n xs) (i : Int) (h0 : 0 ≤ i) (h1 : i < n) : ∃ ad A0 c0,A = some ad ∧ w.cell? (ad.add i.toNat) = some (.slice A0 (rd_L4 xs i).length c0) ∧ (rd_L4 xs i).length ≤ c0 ∧ k90.C w A0 (rd_L4 xs i).length (rd_L4 xs i):=by
 obtain ⟨ad,c,e,_,hK,hc0⟩:=Kd.C_get h ([] : List S90) i h0 h1
 have hc : ∀ j u,c[j]? = some u → w.cell? (ad.add (i.toNat * 1 + j)) = some u:=hc0
 obtain ⟨A0,c0,rfl,l0,g0⟩:=hK
 exact ⟨ad,A0,c0,e,by have hq:=hc 0 _ rfl;rwa [Nat.mul_one,Nat.add_zero] at hq,l0,g0⟩

def rd_L5 (xs : List (List S67)) (i : Int) : (List S67):=xs.getD i.toNat ([] : List S67)
theorem at_L5 {w : World} {A : Option Addr} {n : Nat} {xs : List (List S67)} (h : Kd.C (Kd.slice 67 k67) w A n xs) (i : Int) (h0 : 0 ≤ i) (h1 : i < n) : ∃ ad A0 c0,A = some ad ∧ w.cell? (ad.add i.toNat) = some (.slice A0 (rd_L5 xs i).length c0) ∧ (rd_L5 xs i).length ≤ c0 ∧ k67.C w A0 (rd_L5 xs i).length (rd_L5 xs i):=by
 obtain ⟨ad,c,e,_,hK,hc0⟩:=Kd.C_get h ([] : List S67) i h0 h1
 have hc : ∀ j u,c[j]? = some u → w.cell? (ad.add (i.toNat * 1 + j)) = some u:=hc0
 obtain ⟨A0,c0,rfl,l0,g0⟩:=hK
 exact ⟨ad,A0,c0,e,by have hq:=hc 0 _ rfl;rwa [Nat.mul_one,Nat.add_zero] at hq,l0,g0⟩

/-! #### struct type 29 -/
structure S29 where
 f0 : Int
 f1 : Int
 f2 : ByteArray
 f3 : (List S67)
 f4 : (List S67)
 f5 : Bool
 f6 : Bool
 f7 : Bool
def z29 : S29:=⟨(0 : Int),(0 : Int),(⟨#[]⟩ : ByteArray),([] : List S67),([] : List S67),false,false,false⟩
def k29 : Kd S29:=Kd.iso (Kd.pair (Kd.int .u64) (Kd.pair (Kd.int .u64) (Kd.pair Kd.string (Kd.pair (Kd.slice 67 k67) (Kd.pair (Kd.slice 67 k67) (Kd.pair Kd.bool (Kd.pair Kd.bool Kd.bool))))))) (fun x : S29 => (x.f0,x.f1,x.f2,x.f3,x.f4,x.f5,x.f6,x.f7))
theorem k29_open {w : World} {x : S29} {cs : List Value} (h : k29.K w x cs) : ∃ A3 c3 A4 c4,cs = [.int .u64 x.f0,.int .u64 x.f1,.string x.f2,.slice A3 x.f3.length c3,.slice A4 x.f4.length c4,.bool x.f5,.bool x.f6,.bool x.f7] ∧ x.f3.length ≤ c3 ∧ k67.C w A3 x.f3.length x.f3 ∧ x.f4.length ≤ c4 ∧ k67.C w A4 x.f4.length x.f4:=by
 obtain ⟨_,_,rfl,rfl,⟨_,_,rfl,rfl,⟨_,_,rfl,rfl,⟨_,_,rfl,⟨A3,c3,rfl,l3,g3⟩,⟨_,_,rfl,⟨A4,c4,rfl,l4,g4⟩,⟨_,_,rfl,rfl,⟨_,_,rfl,rfl,rfl⟩⟩⟩⟩⟩⟩⟩:=h
 exact ⟨A3,c3,A4,c4,rfl,l3,g3,l4,g4⟩
theorem k29_openM {w : World} {base : Nat} {ok : Nat → Prop} {x : S29} {cs : List Value} (h : k29.M w base ok x cs) : ∃ v3 v4,cs = [.int .u64 x.f0,.int .u64 x.f1,.string x.f2,v3,v4,.bool x.f5,.bool x.f6,.bool x.f7] ∧ k67.R 67 w base ok v3 x.f3 ∧ k67.R 67 w base ok v4 x.f4:=by
 obtain ⟨_,_,rfl,rfl,⟨_,_,rfl,rfl,⟨_,_,rfl,rfl,⟨_,_,rfl,⟨v3,rfl,g3⟩,⟨_,_,rfl,⟨v4,rfl,g4⟩,⟨_,_,rfl,rfl,⟨_,_,rfl,rfl,rfl⟩⟩⟩⟩⟩⟩⟩:=h
 exact ⟨v3,v4,rfl,g3,g4⟩
theorem k29_mk (w : World) (x : S29) {A3 : Option Addr} {c3 : Nat} (l3 : x.f3.length ≤ c3) (g3 : k67.C w A3 x.f3.length x.f3) {A4 : Option Addr} {c4 : Nat} (l4 : x.f4.length ≤ c4) (g4 : k67.C w A4 x.f4.length x.f4) : k29.K w x [.int .u64 x.f0,.int .u64 x.f1,.string x.f2,.slice A3 x.f3.length c3,.slice A4 x.f4.length c4,.bool x.f5,.bool x.f6,.bool x.f7]:=⟨[.int .u64 x.f0],[.int .u64 x.f1,.string x.f2,.slice A3 x.f3.length c3,.slice A4 x.f4.length c4,.bool x.f5,.bool x.f6,.bool x.f7],rfl,rfl,⟨[.int .u64 x.f1],[.string x.f2,.slice A3 x.f3.length c3,.slice A4 x.f4.length c4,.bool x.f5,.bool x.f6,.bool x.f7],rfl,rfl,⟨[.string x.f2],[.slice A3 x.f3.length c3,.slice A4 x.f4.length c4,.bool x.f5,.bool x.f6,.bool x.f7],rfl,rfl,⟨[.slice A3 x.f3.length c3],[.slice A4 x.f4.length c4,.bool x.f5,.bool x.f6,.bool x.f7],rfl,⟨A3,c3,rfl,l3,g3⟩,⟨[.slice A4 x.f4.length c4],[.bool x.f5,.bool x.f6,.bool x.f7],rfl,⟨A4,c4,rfl,l4,g4⟩,⟨[.bool x.f5],[.bool x.f6,.bool x.f7],rfl,rfl,⟨[.bool x.f6],[.bool x.f7],rfl,rfl,rfl⟩⟩⟩⟩⟩⟩⟩
theorem k29_mkM (w : World) (base : Nat) (ok : Nat → Prop) (x : S29) {v3 : Value} (g3 : k67.R 67 w base ok v3 x.f3) {v4 : Value} (g4 : k67.R 67 w base ok v4 x.f4) : k29.M w base ok x [.int .u64 x.f0,.int .u64 x.f1,.string x.f2,v3,v4,.bool x.f5,.bool x.f6,.bool x.f7]:=⟨[.int .u64 x.f0],[.int .u64 x.f1,.string x.f2,v3,v4,.bool x.f5,.bool x.f6,.bool x.f7],rfl,rfl,⟨[.int .u64 x.f1],[.string x.f2,v3,v4,.bool x.f5,.bool x.f6,.bool x.f7],rfl,rfl,⟨[.string x.f2],[v3,v4,.bool x.f5,.bool x.f6,.bool x.f7],rfl,rfl,⟨[v3],[v4,.bool x.f5,.bool x.f6,.bool x.f7],rfl,⟨v3,rfl,g3⟩,⟨[v4],[.bool x.f5,.bool x.f6,.bool x.f7],rfl,⟨v4,rfl,g4⟩,⟨[.bool x.f5],[.bool x.f6,.bool x.f7],rfl,rfl,⟨[.bool x.f6],[.bool x.f7],rfl,rfl,rfl⟩⟩⟩⟩⟩⟩⟩
theorem k29_openF {W : World} {ok : Nat → Prop} {x : S29} {cs : List Value} (h : Kd.FK k29 W ok x cs) : ∃ A3 c3 A4 c4,cs = [.int .u64 x.f0,.int .u64 x.f1,.string x.f2,.slice A3 x.f3.length c3,.slice A4 x.f4.length c4,.bool x.f5,.bool x.f6,.bool x.f7] ∧ x.f3.length ≤ c3 ∧ Kd.F k67 W ok A3 x.f3.length x.f3 ∧ x.f4.length ≤ c4 ∧ Kd.F k67 W ok A4 x.f4.length x.f4:=by
 obtain ⟨A3,c3,A4,c4,rfl,l3,_,l4,_⟩:=k29_open (Kd.FK_now h)
 exact ⟨A3,c3,A4,c4,rfl,l3,(fun W' hW => by obtain ⟨A3_,c3_,A4_,c4_,he,l3_,g3_,l4_,g4_⟩:=k29_open (h W' hW);injection (Option.some.inj (show some (Value.slice A3 x.f3.length c3) = some (Value.slice A3_ x.f3.length c3_) from congrArg (fun l => l[3]?) he)) with ha_ _ _;rw [ha_];exact g3_),l4,(fun W' hW => by obtain ⟨A3_,c3_,A4_,c4_,he,l3_,g3_,l4_,g4_⟩:=k29_open (h W' hW);injection (Option.some.inj (show some (Value.slice A4 x.f4.length c4) = some (Value.slice A4_ x.f4.length c4_) from congrArg (fun l => l[4]?) he)) with ha_ _ _;rw [ha_];exact g4_)⟩
theorem k29_mkF (W : World) (ok : Nat → Prop) (x : S29) {A3 : Option Addr} {c3 : Nat} (l3 : x.f3.length ≤ c3) (g3 : Kd.F k67 W ok A3 x.f3.length x.f3) {A4 : Option Addr} {c4 : Nat} (l4 : x.f4.length ≤ c4) (g4 : Kd.F k67 W ok A4 x.f4.length x.f4) : Kd.FK k29 W ok x [.int .u64 x.f0,.int .u64 x.f1,.string x.f2,.slice A3 x.f3.length c3,.slice A4 x.f4.length c4,.bool x.f5,.bool x.f6,.bool x.f7]:=fun W2 hW => k29_mk W2 x l3 (g3 W2 hW) l4 (g4 W2 hW)
def rd_T29 (xs : List S29) (i : Int) : S29:=xs.getD i.toNat z29
theorem at_T29 {w : World} {A : Option Addr} {n : Nat} {xs : List S29} (h : Kd.C k29 w A n xs) (i : Int) (h0 : 0 ≤ i) (h1 : i < n) : ∃ ad A3 c3 A4 c4,A = some ad ∧ w.cell? (ad.add (i.toNat * 8)) = some (.int .u64 (rd_T29 xs i).f0) ∧ w.cell? ⟨(ad.add (i.toNat * 8)).block,(ad.add (i.toNat * 8)).off + 1,none⟩ = some (.int .u64 (rd_T29 xs i).f1) ∧ w.cell? ⟨(ad.add (i.toNat * 8)).block,(ad.add (i.toNat * 8)).off + 2,none⟩ = some (.string (rd_T29 xs i).f2) ∧ w.cell? ⟨(ad.add (i.toNat * 8)).block,(ad.add (i.toNat * 8)).off + 3,none⟩ = some (.slice A3 (rd_T29 xs i).f3.length c3) ∧ w.cell? ⟨(ad.add (i.toNat * 8)).block,(ad.add (i.toNat * 8)).off + 4,none⟩ = some (.slice A4 (rd_T29 xs i).f4.length c4) ∧ w.cell? ⟨(ad.add (i.toNat * 8)).block,(ad.add (i.toNat * 8)).off + 5,none⟩ = some (.bool (rd_T29 xs i).f5) ∧ w.cell? ⟨(ad.add (i.toNat * 8)).block,(ad.add (i.toNat * 8)).off + 6,none⟩ = some (.bool (rd_T29 xs i).f6) ∧ w.cell? ⟨(ad.add (i.toNat * 8)).block,(ad.add (i.toNat * 8)).off + 7,none⟩ = some (.bool (rd_T29 xs i).f7) ∧ (rd_T29 xs i).f3.length ≤ c3 ∧ k67.C w A3 (rd_T29 xs i).f3.length (rd_T29 xs i).f3 ∧ (rd_T29 xs i).f4.length ≤ c4 ∧ k67.C w A4 (rd_T29 xs i).f4.length (rd_T29 xs i).f4:=by
 obtain ⟨ad,c,e,_,hK,hc0⟩:=Kd.C_get h z29 i h0 h1
 have hc : ∀ j u,c[j]? = some u → w.cell? (ad.add (i.toNat * 8 + j)) = some u:=hc0
 obtain ⟨A3,c3,A4,c4,rfl,l3,g3,l4,g4⟩:=k29_open hK
 exact ⟨ad,A3,c3,A4,c4,e,hc 0 _ rfl,by rw [← add_field _ _ 1 (by omega)];exact hc 1 _ rfl,by rw [← add_field _ _ 2 (by omega)];exact hc 2 _ rfl,by rw [← add_field _ _ 3 (by omega)];exact hc 3 _ rfl,by rw [← add_field _ _ 4 (by omega)];exact hc 4 _ rfl,by rw [← add_field _ _ 5 (by omega)];exact hc 5 _ rfl,by rw [← add_field _ _ 6 (by omega)];exact hc 6 _ rfl,by rw [← add_field _ _ 7 (by omega)];exact hc 7 _ rfl,l3,g3,l4,g4⟩

/-! #### struct type 57 -/
structure S57 where
 f0 : Int
 f1 : Int
 f2 : Bool
def z57 : S57:=⟨(0 : Int),(0 : Int),false⟩
def k57 : Kd S57:=Kd.iso (Kd.pair (Kd.int .u64) (Kd.pair (Kd.int .i64) Kd.bool)) (fun x : S57 => (x.f0,x.f1,x.f2))
theorem k57_open {w : World} {x : S57} {cs : List Value} (h : k57.K w x cs) : cs = [.int .u64 x.f0,.int .i64 x.f1,.bool x.f2]:=by
 obtain ⟨_,_,rfl,rfl,⟨_,_,rfl,rfl,rfl⟩⟩:=h
 exact rfl
theorem k57_openM {w : World} {base : Nat} {ok : Nat → Prop} {x : S57} {cs : List Value} (h : k57.M w base ok x cs) : cs = [.int .u64 x.f0,.int .i64 x.f1,.bool x.f2]:=by
 obtain ⟨_,_,rfl,rfl,⟨_,_,rfl,rfl,rfl⟩⟩:=h
 exact rfl
theorem k57_mk (w : World) (x : S57)  : k57.K w x [.int .u64 x.f0,.int .i64 x.f1,.bool x.f2]:=⟨[.int .u64 x.f0],[.int .i64 x.f1,.bool x.f2],rfl,rfl,⟨[.int .i64 x.f1],[.bool x.f2],rfl,rfl,rfl⟩⟩
theorem k57_mkM (w : World) (base : Nat) (ok : Nat → Prop) (x : S57)  : k57.M w base ok x [.int .u64 x.f0,.int .i64 x.f1,.bool x.f2]:=⟨[.int .u64 x.f0],[.int .i64 x.f1,.bool x.f2],rfl,rfl,⟨[.int .i64 x.f1],[.bool x.f2],rfl,rfl,rfl⟩⟩
theorem k57_mkF (W : World) (ok : Nat → Prop) (x : S57) : Kd.FK k57 W ok x [.int .u64 x.f0,.int .i64 x.f1,.bool x.f2]:=fun W2 _ => k57_mk W2 x
def rd_T57 (xs : List S57) (i : Int) : S57:=xs.getD i.toNat z57
theorem at_T57 {w : World} {A : Option Addr} {n : Nat} {xs : List S57} (h : Kd.C k57 w A n xs) (i : Int) (h0 : 0 ≤ i) (h1 : i < n) : ∃ ad , A = some ad ∧ w.cell? (ad.add (i.toNat * 3)) = some (.int .u64 (rd_T57 xs i).f0) ∧ w.cell? ⟨(ad.add (i.toNat * 3)).block,(ad.add (i.toNat * 3)).off + 1,none⟩ = some (.int .i64 (rd_T57 xs i).f1) ∧ w.cell? ⟨(ad.add (i.toNat * 3)).block,(ad.add (i.toNat * 3)).off + 2,none⟩ = some (.bool (rd_T57 xs i).f2):=by
 obtain ⟨ad,c,e,_,hK,hc0⟩:=Kd.C_get h z57 i h0 h1
 have hc : ∀ j u,c[j]? = some u → w.cell? (ad.add (i.toNat * 3 + j)) = some u:=hc0
 obtain rfl:=k57_open hK
 exact ⟨ad,e,hc 0 _ rfl,by rw [← add_field _ _ 1 (by omega)];exact hc 1 _ rfl,by rw [← add_field _ _ 2 (by omega)];exact hc 2 _ rfl⟩

abbrev kk0_ : Array Value := #[.int .u64 0,.int .u64 0,.string (⟨#[]⟩ : ByteArray),.slice none 0 0,.slice none 0 0,.bool false,.bool false,.bool false]
abbrev kk1_ : Array Value := #[.int .u64 0,.int .u64 0]

end Go.Proofs.Ytocagkmnefkniaa.PSqx
