-- printed for this claim by a program of the claim (wip/tools/pp.py over the kit's print)
import Derived.Test.YthbnedjcaflofaaDoorProg
import Derived.Below
import Derived.Deep.Draws
import Derived.Deep.AppendLies
import Derived.Maps.AppendAt
import Derived.OwnWalk
import Derived.Laws.BytesArg
import Derived.Laws.MakeOwn
import Derived.Laws.OwnMore
import Derived.Deep.OwnRows
import Derived.Tactics
import Derived.Lib.ConvBytes
import Derived.Laws.Slices
import Derived.WalkKit
import Derived.KernelRfl
import Derived.RowKit3
import Derived.Deep.LoopGhost
import Derived.Deep.QuietTactic
import Derived.BigQuiet
import Derived.WideLaws
import Derived.Deep.DeepCutAuto
import Derived.Deep.CutBlock
import Derived.Deep.RegionHeld3
import Derived.Laws.Rows
import Derived.Lib.AppendStr
import Derived.ArgAppend
import Derived.Laws.IdiomCopy
import Derived.OrdersHeld
import Derived.Laws.BitsLemmas
import Derived.RowKit
import Derived.Lib.Builder
import Derived.Lib.UnsafeStr
import Derived.Laws.Externs
import Derived.RegionTactic
import Derived.StillTailTactics
import Derived.Lib.BitFns
import Derived.Lib.ItoaNum
import Derived.Lib.TrailingZeros
import Derived.Lib.ConvBytes
import Derived.Laws.CopyOwn
import Derived.Deep.MidRow
import Derived.Lib.AppendZeros
import Derived.Test.YthbnedjcaflofaaDoorLen64
import Derived.Shelf.AbstractIn
import Derived.RangeFuncNested
import Derived.RangeFuncCalls
import Derived.Sort.LoopGhostIn
import Derived.Sort.CutIn
import Derived.Maps.OwnSet
import Derived.Maps.OwnIn
import Derived.Test.YthbnedjcaflofaaDoorWWords
import Derived.Test.YthbnedjcaflofaaDoorWLast
import Derived.Test.YthbnedjcaflofaaDoorWTab
import Derived.Test.YthbnedjcaflofaaDoorWFour
import Derived.Test.YthbnedjcaflofaaDoorWQPut
import Derived.Test.YthbnedjcaflofaaDoorWApart
import Derived.Test.YthbnedjcaflofaaDoorWArr
import Derived.Test.YthbnedjcaflofaaDoorWZeros
import Derived.Test.YthbnedjcaflofaaDoorWFoot
import Derived.Test.YthbnedjcaflofaaDoorWKept
import Derived.Test.YthbnedjcaflofaaDoorWShare
import Derived.Test.YthbnedjcaflofaaDoorWN
import Derived.Test.YthbnedjcaflofaaDoorWFootNe
import Derived.Test.YthbnedjcaflofaaDoorWAt
import Derived.Test.YthbnedjcaflofaaDoorWEqStruct
import Derived.Test.YthbnedjcaflofaaDoorWRepsOne
import Derived.Test.YthbnedjcaflofaaDoorWInv
import Derived.Test.YthbnedjcaflofaaDoorWInvWords
import Derived.Test.YthbnedjcaflofaaDoorWGuard
import Derived.Test.YthbnedjcaflofaaDoorWNEv
import Derived.Test.YthbnedjcaflofaaDoorWMore
namespace Go.Proofs.YthbnedjcaflofaaDoor.PPax
open Go.RowKit Go.Proofs.YthbnedjcaflofaaDoorW.PrintWords Go.Proofs.YthbnedjcaflofaaDoorW.PrintLast Go.Proofs.YthbnedjcaflofaaDoorW.PrintMore
attribute [local go_sem] max2_int min2_int max_two min_two max_three min_three max_four min_four   -- for this text's walks alone
set_option linter.unusedVariables false
set_option linter.unusedSimpArgs false

theorem wrap_le_ {k : IntKind} {m : Int} (hk : k.signed = false) (hm : (2 : Int) ^ k.bits = m + 1) (n : Int) : k.wrap n ≤ m := by
  unfold IntKind.wrap
  simp only [hk, Bool.false_and, Bool.false_eq_true, if_false]
  have h := Int.emod_lt_of_pos n (b := (2 : Int) ^ k.bits) (Int.pow_pos (by decide))
  omega
theorem wrap_nn_ {k : IntKind} (hk : k.signed = false) (n : Int) : 0 ≤ k.wrap n := by
  unfold IntKind.wrap
  simp only [hk, Bool.false_and, Bool.false_eq_true, if_false]
  exact Int.emod_nonneg _ (Int.ne_of_gt (Int.pow_pos (by decide)))
theorem isSome_setCell_ (w : World) (a b : Addr) (v : Value) : ((w.setCell a v).cell? b).isSome = (w.cell? b).isSome := by
  by_cases e : a = b
  · subst e
    cases h : w.cell? a with
    | some u => rw [World.cell?_setCell_same w a v h]; rfl
    | none =>
      unfold World.cell? at h
      unfold World.setCell World.cell?
      simp only [Array.getElem?_modify, ↓reduceIte]
      cases hb : w.heap[a.block]? with
      | none => simp
      | some o =>
        rw [hb] at h
        cases o with
        | cells c t f =>
          simp only [Option.map_some] at h ⊢
          cases hs : a.spot.isSome with
          | true => simp
          | false =>
            simp only [hs, Bool.false_eq_true, if_false] at h ⊢
            have := Array.getElem?_eq_none_iff.1 h
            simp [this]
        | _ => simp
  · rw [World.cell?_setCell_other w a b v e]
theorem up_ {w w1 : World} (h : Below w.heap.size w w1) {a : Addr} {v : Value} (e : w.cell? a = some v) : w1.cell? a = some v := (h.cell (World.block_lt_of_cell? w _ e)).trans e
theorem far_ {w W : World} {a : Addr} {v : Value} {g j : Nat} (h : w.cell? a = some v) (hg : w.heap.size ≤ g) (u : Value) : (W.setCell ⟨g, j, none⟩ u).cell? a = W.cell? a := cell_far (p := ⟨g, j, none⟩) (Nat.ne_of_lt (Nat.lt_of_lt_of_le (World.block_lt_of_cell? w _ h) hg)) u
theorem ps_ {α : Type} : (∀ (l : List α) (i : Nat) (a : α), l.toArray.setIfInBounds i a = (l.set i a).toArray) ∧ (∀ (x : α) (l : List α) (a : α), (x :: l).set 0 a = a :: l) ∧ (∀ (x : α) (l : List α) (n : Nat) (a : α), (x :: l).set (n + 1) a = x :: l.set n a) :=
  ⟨List.setIfInBounds_toArray, fun _ _ _ => rfl, fun _ _ _ _ => rfl⟩
abbrev T_ : Bool := true
abbrev F_ : Bool := false
abbrev ba_ := @below_alloc
abbrev pn_ := @pw_below_drewN
abbrev pd_ := @below_drew1
abbrev bs_ := @below_set
abbrev kn_ := @blk_drewN
abbrev kd_ := @blk_drew
abbrev ka_ := @blk_alloc
abbrev kc_ := @blk_cell
abbrev am_ := @Aside0.mk
abbrev rn_ := @Kd.R_drewN
abbrev rd_ := @Kd.R_drew
abbrev ra_ := @Kd.R_alloc
theorem below_setRow_ {B g : Nat} {w0 w : World} (hb : Below B w0 w) (hBg : B ≤ g) (cs : Array Value) : Below B w0 (w.setRow g cs) :=
  hb.trans ⟨rfl, rfl, rfl, by simp [World.setRow], fun k hk => setRow_other w g k cs (by omega)⟩
theorem grown_set_ (w : World) (g i : Nat) (v : Value) : w.grownBy (w.setCell ⟨g, i, none⟩ v) (some g) :=
  ⟨rfl, rfl, rfl, by simp [World.setCell], fun k _ hk => Below.heap_setCell _ _ _ _ (fun e => hk (by rw [e]))⟩
theorem store_row_ {P : Program} {ops : Array Oper} {rest : List Oper} {o : Oper} {a : Act} {w : World} {Q : Exit → Act → World → Prop} (hgd : o.guard = none) (ty : TypeId) (x y : Operand) (ho : o.op = .store ty x y)
    (hd : o.dst = none) (g : Nat) (cells : Array Value) (hx : a.eval x = .pointer (some ⟨g, 0, none⟩)) (hy : a.eval y = .agg cells)
    (t : TypeId) (old : Array Value) (hg : w.heap[g]? = some (.cells old t (0, 0))) (hi : (P.info? ty).map (·.size) = some cells.size)
    (hold : old.size = cells.size) (h1 : cells.all (·.oneCell') = true) (B : Nat) (w0 : World) (hb : Below B w0 w) (hB : B ≤ g)
    (h : ∀ w', w'.heap[g]? = some (.cells cells t (0, 0)) → Below B w0 w' → w.grownBy w' (some g) → wpList P ops Q rest a w') : wpList P ops Q (o :: rest) a w :=
  wpList_store_row hgd ty x y ho g cells hx hy t old hg hi hold h1 (by
    rw [hd]
    exact h _ (setRow_heap _ _ _ _ _ _ hg) (below_setRow_ hb hB _) ⟨rfl, rfl, rfl, by simp [World.setRow], fun k _ hk => setRow_other w g k cells (fun e => hk (by rw [e]))⟩)



def errW : Option Int → Value
  | none => .nilIface
  | some c => .iface 0 (.int .i64 c)
theorem errW_none : errW none = .nilIface := rfl
theorem errW_some (c : Int) : errW (some c) = .iface 0 (.int .i64 c) := rfl

theorem info5 : (Tryd.prog.info? 5).map (fun i => (i.zero, i.size, i.bytes)) = some (some (.int .u8 0), 1, 1) := by kernel_rfl
theorem info9 : (Tryd.prog.info? 9).map (fun i => (i.zero, i.size, i.bytes)) = some (some (.string ⟨#[]⟩), 1, 16) := by kernel_rfl
theorem info22 : (Tryd.prog.info? 22).map (fun i => (i.zero, i.size, i.bytes)) = some (some (.int .u64 0), 1, 8) := by kernel_rfl
-- the values' own types
/-! #### struct type 24 -/
structure S24 where
  f0 : Int
  f1 : Int
  f2 : Int
  f3 : Int
  f4 : Int
  f5 : Int
  f6 : Int
  f7 : Int
  f8 : Int
  f9 : Int
  f10 : Int
  f11 : ByteArray
def z24 : S24 := ⟨(0 : Int), (0 : Int), (0 : Int), (0 : Int), (0 : Int), (0 : Int), (0 : Int), (0 : Int), (0 : Int), (0 : Int), (0 : Int), (⟨#[]⟩ : ByteArray)⟩
def k24 : Kd S24 := Kd.iso (Kd.pair (Kd.int .u64) (Kd.pair (Kd.int .u64) (Kd.pair (Kd.int .u64) (Kd.pair (Kd.int .u64) (Kd.pair (Kd.int .u64) (Kd.pair (Kd.int .u64) (Kd.pair (Kd.int .u64) (Kd.pair (Kd.int .u64) (Kd.pair (Kd.int .u64) (Kd.pair (Kd.int .u64) (Kd.pair (Kd.int .u64) Kd.string))))))))))) (fun x : S24 => (x.f0, x.f1, x.f2, x.f3, x.f4, x.f5, x.f6, x.f7, x.f8, x.f9, x.f10, x.f11))
theorem k24_open {w : World} {x : S24} {cs : List Value} (h : k24.K w x cs) : cs = [.int .u64 x.f0, .int .u64 x.f1, .int .u64 x.f2, .int .u64 x.f3, .int .u64 x.f4, .int .u64 x.f5, .int .u64 x.f6, .int .u64 x.f7, .int .u64 x.f8, .int .u64 x.f9, .int .u64 x.f10, .string x.f11] := by
  obtain ⟨_, _, rfl, rfl, ⟨_, _, rfl, rfl, ⟨_, _, rfl, rfl, ⟨_, _, rfl, rfl, ⟨_, _, rfl, rfl, ⟨_, _, rfl, rfl, ⟨_, _, rfl, rfl, ⟨_, _, rfl, rfl, ⟨_, _, rfl, rfl, ⟨_, _, rfl, rfl, ⟨_, _, rfl, rfl, rfl⟩⟩⟩⟩⟩⟩⟩⟩⟩⟩⟩ := h
  exact rfl
theorem k24_openM {w : World} {base : Nat} {ok : Nat → Prop} {x : S24} {cs : List Value} (h : k24.M w base ok x cs) : cs = [.int .u64 x.f0, .int .u64 x.f1, .int .u64 x.f2, .int .u64 x.f3, .int .u64 x.f4, .int .u64 x.f5, .int .u64 x.f6, .int .u64 x.f7, .int .u64 x.f8, .int .u64 x.f9, .int .u64 x.f10, .string x.f11] := by
  obtain ⟨_, _, rfl, rfl, ⟨_, _, rfl, rfl, ⟨_, _, rfl, rfl, ⟨_, _, rfl, rfl, ⟨_, _, rfl, rfl, ⟨_, _, rfl, rfl, ⟨_, _, rfl, rfl, ⟨_, _, rfl, rfl, ⟨_, _, rfl, rfl, ⟨_, _, rfl, rfl, ⟨_, _, rfl, rfl, rfl⟩⟩⟩⟩⟩⟩⟩⟩⟩⟩⟩ := h
  exact rfl
theorem k24_mk (w : World) (x : S24)  : k24.K w x [.int .u64 x.f0, .int .u64 x.f1, .int .u64 x.f2, .int .u64 x.f3, .int .u64 x.f4, .int .u64 x.f5, .int .u64 x.f6, .int .u64 x.f7, .int .u64 x.f8, .int .u64 x.f9, .int .u64 x.f10, .string x.f11] := ⟨[.int .u64 x.f0], [.int .u64 x.f1, .int .u64 x.f2, .int .u64 x.f3, .int .u64 x.f4, .int .u64 x.f5, .int .u64 x.f6, .int .u64 x.f7, .int .u64 x.f8, .int .u64 x.f9, .int .u64 x.f10, .string x.f11], rfl, rfl, ⟨[.int .u64 x.f1], [.int .u64 x.f2, .int .u64 x.f3, .int .u64 x.f4, .int .u64 x.f5, .int .u64 x.f6, .int .u64 x.f7, .int .u64 x.f8, .int .u64 x.f9, .int .u64 x.f10, .string x.f11], rfl, rfl, ⟨[.int .u64 x.f2], [.int .u64 x.f3, .int .u64 x.f4, .int .u64 x.f5, .int .u64 x.f6, .int .u64 x.f7, .int .u64 x.f8, .int .u64 x.f9, .int .u64 x.f10, .string x.f11], rfl, rfl, ⟨[.int .u64 x.f3], [.int .u64 x.f4, .int .u64 x.f5, .int .u64 x.f6, .int .u64 x.f7, .int .u64 x.f8, .int .u64 x.f9, .int .u64 x.f10, .string x.f11], rfl, rfl, ⟨[.int .u64 x.f4], [.int .u64 x.f5, .int .u64 x.f6, .int .u64 x.f7, .int .u64 x.f8, .int .u64 x.f9, .int .u64 x.f10, .string x.f11], rfl, rfl, ⟨[.int .u64 x.f5], [.int .u64 x.f6, .int .u64 x.f7, .int .u64 x.f8, .int .u64 x.f9, .int .u64 x.f10, .string x.f11], rfl, rfl, ⟨[.int .u64 x.f6], [.int .u64 x.f7, .int .u64 x.f8, .int .u64 x.f9, .int .u64 x.f10, .string x.f11], rfl, rfl, ⟨[.int .u64 x.f7], [.int .u64 x.f8, .int .u64 x.f9, .int .u64 x.f10, .string x.f11], rfl, rfl, ⟨[.int .u64 x.f8], [.int .u64 x.f9, .int .u64 x.f10, .string x.f11], rfl, rfl, ⟨[.int .u64 x.f9], [.int .u64 x.f10, .string x.f11], rfl, rfl, ⟨[.int .u64 x.f10], [.string x.f11], rfl, rfl, rfl⟩⟩⟩⟩⟩⟩⟩⟩⟩⟩⟩
theorem k24_mkM (w : World) (base : Nat) (ok : Nat → Prop) (x : S24)  : k24.M w base ok x [.int .u64 x.f0, .int .u64 x.f1, .int .u64 x.f2, .int .u64 x.f3, .int .u64 x.f4, .int .u64 x.f5, .int .u64 x.f6, .int .u64 x.f7, .int .u64 x.f8, .int .u64 x.f9, .int .u64 x.f10, .string x.f11] := ⟨[.int .u64 x.f0], [.int .u64 x.f1, .int .u64 x.f2, .int .u64 x.f3, .int .u64 x.f4, .int .u64 x.f5, .int .u64 x.f6, .int .u64 x.f7, .int .u64 x.f8, .int .u64 x.f9, .int .u64 x.f10, .string x.f11], rfl, rfl, ⟨[.int .u64 x.f1], [.int .u64 x.f2, .int .u64 x.f3, .int .u64 x.f4, .int .u64 x.f5, .int .u64 x.f6, .int .u64 x.f7, .int .u64 x.f8, .int .u64 x.f9, .int .u64 x.f10, .string x.f11], rfl, rfl, ⟨[.int .u64 x.f2], [.int .u64 x.f3, .int .u64 x.f4, .int .u64 x.f5, .int .u64 x.f6, .int .u64 x.f7, .int .u64 x.f8, .int .u64 x.f9, .int .u64 x.f10, .string x.f11], rfl, rfl, ⟨[.int .u64 x.f3], [.int .u64 x.f4, .int .u64 x.f5, .int .u64 x.f6, .int .u64 x.f7, .int .u64 x.f8, .int .u64 x.f9, .int .u64 x.f10, .string x.f11], rfl, rfl, ⟨[.int .u64 x.f4], [.int .u64 x.f5, .int .u64 x.f6, .int .u64 x.f7, .int .u64 x.f8, .int .u64 x.f9, .int .u64 x.f10, .string x.f11], rfl, rfl, ⟨[.int .u64 x.f5], [.int .u64 x.f6, .int .u64 x.f7, .int .u64 x.f8, .int .u64 x.f9, .int .u64 x.f10, .string x.f11], rfl, rfl, ⟨[.int .u64 x.f6], [.int .u64 x.f7, .int .u64 x.f8, .int .u64 x.f9, .int .u64 x.f10, .string x.f11], rfl, rfl, ⟨[.int .u64 x.f7], [.int .u64 x.f8, .int .u64 x.f9, .int .u64 x.f10, .string x.f11], rfl, rfl, ⟨[.int .u64 x.f8], [.int .u64 x.f9, .int .u64 x.f10, .string x.f11], rfl, rfl, ⟨[.int .u64 x.f9], [.int .u64 x.f10, .string x.f11], rfl, rfl, ⟨[.int .u64 x.f10], [.string x.f11], rfl, rfl, rfl⟩⟩⟩⟩⟩⟩⟩⟩⟩⟩⟩
def rd_T24 (xs : List S24) (i : Int) : S24 := xs.getD i.toNat z24
theorem at_T24 {w : World} {A : Option Addr} {n : Nat} {xs : List S24} (h : Kd.C k24 w A n xs) (i : Int) (h0 : 0 ≤ i) (h1 : i < n) : ∃ ad , A = some ad ∧ w.cell? (ad.add (i.toNat * 12)) = some (.int .u64 (rd_T24 xs i).f0) ∧ w.cell? ⟨(ad.add (i.toNat * 12)).block, (ad.add (i.toNat * 12)).off + 1, none⟩ = some (.int .u64 (rd_T24 xs i).f1) ∧ w.cell? ⟨(ad.add (i.toNat * 12)).block, (ad.add (i.toNat * 12)).off + 2, none⟩ = some (.int .u64 (rd_T24 xs i).f2) ∧ w.cell? ⟨(ad.add (i.toNat * 12)).block, (ad.add (i.toNat * 12)).off + 3, none⟩ = some (.int .u64 (rd_T24 xs i).f3) ∧ w.cell? ⟨(ad.add (i.toNat * 12)).block, (ad.add (i.toNat * 12)).off + 4, none⟩ = some (.int .u64 (rd_T24 xs i).f4) ∧ w.cell? ⟨(ad.add (i.toNat * 12)).block, (ad.add (i.toNat * 12)).off + 5, none⟩ = some (.int .u64 (rd_T24 xs i).f5) ∧ w.cell? ⟨(ad.add (i.toNat * 12)).block, (ad.add (i.toNat * 12)).off + 6, none⟩ = some (.int .u64 (rd_T24 xs i).f6) ∧ w.cell? ⟨(ad.add (i.toNat * 12)).block, (ad.add (i.toNat * 12)).off + 7, none⟩ = some (.int .u64 (rd_T24 xs i).f7) ∧ w.cell? ⟨(ad.add (i.toNat * 12)).block, (ad.add (i.toNat * 12)).off + 8, none⟩ = some (.int .u64 (rd_T24 xs i).f8) ∧ w.cell? ⟨(ad.add (i.toNat * 12)).block, (ad.add (i.toNat * 12)).off + 9, none⟩ = some (.int .u64 (rd_T24 xs i).f9) ∧ w.cell? ⟨(ad.add (i.toNat * 12)).block, (ad.add (i.toNat * 12)).off + 10, none⟩ = some (.int .u64 (rd_T24 xs i).f10) ∧ w.cell? ⟨(ad.add (i.toNat * 12)).block, (ad.add (i.toNat * 12)).off + 11, none⟩ = some (.string (rd_T24 xs i).f11) := by
  obtain ⟨ad, c, e, _, hK, hc0⟩ := Kd.C_get h z24 i h0 h1
  have hc : ∀ j u, c[j]? = some u → w.cell? (ad.add (i.toNat * 12 + j)) = some u := hc0
  obtain rfl := k24_open hK
  exact ⟨ad, e, hc 0 _ rfl, by rw [← add_field _ _ 1 (by omega)]; exact hc 1 _ rfl, by rw [← add_field _ _ 2 (by omega)]; exact hc 2 _ rfl, by rw [← add_field _ _ 3 (by omega)]; exact hc 3 _ rfl, by rw [← add_field _ _ 4 (by omega)]; exact hc 4 _ rfl, by rw [← add_field _ _ 5 (by omega)]; exact hc 5 _ rfl, by rw [← add_field _ _ 6 (by omega)]; exact hc 6 _ rfl, by rw [← add_field _ _ 7 (by omega)]; exact hc 7 _ rfl, by rw [← add_field _ _ 8 (by omega)]; exact hc 8 _ rfl, by rw [← add_field _ _ 9 (by omega)]; exact hc 9 _ rfl, by rw [← add_field _ _ 10 (by omega)]; exact hc 10 _ rfl, by rw [← add_field _ _ 11 (by omega)]; exact hc 11 _ rfl⟩

def rd_L4 (xs : List (List Int)) (i : Int) : (List Int) := xs.getD i.toNat ([] : List Int)
theorem at_L4 {w : World} {A : Option Addr} {n : Nat} {xs : List (List Int)} (h : Kd.C (Kd.slice 22 (Kd.int .u64)) w A n xs) (i : Int) (h0 : 0 ≤ i) (h1 : i < n) : ∃ ad A0 c0, A = some ad ∧ w.cell? (ad.add i.toNat) = some (.slice A0 (rd_L4 xs i).length c0) ∧ (rd_L4 xs i).length ≤ c0 ∧ (Kd.int .u64).C w A0 (rd_L4 xs i).length (rd_L4 xs i) := by
  obtain ⟨ad, c, e, _, hK, hc0⟩ := Kd.C_get h ([] : List Int) i h0 h1
  have hc : ∀ j u, c[j]? = some u → w.cell? (ad.add (i.toNat * 1 + j)) = some u := hc0
  obtain ⟨A0, c0, rfl, l0, g0⟩ := hK
  exact ⟨ad, A0, c0, e, by have hq := hc 0 _ rfl; rwa [Nat.mul_one, Nat.add_zero] at hq, l0, g0⟩

abbrev kk0_ : Array Value := #[.int .u64 0,.int .u64 0,.int .u64 0,.int .u64 0,.int .u64 0,.int .u64 0,.int .u64 0,.int .u64 0,.int .u64 0,.int .u64 0,.int .u64 0,.string (⟨#[]⟩ : ByteArray)]
abbrev kk1_ : Array Value := #[.int .u64 0,.int .u64 65527,.int .u64 0,.int .u64 0,.int .u64 0,.int .u64 0,.int .u64 0,.int .u64 0,.int .u64 0,.int .u64 0,.int .u64 0,.string (⟨#[]⟩ : ByteArray)]
abbrev kk2_ : Array Value := #[.int .u64 0,.int .u64 65527,.int .u64 0,.int .u64 0,.int .u64 0,.int .u64 0,.int .u64 0,.int .u64 0,.int .u64 3,.int .u64 25,.int .u64 2,.string (⟨#[]⟩ : ByteArray)]
abbrev kk3_ : Array Value := #[.pointer none,.pointer none,.pointer none,.pointer none,.pointer none,.pointer none,.pointer none,.pointer none,.pointer none,.pointer none,.pointer none,.pointer none,.pointer none,.pointer none,.pointer none]

theorem cs12f_ {w : World} {g : Nat} {t : TypeId} {v0 v1 v2 v3 v4 v5 v6 v7 v8 v9 v10 v11 : Value} (h : w.heap[g]? = some (.cells #[v0, v1, v2, v3, v4, v5, v6, v7, v8, v9, v10, v11] t (0, 0))) : w.cell? ⟨g, 0, none⟩ = some v0 ∧ w.cell? ⟨g, 1, none⟩ = some v1 ∧ w.cell? ⟨g, 2, none⟩ = some v2 ∧ w.cell? ⟨g, 3, none⟩ = some v3 ∧ w.cell? ⟨g, 4, none⟩ = some v4 ∧ w.cell? ⟨g, 5, none⟩ = some v5 ∧ w.cell? ⟨g, 6, none⟩ = some v6 ∧ w.cell? ⟨g, 7, none⟩ = some v7 ∧ w.cell? ⟨g, 8, none⟩ = some v8 ∧ w.cell? ⟨g, 9, none⟩ = some v9 ∧ w.cell? ⟨g, 10, none⟩ = some v10 ∧ w.cell? ⟨g, 11, none⟩ = some v11 ∧ w.frozen? ⟨g, 0, none⟩ = false ∧ w.frozen? ⟨g, 1, none⟩ = false ∧ w.frozen? ⟨g, 2, none⟩ = false ∧ w.frozen? ⟨g, 3, none⟩ = false ∧ w.frozen? ⟨g, 4, none⟩ = false ∧ w.frozen? ⟨g, 5, none⟩ = false ∧ w.frozen? ⟨g, 6, none⟩ = false ∧ w.frozen? ⟨g, 7, none⟩ = false ∧ w.frozen? ⟨g, 8, none⟩ = false ∧ w.frozen? ⟨g, 9, none⟩ = false ∧ w.frozen? ⟨g, 10, none⟩ = false ∧ w.frozen? ⟨g, 11, none⟩ = false :=
  ⟨(blk_cell h 0).trans rfl, (blk_cell h 1).trans rfl, (blk_cell h 2).trans rfl, (blk_cell h 3).trans rfl, (blk_cell h 4).trans rfl, (blk_cell h 5).trans rfl, (blk_cell h 6).trans rfl, (blk_cell h 7).trans rfl, (blk_cell h 8).trans rfl, (blk_cell h 9).trans rfl, (blk_cell h 10).trans rfl, (blk_cell h 11).trans rfl, blk_frozen h 0, blk_frozen h 1, blk_frozen h 2, blk_frozen h 3, blk_frozen h 4, blk_frozen h 5, blk_frozen h 6, blk_frozen h 7, blk_frozen h 8, blk_frozen h 9, blk_frozen h 10, blk_frozen h 11⟩

end Go.Proofs.YthbnedjcaflofaaDoor.PPax
