-- printed for this claim by a program of the claim (wip/tools/pp.py over the kit's print)
import Derived.Test.YtghdmlcmoeoohaaProg
import Derived.Below
import Derived.Deep.Draws
import Derived.Deep.AppendLies
import Derived.Maps.AppendAt
import Derived.OwnWalk
import Derived.Laws.BytesArg
import Derived.Laws.MakeOwn
import Derived.Laws.OwnMore
import Derived.Deep.OwnRows
import Derived.Tactics
import Derived.Lib.ConvBytes
import Derived.Laws.Slices
import Derived.WalkKit
import Derived.KernelRfl
import Derived.RowKit3
import Derived.Deep.LoopGhost
import Derived.Deep.QuietTactic
import Derived.BigQuiet
import Derived.WideLaws
import Derived.Deep.DeepCutAuto
import Derived.Deep.CutBlock
import Derived.Deep.RegionHeld3
import Derived.Laws.Rows
import Derived.Lib.AppendStr
import Derived.ArgAppend
import Derived.Laws.IdiomCopy
import Derived.OrdersHeld
import Derived.Laws.BitsLemmas
import Derived.RowKit
import Derived.Lib.Builder
import Derived.Lib.UnsafeStr
import Derived.Laws.Externs
import Derived.RegionTactic
import Derived.StillTailTactics
import Derived.Lib.BitFns
import Derived.Lib.ItoaNum
import Derived.Lib.TrailingZeros
import Derived.Lib.ConvBytes
import Derived.Laws.CopyOwn
import Derived.Deep.MidRow
import Derived.Lib.AppendZeros
import Derived.Test.YtghdmlcmoeoohaaShelf
import Derived.Test.YtghdmlcmoeoohaaWWords
import Derived.Test.YtghdmlcmoeoohaaWLast
import Derived.Test.YtghdmlcmoeoohaaWTab
import Derived.Test.YtghdmlcmoeoohaaWFour
import Derived.Test.YtghdmlcmoeoohaaWQPut
import Derived.Test.YtghdmlcmoeoohaaWApart
import Derived.Test.YtghdmlcmoeoohaaWArr
import Derived.Test.YtghdmlcmoeoohaaWZeros
import Derived.Test.YtghdmlcmoeoohaaWFoot
import Derived.Test.YtghdmlcmoeoohaaWKept
import Derived.Test.YtghdmlcmoeoohaaWShare
import Derived.Test.YtghdmlcmoeoohaaWN
import Derived.Test.YtghdmlcmoeoohaaWFootNe
import Derived.Test.YtghdmlcmoeoohaaWAt
import Derived.Test.YtghdmlcmoeoohaaWEqStruct
import Derived.Test.YtghdmlcmoeoohaaWRepsOne
import Derived.Test.YtghdmlcmoeoohaaWInv
import Derived.Test.YtghdmlcmoeoohaaWInvWords
import Derived.Test.YtghdmlcmoeoohaaWGuard
import Derived.Test.YtghdmlcmoeoohaaWNEv
import Derived.Test.YtghdmlcmoeoohaaWMore
namespace Go.Proofs.Ytghdmlcmoeoohaa.PKfx
open Go.RowKit Go.Proofs.YtghdmlcmoeoohaaW.PrintWords Go.Proofs.YtghdmlcmoeoohaaW.PrintLast Go.Proofs.YtghdmlcmoeoohaaW.PrintMore
attribute [local go_sem] max2_int min2_int max_two min_two max_three min_three max_four min_four   -- for this text's walks alone
set_option linter.unusedVariables false
set_option linter.unusedSimpArgs false

theorem wrap_le_ {k : IntKind} {m : Int} (hk : k.signed = false) (hm : (2 : Int) ^ k.bits = m + 1) (n : Int) : k.wrap n ≤ m := by
  unfold IntKind.wrap
  simp only [hk, Bool.false_and, Bool.false_eq_true, if_false]
  have h := Int.emod_lt_of_pos n (b := (2 : Int) ^ k.bits) (Int.pow_pos (by decide))
  omega
theorem wrap_nn_ {k : IntKind} (hk : k.signed = false) (n : Int) : 0 ≤ k.wrap n := by
  unfold IntKind.wrap
  simp only [hk, Bool.false_and, Bool.false_eq_true, if_false]
  exact Int.emod_nonneg _ (Int.ne_of_gt (Int.pow_pos (by decide)))
theorem isSome_setCell_ (w : World) (a b : Addr) (v : Value) : ((w.setCell a v).cell? b).isSome = (w.cell? b).isSome := by
  by_cases e : a = b
  · subst e
    cases h : w.cell? a with
    | some u => rw [World.cell?_setCell_same w a v h]; rfl
    | none =>
      unfold World.cell? at h
      unfold World.setCell World.cell?
      simp only [Array.getElem?_modify, ↓reduceIte]
      cases hb : w.heap[a.block]? with
      | none => simp
      | some o =>
        rw [hb] at h
        cases o with
        | cells c t f =>
          simp only [Option.map_some] at h ⊢
          cases hs : a.spot.isSome with
          | true => simp
          | false =>
            simp only [hs, Bool.false_eq_true, if_false] at h ⊢
            have := Array.getElem?_eq_none_iff.1 h
            simp [this]
        | _ => simp
  · rw [World.cell?_setCell_other w a b v e]
theorem up_ {w w1 : World} (h : Below w.heap.size w w1) {a : Addr} {v : Value} (e : w.cell? a = some v) : w1.cell? a = some v := (h.cell (World.block_lt_of_cell? w _ e)).trans e
theorem far_ {w W : World} {a : Addr} {v : Value} {g j : Nat} (h : w.cell? a = some v) (hg : w.heap.size ≤ g) (u : Value) : (W.setCell ⟨g, j, none⟩ u).cell? a = W.cell? a := cell_far (p := ⟨g, j, none⟩) (Nat.ne_of_lt (Nat.lt_of_lt_of_le (World.block_lt_of_cell? w _ h) hg)) u
theorem ps_ {α : Type} : (∀ (l : List α) (i : Nat) (a : α), l.toArray.setIfInBounds i a = (l.set i a).toArray) ∧ (∀ (x : α) (l : List α) (a : α), (x :: l).set 0 a = a :: l) ∧ (∀ (x : α) (l : List α) (n : Nat) (a : α), (x :: l).set (n + 1) a = x :: l.set n a) :=
  ⟨List.setIfInBounds_toArray, fun _ _ _ => rfl, fun _ _ _ _ => rfl⟩
abbrev T_ : Bool := true
abbrev F_ : Bool := false
abbrev ba_ := @below_alloc
abbrev pn_ := @pw_below_drewN
abbrev pd_ := @below_drew1
abbrev bs_ := @below_set
abbrev kn_ := @blk_drewN
abbrev kd_ := @blk_drew
abbrev ka_ := @blk_alloc
abbrev kc_ := @blk_cell
abbrev am_ := @Aside0.mk
abbrev rn_ := @Kd.R_drewN
abbrev rd_ := @Kd.R_drew
abbrev ra_ := @Kd.R_alloc
theorem below_setRow_ {B g : Nat} {w0 w : World} (hb : Below B w0 w) (hBg : B ≤ g) (cs : Array Value) : Below B w0 (w.setRow g cs) :=
  hb.trans ⟨rfl, rfl, rfl, by simp [World.setRow], fun k hk => setRow_other w g k cs (by omega)⟩
theorem grown_set_ (w : World) (g i : Nat) (v : Value) : w.grownBy (w.setCell ⟨g, i, none⟩ v) (some g) :=
  ⟨rfl, rfl, rfl, by simp [World.setCell], fun k _ hk => Below.heap_setCell _ _ _ _ (fun e => hk (by rw [e]))⟩
theorem store_row_ {P : Program} {ops : Array Oper} {rest : List Oper} {o : Oper} {a : Act} {w : World} {Q : Exit → Act → World → Prop} (hgd : o.guard = none) (ty : TypeId) (x y : Operand) (ho : o.op = .store ty x y)
    (hd : o.dst = none) (g : Nat) (cells : Array Value) (hx : a.eval x = .pointer (some ⟨g, 0, none⟩)) (hy : a.eval y = .agg cells)
    (t : TypeId) (old : Array Value) (hg : w.heap[g]? = some (.cells old t (0, 0))) (hi : (P.info? ty).map (·.size) = some cells.size)
    (hold : old.size = cells.size) (h1 : cells.all (·.oneCell') = true) (B : Nat) (w0 : World) (hb : Below B w0 w) (hB : B ≤ g)
    (h : ∀ w', w'.heap[g]? = some (.cells cells t (0, 0)) → Below B w0 w' → w.grownBy w' (some g) → wpList P ops Q rest a w') : wpList P ops Q (o :: rest) a w :=
  wpList_store_row hgd ty x y ho g cells hx hy t old hg hi hold h1 (by
    rw [hd]
    exact h _ (setRow_heap _ _ _ _ _ _ hg) (below_setRow_ hb hB _) ⟨rfl, rfl, rfl, by simp [World.setRow], fun k _ hk => setRow_other w g k cells (fun e => hk (by rw [e]))⟩)



def errW : Option Int → Value
  | none => .nilIface
  | some c => .iface 0 (.int .i64 c)
theorem errW_none : errW none = .nilIface := rfl
theorem errW_some (c : Int) : errW (some c) = .iface 0 (.int .i64 c) := rfl

theorem info5 : (Try.prog.info? 5).map (fun i => (i.zero, i.size, i.bytes)) = some (some (.int .u8 0), 1, 1) := by kernel_rfl
theorem info9 : (Try.prog.info? 9).map (fun i => (i.zero, i.size, i.bytes)) = some (some (.string ⟨#[]⟩), 1, 16) := by kernel_rfl
-- the values' own types
def rd_L1 (xs : List (List ByteArray)) (i : Int) : (List ByteArray) := xs.getD i.toNat ([] : List ByteArray)
theorem at_L1 {w : World} {A : Option Addr} {n : Nat} {xs : List (List ByteArray)} (h : Kd.C (Kd.slice 9 Kd.string) w A n xs) (i : Int) (h0 : 0 ≤ i) (h1 : i < n) : ∃ ad A0 c0, A = some ad ∧ w.cell? (ad.add i.toNat) = some (.slice A0 (rd_L1 xs i).length c0) ∧ (rd_L1 xs i).length ≤ c0 ∧ Kd.string.C w A0 (rd_L1 xs i).length (rd_L1 xs i) := by
  obtain ⟨ad, c, e, _, hK, hc0⟩ := Kd.C_get h ([] : List ByteArray) i h0 h1
  have hc : ∀ j u, c[j]? = some u → w.cell? (ad.add (i.toNat * 1 + j)) = some u := hc0
  obtain ⟨A0, c0, rfl, l0, g0⟩ := hK
  exact ⟨ad, A0, c0, e, by have hq := hc 0 _ rfl; rwa [Nat.mul_one, Nat.add_zero] at hq, l0, g0⟩

end Go.Proofs.Ytghdmlcmoeoohaa.PKfx
