-- printed for this claim by a program of the claim (wip/tools/pp.py over the kit's print)
import Derived.Test.YtlcfjimgnfcdkaaProg
import Derived.Below
import Derived.Deep.Draws
import Derived.Deep.AppendLies
import Derived.Maps.AppendAt
import Derived.OwnWalk
import Derived.Laws.BytesArg
import Derived.Laws.MakeOwn
import Derived.Laws.OwnMore
import Derived.Deep.OwnRows
import Derived.Tactics
import Derived.Lib.ConvBytes
import Derived.Laws.Slices
import Derived.WalkKit
import Derived.KernelRfl
import Derived.RowKit3
import Derived.Deep.LoopGhost
import Derived.Deep.QuietTactic
import Derived.BigQuiet
import Derived.WideLaws
import Derived.Deep.DeepCutAuto
import Derived.Deep.CutBlock
import Derived.Deep.RegionHeld3
import Derived.Laws.Rows
import Derived.Lib.AppendStr
import Derived.ArgAppend
import Derived.Laws.IdiomCopy
import Derived.OrdersHeld
import Derived.Laws.BitsLemmas
import Derived.RowKit
import Derived.Lib.Builder
import Derived.Lib.UnsafeStr
import Derived.Laws.Externs
import Derived.RegionTactic
import Derived.StillTailTactics
import Derived.Lib.BitFns
import Derived.Lib.ItoaNum
import Derived.Lib.TrailingZeros
import Derived.Lib.ConvBytes
import Derived.Laws.CopyOwn
import Derived.Deep.MidRow
import Derived.Lib.AppendZeros
import Derived.Test.YtlcfjimgnfcdkaaShelf
import Derived.Test.YtlcfjimgnfcdkaaLen64
import Derived.Test.YtlcfjimgnfcdkaaRangesA
import Derived.Test.YtlcfjimgnfcdkaaRangesB
import Derived.Test.YtlcfjimgnfcdkaaRangesC
import Derived.Test.YtlcfjimgnfcdkaaWWords
import Derived.Test.YtlcfjimgnfcdkaaWLast
import Derived.Test.YtlcfjimgnfcdkaaWTab
import Derived.Test.YtlcfjimgnfcdkaaWFour
import Derived.Test.YtlcfjimgnfcdkaaWQPut
import Derived.Test.YtlcfjimgnfcdkaaWApart
import Derived.Test.YtlcfjimgnfcdkaaWArr
import Derived.Test.YtlcfjimgnfcdkaaWZeros
import Derived.Test.YtlcfjimgnfcdkaaWFoot
import Derived.Test.YtlcfjimgnfcdkaaWKept
import Derived.Test.YtlcfjimgnfcdkaaWShare
import Derived.Test.YtlcfjimgnfcdkaaWN
import Derived.Test.YtlcfjimgnfcdkaaWFootNe
import Derived.Test.YtlcfjimgnfcdkaaWAt
import Derived.Test.YtlcfjimgnfcdkaaWEqStruct
import Derived.Test.YtlcfjimgnfcdkaaWRepsOne
import Derived.Test.YtlcfjimgnfcdkaaWInv
import Derived.Test.YtlcfjimgnfcdkaaWInvWords
import Derived.Test.YtlcfjimgnfcdkaaWGuard
import Derived.Test.YtlcfjimgnfcdkaaWNEv
import Derived.Test.YtlcfjimgnfcdkaaWMore
namespace Go.Proofs.Ytlcfjimgnfcdkaa.PAko
open Go.RowKit Go.Proofs.YtlcfjimgnfcdkaaW.PrintWords Go.Proofs.YtlcfjimgnfcdkaaW.PrintLast Go.Proofs.YtlcfjimgnfcdkaaW.PrintMore
attribute [local go_sem] max2_int min2_int max_two min_two max_three min_three max_four min_four   -- for this text's walks alone
set_option linter.unusedVariables false
set_option linter.unusedSimpArgs false

theorem wrap_le_ {k : IntKind} {m : Int} (hk : k.signed = false) (hm : (2 : Int) ^ k.bits = m + 1) (n : Int) : k.wrap n ≤ m := by
  unfold IntKind.wrap
  simp only [hk, Bool.false_and, Bool.false_eq_true, if_false]
  have h := Int.emod_lt_of_pos n (b := (2 : Int) ^ k.bits) (Int.pow_pos (by decide))
  omega
theorem wrap_nn_ {k : IntKind} (hk : k.signed = false) (n : Int) : 0 ≤ k.wrap n := by
  unfold IntKind.wrap
  simp only [hk, Bool.false_and, Bool.false_eq_true, if_false]
  exact Int.emod_nonneg _ (Int.ne_of_gt (Int.pow_pos (by decide)))
theorem isSome_setCell_ (w : World) (a b : Addr) (v : Value) : ((w.setCell a v).cell? b).isSome = (w.cell? b).isSome := by
  by_cases e : a = b
  · subst e
    cases h : w.cell? a with
    | some u => rw [World.cell?_setCell_same w a v h]; rfl
    | none =>
      unfold World.cell? at h
      unfold World.setCell World.cell?
      simp only [Array.getElem?_modify, ↓reduceIte]
      cases hb : w.heap[a.block]? with
      | none => simp
      | some o =>
        rw [hb] at h
        cases o with
        | cells c t f =>
          simp only [Option.map_some] at h ⊢
          cases hs : a.spot.isSome with
          | true => simp
          | false =>
            simp only [hs, Bool.false_eq_true, if_false] at h ⊢
            have := Array.getElem?_eq_none_iff.1 h
            simp [this]
        | _ => simp
  · rw [World.cell?_setCell_other w a b v e]
theorem up_ {w w1 : World} (h : Below w.heap.size w w1) {a : Addr} {v : Value} (e : w.cell? a = some v) : w1.cell? a = some v := (h.cell (World.block_lt_of_cell? w _ e)).trans e
theorem far_ {w W : World} {a : Addr} {v : Value} {g j : Nat} (h : w.cell? a = some v) (hg : w.heap.size ≤ g) (u : Value) : (W.setCell ⟨g, j, none⟩ u).cell? a = W.cell? a := cell_far (p := ⟨g, j, none⟩) (Nat.ne_of_lt (Nat.lt_of_lt_of_le (World.block_lt_of_cell? w _ h) hg)) u
theorem ps_ {α : Type} : (∀ (l : List α) (i : Nat) (a : α), l.toArray.setIfInBounds i a = (l.set i a).toArray) ∧ (∀ (x : α) (l : List α) (a : α), (x :: l).set 0 a = a :: l) ∧ (∀ (x : α) (l : List α) (n : Nat) (a : α), (x :: l).set (n + 1) a = x :: l.set n a) :=
  ⟨List.setIfInBounds_toArray, fun _ _ _ => rfl, fun _ _ _ _ => rfl⟩
abbrev T_ : Bool := true
abbrev F_ : Bool := false
abbrev ba_ := @below_alloc
abbrev pn_ := @pw_below_drewN
abbrev pd_ := @below_drew1
abbrev bs_ := @below_set
abbrev kn_ := @blk_drewN
abbrev kd_ := @blk_drew
abbrev ka_ := @blk_alloc
abbrev kc_ := @blk_cell
abbrev am_ := @Aside0.mk
abbrev rn_ := @Kd.R_drewN
abbrev rd_ := @Kd.R_drew
abbrev ra_ := @Kd.R_alloc
theorem below_setRow_ {B g : Nat} {w0 w : World} (hb : Below B w0 w) (hBg : B ≤ g) (cs : Array Value) : Below B w0 (w.setRow g cs) :=
  hb.trans ⟨rfl, rfl, rfl, by simp [World.setRow], fun k hk => setRow_other w g k cs (by omega)⟩
theorem grown_set_ (w : World) (g i : Nat) (v : Value) : w.grownBy (w.setCell ⟨g, i, none⟩ v) (some g) :=
  ⟨rfl, rfl, rfl, by simp [World.setCell], fun k _ hk => Below.heap_setCell _ _ _ _ (fun e => hk (by rw [e]))⟩
theorem store_row_ {P : Program} {ops : Array Oper} {rest : List Oper} {o : Oper} {a : Act} {w : World} {Q : Exit → Act → World → Prop} (hgd : o.guard = none) (ty : TypeId) (x y : Operand) (ho : o.op = .store ty x y)
    (hd : o.dst = none) (g : Nat) (cells : Array Value) (hx : a.eval x = .pointer (some ⟨g, 0, none⟩)) (hy : a.eval y = .agg cells)
    (t : TypeId) (old : Array Value) (hg : w.heap[g]? = some (.cells old t (0, 0))) (hi : (P.info? ty).map (·.size) = some cells.size)
    (hold : old.size = cells.size) (h1 : cells.all (·.oneCell') = true) (B : Nat) (w0 : World) (hb : Below B w0 w) (hB : B ≤ g)
    (h : ∀ w', w'.heap[g]? = some (.cells cells t (0, 0)) → Below B w0 w' → w.grownBy w' (some g) → wpList P ops Q rest a w') : wpList P ops Q (o :: rest) a w :=
  wpList_store_row hgd ty x y ho g cells hx hy t old hg hi hold h1 (by
    rw [hd]
    exact h _ (setRow_heap _ _ _ _ _ _ hg) (below_setRow_ hb hB _) ⟨rfl, rfl, rfl, by simp [World.setRow], fun k _ hk => setRow_other w g k cells (fun e => hk (by rw [e]))⟩)



def errW : Option Int → Value
  | none => .nilIface
  | some c => .iface 0 (.int .i64 c)
theorem errW_none : errW none = .nilIface := rfl
theorem errW_some (c : Int) : errW (some c) = .iface 0 (.int .i64 c) := rfl

theorem info87 : (Try.prog.info? 87).map (fun i => (i.zero, i.size, i.bytes)) = some (some (.agg #[(.int .u64 0), (.int .i64 0)]), 2, 16) := by kernel_rfl
-- the values' own types
/-! #### struct type 44 -/
structure S44 where
  f0 : Int
  f1 : Int
def z44 : S44 := ⟨(0 : Int), (0 : Int)⟩
def k44 : Kd S44 := Kd.iso (Kd.pair (Kd.int .u64) (Kd.int .u64)) (fun x : S44 => (x.f0, x.f1))
theorem k44_open {w : World} {x : S44} {cs : List Value} (h : k44.K w x cs) : cs = [.int .u64 x.f0, .int .u64 x.f1] := by
  obtain ⟨_, _, rfl, rfl, rfl⟩ := h
  exact rfl
theorem k44_openM {w : World} {base : Nat} {ok : Nat → Prop} {x : S44} {cs : List Value} (h : k44.M w base ok x cs) : cs = [.int .u64 x.f0, .int .u64 x.f1] := by
  obtain ⟨_, _, rfl, rfl, rfl⟩ := h
  exact rfl
theorem k44_mk (w : World) (x : S44)  : k44.K w x [.int .u64 x.f0, .int .u64 x.f1] := ⟨[.int .u64 x.f0], [.int .u64 x.f1], rfl, rfl, rfl⟩
theorem k44_mkM (w : World) (base : Nat) (ok : Nat → Prop) (x : S44)  : k44.M w base ok x [.int .u64 x.f0, .int .u64 x.f1] := ⟨[.int .u64 x.f0], [.int .u64 x.f1], rfl, rfl, rfl⟩
theorem k44_mkF (W : World) (ok : Nat → Prop) (x : S44) : Kd.FK k44 W ok x [.int .u64 x.f0, .int .u64 x.f1] := fun W2 _ => k44_mk W2 x
def rd_T44 (xs : List S44) (i : Int) : S44 := xs.getD i.toNat z44
theorem at_T44 {w : World} {A : Option Addr} {n : Nat} {xs : List S44} (h : Kd.C k44 w A n xs) (i : Int) (h0 : 0 ≤ i) (h1 : i < n) : ∃ ad , A = some ad ∧ w.cell? (ad.add (i.toNat * 2)) = some (.int .u64 (rd_T44 xs i).f0) ∧ w.cell? ⟨(ad.add (i.toNat * 2)).block, (ad.add (i.toNat * 2)).off + 1, none⟩ = some (.int .u64 (rd_T44 xs i).f1) := by
  obtain ⟨ad, c, e, _, hK, hc0⟩ := Kd.C_get h z44 i h0 h1
  have hc : ∀ j u, c[j]? = some u → w.cell? (ad.add (i.toNat * 2 + j)) = some u := hc0
  obtain rfl := k44_open hK
  exact ⟨ad, e, hc 0 _ rfl, by rw [← add_field _ _ 1 (by omega)]; exact hc 1 _ rfl⟩

def rd_L2 (xs : List (List S44)) (i : Int) : (List S44) := xs.getD i.toNat ([] : List S44)
theorem at_L2 {w : World} {A : Option Addr} {n : Nat} {xs : List (List S44)} (h : Kd.C (Kd.slice 44 k44) w A n xs) (i : Int) (h0 : 0 ≤ i) (h1 : i < n) : ∃ ad A0 c0, A = some ad ∧ w.cell? (ad.add i.toNat) = some (.slice A0 (rd_L2 xs i).length c0) ∧ (rd_L2 xs i).length ≤ c0 ∧ k44.C w A0 (rd_L2 xs i).length (rd_L2 xs i) := by
  obtain ⟨ad, c, e, _, hK, hc0⟩ := Kd.C_get h ([] : List S44) i h0 h1
  have hc : ∀ j u, c[j]? = some u → w.cell? (ad.add (i.toNat * 1 + j)) = some u := hc0
  obtain ⟨A0, c0, rfl, l0, g0⟩ := hK
  exact ⟨ad, A0, c0, e, by have hq := hc 0 _ rfl; rwa [Nat.mul_one, Nat.add_zero] at hq, l0, g0⟩

/-! #### struct type 87 -/
structure S87 where
  f0 : Int
  f1 : Int
def z87 : S87 := ⟨(0 : Int), (0 : Int)⟩
def k87 : Kd S87 := Kd.iso (Kd.pair (Kd.int .u64) (Kd.int .i64)) (fun x : S87 => (x.f0, x.f1))
theorem k87_open {w : World} {x : S87} {cs : List Value} (h : k87.K w x cs) : cs = [.int .u64 x.f0, .int .i64 x.f1] := by
  obtain ⟨_, _, rfl, rfl, rfl⟩ := h
  exact rfl
theorem k87_openM {w : World} {base : Nat} {ok : Nat → Prop} {x : S87} {cs : List Value} (h : k87.M w base ok x cs) : cs = [.int .u64 x.f0, .int .i64 x.f1] := by
  obtain ⟨_, _, rfl, rfl, rfl⟩ := h
  exact rfl
theorem k87_mk (w : World) (x : S87)  : k87.K w x [.int .u64 x.f0, .int .i64 x.f1] := ⟨[.int .u64 x.f0], [.int .i64 x.f1], rfl, rfl, rfl⟩
theorem k87_mkM (w : World) (base : Nat) (ok : Nat → Prop) (x : S87)  : k87.M w base ok x [.int .u64 x.f0, .int .i64 x.f1] := ⟨[.int .u64 x.f0], [.int .i64 x.f1], rfl, rfl, rfl⟩
theorem k87_mkF (W : World) (ok : Nat → Prop) (x : S87) : Kd.FK k87 W ok x [.int .u64 x.f0, .int .i64 x.f1] := fun W2 _ => k87_mk W2 x
def rd_T87 (xs : List S87) (i : Int) : S87 := xs.getD i.toNat z87
theorem at_T87 {w : World} {A : Option Addr} {n : Nat} {xs : List S87} (h : Kd.C k87 w A n xs) (i : Int) (h0 : 0 ≤ i) (h1 : i < n) : ∃ ad , A = some ad ∧ w.cell? (ad.add (i.toNat * 2)) = some (.int .u64 (rd_T87 xs i).f0) ∧ w.cell? ⟨(ad.add (i.toNat * 2)).block, (ad.add (i.toNat * 2)).off + 1, none⟩ = some (.int .i64 (rd_T87 xs i).f1) := by
  obtain ⟨ad, c, e, _, hK, hc0⟩ := Kd.C_get h z87 i h0 h1
  have hc : ∀ j u, c[j]? = some u → w.cell? (ad.add (i.toNat * 2 + j)) = some u := hc0
  obtain rfl := k87_open hK
  exact ⟨ad, e, hc 0 _ rfl, by rw [← add_field _ _ 1 (by omega)]; exact hc 1 _ rfl⟩

def rd_L6 (xs : List (List S87)) (i : Int) : (List S87) := xs.getD i.toNat ([] : List S87)
theorem at_L6 {w : World} {A : Option Addr} {n : Nat} {xs : List (List S87)} (h : Kd.C (Kd.slice 87 k87) w A n xs) (i : Int) (h0 : 0 ≤ i) (h1 : i < n) : ∃ ad A0 c0, A = some ad ∧ w.cell? (ad.add i.toNat) = some (.slice A0 (rd_L6 xs i).length c0) ∧ (rd_L6 xs i).length ≤ c0 ∧ k87.C w A0 (rd_L6 xs i).length (rd_L6 xs i) := by
  obtain ⟨ad, c, e, _, hK, hc0⟩ := Kd.C_get h ([] : List S87) i h0 h1
  have hc : ∀ j u, c[j]? = some u → w.cell? (ad.add (i.toNat * 1 + j)) = some u := hc0
  obtain ⟨A0, c0, rfl, l0, g0⟩ := hK
  exact ⟨ad, A0, c0, e, by have hq := hc 0 _ rfl; rwa [Nat.mul_one, Nat.add_zero] at hq, l0, g0⟩

/-! #### struct type 28 -/
structure S28 where
  f0 : (List S44)
  f1 : Int
  f2 : Int
  f3 : Int
  f4 : Int
def z28 : S28 := ⟨([] : List S44), (0 : Int), (0 : Int), (0 : Int), (0 : Int)⟩
def k28 : Kd S28 := Kd.iso (Kd.pair (Kd.slice 44 k44) (Kd.pair (Kd.int .u64) (Kd.pair (Kd.int .i64) (Kd.pair (Kd.int .i64) (Kd.int .i64))))) (fun x : S28 => (x.f0, x.f1, x.f2, x.f3, x.f4))
theorem k28_open {w : World} {x : S28} {cs : List Value} (h : k28.K w x cs) : ∃ A0 c0, cs = [.slice A0 x.f0.length c0, .int .u64 x.f1, .int .i64 x.f2, .int .i64 x.f3, .int .i64 x.f4] ∧ x.f0.length ≤ c0 ∧ k44.C w A0 x.f0.length x.f0 := by
  obtain ⟨_, _, rfl, ⟨A0, c0, rfl, l0, g0⟩, ⟨_, _, rfl, rfl, ⟨_, _, rfl, rfl, ⟨_, _, rfl, rfl, rfl⟩⟩⟩⟩ := h
  exact ⟨A0, c0, rfl, l0, g0⟩
theorem k28_openM {w : World} {base : Nat} {ok : Nat → Prop} {x : S28} {cs : List Value} (h : k28.M w base ok x cs) : ∃ v0, cs = [v0, .int .u64 x.f1, .int .i64 x.f2, .int .i64 x.f3, .int .i64 x.f4] ∧ k44.R 44 w base ok v0 x.f0 := by
  obtain ⟨_, _, rfl, ⟨v0, rfl, g0⟩, ⟨_, _, rfl, rfl, ⟨_, _, rfl, rfl, ⟨_, _, rfl, rfl, rfl⟩⟩⟩⟩ := h
  exact ⟨v0, rfl, g0⟩
theorem k28_mk (w : World) (x : S28) {A0 : Option Addr} {c0 : Nat} (l0 : x.f0.length ≤ c0) (g0 : k44.C w A0 x.f0.length x.f0) : k28.K w x [.slice A0 x.f0.length c0, .int .u64 x.f1, .int .i64 x.f2, .int .i64 x.f3, .int .i64 x.f4] := ⟨[.slice A0 x.f0.length c0], [.int .u64 x.f1, .int .i64 x.f2, .int .i64 x.f3, .int .i64 x.f4], rfl, ⟨A0, c0, rfl, l0, g0⟩, ⟨[.int .u64 x.f1], [.int .i64 x.f2, .int .i64 x.f3, .int .i64 x.f4], rfl, rfl, ⟨[.int .i64 x.f2], [.int .i64 x.f3, .int .i64 x.f4], rfl, rfl, ⟨[.int .i64 x.f3], [.int .i64 x.f4], rfl, rfl, rfl⟩⟩⟩⟩
theorem k28_mkM (w : World) (base : Nat) (ok : Nat → Prop) (x : S28) {v0 : Value} (g0 : k44.R 44 w base ok v0 x.f0) : k28.M w base ok x [v0, .int .u64 x.f1, .int .i64 x.f2, .int .i64 x.f3, .int .i64 x.f4] := ⟨[v0], [.int .u64 x.f1, .int .i64 x.f2, .int .i64 x.f3, .int .i64 x.f4], rfl, ⟨v0, rfl, g0⟩, ⟨[.int .u64 x.f1], [.int .i64 x.f2, .int .i64 x.f3, .int .i64 x.f4], rfl, rfl, ⟨[.int .i64 x.f2], [.int .i64 x.f3, .int .i64 x.f4], rfl, rfl, ⟨[.int .i64 x.f3], [.int .i64 x.f4], rfl, rfl, rfl⟩⟩⟩⟩
theorem k28_openF {W : World} {ok : Nat → Prop} {x : S28} {cs : List Value} (h : Kd.FK k28 W ok x cs) : ∃ A0 c0, cs = [.slice A0 x.f0.length c0, .int .u64 x.f1, .int .i64 x.f2, .int .i64 x.f3, .int .i64 x.f4] ∧ x.f0.length ≤ c0 ∧ Kd.F k44 W ok A0 x.f0.length x.f0 := by
  obtain ⟨A0, c0, rfl, l0, _⟩ := k28_open (Kd.FK_now h)
  exact ⟨A0, c0, rfl, l0, (fun W' hW => by obtain ⟨A0_, c0_, he, l0_, g0_⟩ := k28_open (h W' hW); injection (Option.some.inj (show some (Value.slice A0 x.f0.length c0) = some (Value.slice A0_ x.f0.length c0_) from congrArg (fun l => l[0]?) he)) with ha_ _ _; rw [ha_]; exact g0_)⟩
theorem k28_mkF (W : World) (ok : Nat → Prop) (x : S28) {A0 : Option Addr} {c0 : Nat} (l0 : x.f0.length ≤ c0) (g0 : Kd.F k44 W ok A0 x.f0.length x.f0) : Kd.FK k28 W ok x [.slice A0 x.f0.length c0, .int .u64 x.f1, .int .i64 x.f2, .int .i64 x.f3, .int .i64 x.f4] := fun W2 hW => k28_mk W2 x l0 (g0 W2 hW)
def rd_T28 (xs : List S28) (i : Int) : S28 := xs.getD i.toNat z28
theorem at_T28 {w : World} {A : Option Addr} {n : Nat} {xs : List S28} (h : Kd.C k28 w A n xs) (i : Int) (h0 : 0 ≤ i) (h1 : i < n) : ∃ ad A0 c0, A = some ad ∧ w.cell? (ad.add (i.toNat * 5)) = some (.slice A0 (rd_T28 xs i).f0.length c0) ∧ w.cell? ⟨(ad.add (i.toNat * 5)).block, (ad.add (i.toNat * 5)).off + 1, none⟩ = some (.int .u64 (rd_T28 xs i).f1) ∧ w.cell? ⟨(ad.add (i.toNat * 5)).block, (ad.add (i.toNat * 5)).off + 2, none⟩ = some (.int .i64 (rd_T28 xs i).f2) ∧ w.cell? ⟨(ad.add (i.toNat * 5)).block, (ad.add (i.toNat * 5)).off + 3, none⟩ = some (.int .i64 (rd_T28 xs i).f3) ∧ w.cell? ⟨(ad.add (i.toNat * 5)).block, (ad.add (i.toNat * 5)).off + 4, none⟩ = some (.int .i64 (rd_T28 xs i).f4) ∧ (rd_T28 xs i).f0.length ≤ c0 ∧ k44.C w A0 (rd_T28 xs i).f0.length (rd_T28 xs i).f0 := by
  obtain ⟨ad, c, e, _, hK, hc0⟩ := Kd.C_get h z28 i h0 h1
  have hc : ∀ j u, c[j]? = some u → w.cell? (ad.add (i.toNat * 5 + j)) = some u := hc0
  obtain ⟨A0, c0, rfl, l0, g0⟩ := k28_open hK
  exact ⟨ad, A0, c0, e, hc 0 _ rfl, by rw [← add_field _ _ 1 (by omega)]; exact hc 1 _ rfl, by rw [← add_field _ _ 2 (by omega)]; exact hc 2 _ rfl, by rw [← add_field _ _ 3 (by omega)]; exact hc 3 _ rfl, by rw [← add_field _ _ 4 (by omega)]; exact hc 4 _ rfl, l0, g0⟩

end Go.Proofs.Ytlcfjimgnfcdkaa.PAko
