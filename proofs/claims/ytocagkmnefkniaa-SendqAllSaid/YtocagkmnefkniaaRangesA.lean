/- The walk of sets of ranges as Go's text makes them: edges are sorted by the library's sort, their runs are told by an iterator, and collected. -/
import Derived.RangeFuncNested
import Derived.RangeFuncBound
import Derived.RangeFuncCalls
import Derived.RangeFuncLeaves
import Derived.Shelf.Abstract
import Derived.Shelf.RegionOpen
import Derived.WalkKit
import Derived.OwnWalkIn
import Derived.TacticsInMore
import Derived.LoopNIn
import Derived.LoopIn
import Derived.Maps.AppendAt
import Derived.Test.YtocagkmnefkniaaProg
import Derived.Test.YtocagkmnefkniaaShelf
namespace Go.Proofs.YtocagkmnefkniaaR
open Go.RowKit Go.Shelf
attribute [local go_sem] Oper.semAt_some
set_option linter.unusedVariables false
set_option linter.unusedSimpArgs false
/-- A fact that the walk shall not see. -/
structure As0 (p : Prop) : Prop where
  out : p
/-! ### edges, sorted -/
def encE (x : Int × Int) : List Value := [.int .u64 x.1, .int .i64 x.2]
def encR (x : Int × Int) : List Value := [.int .u64 x.1, .int .u64 x.2]
def cmpE (x y : Int × Int) : Int := if x.1 < y.1 then -1 else if y.1 < x.1 then 1 else 0
def sortF (l : List (Int × Int)) : List (Int × Int) := (Go.Sort.pdq (ltOf cmpE) l.toArray 0 l.length (Go.Lib.bitLen l.length) true true).toList
theorem ltE (x y : Int × Int) : ltOf cmpE x y = decide (x.1 < y.1) := by
  unfold ltOf cmpE
  by_cases h1 : x.1 < y.1
  · simp [h1]
  · by_cases h2 : y.1 < x.1 <;> simp [h1, h2]
theorem swoE : Go.Sort.SWO (ltOf cmpE) where
  irrefl x := by rw [ltE]; simp
  trans x y z h1 h2 := by rw [ltE] at *; simp at *; omega
  ntrans x y z h1 h2 := by rw [ltE] at *; simp at *; omega
theorem sortF_says (l : List (Int × Int)) : (sortF l).Perm l ∧ (sortF l).length = l.length ∧ Go.Sort.SortedIn (ltOf cmpE) 0 l.length (sortF l).toArray := by
  have h := Go.Sort.pdq_sorts (ltOf cmpE) swoE l.toArray 0 l.length (Go.Lib.bitLen l.length) true true (Nat.zero_le _) (by simp) (Or.inl rfl)
  have hs : (sortF l).length = l.length := by
    show (Array.toList _).length = _
    rw [Array.length_toList, h.1.1]
    simp
  refine ⟨?_, hs, ?_⟩
  · have hp := h.1.2.2
    have e1 : (l.toArray.extract 0 l.length).toList = l := by simp
    have e2 : ((Go.Sort.pdq (ltOf cmpE) l.toArray 0 l.length (Go.Lib.bitLen l.length) true true).extract 0 l.length).toList = sortF l := by
      rw [Array.toList_extract]
      show List.extract (sortF l) 0 l.length = _
      rw [← hs]
      simp
    rw [e1, e2] at hp
    exact hp
  · have e : (sortF l).toArray = Go.Sort.pdq (ltOf cmpE) l.toArray 0 l.length (Go.Lib.bitLen l.length) true true := by simp [sortF]
    rw [e]
    exact h.2
set_option maxHeartbeats 1000000 in
theorem cmp_c (x y : Int × Int) (W : World) : Calls Try.prog 52 #[.agg #[.int .u64 x.1, .int .i64 x.2], .agg #[.int .u64 y.1, .int .i64 y.2]] W fun e w' => e = .returned (.int .i64 (cmpE x y)) ∧ ∃ q os', w' = Go.Sort.grow (W.drewN q) os' := by
  unfold cmpE
  by_cases h1 : x.1 < y.1
  · have hd : decide (x.1 < y.1) = true := decide_eq_true h1
    rw [if_pos h1]
    go_enter Try.func52, Try.ntmps52
    go_wp2
    go_ret
    exact ⟨rfl, 0, _, by rw [Go.Sort.alloc_eq_grow, Go.Sort.alloc_eq_grow, Go.Sort.grow_grow]; rfl⟩
  · have hd : decide (x.1 < y.1) = false := decide_eq_false h1
    rw [if_neg h1]
    by_cases h2 : y.1 < x.1
    · have hd2 : decide (y.1 < x.1) = true := decide_eq_true h2
      rw [if_pos h2]
      go_enter Try.func52, Try.ntmps52
      go_wp2
      go_ret
      exact ⟨rfl, 0, _, by rw [Go.Sort.alloc_eq_grow, Go.Sort.alloc_eq_grow, Go.Sort.grow_grow]; rfl⟩
    · have hd2 : decide (y.1 < x.1) = false := decide_eq_false h2
      rw [if_neg h2]
      go_enter Try.func52, Try.ntmps52
      go_wp2
      go_ret
      exact ⟨rfl, 0, _, by rw [Go.Sort.alloc_eq_grow, Go.Sort.alloc_eq_grow, Go.Sort.grow_grow]; rfl⟩
theorem cmpLays (blk off size : Nat) (w : World) : CmpLays Try.prog 52 #[] encE 2 cmpE blk off size w := fun _ _ _ _ x y => cmp_c x y _
/-- A row of structs of two cells. -/
def Row2 (enc : Int × Int → List Value) (W : World) (blk off : Nat) (l : List (Int × Int)) : Prop := Go.Sort.HoldsK enc 2 W blk off l.toArray
theorem below_sort {enc : Int × Int → List Value} {B blk off n : Nat} {d : Array (Int × Int)} {os : Array Obj} {W : World} (hb : B ≤ blk) (hB : B ≤ W.heap.size) : Below B W (sortWorldK enc 2 W blk off n d os) := by
  refine ⟨rfl, rfl, rfl, size_sortWorldK_c _ _ _ _ _ _ _ _, fun k hk => ?_⟩
  unfold sortWorldK Go.Sort.putRowK Go.Sort.putRow Go.Sort.mapBlock Go.Sort.grow Go.Sort.ahead
  show ((W.heap.modify blk _) ++ os)[k]? = _
  rw [Array.getElem?_append_left (by rw [Array.size_modify]; omega), Array.getElem?_modify, if_neg (by omega)]
theorem same_sort {enc : Int × Int → List Value} {blk off n : Nat} {d : Array (Int × Int)} {os : Array Obj} {W : World} (k : Nat) (hk : k ≠ blk) (hs : k < W.heap.size) : (sortWorldK enc 2 W blk off n d os).heap[k]? = W.heap[k]? := by
  unfold sortWorldK Go.Sort.putRowK Go.Sort.putRow Go.Sort.mapBlock Go.Sort.grow Go.Sort.ahead
  show ((W.heap.modify blk _) ++ os)[k]? = _
  rw [Array.getElem?_append_left (by rw [Array.size_modify]; omega), Array.getElem?_modify, if_neg (by omega)]
set_option maxHeartbeats 1000000 in
theorem sort_c (blk cap : Nat) (l : List (Int × Int)) (w : World) (hH : Row2 encE w blk 0 l) (hblk : blk < w.heap.size) (hsz : l.length < 1099511627776) :
    Calls Try.prog 51 #[.slice (some ⟨blk, 0, none⟩) l.length cap, .func (.func 52) #[] #[]] w fun e w' =>
      e = .returned (.tuple #[]) ∧ Row2 encE w' blk 0 (sortF l) ∧ blk < w'.heap.size ∧ (∀ B, B ≤ blk → B ≤ w.heap.size → Below B w w') ∧ ∀ k, k ≠ blk → k < w.heap.size → w'.heap[k]? = w.heap[k]? := by
  have eg : ∀ args w, (callFunc 52 args).run Try.prog w = .ok (.enter 52 args) w := enters_of Try.func52 (by kernel_rfl) rfl
  have h := AnyQ.slices_SortFunc_eq Try.sort51 2 Try.isAgg90 Try.sizeOf90 encE (fun _ => rfl) (fun x v hv => by simp [encE] at hv; rcases hv with rfl | rfl <;> rfl) cmpE swoE 52 #[] blk 0 cap l.toArray w eg (cmpLays blk 0 _ w) hH hblk (by simp; omega)
  have hs : (sortF l).toArray.size = l.toArray.size := by simp [(sortF_says l).2.1]
  change Calls Try.prog 51 _ _ _ at h
  rw [List.size_toArray] at h
  refine h.mono ?_
  rintro e w' ⟨rfl, n, os, rfl⟩
  have e1 : Go.Sort.pdq (ltOf cmpE) l.toArray 0 l.length (Go.Lib.bitLen l.length) true true = (sortF l).toArray := by simp [sortF]
  rw [e1]
  exact ⟨rfl, holdsK_sortWorldK encE 2 w blk 0 n l.toArray (sortF l).toArray os hblk hH hs, lt_sortWorldK encE 2 w blk 0 n _ os hblk, fun B h1 h2 => below_sort h1 h2, fun k h1 h2 => same_sort k h1 h2⟩
end Go.Proofs.YtocagkmnefkniaaR
