-- printed for this claim by a program of the claim (wip/tools/pp.py over the kit's print)
import Derived.Test.YtgfpcdedaailiaaProg
import Derived.Below
import Derived.Deep.Draws
import Derived.Deep.AppendLies
import Derived.Maps.AppendAt
import Derived.OwnWalk
import Derived.Laws.BytesArg
import Derived.Laws.MakeOwn
import Derived.Laws.OwnMore
import Derived.Deep.OwnRows
import Derived.Tactics
import Derived.Lib.ConvBytes
import Derived.Laws.Slices
import Derived.WalkKit
import Derived.KernelRfl
import Derived.RowKit3
import Derived.Deep.LoopGhost
import Derived.Deep.QuietTactic
import Derived.BigQuiet
import Derived.WideLaws
import Derived.Deep.DeepCutAuto
import Derived.Deep.CutBlock
import Derived.Deep.RegionHeld3
import Derived.Laws.Rows
import Derived.Lib.AppendStr
import Derived.ArgAppend
import Derived.Laws.IdiomCopy
import Derived.OrdersHeld
import Derived.Laws.BitsLemmas
import Derived.RowKit
import Derived.Test.YtgfpcdedaailiaaWWords
import Derived.Test.YtgfpcdedaailiaaWLast
import Derived.Test.YtgfpcdedaailiaaWTab
import Derived.Test.YtgfpcdedaailiaaWFour
import Derived.Test.YtgfpcdedaailiaaWQPut
import Derived.Test.YtgfpcdedaailiaaWApart
import Derived.Test.YtgfpcdedaailiaaWArr
import Derived.Test.YtgfpcdedaailiaaWZeros
import Derived.Test.YtgfpcdedaailiaaWFoot
import Derived.Test.YtgfpcdedaailiaaWKept
import Derived.Test.YtgfpcdedaailiaaWShare
import Derived.Test.YtgfpcdedaailiaaWN
import Derived.Test.YtgfpcdedaailiaaWFootNe
import Derived.Test.YtgfpcdedaailiaaWAt
import Derived.Test.YtgfpcdedaailiaaWEqStruct
import Derived.Test.YtgfpcdedaailiaaWRepsOne
import Derived.Test.YtgfpcdedaailiaaWInv
import Derived.Test.YtgfpcdedaailiaaWInvWords
import Derived.Test.YtgfpcdedaailiaaWGuard
import Derived.Test.YtgfpcdedaailiaaWNEv
import Derived.Test.YtgfpcdedaailiaaWMore
namespace Go.Proofs.Ytgfpcdedaailiaa.PPnumStep
open Go.RowKit Go.Proofs.YtgfpcdedaailiaaW.PrintWords Go.Proofs.YtgfpcdedaailiaaW.PrintLast Go.Proofs.YtgfpcdedaailiaaW.PrintMore
attribute [local go_sem] max2_int min2_int max_two min_two max_three min_three max_four min_four   -- for this text's walks alone
set_option linter.unusedVariables false
set_option linter.unusedSimpArgs false

theorem wrap_le_ {k : IntKind} {m : Int} (hk : k.signed = false) (hm : (2 : Int) ^ k.bits = m + 1) (n : Int) : k.wrap n ≤ m := by
  unfold IntKind.wrap
  simp only [hk, Bool.false_and, Bool.false_eq_true, if_false]
  have h := Int.emod_lt_of_pos n (b := (2 : Int) ^ k.bits) (Int.pow_pos (by decide))
  omega
theorem wrap_nn_ {k : IntKind} (hk : k.signed = false) (n : Int) : 0 ≤ k.wrap n := by
  unfold IntKind.wrap
  simp only [hk, Bool.false_and, Bool.false_eq_true, if_false]
  exact Int.emod_nonneg _ (Int.ne_of_gt (Int.pow_pos (by decide)))
theorem isSome_setCell_ (w : World) (a b : Addr) (v : Value) : ((w.setCell a v).cell? b).isSome = (w.cell? b).isSome := by
  by_cases e : a = b
  · subst e
    cases h : w.cell? a with
    | some u => rw [World.cell?_setCell_same w a v h]; rfl
    | none =>
      unfold World.cell? at h
      unfold World.setCell World.cell?
      simp only [Array.getElem?_modify, ↓reduceIte]
      cases hb : w.heap[a.block]? with
      | none => simp
      | some o =>
        rw [hb] at h
        cases o with
        | cells c t f =>
          simp only [Option.map_some] at h ⊢
          cases hs : a.spot.isSome with
          | true => simp
          | false =>
            simp only [hs, Bool.false_eq_true, if_false] at h ⊢
            have := Array.getElem?_eq_none_iff.1 h
            simp [this]
        | _ => simp
  · rw [World.cell?_setCell_other w a b v e]



def errW : Option Int → Value
  | none => .nilIface
  | some c => .iface 0 (.int .i64 c)
theorem errW_none : errW none = .nilIface := rfl
theorem errW_some (c : Int) : errW (some c) = .iface 0 (.int .i64 c) := rfl

-- the values' own types

end Go.Proofs.Ytgfpcdedaailiaa.PPnumStep
