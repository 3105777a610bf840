/- The table of math/bits in a world that meets the rows' condition, and such a world. -/
import Derived.Test.YthbnedjcaflofaaDoorRows
import Derived.LaidLaws
import Derived.LaidHandle
import Derived.Handed
import Derived.FnData
import Derived.OpenShut
import Derived.MakeChecks
import Derived.ChangeSame
import Derived.Lib.TrailingZeros
namespace Go.Proofs.YthbnedjcaflofaaDoorTabs
open Go.ChangeShapes Go.WideShapes Go.RowKit
def laidAll : List (String × DataW Unit) := [("math/bits.deBruijn32tab", YthbnedjcaflofaaDoor.Rows.laid_math_bits_deBruijn32tab), ("math/bits.deBruijn64tab", YthbnedjcaflofaaDoor.Rows.laid_math_bits_deBruijn64tab)]
theorem g1 : Tryd.prog.globalNamed "math/bits.deBruijn64tab" = some 1 := by kernel_rfl
theorem t1 : (Tryd.prog.globals[1]?).map (·.type) = some 91 := by kernel_rfl
theorem datum : (YthbnedjcaflofaaDoor.Rows.laid_math_bits_deBruijn64tab : DataW Unit) = .agg (Lib.deBruijn64tab.map fun (k : Nat) => .lit (.int .u8 (k : Int))) := rfl
theorem tab_of_laid {W : World} (h : laidMetH Tryd.prog laidAll W) : ∀ j, j < 64 → W.cell? ⟨1, j, none⟩ = some (.int .u8 (Lib.deBruijn64tab.getD j 0)) := by
  rw [Go.MakeChecks.laidMetH_plain _ _ _ (by kernel_rfl)] at h
  obtain ⟨ps, hL, _⟩ := h
  obtain ⟨_, _, _, _, _, _, _, _, _, _, hL2, _⟩ := hL
  obtain ⟨g, t, cs, fuel, p, q, hg, ht, hv, htr, _, _⟩ := hL2
  obtain rfl := Option.some.inj (g1.symm.trans hg)
  obtain rfl := Option.some.inj (t1.symm.trans ht)
  obtain ⟨xs, m, _, hx, hlen, hxl, hi⟩ := DataW.trod_array Tryd.underlying91 htr
  simp only [Prod.mk.injEq] at hx
  intro j hj
  rw [World.var?_cell g1 hv j]
  have hz : Tryd.prog.cellsOf 5 = 1 := by kernel_rfl
  have h1 := hi j hj
  rw [hz, Nat.mul_one, List.getElem?_eq_getElem (by omega)] at h1
  obtain ⟨n, hc, hy, _⟩ := DataW.trod_int Tryd.underlying5 h1
  have e1 : cs[j]? = some (.int .u8 n) := by
    have h := congrArg (fun l => l[0]?) hc
    simpa using h
  have hd := hx.1
  rw [datum] at hd
  injection hd with hd
  have h2 := congrArg (fun l => l[j]?) hd
  have hjl : j < Lib.deBruijn64tab.length := hj
  simp only [List.getElem?_map, List.getElem?_eq_getElem hjl, List.getElem?_eq_getElem (show j < xs.length by omega), Option.map_some, hy, Option.some.injEq, DataW.lit.injEq, Lit.int.injEq, true_and] at h2
  rw [e1, List.getD_eq_getElem?_getD, List.getElem?_eq_getElem hjl, Option.getD_some, h2]
/-- The settled world, the two tables laid. -/
noncomputable def laidWorld (os : Os) : World :=
  let w0 := World.holding Tryd.prog os ⟨#[], #[], []⟩
  { w0 with heap := (w0.heap.modify 0 fun
      | .cells _ t frozen => .cells (Lib.deBruijn32tab.map fun (k : Nat) => Value.int .u8 (k : Int)).toArray t frozen
      | o => o).modify 1 fun
      | .cells _ t frozen => .cells (Lib.deBruijn64tab.map fun (k : Nat) => Value.int .u8 (k : Int)).toArray t frozen
      | o => o }
theorem laidWorld_met (os : Os) (args : Array Value) : laidMetH Tryd.prog laidAll ((laidWorld os).forCall (fun _ _ => 0) ⟨#[], args, []⟩).memory := by
  rw [Go.MakeChecks.laidMetH_plain _ _ _ (by kernel_rfl)]
  exact laidMet_of_run' 8 (by kernel_rfl) (by kernel_rfl)
end Go.Proofs.YthbnedjcaflofaaDoorTabs
