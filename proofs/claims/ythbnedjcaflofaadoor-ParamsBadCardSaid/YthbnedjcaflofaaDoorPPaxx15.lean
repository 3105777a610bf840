-- printed for this claim by a program of the claim (wip/tools/pp.py over the kit's print)
import Derived.Test.YthbnedjcaflofaaDoorPPaxx0
import Derived.Test.YthbnedjcaflofaaDoorPPaxx1
import Derived.Test.YthbnedjcaflofaaDoorPPaxx2
import Derived.Test.YthbnedjcaflofaaDoorPPaxx3
import Derived.Test.YthbnedjcaflofaaDoorPPaxx4
import Derived.Test.YthbnedjcaflofaaDoorPPaxx6
namespace Go.Proofs.YthbnedjcaflofaaDoor.PPax
open Go.RowKit Go.Proofs.YthbnedjcaflofaaDoorW.PrintWords Go.Proofs.YthbnedjcaflofaaDoorW.PrintLast Go.Proofs.YthbnedjcaflofaaDoorW.PrintMore
attribute [local go_sem] max2_int min2_int max_two min_two max_three min_three max_four min_four   -- for this text's walks alone
set_option linter.unusedVariables false
set_option linter.unusedSimpArgs false

attribute [local go_sem] isSome_setCell_
attribute [local go_sem high] eqA24
/-! ### dominolaw05_ParamsBad: function 7 -/
def dominolaw05_ParamsBad.j0 : Nat → Int → Int → Int → Int → Int → Int → Int → Int → Int → Int → Int → Int → ByteArray → Int → Int → Int → Int → Int → Int → Int → Int → Int → Int → Int → ByteArray → Option (Bool)
 | 0, _, _, _, _, _, _, _, _, _, _, _, _, _, _, _, _, _, _, _, _, _, _, _, _, _ => none
 | k + 1, x0, x498000, x498001, x498002, x498003, x498004, x498005, x498006, x498007, x498008, x498009, x498010, x498011, x511000, x511001, x511002, x511003, x511004, x511005, x511006, x511007, x511008, x511009, x511010, x511011 => (params_Put.f x498000 x498001 x498002 x498003 x498004 x498005 x498006 x498007 x498008 x498009 x498010 x498011).bind fun bt511 => ((params_Put.f x511000 x511001 x511002 x511003 x511004 x511005 x511006 x511007 x511008 x511009 x511010 x511011).bind fun bt513 => ((params_Get.f k bt511.1).bind fun bt515 => ((some (([(⟨#[3, 2, 68, 175]⟩ : ByteArray), (⟨#[8, 8, 208, 0, 0, 0, 0, 0, 0, 1]⟩ : ByteArray), (⟨#[10, 1, 21]⟩ : ByteArray), (⟨#[11, 4, 128, 0, 64, 0]⟩ : ByteArray), (⟨#[14, 1, 1]⟩ : ByteArray)] : List ByteArray) : List ByteArray)).bind fun y529 => (if 0 ≤ (Int.tmod x0 5) then (if (Int.tmod x0 5) < (y529.length : Int) then ((params_Get.f k (rdOf ByteArray.empty y529 (Int.tmod x0 5))).bind fun bt533 => (if bt511.2 = 0 then (if bt513.2 = 50 then (if bt515.2.2.2.2.2.2.2.2.2.2.2.2 = 0 then (if (bt515.1 == x498000 && (bt515.2.1 == x498001 && (bt515.2.2.1 == x498002 && (bt515.2.2.2.1 == x498003 && (bt515.2.2.2.2.1 == x498004 && (bt515.2.2.2.2.2.1 == x498005 && (bt515.2.2.2.2.2.2.1 == x498006 && (bt515.2.2.2.2.2.2.2.1 == x498007 && (bt515.2.2.2.2.2.2.2.2.1 == x498008 && (bt515.2.2.2.2.2.2.2.2.2.1 == x498009 && (bt515.2.2.2.2.2.2.2.2.2.2.1 == x498010 && (bt515.2.2.2.2.2.2.2.2.2.2.2.1.toList == x498011.toList)))))))))))) = true then (if bt533.2.2.2.2.2.2.2.2.2.2.2.2 = 50 then ((dominolaw05_shown.f k).bind fun t547 => (some t547)) else (none)) else (none)) else (none)) else (none)) else (none))) else (none)) else (none)))))
def dominolaw05_ParamsBad.f (k : Nat) (a0 : Int) : Option (Bool) := (params_Default.f).bind fun bt485 => ((params_Default.f).bind fun bt498 => (if (Int.tmod a0 5) = 0 then (dominolaw05_ParamsBad.j0 k a0 bt485.1 1200 bt485.2.2.1 bt485.2.2.2.1 bt485.2.2.2.2.1 bt485.2.2.2.2.2.1 bt485.2.2.2.2.2.2.1 bt485.2.2.2.2.2.2.2.1 bt485.2.2.2.2.2.2.2.2.1 bt485.2.2.2.2.2.2.2.2.2.1 bt485.2.2.2.2.2.2.2.2.2.2.1 bt485.2.2.2.2.2.2.2.2.2.2.2 bt498.1 1199 bt498.2.2.1 bt498.2.2.2.1 bt498.2.2.2.2.1 bt498.2.2.2.2.2.1 bt498.2.2.2.2.2.2.1 bt498.2.2.2.2.2.2.2.1 bt498.2.2.2.2.2.2.2.2.1 bt498.2.2.2.2.2.2.2.2.2.1 bt498.2.2.2.2.2.2.2.2.2.2.1 bt498.2.2.2.2.2.2.2.2.2.2.2) else (if (Int.tmod a0 5) = 1 then (dominolaw05_ParamsBad.j0 k a0 bt485.1 bt485.2.1 bt485.2.2.1 bt485.2.2.2.1 bt485.2.2.2.2.1 bt485.2.2.2.2.2.1 1152921504606846976 bt485.2.2.2.2.2.2.2.1 bt485.2.2.2.2.2.2.2.2.1 bt485.2.2.2.2.2.2.2.2.2.1 bt485.2.2.2.2.2.2.2.2.2.2.1 bt485.2.2.2.2.2.2.2.2.2.2.2 bt498.1 bt498.2.1 bt498.2.2.1 bt498.2.2.2.1 bt498.2.2.2.2.1 bt498.2.2.2.2.2.1 1152921504606846977 bt498.2.2.2.2.2.2.2.1 bt498.2.2.2.2.2.2.2.2.1 bt498.2.2.2.2.2.2.2.2.2.1 bt498.2.2.2.2.2.2.2.2.2.2.1 bt498.2.2.2.2.2.2.2.2.2.2.2) else (if (Int.tmod a0 5) = 2 then (dominolaw05_ParamsBad.j0 k a0 bt485.1 bt485.2.1 bt485.2.2.1 bt485.2.2.2.1 bt485.2.2.2.2.1 bt485.2.2.2.2.2.1 bt485.2.2.2.2.2.2.1 bt485.2.2.2.2.2.2.2.1 20 bt485.2.2.2.2.2.2.2.2.2.1 bt485.2.2.2.2.2.2.2.2.2.2.1 bt485.2.2.2.2.2.2.2.2.2.2.2 bt498.1 bt498.2.1 bt498.2.2.1 bt498.2.2.2.1 bt498.2.2.2.2.1 bt498.2.2.2.2.2.1 bt498.2.2.2.2.2.2.1 bt498.2.2.2.2.2.2.2.1 21 bt498.2.2.2.2.2.2.2.2.2.1 bt498.2.2.2.2.2.2.2.2.2.2.1 bt498.2.2.2.2.2.2.2.2.2.2.2) else (if (Int.tmod a0 5) = 3 then (dominolaw05_ParamsBad.j0 k a0 bt485.1 bt485.2.1 bt485.2.2.1 bt485.2.2.2.1 bt485.2.2.2.2.1 bt485.2.2.2.2.2.1 bt485.2.2.2.2.2.2.1 bt485.2.2.2.2.2.2.2.1 bt485.2.2.2.2.2.2.2.2.1 16383 bt485.2.2.2.2.2.2.2.2.2.2.1 bt485.2.2.2.2.2.2.2.2.2.2.2 bt498.1 bt498.2.1 bt498.2.2.1 bt498.2.2.2.1 bt498.2.2.2.2.1 bt498.2.2.2.2.2.1 bt498.2.2.2.2.2.2.1 bt498.2.2.2.2.2.2.2.1 bt498.2.2.2.2.2.2.2.2.1 16384 bt498.2.2.2.2.2.2.2.2.2.2.1 bt498.2.2.2.2.2.2.2.2.2.2.2) else (dominolaw05_ParamsBad.j0 k a0 bt485.1 bt485.2.1 bt485.2.2.1 bt485.2.2.2.1 bt485.2.2.2.2.1 bt485.2.2.2.2.2.1 bt485.2.2.2.2.2.2.1 bt485.2.2.2.2.2.2.2.1 bt485.2.2.2.2.2.2.2.2.1 bt485.2.2.2.2.2.2.2.2.2.1 4 bt485.2.2.2.2.2.2.2.2.2.2.2 bt498.1 bt498.2.1 bt498.2.2.1 bt498.2.2.2.1 bt498.2.2.2.2.1 bt498.2.2.2.2.2.1 bt498.2.2.2.2.2.2.1 bt498.2.2.2.2.2.2.2.1 bt498.2.2.2.2.2.2.2.2.1 bt498.2.2.2.2.2.2.2.2.2.1 1 bt498.2.2.2.2.2.2.2.2.2.2.2))))))
theorem dominolaw05_ParamsBad.mono_l : ∀ k, (∀ y0 y1 y2 y3 y4 y5 y6 y7 y8 y9 y10 y11 y12 y13 y14 y15 y16 y17 y18 y19 y20 y21 y22 y23 y24, LeO (dominolaw05_ParamsBad.j0 k y0 y1 y2 y3 y4 y5 y6 y7 y8 y9 y10 y11 y12 y13 y14 y15 y16 y17 y18 y19 y20 y21 y22 y23 y24) (dominolaw05_ParamsBad.j0 (k + 1) y0 y1 y2 y3 y4 y5 y6 y7 y8 y9 y10 y11 y12 y13 y14 y15 y16 y17 y18 y19 y20 y21 y22 y23 y24))
 | 0 => fun _ _ _ _ _ _ _ _ _ _ _ _ _ _ _ _ _ _ _ _ _ _ _ _ _ r h => by simp [dominolaw05_ParamsBad.j0] at h
 | k + 1 => by
  have ih0 := dominolaw05_ParamsBad.mono_l k
  ·intro y0 y1 y2 y3 y4 y5 y6 y7 y8 y9 y10 y11 y12 y13 y14 y15 y16 y17 y18 y19 y20 y21 y22 y23 y24
   unfold dominolaw05_ParamsBad.j0
   repeat' first
   | (with_reducible exact ih0 _ _ _ _ _ _ _ _ _ _ _ _ _ _ _ _ _ _ _ _ _ _ _ _ _)
   | (with_reducible exact dominolaw05_shown.mono _)
   | (with_reducible exact params_Get.mono _ _)
   | (with_reducible exact LeO.refl _)
   | (with_reducible exact LeO.none _)
   | (with_reducible refine LeO.ite ?_ ?_)
   | (with_reducible refine LeO.bind ?_ (fun _ => ?_))
   | exact ih0 _ _ _ _ _ _ _ _ _ _ _ _ _ _ _ _ _ _ _ _ _ _ _ _ _
   | exact dominolaw05_shown.mono _
   | exact params_Get.mono _ _
   | exact LeO.none _
   | refine LeO.ite ?_ ?_
   | refine LeO.bind ?_ (fun _ => ?_)
theorem dominolaw05_ParamsBad.mono : ∀ a0 k, LeO (dominolaw05_ParamsBad.f k a0) (dominolaw05_ParamsBad.f (k + 1) a0) := by
 intro a0 k
 have ih0 := dominolaw05_ParamsBad.mono_l k
 unfold dominolaw05_ParamsBad.f
 repeat' first
   | (with_reducible exact ih0 _ _ _ _ _ _ _ _ _ _ _ _ _ _ _ _ _ _ _ _ _ _ _ _ _)
   | (with_reducible exact dominolaw05_shown.mono _)
   | (with_reducible exact params_Get.mono _ _)
   | (with_reducible exact LeO.refl _)
   | (with_reducible exact LeO.none _)
   | (with_reducible refine LeO.ite ?_ ?_)
   | (with_reducible refine LeO.bind ?_ (fun _ => ?_))
   | exact ih0 _ _ _ _ _ _ _ _ _ _ _ _ _ _ _ _ _ _ _ _ _ _ _ _ _
   | exact dominolaw05_shown.mono _
   | exact params_Get.mono _ _
   | exact LeO.none _
   | refine LeO.ite ?_ ?_
   | refine LeO.bind ?_ (fun _ => ?_)
set_option maxHeartbeats 8000000 in
set_option maxRecDepth 100000 in
theorem dominolaw05_ParamsBad.calls (k : Nat) (a0 : Int) (r : Bool) (w : World) (ht : Tab w) (h : dominolaw05_ParamsBad.f k a0 = some r) :
  Calls Tryd.prog 7 #[.int .u8 a0] w fun e w' => e = .returned (.bool r) ∧ Below w.heap.size w w' := by
 have HTab := Aside0.mk ht
 clear ht
 have hu24 := Tryd.underlying24
 have HB := Aside0.mk (Below.refl w.heap.size w)
 have H : ((params_Default.f).bind fun bt485 => ((params_Default.f).bind fun bt498 => (if (Int.tmod a0 5) = 0 then (dominolaw05_ParamsBad.j0 k a0 bt485.1 1200 bt485.2.2.1 bt485.2.2.2.1 bt485.2.2.2.2.1 bt485.2.2.2.2.2.1 bt485.2.2.2.2.2.2.1 bt485.2.2.2.2.2.2.2.1 bt485.2.2.2.2.2.2.2.2.1 bt485.2.2.2.2.2.2.2.2.2.1 bt485.2.2.2.2.2.2.2.2.2.2.1 bt485.2.2.2.2.2.2.2.2.2.2.2 bt498.1 1199 bt498.2.2.1 bt498.2.2.2.1 bt498.2.2.2.2.1 bt498.2.2.2.2.2.1 bt498.2.2.2.2.2.2.1 bt498.2.2.2.2.2.2.2.1 bt498.2.2.2.2.2.2.2.2.1 bt498.2.2.2.2.2.2.2.2.2.1 bt498.2.2.2.2.2.2.2.2.2.2.1 bt498.2.2.2.2.2.2.2.2.2.2.2) else (if (Int.tmod a0 5) = 1 then (dominolaw05_ParamsBad.j0 k a0 bt485.1 bt485.2.1 bt485.2.2.1 bt485.2.2.2.1 bt485.2.2.2.2.1 bt485.2.2.2.2.2.1 1152921504606846976 bt485.2.2.2.2.2.2.2.1 bt485.2.2.2.2.2.2.2.2.1 bt485.2.2.2.2.2.2.2.2.2.1 bt485.2.2.2.2.2.2.2.2.2.2.1 bt485.2.2.2.2.2.2.2.2.2.2.2 bt498.1 bt498.2.1 bt498.2.2.1 bt498.2.2.2.1 bt498.2.2.2.2.1 bt498.2.2.2.2.2.1 1152921504606846977 bt498.2.2.2.2.2.2.2.1 bt498.2.2.2.2.2.2.2.2.1 bt498.2.2.2.2.2.2.2.2.2.1 bt498.2.2.2.2.2.2.2.2.2.2.1 bt498.2.2.2.2.2.2.2.2.2.2.2) else (if (Int.tmod a0 5) = 2 then (dominolaw05_ParamsBad.j0 k a0 bt485.1 bt485.2.1 bt485.2.2.1 bt485.2.2.2.1 bt485.2.2.2.2.1 bt485.2.2.2.2.2.1 bt485.2.2.2.2.2.2.1 bt485.2.2.2.2.2.2.2.1 20 bt485.2.2.2.2.2.2.2.2.2.1 bt485.2.2.2.2.2.2.2.2.2.2.1 bt485.2.2.2.2.2.2.2.2.2.2.2 bt498.1 bt498.2.1 bt498.2.2.1 bt498.2.2.2.1 bt498.2.2.2.2.1 bt498.2.2.2.2.2.1 bt498.2.2.2.2.2.2.1 bt498.2.2.2.2.2.2.2.1 21 bt498.2.2.2.2.2.2.2.2.2.1 bt498.2.2.2.2.2.2.2.2.2.2.1 bt498.2.2.2.2.2.2.2.2.2.2.2) else (if (Int.tmod a0 5) = 3 then (dominolaw05_ParamsBad.j0 k a0 bt485.1 bt485.2.1 bt485.2.2.1 bt485.2.2.2.1 bt485.2.2.2.2.1 bt485.2.2.2.2.2.1 bt485.2.2.2.2.2.2.1 bt485.2.2.2.2.2.2.2.1 bt485.2.2.2.2.2.2.2.2.1 16383 bt485.2.2.2.2.2.2.2.2.2.2.1 bt485.2.2.2.2.2.2.2.2.2.2.2 bt498.1 bt498.2.1 bt498.2.2.1 bt498.2.2.2.1 bt498.2.2.2.2.1 bt498.2.2.2.2.2.1 bt498.2.2.2.2.2.2.1 bt498.2.2.2.2.2.2.2.1 bt498.2.2.2.2.2.2.2.2.1 16384 bt498.2.2.2.2.2.2.2.2.2.2.1 bt498.2.2.2.2.2.2.2.2.2.2.2) else (dominolaw05_ParamsBad.j0 k a0 bt485.1 bt485.2.1 bt485.2.2.1 bt485.2.2.2.1 bt485.2.2.2.2.1 bt485.2.2.2.2.2.1 bt485.2.2.2.2.2.2.1 bt485.2.2.2.2.2.2.2.1 bt485.2.2.2.2.2.2.2.2.1 bt485.2.2.2.2.2.2.2.2.2.1 4 bt485.2.2.2.2.2.2.2.2.2.2.2 bt498.1 bt498.2.1 bt498.2.2.1 bt498.2.2.2.1 bt498.2.2.2.2.1 bt498.2.2.2.2.2.1 bt498.2.2.2.2.2.2.1 bt498.2.2.2.2.2.2.2.1 bt498.2.2.2.2.2.2.2.2.1 bt498.2.2.2.2.2.2.2.2.2.1 1 bt498.2.2.2.2.2.2.2.2.2.2.2))))))) = some r := h
 clear h
 replace H := Option.bind_eq_some_iff.mp H
 obtain ⟨⟨t485, t486, t487, t488, t489, t490, t491, t492, t493, t494, t495, t496⟩, A20, H⟩ := H
 replace H : ((params_Default.f).bind fun bt498 => (if (Int.tmod a0 5) = 0 then (dominolaw05_ParamsBad.j0 k a0 t485 1200 t487 t488 t489 t490 t491 t492 t493 t494 t495 t496 bt498.1 1199 bt498.2.2.1 bt498.2.2.2.1 bt498.2.2.2.2.1 bt498.2.2.2.2.2.1 bt498.2.2.2.2.2.2.1 bt498.2.2.2.2.2.2.2.1 bt498.2.2.2.2.2.2.2.2.1 bt498.2.2.2.2.2.2.2.2.2.1 bt498.2.2.2.2.2.2.2.2.2.2.1 bt498.2.2.2.2.2.2.2.2.2.2.2) else (if (Int.tmod a0 5) = 1 then (dominolaw05_ParamsBad.j0 k a0 t485 t486 t487 t488 t489 t490 1152921504606846976 t492 t493 t494 t495 t496 bt498.1 bt498.2.1 bt498.2.2.1 bt498.2.2.2.1 bt498.2.2.2.2.1 bt498.2.2.2.2.2.1 1152921504606846977 bt498.2.2.2.2.2.2.2.1 bt498.2.2.2.2.2.2.2.2.1 bt498.2.2.2.2.2.2.2.2.2.1 bt498.2.2.2.2.2.2.2.2.2.2.1 bt498.2.2.2.2.2.2.2.2.2.2.2) else (if (Int.tmod a0 5) = 2 then (dominolaw05_ParamsBad.j0 k a0 t485 t486 t487 t488 t489 t490 t491 t492 20 t494 t495 t496 bt498.1 bt498.2.1 bt498.2.2.1 bt498.2.2.2.1 bt498.2.2.2.2.1 bt498.2.2.2.2.2.1 bt498.2.2.2.2.2.2.1 bt498.2.2.2.2.2.2.2.1 21 bt498.2.2.2.2.2.2.2.2.2.1 bt498.2.2.2.2.2.2.2.2.2.2.1 bt498.2.2.2.2.2.2.2.2.2.2.2) else (if (Int.tmod a0 5) = 3 then (dominolaw05_ParamsBad.j0 k a0 t485 t486 t487 t488 t489 t490 t491 t492 t493 16383 t495 t496 bt498.1 bt498.2.1 bt498.2.2.1 bt498.2.2.2.1 bt498.2.2.2.2.1 bt498.2.2.2.2.2.1 bt498.2.2.2.2.2.2.1 bt498.2.2.2.2.2.2.2.1 bt498.2.2.2.2.2.2.2.2.1 16384 bt498.2.2.2.2.2.2.2.2.2.2.1 bt498.2.2.2.2.2.2.2.2.2.2.2) else (dominolaw05_ParamsBad.j0 k a0 t485 t486 t487 t488 t489 t490 t491 t492 t493 t494 4 t496 bt498.1 bt498.2.1 bt498.2.2.1 bt498.2.2.2.1 bt498.2.2.2.2.1 bt498.2.2.2.2.2.1 bt498.2.2.2.2.2.2.1 bt498.2.2.2.2.2.2.2.1 bt498.2.2.2.2.2.2.2.2.1 bt498.2.2.2.2.2.2.2.2.2.1 1 bt498.2.2.2.2.2.2.2.2.2.2.2)))))) = some r := H
 have A2 := Aside0.mk A20
 clear A20
 replace H := Option.bind_eq_some_iff.mp H
 obtain ⟨⟨t498, t499, t500, t501, t502, t503, t504, t505, t506, t507, t508, t509⟩, A30, H⟩ := H
 replace H : (if (Int.tmod a0 5) = 0 then (dominolaw05_ParamsBad.j0 k a0 t485 1200 t487 t488 t489 t490 t491 t492 t493 t494 t495 t496 t498 1199 t500 t501 t502 t503 t504 t505 t506 t507 t508 t509) else (if (Int.tmod a0 5) = 1 then (dominolaw05_ParamsBad.j0 k a0 t485 t486 t487 t488 t489 t490 1152921504606846976 t492 t493 t494 t495 t496 t498 t499 t500 t501 t502 t503 1152921504606846977 t505 t506 t507 t508 t509) else (if (Int.tmod a0 5) = 2 then (dominolaw05_ParamsBad.j0 k a0 t485 t486 t487 t488 t489 t490 t491 t492 20 t494 t495 t496 t498 t499 t500 t501 t502 t503 t504 t505 21 t507 t508 t509) else (if (Int.tmod a0 5) = 3 then (dominolaw05_ParamsBad.j0 k a0 t485 t486 t487 t488 t489 t490 t491 t492 t493 16383 t495 t496 t498 t499 t500 t501 t502 t503 t504 t505 t506 16384 t508 t509) else (dominolaw05_ParamsBad.j0 k a0 t485 t486 t487 t488 t489 t490 t491 t492 t493 t494 4 t496 t498 t499 t500 t501 t502 t503 t504 t505 t506 t507 1 t509))))) = some r := H
 have A3 := Aside0.mk A30
 clear A30
 have HC4 := Aside0.mk H
 clear H
 go_enter Tryd.func7, Tryd.ntmps7
 go_upto_block 0 with (first | ((with_reducible refine gate_callee (f := 15) rfl ?_); refine goesL_ (some 14) rfl rfl Tryd.func15 (by kernel_rfl) rfl #[] rfl (by (try simp only [List.map_toArray, List.map_cons, List.map_nil]); first | done | rfl | (simp only [List.length_drop, List.length_take]; rfl)) ?_; (with_reducible refine (params_Default.calls  t485 t486 t487 t488 t489 t490 t491 t492 t493 t494 t495 t496 _ A2.out).mono ?_); rintro e w5 ⟨rfl, hb⟩; refine ⟨_, rfl, ?_⟩; have n0_ := Aside0.mk (below_step (by repeat (first | (with_reducible first | exact HB.out | apply below_alloc | apply pw_below_drewN | apply below_drew1) | exact HB.out)) hb); clear HB; have HB := n0_; clear n0_; (try clear hb); (try clear hb2); (try clear hk); (try clear hi)) | ((with_reducible refine gate_dst (N := 3) rfl ?_); refine box_event ?hg (N := 3) ?hd (cs := #[.int .u64 0, .int .u64 0, .int .u64 0, .int .u64 0, .int .u64 0, .int .u64 0, .int .u64 0, .int .u64 0, .int .u64 0, .int .u64 0, .int .u64 0, .string (⟨#[]⟩ : ByteArray)]) (t := 24) ?hr ?_; (case hd => rfl); (case hg => rfl); (case hr => first | (go_simp; done) | (go_simp; rfl)); intro gb497 hg w6 hbox hb; have n0_ := Aside0.mk (below_step (by repeat (first | (with_reducible first | exact HB.out | apply below_alloc | apply pw_below_drewN | apply below_drew1) | exact HB.out)) hb); have n1_ := Aside0.mk (hbox); have n2_ := Aside0.mk ((by rw [hg]; exact (below_size (by repeat (first | (with_reducible first | exact HB.out | apply below_alloc | apply pw_below_drewN | apply below_drew1) | exact HB.out))) : w.heap.size ≤ gb497)); have n3_ := Aside0.mk ((by rw [hg]; exact (below_size (by repeat (first | (with_reducible first | exact HB.out | apply below_alloc | apply pw_below_drewN | apply below_drew1) | exact HB.out))) : w.heap.size ≤ gb497)); clear HB; have HB := n0_; have BK497 := n1_; have GW497 := n2_; have GE497 := n3_; clear n0_ n1_ n2_ n3_; clear hb hbox hg; have hcz7_0 : w6.cell? ⟨gb497, 0, none⟩ = some (.int .u64 0) := (blk_cell BK497.out 0).trans rfl; have hcz7_1 : w6.cell? ⟨gb497, 1, none⟩ = some (.int .u64 0) := (blk_cell BK497.out 1).trans rfl; have hcz7_2 : w6.cell? ⟨gb497, 2, none⟩ = some (.int .u64 0) := (blk_cell BK497.out 2).trans rfl; have hcz7_3 : w6.cell? ⟨gb497, 3, none⟩ = some (.int .u64 0) := (blk_cell BK497.out 3).trans rfl; have hcz7_4 : w6.cell? ⟨gb497, 4, none⟩ = some (.int .u64 0) := (blk_cell BK497.out 4).trans rfl; have hcz7_5 : w6.cell? ⟨gb497, 5, none⟩ = some (.int .u64 0) := (blk_cell BK497.out 5).trans rfl; have hcz7_6 : w6.cell? ⟨gb497, 6, none⟩ = some (.int .u64 0) := (blk_cell BK497.out 6).trans rfl; have hcz7_7 : w6.cell? ⟨gb497, 7, none⟩ = some (.int .u64 0) := (blk_cell BK497.out 7).trans rfl; have hcz7_8 : w6.cell? ⟨gb497, 8, none⟩ = some (.int .u64 0) := (blk_cell BK497.out 8).trans rfl; have hcz7_9 : w6.cell? ⟨gb497, 9, none⟩ = some (.int .u64 0) := (blk_cell BK497.out 9).trans rfl; have hcz7_10 : w6.cell? ⟨gb497, 10, none⟩ = some (.int .u64 0) := (blk_cell BK497.out 10).trans rfl; have hcz7_11 : w6.cell? ⟨gb497, 11, none⟩ = some (.string (⟨#[]⟩ : ByteArray)) := (blk_cell BK497.out 11).trans rfl; have hfz7_0 := blk_frozen BK497.out 0; have hfz7_1 := blk_frozen BK497.out 1; have hfz7_2 := blk_frozen BK497.out 2; have hfz7_3 := blk_frozen BK497.out 3; have hfz7_4 := blk_frozen BK497.out 4; have hfz7_5 := blk_frozen BK497.out 5; have hfz7_6 := blk_frozen BK497.out 6; have hfz7_7 := blk_frozen BK497.out 7; have hfz7_8 := blk_frozen BK497.out 8; have hfz7_9 := blk_frozen BK497.out 9; have hfz7_10 := blk_frozen BK497.out 10; have hfz7_11 := blk_frozen BK497.out 11) | ((with_reducible refine gate_callee (f := 15) rfl ?_); refine goesL_ (some 15) rfl rfl Tryd.func15 (by kernel_rfl) rfl #[] rfl (by (try simp only [List.map_toArray, List.map_cons, List.map_nil]); first | done | rfl | (simp only [List.length_drop, List.length_take]; rfl)) ?_; (with_reducible refine (params_Default.calls  t498 t499 t500 t501 t502 t503 t504 t505 t506 t507 t508 t509 _ A3.out).mono ?_); rintro e w8 ⟨rfl, hb⟩; refine ⟨_, rfl, ?_⟩; have n0_ := Aside0.mk (blk_below (g := gb497) (o := .cells #[.int .u64 t485, .int .u64 t486, .int .u64 t487, .int .u64 t488, .int .u64 t489, .int .u64 t490, .int .u64 t491, .int .u64 t492, .int .u64 t493, .int .u64 t494, .int .u64 t495, .string t496] 24 (0, 0)) (by (with_reducible repeat (first | refine blk_drewN ?_ _ | refine blk_drew ?_ | refine blk_alloc ?_ _)); refine blk_put (cs := #[.int .u64 t485, .int .u64 t486, .int .u64 t487, .int .u64 t488, .int .u64 t489, .int .u64 t490, .int .u64 t491, .int .u64 t492, .int .u64 t493, .int .u64 t494, .int .u64 t495, .string (⟨#[]⟩ : ByteArray)]) ?_ 11 _ rfl; (with_reducible repeat (first | refine blk_drewN ?_ _ | refine blk_drew ?_ | refine blk_alloc ?_ _)); refine blk_put (cs := #[.int .u64 t485, .int .u64 t486, .int .u64 t487, .int .u64 t488, .int .u64 t489, .int .u64 t490, .int .u64 t491, .int .u64 t492, .int .u64 t493, .int .u64 t494, .int .u64 0, .string (⟨#[]⟩ : ByteArray)]) ?_ 10 _ rfl; (with_reducible repeat (first | refine blk_drewN ?_ _ | refine blk_drew ?_ | refine blk_alloc ?_ _)); refine blk_put (cs := #[.int .u64 t485, .int .u64 t486, .int .u64 t487, .int .u64 t488, .int .u64 t489, .int .u64 t490, .int .u64 t491, .int .u64 t492, .int .u64 t493, .int .u64 0, .int .u64 0, .string (⟨#[]⟩ : ByteArray)]) ?_ 9 _ rfl; (with_reducible repeat (first | refine blk_drewN ?_ _ | refine blk_drew ?_ | refine blk_alloc ?_ _)); refine blk_put (cs := #[.int .u64 t485, .int .u64 t486, .int .u64 t487, .int .u64 t488, .int .u64 t489, .int .u64 t490, .int .u64 t491, .int .u64 t492, .int .u64 0, .int .u64 0, .int .u64 0, .string (⟨#[]⟩ : ByteArray)]) ?_ 8 _ rfl; (with_reducible repeat (first | refine blk_drewN ?_ _ | refine blk_drew ?_ | refine blk_alloc ?_ _)); refine blk_put (cs := #[.int .u64 t485, .int .u64 t486, .int .u64 t487, .int .u64 t488, .int .u64 t489, .int .u64 t490, .int .u64 t491, .int .u64 0, .int .u64 0, .int .u64 0, .int .u64 0, .string (⟨#[]⟩ : ByteArray)]) ?_ 7 _ rfl; (with_reducible repeat (first | refine blk_drewN ?_ _ | refine blk_drew ?_ | refine blk_alloc ?_ _)); refine blk_put (cs := #[.int .u64 t485, .int .u64 t486, .int .u64 t487, .int .u64 t488, .int .u64 t489, .int .u64 t490, .int .u64 0, .int .u64 0, .int .u64 0, .int .u64 0, .int .u64 0, .string (⟨#[]⟩ : ByteArray)]) ?_ 6 _ rfl; (with_reducible repeat (first | refine blk_drewN ?_ _ | refine blk_drew ?_ | refine blk_alloc ?_ _)); refine blk_put (cs := #[.int .u64 t485, .int .u64 t486, .int .u64 t487, .int .u64 t488, .int .u64 t489, .int .u64 0, .int .u64 0, .int .u64 0, .int .u64 0, .int .u64 0, .int .u64 0, .string (⟨#[]⟩ : ByteArray)]) ?_ 5 _ rfl; (with_reducible repeat (first | refine blk_drewN ?_ _ | refine blk_drew ?_ | refine blk_alloc ?_ _)); refine blk_put (cs := #[.int .u64 t485, .int .u64 t486, .int .u64 t487, .int .u64 t488, .int .u64 0, .int .u64 0, .int .u64 0, .int .u64 0, .int .u64 0, .int .u64 0, .int .u64 0, .string (⟨#[]⟩ : ByteArray)]) ?_ 4 _ rfl; (with_reducible repeat (first | refine blk_drewN ?_ _ | refine blk_drew ?_ | refine blk_alloc ?_ _)); refine blk_put (cs := #[.int .u64 t485, .int .u64 t486, .int .u64 t487, .int .u64 0, .int .u64 0, .int .u64 0, .int .u64 0, .int .u64 0, .int .u64 0, .int .u64 0, .int .u64 0, .string (⟨#[]⟩ : ByteArray)]) ?_ 3 _ rfl; (with_reducible repeat (first | refine blk_drewN ?_ _ | refine blk_drew ?_ | refine blk_alloc ?_ _)); refine blk_put (cs := #[.int .u64 t485, .int .u64 t486, .int .u64 0, .int .u64 0, .int .u64 0, .int .u64 0, .int .u64 0, .int .u64 0, .int .u64 0, .int .u64 0, .int .u64 0, .string (⟨#[]⟩ : ByteArray)]) ?_ 2 _ rfl; (with_reducible repeat (first | refine blk_drewN ?_ _ | refine blk_drew ?_ | refine blk_alloc ?_ _)); refine blk_put (cs := #[.int .u64 t485, .int .u64 0, .int .u64 0, .int .u64 0, .int .u64 0, .int .u64 0, .int .u64 0, .int .u64 0, .int .u64 0, .int .u64 0, .int .u64 0, .string (⟨#[]⟩ : ByteArray)]) ?_ 1 _ rfl; (with_reducible repeat (first | refine blk_drewN ?_ _ | refine blk_drew ?_ | refine blk_alloc ?_ _)); refine blk_put (cs := #[.int .u64 0, .int .u64 0, .int .u64 0, .int .u64 0, .int .u64 0, .int .u64 0, .int .u64 0, .int .u64 0, .int .u64 0, .int .u64 0, .int .u64 0, .string (⟨#[]⟩ : ByteArray)]) ?_ 0 _ rfl; (with_reducible repeat (first | refine blk_drewN ?_ _ | refine blk_drew ?_ | refine blk_alloc ?_ _)); exact BK497.out) hb); have n1_ := Aside0.mk (below_step (by repeat (first | (with_reducible first | exact HB.out | apply below_alloc | apply pw_below_drewN | apply below_drew1 | refine below_set ?_ GE497.out) | exact HB.out)) hb); clear BK497; clear HB; have BK497 := n0_; have HB := n1_; clear n0_ n1_; (try clear hb); (try clear hb2); (try clear hk); (try clear hi)) | ((with_reducible refine gate_dst (N := 4) rfl ?_); refine box_event ?hg (N := 4) ?hd (cs := #[.int .u64 0, .int .u64 0, .int .u64 0, .int .u64 0, .int .u64 0, .int .u64 0, .int .u64 0, .int .u64 0, .int .u64 0, .int .u64 0, .int .u64 0, .string (⟨#[]⟩ : ByteArray)]) (t := 24) ?hr ?_; (case hd => rfl); (case hg => rfl); (case hr => first | (go_simp; done) | (go_simp; rfl)); intro gb510 hg w9 hbox hb; have n0_ := Aside0.mk (blk_below (g := gb497) (o := .cells #[.int .u64 t485, .int .u64 t486, .int .u64 t487, .int .u64 t488, .int .u64 t489, .int .u64 t490, .int .u64 t491, .int .u64 t492, .int .u64 t493, .int .u64 t494, .int .u64 t495, .string t496] 24 (0, 0)) (by (with_reducible repeat (first | refine blk_drewN ?_ _ | refine blk_drew ?_ | refine blk_alloc ?_ _)); exact BK497.out) hb); have n1_ := Aside0.mk (below_step (by repeat (first | (with_reducible first | exact HB.out | apply below_alloc | apply pw_below_drewN | apply below_drew1 | refine below_set ?_ GE497.out) | exact HB.out)) hb); have n2_ := Aside0.mk (hbox); have n3_ := Aside0.mk ((by rw [hg]; exact (below_size (by repeat (first | (with_reducible first | exact HB.out | apply below_alloc | apply pw_below_drewN | apply below_drew1 | refine below_set ?_ GE497.out) | exact HB.out))) : w.heap.size ≤ gb510)); have n4_ := Aside0.mk ((by rw [hg]; exact (below_size (by repeat (first | (with_reducible first | exact HB.out | apply below_alloc | apply pw_below_drewN | apply below_drew1 | refine below_set ?_ GE497.out) | exact HB.out))) : w.heap.size ≤ gb510)); have n5_ := Aside0.mk ((by rw [hg]; exact Nat.ne_of_lt (blk_lt (g := gb497) (o := .cells #[.int .u64 t485, .int .u64 t486, .int .u64 t487, .int .u64 t488, .int .u64 t489, .int .u64 t490, .int .u64 t491, .int .u64 t492, .int .u64 t493, .int .u64 t494, .int .u64 t495, .string t496] 24 (0, 0)) (by (with_reducible repeat (first | refine blk_drewN ?_ _ | refine blk_drew ?_ | refine blk_alloc ?_ _)); exact BK497.out)) : gb497 ≠ gb510)); have n6_ := Aside0.mk ((by rw [hg]; exact Nat.ne_of_gt (blk_lt (g := gb497) (o := .cells #[.int .u64 t485, .int .u64 t486, .int .u64 t487, .int .u64 t488, .int .u64 t489, .int .u64 t490, .int .u64 t491, .int .u64 t492, .int .u64 t493, .int .u64 t494, .int .u64 t495, .string t496] 24 (0, 0)) (by (with_reducible repeat (first | refine blk_drewN ?_ _ | refine blk_drew ?_ | refine blk_alloc ?_ _)); exact BK497.out)) : gb510 ≠ gb497)); clear BK497; clear HB; have BK497 := n0_; have HB := n1_; have BK510 := n2_; have GW510 := n3_; have GE510 := n4_; have NB497_510 := n5_; have NB510_497 := n6_; clear n0_ n1_ n2_ n3_ n4_ n5_ n6_; clear hb hbox hg; have hnb10 := NB510_497.out; have hnc10 := NB497_510.out; have hcz11_0 : w9.cell? ⟨gb510, 0, none⟩ = some (.int .u64 0) := (blk_cell BK510.out 0).trans rfl; have hcz11_1 : w9.cell? ⟨gb510, 1, none⟩ = some (.int .u64 0) := (blk_cell BK510.out 1).trans rfl; have hcz11_2 : w9.cell? ⟨gb510, 2, none⟩ = some (.int .u64 0) := (blk_cell BK510.out 2).trans rfl; have hcz11_3 : w9.cell? ⟨gb510, 3, none⟩ = some (.int .u64 0) := (blk_cell BK510.out 3).trans rfl; have hcz11_4 : w9.cell? ⟨gb510, 4, none⟩ = some (.int .u64 0) := (blk_cell BK510.out 4).trans rfl; have hcz11_5 : w9.cell? ⟨gb510, 5, none⟩ = some (.int .u64 0) := (blk_cell BK510.out 5).trans rfl; have hcz11_6 : w9.cell? ⟨gb510, 6, none⟩ = some (.int .u64 0) := (blk_cell BK510.out 6).trans rfl; have hcz11_7 : w9.cell? ⟨gb510, 7, none⟩ = some (.int .u64 0) := (blk_cell BK510.out 7).trans rfl; have hcz11_8 : w9.cell? ⟨gb510, 8, none⟩ = some (.int .u64 0) := (blk_cell BK510.out 8).trans rfl; have hcz11_9 : w9.cell? ⟨gb510, 9, none⟩ = some (.int .u64 0) := (blk_cell BK510.out 9).trans rfl; have hcz11_10 : w9.cell? ⟨gb510, 10, none⟩ = some (.int .u64 0) := (blk_cell BK510.out 10).trans rfl; have hcz11_11 : w9.cell? ⟨gb510, 11, none⟩ = some (.string (⟨#[]⟩ : ByteArray)) := (blk_cell BK510.out 11).trans rfl; have hfz11_0 := blk_frozen BK510.out 0; have hfz11_1 := blk_frozen BK510.out 1; have hfz11_2 := blk_frozen BK510.out 2; have hfz11_3 := blk_frozen BK510.out 3; have hfz11_4 := blk_frozen BK510.out 4; have hfz11_5 := blk_frozen BK510.out 5; have hfz11_6 := blk_frozen BK510.out 6; have hfz11_7 := blk_frozen BK510.out 7; have hfz11_8 := blk_frozen BK510.out 8; have hfz11_9 := blk_frozen BK510.out 9; have hfz11_10 := blk_frozen BK510.out 10; have hfz11_11 := blk_frozen BK510.out 11))
 (try simp only [Act.put, List.setIfInBounds_toArray, List.set_cons_zero, List.set_cons_succ])
 go_cut [] (fun wc => ∃ (kq : Nat) (x498001_3 : Int) (x498006_3 : Int) (x498008_3 : Int) (x498009_3 : Int) (x498010_3 : Int) (x511001_3 : Int) (x511006_3 : Int) (x511008_3 : Int) (x511009_3 : Int) (x511010_3 : Int), Aside0 (dominolaw05_ParamsBad.j0 kq a0 t485 x498001_3 t487 t488 t489 t490 x498006_3 t492 x498008_3 x498009_3 x498010_3 t496 t498 x511001_3 t500 t501 t502 t503 x511006_3 t505 x511008_3 x511009_3 x511010_3 t509 = some r) ∧ Aside0 (kq ≤ k) ∧ Aside0 (wc.heap[gb497]? = some (.cells #[.int .u64 t485, .int .u64 x498001_3, .int .u64 t487, .int .u64 t488, .int .u64 t489, .int .u64 t490, .int .u64 x498006_3, .int .u64 t492, .int .u64 x498008_3, .int .u64 x498009_3, .int .u64 x498010_3, .string t496] 24 (0, 0))) ∧ Aside0 (wc.heap[gb510]? = some (.cells #[.int .u64 t498, .int .u64 x511001_3, .int .u64 t500, .int .u64 t501, .int .u64 t502, .int .u64 t503, .int .u64 x511006_3, .int .u64 t505, .int .u64 x511008_3, .int .u64 x511009_3, .int .u64 x511010_3, .string t509] 24 (0, 0))) ∧ Aside0 (Below w.heap.size w wc))
 case first =>
  have H := HC4.out
  clear HC4
  by_cases c12 : (Int.tmod a0 5) = 0
  ·rw [if_pos c12] at H
   have c12b0 : ((Int.tmod a0 5) == 0) = true := beq_iff_eq.mpr c12
   have c12b1 : ((Int.tmod a0 5) != 0) = false := bne_eq_false_iff_eq.mpr c12
   clear c12
   (first | rw [c12b0] | (simp only [i64_w, i32_w]; rw [c12b0]) | skip)
   have H' := Aside0.mk H
   clear H
   have hnb13 := NB497_510.out
   have hnc13 := NB510_497.out
   have hcz14_0 : w9.cell? ⟨gb497, 0, none⟩ = some (.int .u64 t485) := (blk_cell BK497.out 0).trans rfl
   have hcz14_1 : w9.cell? ⟨gb497, 1, none⟩ = some (.int .u64 t486) := (blk_cell BK497.out 1).trans rfl
   have hcz14_2 : w9.cell? ⟨gb497, 2, none⟩ = some (.int .u64 t487) := (blk_cell BK497.out 2).trans rfl
   have hcz14_3 : w9.cell? ⟨gb497, 3, none⟩ = some (.int .u64 t488) := (blk_cell BK497.out 3).trans rfl
   have hcz14_4 : w9.cell? ⟨gb497, 4, none⟩ = some (.int .u64 t489) := (blk_cell BK497.out 4).trans rfl
   have hcz14_5 : w9.cell? ⟨gb497, 5, none⟩ = some (.int .u64 t490) := (blk_cell BK497.out 5).trans rfl
   have hcz14_6 : w9.cell? ⟨gb497, 6, none⟩ = some (.int .u64 t491) := (blk_cell BK497.out 6).trans rfl
   have hcz14_7 : w9.cell? ⟨gb497, 7, none⟩ = some (.int .u64 t492) := (blk_cell BK497.out 7).trans rfl
   have hcz14_8 : w9.cell? ⟨gb497, 8, none⟩ = some (.int .u64 t493) := (blk_cell BK497.out 8).trans rfl
   have hcz14_9 : w9.cell? ⟨gb497, 9, none⟩ = some (.int .u64 t494) := (blk_cell BK497.out 9).trans rfl
   have hcz14_10 : w9.cell? ⟨gb497, 10, none⟩ = some (.int .u64 t495) := (blk_cell BK497.out 10).trans rfl
   have hcz14_11 : w9.cell? ⟨gb497, 11, none⟩ = some (.string t496) := (blk_cell BK497.out 11).trans rfl
   have hfz14_0 := blk_frozen BK497.out 0
   have hfz14_1 := blk_frozen BK497.out 1
   have hfz14_2 := blk_frozen BK497.out 2
   have hfz14_3 := blk_frozen BK497.out 3
   have hfz14_4 := blk_frozen BK497.out 4
   have hfz14_5 := blk_frozen BK497.out 5
   have hfz14_6 := blk_frozen BK497.out 6
   have hfz14_7 := blk_frozen BK497.out 7
   have hfz14_8 := blk_frozen BK497.out 8
   have hfz14_9 := blk_frozen BK497.out 9
   have hfz14_10 := blk_frozen BK497.out 10
   have hfz14_11 := blk_frozen BK497.out 11
   have hcz15_0 : w9.cell? ⟨gb510, 0, none⟩ = some (.int .u64 0) := (blk_cell BK510.out 0).trans rfl
   have hcz15_1 : w9.cell? ⟨gb510, 1, none⟩ = some (.int .u64 0) := (blk_cell BK510.out 1).trans rfl
   have hcz15_2 : w9.cell? ⟨gb510, 2, none⟩ = some (.int .u64 0) := (blk_cell BK510.out 2).trans rfl
   have hcz15_3 : w9.cell? ⟨gb510, 3, none⟩ = some (.int .u64 0) := (blk_cell BK510.out 3).trans rfl
   have hcz15_4 : w9.cell? ⟨gb510, 4, none⟩ = some (.int .u64 0) := (blk_cell BK510.out 4).trans rfl
   have hcz15_5 : w9.cell? ⟨gb510, 5, none⟩ = some (.int .u64 0) := (blk_cell BK510.out 5).trans rfl
   have hcz15_6 : w9.cell? ⟨gb510, 6, none⟩ = some (.int .u64 0) := (blk_cell BK510.out 6).trans rfl
   have hcz15_7 : w9.cell? ⟨gb510, 7, none⟩ = some (.int .u64 0) := (blk_cell BK510.out 7).trans rfl
   have hcz15_8 : w9.cell? ⟨gb510, 8, none⟩ = some (.int .u64 0) := (blk_cell BK510.out 8).trans rfl
   have hcz15_9 : w9.cell? ⟨gb510, 9, none⟩ = some (.int .u64 0) := (blk_cell BK510.out 9).trans rfl
   have hcz15_10 : w9.cell? ⟨gb510, 10, none⟩ = some (.int .u64 0) := (blk_cell BK510.out 10).trans rfl
   have hcz15_11 : w9.cell? ⟨gb510, 11, none⟩ = some (.string (⟨#[]⟩ : ByteArray)) := (blk_cell BK510.out 11).trans rfl
   have hfz15_0 := blk_frozen BK510.out 0
   have hfz15_1 := blk_frozen BK510.out 1
   have hfz15_2 := blk_frozen BK510.out 2
   have hfz15_3 := blk_frozen BK510.out 3
   have hfz15_4 := blk_frozen BK510.out 4
   have hfz15_5 := blk_frozen BK510.out 5
   have hfz15_6 := blk_frozen BK510.out 6
   have hfz15_7 := blk_frozen BK510.out 7
   have hfz15_8 := blk_frozen BK510.out 8
   have hfz15_9 := blk_frozen BK510.out 9
   have hfz15_10 := blk_frozen BK510.out 10
   have hfz15_11 := blk_frozen BK510.out 11
   go_wp2
   go_meet
   case rel => exact ⟨_, (1200), (t491), (t493), (t494), (t495), (1199), (t504), (t506), (t507), (t508), H', ⟨by first | omega | exact Nat.le_refl _⟩, ⟨by (with_reducible repeat (first | refine blk_drewN ?_ _ | refine blk_drew ?_ | refine blk_alloc ?_ _)); refine blk_far ?_ NB497_510.out _; (with_reducible repeat (first | refine blk_drewN ?_ _ | refine blk_drew ?_ | refine blk_alloc ?_ _)); refine blk_put (cs := #[.int .u64 t485, .int .u64 t486, .int .u64 t487, .int .u64 t488, .int .u64 t489, .int .u64 t490, .int .u64 t491, .int .u64 t492, .int .u64 t493, .int .u64 t494, .int .u64 t495, .string t496]) ?_ 1 _ rfl; (with_reducible repeat (first | refine blk_drewN ?_ _ | refine blk_drew ?_ | refine blk_alloc ?_ _)); refine blk_far ?_ NB497_510.out _; (with_reducible repeat (first | refine blk_drewN ?_ _ | refine blk_drew ?_ | refine blk_alloc ?_ _)); refine blk_far ?_ NB497_510.out _; (with_reducible repeat (first | refine blk_drewN ?_ _ | refine blk_drew ?_ | refine blk_alloc ?_ _)); refine blk_far ?_ NB497_510.out _; (with_reducible repeat (first | refine blk_drewN ?_ _ | refine blk_drew ?_ | refine blk_alloc ?_ _)); refine blk_far ?_ NB497_510.out _; (with_reducible repeat (first | refine blk_drewN ?_ _ | refine blk_drew ?_ | refine blk_alloc ?_ _)); refine blk_far ?_ NB497_510.out _; (with_reducible repeat (first | refine blk_drewN ?_ _ | refine blk_drew ?_ | refine blk_alloc ?_ _)); refine blk_far ?_ NB497_510.out _; (with_reducible repeat (first | refine blk_drewN ?_ _ | refine blk_drew ?_ | refine blk_alloc ?_ _)); refine blk_far ?_ NB497_510.out _; (with_reducible repeat (first | refine blk_drewN ?_ _ | refine blk_drew ?_ | refine blk_alloc ?_ _)); refine blk_far ?_ NB497_510.out _; (with_reducible repeat (first | refine blk_drewN ?_ _ | refine blk_drew ?_ | refine blk_alloc ?_ _)); refine blk_far ?_ NB497_510.out _; (with_reducible repeat (first | refine blk_drewN ?_ _ | refine blk_drew ?_ | refine blk_alloc ?_ _)); refine blk_far ?_ NB497_510.out _; (with_reducible repeat (first | refine blk_drewN ?_ _ | refine blk_drew ?_ | refine blk_alloc ?_ _)); refine blk_far ?_ NB497_510.out _; (with_reducible repeat (first | refine blk_drewN ?_ _ | refine blk_drew ?_ | refine blk_alloc ?_ _)); refine blk_far ?_ NB497_510.out _; (with_reducible repeat (first | refine blk_drewN ?_ _ | refine blk_drew ?_ | refine blk_alloc ?_ _)); exact BK497.out⟩, ⟨by (with_reducible repeat (first | refine blk_drewN ?_ _ | refine blk_drew ?_ | refine blk_alloc ?_ _)); refine blk_put (cs := #[.int .u64 t498, .int .u64 t499, .int .u64 t500, .int .u64 t501, .int .u64 t502, .int .u64 t503, .int .u64 t504, .int .u64 t505, .int .u64 t506, .int .u64 t507, .int .u64 t508, .string t509]) ?_ 1 _ rfl; (with_reducible repeat (first | refine blk_drewN ?_ _ | refine blk_drew ?_ | refine blk_alloc ?_ _)); refine blk_far ?_ NB510_497.out _; (with_reducible repeat (first | refine blk_drewN ?_ _ | refine blk_drew ?_ | refine blk_alloc ?_ _)); refine blk_put (cs := #[.int .u64 t498, .int .u64 t499, .int .u64 t500, .int .u64 t501, .int .u64 t502, .int .u64 t503, .int .u64 t504, .int .u64 t505, .int .u64 t506, .int .u64 t507, .int .u64 t508, .string (⟨#[]⟩ : ByteArray)]) ?_ 11 _ rfl; (with_reducible repeat (first | refine blk_drewN ?_ _ | refine blk_drew ?_ | refine blk_alloc ?_ _)); refine blk_put (cs := #[.int .u64 t498, .int .u64 t499, .int .u64 t500, .int .u64 t501, .int .u64 t502, .int .u64 t503, .int .u64 t504, .int .u64 t505, .int .u64 t506, .int .u64 t507, .int .u64 0, .string (⟨#[]⟩ : ByteArray)]) ?_ 10 _ rfl; (with_reducible repeat (first | refine blk_drewN ?_ _ | refine blk_drew ?_ | refine blk_alloc ?_ _)); refine blk_put (cs := #[.int .u64 t498, .int .u64 t499, .int .u64 t500, .int .u64 t501, .int .u64 t502, .int .u64 t503, .int .u64 t504, .int .u64 t505, .int .u64 t506, .int .u64 0, .int .u64 0, .string (⟨#[]⟩ : ByteArray)]) ?_ 9 _ rfl; (with_reducible repeat (first | refine blk_drewN ?_ _ | refine blk_drew ?_ | refine blk_alloc ?_ _)); refine blk_put (cs := #[.int .u64 t498, .int .u64 t499, .int .u64 t500, .int .u64 t501, .int .u64 t502, .int .u64 t503, .int .u64 t504, .int .u64 t505, .int .u64 0, .int .u64 0, .int .u64 0, .string (⟨#[]⟩ : ByteArray)]) ?_ 8 _ rfl; (with_reducible repeat (first | refine blk_drewN ?_ _ | refine blk_drew ?_ | refine blk_alloc ?_ _)); refine blk_put (cs := #[.int .u64 t498, .int .u64 t499, .int .u64 t500, .int .u64 t501, .int .u64 t502, .int .u64 t503, .int .u64 t504, .int .u64 0, .int .u64 0, .int .u64 0, .int .u64 0, .string (⟨#[]⟩ : ByteArray)]) ?_ 7 _ rfl; (with_reducible repeat (first | refine blk_drewN ?_ _ | refine blk_drew ?_ | refine blk_alloc ?_ _)); refine blk_put (cs := #[.int .u64 t498, .int .u64 t499, .int .u64 t500, .int .u64 t501, .int .u64 t502, .int .u64 t503, .int .u64 0, .int .u64 0, .int .u64 0, .int .u64 0, .int .u64 0, .string (⟨#[]⟩ : ByteArray)]) ?_ 6 _ rfl; (with_reducible repeat (first | refine blk_drewN ?_ _ | refine blk_drew ?_ | refine blk_alloc ?_ _)); refine blk_put (cs := #[.int .u64 t498, .int .u64 t499, .int .u64 t500, .int .u64 t501, .int .u64 t502, .int .u64 0, .int .u64 0, .int .u64 0, .int .u64 0, .int .u64 0, .int .u64 0, .string (⟨#[]⟩ : ByteArray)]) ?_ 5 _ rfl; (with_reducible repeat (first | refine blk_drewN ?_ _ | refine blk_drew ?_ | refine blk_alloc ?_ _)); refine blk_put (cs := #[.int .u64 t498, .int .u64 t499, .int .u64 t500, .int .u64 t501, .int .u64 0, .int .u64 0, .int .u64 0, .int .u64 0, .int .u64 0, .int .u64 0, .int .u64 0, .string (⟨#[]⟩ : ByteArray)]) ?_ 4 _ rfl; (with_reducible repeat (first | refine blk_drewN ?_ _ | refine blk_drew ?_ | refine blk_alloc ?_ _)); refine blk_put (cs := #[.int .u64 t498, .int .u64 t499, .int .u64 t500, .int .u64 0, .int .u64 0, .int .u64 0, .int .u64 0, .int .u64 0, .int .u64 0, .int .u64 0, .int .u64 0, .string (⟨#[]⟩ : ByteArray)]) ?_ 3 _ rfl; (with_reducible repeat (first | refine blk_drewN ?_ _ | refine blk_drew ?_ | refine blk_alloc ?_ _)); refine blk_put (cs := #[.int .u64 t498, .int .u64 t499, .int .u64 0, .int .u64 0, .int .u64 0, .int .u64 0, .int .u64 0, .int .u64 0, .int .u64 0, .int .u64 0, .int .u64 0, .string (⟨#[]⟩ : ByteArray)]) ?_ 2 _ rfl; (with_reducible repeat (first | refine blk_drewN ?_ _ | refine blk_drew ?_ | refine blk_alloc ?_ _)); refine blk_put (cs := #[.int .u64 t498, .int .u64 0, .int .u64 0, .int .u64 0, .int .u64 0, .int .u64 0, .int .u64 0, .int .u64 0, .int .u64 0, .int .u64 0, .int .u64 0, .string (⟨#[]⟩ : ByteArray)]) ?_ 1 _ rfl; (with_reducible repeat (first | refine blk_drewN ?_ _ | refine blk_drew ?_ | refine blk_alloc ?_ _)); refine blk_put (cs := #[.int .u64 0, .int .u64 0, .int .u64 0, .int .u64 0, .int .u64 0, .int .u64 0, .int .u64 0, .int .u64 0, .int .u64 0, .int .u64 0, .int .u64 0, .string (⟨#[]⟩ : ByteArray)]) ?_ 0 _ rfl; (with_reducible repeat (first | refine blk_drewN ?_ _ | refine blk_drew ?_ | refine blk_alloc ?_ _)); exact BK510.out⟩, ⟨by repeat (first | (with_reducible first | exact HB.out | apply below_alloc | apply pw_below_drewN | apply below_drew1 | refine below_set ?_ GE497.out | refine below_set ?_ GE510.out) | exact HB.out)⟩⟩
  ·rw [if_neg c12] at H
   have c12b0 : ((Int.tmod a0 5) == 0) = false := beq_eq_false_iff_ne.mpr c12
   have c12b1 : ((Int.tmod a0 5) != 0) = true := bne_iff_ne.mpr c12
   (first | rw [c12b0] | (simp only [i64_w, i32_w]; rw [c12b0]) | skip)
   by_cases c16 : (Int.tmod a0 5) = 1
   ·rw [if_pos c16] at H
    have c16b0 : ((Int.tmod a0 5) == 1) = true := beq_iff_eq.mpr c16
    have c16b1 : ((Int.tmod a0 5) != 1) = false := bne_eq_false_iff_eq.mpr c16
    clear c16
    have H' := Aside0.mk H
    clear H
    have hnb17 := NB497_510.out
    have hnc17 := NB510_497.out
    have hcz18_0 : w9.cell? ⟨gb497, 0, none⟩ = some (.int .u64 t485) := (blk_cell BK497.out 0).trans rfl
    have hcz18_1 : w9.cell? ⟨gb497, 1, none⟩ = some (.int .u64 t486) := (blk_cell BK497.out 1).trans rfl
    have hcz18_2 : w9.cell? ⟨gb497, 2, none⟩ = some (.int .u64 t487) := (blk_cell BK497.out 2).trans rfl
    have hcz18_3 : w9.cell? ⟨gb497, 3, none⟩ = some (.int .u64 t488) := (blk_cell BK497.out 3).trans rfl
    have hcz18_4 : w9.cell? ⟨gb497, 4, none⟩ = some (.int .u64 t489) := (blk_cell BK497.out 4).trans rfl
    have hcz18_5 : w9.cell? ⟨gb497, 5, none⟩ = some (.int .u64 t490) := (blk_cell BK497.out 5).trans rfl
    have hcz18_6 : w9.cell? ⟨gb497, 6, none⟩ = some (.int .u64 t491) := (blk_cell BK497.out 6).trans rfl
    have hcz18_7 : w9.cell? ⟨gb497, 7, none⟩ = some (.int .u64 t492) := (blk_cell BK497.out 7).trans rfl
    have hcz18_8 : w9.cell? ⟨gb497, 8, none⟩ = some (.int .u64 t493) := (blk_cell BK497.out 8).trans rfl
    have hcz18_9 : w9.cell? ⟨gb497, 9, none⟩ = some (.int .u64 t494) := (blk_cell BK497.out 9).trans rfl
    have hcz18_10 : w9.cell? ⟨gb497, 10, none⟩ = some (.int .u64 t495) := (blk_cell BK497.out 10).trans rfl
    have hcz18_11 : w9.cell? ⟨gb497, 11, none⟩ = some (.string t496) := (blk_cell BK497.out 11).trans rfl
    have hfz18_0 := blk_frozen BK497.out 0
    have hfz18_1 := blk_frozen BK497.out 1
    have hfz18_2 := blk_frozen BK497.out 2
    have hfz18_3 := blk_frozen BK497.out 3
    have hfz18_4 := blk_frozen BK497.out 4
    have hfz18_5 := blk_frozen BK497.out 5
    have hfz18_6 := blk_frozen BK497.out 6
    have hfz18_7 := blk_frozen BK497.out 7
    have hfz18_8 := blk_frozen BK497.out 8
    have hfz18_9 := blk_frozen BK497.out 9
    have hfz18_10 := blk_frozen BK497.out 10
    have hfz18_11 := blk_frozen BK497.out 11
    have hcz19_0 : w9.cell? ⟨gb510, 0, none⟩ = some (.int .u64 0) := (blk_cell BK510.out 0).trans rfl
    have hcz19_1 : w9.cell? ⟨gb510, 1, none⟩ = some (.int .u64 0) := (blk_cell BK510.out 1).trans rfl
    have hcz19_2 : w9.cell? ⟨gb510, 2, none⟩ = some (.int .u64 0) := (blk_cell BK510.out 2).trans rfl
    have hcz19_3 : w9.cell? ⟨gb510, 3, none⟩ = some (.int .u64 0) := (blk_cell BK510.out 3).trans rfl
    have hcz19_4 : w9.cell? ⟨gb510, 4, none⟩ = some (.int .u64 0) := (blk_cell BK510.out 4).trans rfl
    have hcz19_5 : w9.cell? ⟨gb510, 5, none⟩ = some (.int .u64 0) := (blk_cell BK510.out 5).trans rfl
    have hcz19_6 : w9.cell? ⟨gb510, 6, none⟩ = some (.int .u64 0) := (blk_cell BK510.out 6).trans rfl
    have hcz19_7 : w9.cell? ⟨gb510, 7, none⟩ = some (.int .u64 0) := (blk_cell BK510.out 7).trans rfl
    have hcz19_8 : w9.cell? ⟨gb510, 8, none⟩ = some (.int .u64 0) := (blk_cell BK510.out 8).trans rfl
    have hcz19_9 : w9.cell? ⟨gb510, 9, none⟩ = some (.int .u64 0) := (blk_cell BK510.out 9).trans rfl
    have hcz19_10 : w9.cell? ⟨gb510, 10, none⟩ = some (.int .u64 0) := (blk_cell BK510.out 10).trans rfl
    have hcz19_11 : w9.cell? ⟨gb510, 11, none⟩ = some (.string (⟨#[]⟩ : ByteArray)) := (blk_cell BK510.out 11).trans rfl
    have hfz19_0 := blk_frozen BK510.out 0
    have hfz19_1 := blk_frozen BK510.out 1
    have hfz19_2 := blk_frozen BK510.out 2
    have hfz19_3 := blk_frozen BK510.out 3
    have hfz19_4 := blk_frozen BK510.out 4
    have hfz19_5 := blk_frozen BK510.out 5
    have hfz19_6 := blk_frozen BK510.out 6
    have hfz19_7 := blk_frozen BK510.out 7
    have hfz19_8 := blk_frozen BK510.out 8
    have hfz19_9 := blk_frozen BK510.out 9
    have hfz19_10 := blk_frozen BK510.out 10
    have hfz19_11 := blk_frozen BK510.out 11
    go_wp2
    go_meet
    case rel => exact ⟨_, (t486), (1152921504606846976), (t493), (t494), (t495), (t499), (1152921504606846977), (t506), (t507), (t508), H', ⟨by first | omega | exact Nat.le_refl _⟩, ⟨by (with_reducible repeat (first | refine blk_drewN ?_ _ | refine blk_drew ?_ | refine blk_alloc ?_ _)); refine blk_far ?_ NB497_510.out _; (with_reducible repeat (first | refine blk_drewN ?_ _ | refine blk_drew ?_ | refine blk_alloc ?_ _)); refine blk_put (cs := #[.int .u64 t485, .int .u64 t486, .int .u64 t487, .int .u64 t488, .int .u64 t489, .int .u64 t490, .int .u64 t491, .int .u64 t492, .int .u64 t493, .int .u64 t494, .int .u64 t495, .string t496]) ?_ 6 _ rfl; (with_reducible repeat (first | refine blk_drewN ?_ _ | refine blk_drew ?_ | refine blk_alloc ?_ _)); refine blk_far ?_ NB497_510.out _; (with_reducible repeat (first | refine blk_drewN ?_ _ | refine blk_drew ?_ | refine blk_alloc ?_ _)); refine blk_far ?_ NB497_510.out _; (with_reducible repeat (first | refine blk_drewN ?_ _ | refine blk_drew ?_ | refine blk_alloc ?_ _)); refine blk_far ?_ NB497_510.out _; (with_reducible repeat (first | refine blk_drewN ?_ _ | refine blk_drew ?_ | refine blk_alloc ?_ _)); refine blk_far ?_ NB497_510.out _; (with_reducible repeat (first | refine blk_drewN ?_ _ | refine blk_drew ?_ | refine blk_alloc ?_ _)); refine blk_far ?_ NB497_510.out _; (with_reducible repeat (first | refine blk_drewN ?_ _ | refine blk_drew ?_ | refine blk_alloc ?_ _)); refine blk_far ?_ NB497_510.out _; (with_reducible repeat (first | refine blk_drewN ?_ _ | refine blk_drew ?_ | refine blk_alloc ?_ _)); refine blk_far ?_ NB497_510.out _; (with_reducible repeat (first | refine blk_drewN ?_ _ | refine blk_drew ?_ | refine blk_alloc ?_ _)); refine blk_far ?_ NB497_510.out _; (with_reducible repeat (first | refine blk_drewN ?_ _ | refine blk_drew ?_ | refine blk_alloc ?_ _)); refine blk_far ?_ NB497_510.out _; (with_reducible repeat (first | refine blk_drewN ?_ _ | refine blk_drew ?_ | refine blk_alloc ?_ _)); refine blk_far ?_ NB497_510.out _; (with_reducible repeat (first | refine blk_drewN ?_ _ | refine blk_drew ?_ | refine blk_alloc ?_ _)); refine blk_far ?_ NB497_510.out _; (with_reducible repeat (first | refine blk_drewN ?_ _ | refine blk_drew ?_ | refine blk_alloc ?_ _)); refine blk_far ?_ NB497_510.out _; (with_reducible repeat (first | refine blk_drewN ?_ _ | refine blk_drew ?_ | refine blk_alloc ?_ _)); exact BK497.out⟩, ⟨by (with_reducible repeat (first | refine blk_drewN ?_ _ | refine blk_drew ?_ | refine blk_alloc ?_ _)); refine blk_put (cs := #[.int .u64 t498, .int .u64 t499, .int .u64 t500, .int .u64 t501, .int .u64 t502, .int .u64 t503, .int .u64 t504, .int .u64 t505, .int .u64 t506, .int .u64 t507, .int .u64 t508, .string t509]) ?_ 6 _ rfl; (with_reducible repeat (first | refine blk_drewN ?_ _ | refine blk_drew ?_ | refine blk_alloc ?_ _)); refine blk_far ?_ NB510_497.out _; (with_reducible repeat (first | refine blk_drewN ?_ _ | refine blk_drew ?_ | refine blk_alloc ?_ _)); refine blk_put (cs := #[.int .u64 t498, .int .u64 t499, .int .u64 t500, .int .u64 t501, .int .u64 t502, .int .u64 t503, .int .u64 t504, .int .u64 t505, .int .u64 t506, .int .u64 t507, .int .u64 t508, .string (⟨#[]⟩ : ByteArray)]) ?_ 11 _ rfl; (with_reducible repeat (first | refine blk_drewN ?_ _ | refine blk_drew ?_ | refine blk_alloc ?_ _)); refine blk_put (cs := #[.int .u64 t498, .int .u64 t499, .int .u64 t500, .int .u64 t501, .int .u64 t502, .int .u64 t503, .int .u64 t504, .int .u64 t505, .int .u64 t506, .int .u64 t507, .int .u64 0, .string (⟨#[]⟩ : ByteArray)]) ?_ 10 _ rfl; (with_reducible repeat (first | refine blk_drewN ?_ _ | refine blk_drew ?_ | refine blk_alloc ?_ _)); refine blk_put (cs := #[.int .u64 t498, .int .u64 t499, .int .u64 t500, .int .u64 t501, .int .u64 t502, .int .u64 t503, .int .u64 t504, .int .u64 t505, .int .u64 t506, .int .u64 0, .int .u64 0, .string (⟨#[]⟩ : ByteArray)]) ?_ 9 _ rfl; (with_reducible repeat (first | refine blk_drewN ?_ _ | refine blk_drew ?_ | refine blk_alloc ?_ _)); refine blk_put (cs := #[.int .u64 t498, .int .u64 t499, .int .u64 t500, .int .u64 t501, .int .u64 t502, .int .u64 t503, .int .u64 t504, .int .u64 t505, .int .u64 0, .int .u64 0, .int .u64 0, .string (⟨#[]⟩ : ByteArray)]) ?_ 8 _ rfl; (with_reducible repeat (first | refine blk_drewN ?_ _ | refine blk_drew ?_ | refine blk_alloc ?_ _)); refine blk_put (cs := #[.int .u64 t498, .int .u64 t499, .int .u64 t500, .int .u64 t501, .int .u64 t502, .int .u64 t503, .int .u64 t504, .int .u64 0, .int .u64 0, .int .u64 0, .int .u64 0, .string (⟨#[]⟩ : ByteArray)]) ?_ 7 _ rfl; (with_reducible repeat (first | refine blk_drewN ?_ _ | refine blk_drew ?_ | refine blk_alloc ?_ _)); refine blk_put (cs := #[.int .u64 t498, .int .u64 t499, .int .u64 t500, .int .u64 t501, .int .u64 t502, .int .u64 t503, .int .u64 0, .int .u64 0, .int .u64 0, .int .u64 0, .int .u64 0, .string (⟨#[]⟩ : ByteArray)]) ?_ 6 _ rfl; (with_reducible repeat (first | refine blk_drewN ?_ _ | refine blk_drew ?_ | refine blk_alloc ?_ _)); refine blk_put (cs := #[.int .u64 t498, .int .u64 t499, .int .u64 t500, .int .u64 t501, .int .u64 t502, .int .u64 0, .int .u64 0, .int .u64 0, .int .u64 0, .int .u64 0, .int .u64 0, .string (⟨#[]⟩ : ByteArray)]) ?_ 5 _ rfl; (with_reducible repeat (first | refine blk_drewN ?_ _ | refine blk_drew ?_ | refine blk_alloc ?_ _)); refine blk_put (cs := #[.int .u64 t498, .int .u64 t499, .int .u64 t500, .int .u64 t501, .int .u64 0, .int .u64 0, .int .u64 0, .int .u64 0, .int .u64 0, .int .u64 0, .int .u64 0, .string (⟨#[]⟩ : ByteArray)]) ?_ 4 _ rfl; (with_reducible repeat (first | refine blk_drewN ?_ _ | refine blk_drew ?_ | refine blk_alloc ?_ _)); refine blk_put (cs := #[.int .u64 t498, .int .u64 t499, .int .u64 t500, .int .u64 0, .int .u64 0, .int .u64 0, .int .u64 0, .int .u64 0, .int .u64 0, .int .u64 0, .int .u64 0, .string (⟨#[]⟩ : ByteArray)]) ?_ 3 _ rfl; (with_reducible repeat (first | refine blk_drewN ?_ _ | refine blk_drew ?_ | refine blk_alloc ?_ _)); refine blk_put (cs := #[.int .u64 t498, .int .u64 t499, .int .u64 0, .int .u64 0, .int .u64 0, .int .u64 0, .int .u64 0, .int .u64 0, .int .u64 0, .int .u64 0, .int .u64 0, .string (⟨#[]⟩ : ByteArray)]) ?_ 2 _ rfl; (with_reducible repeat (first | refine blk_drewN ?_ _ | refine blk_drew ?_ | refine blk_alloc ?_ _)); refine blk_put (cs := #[.int .u64 t498, .int .u64 0, .int .u64 0, .int .u64 0, .int .u64 0, .int .u64 0, .int .u64 0, .int .u64 0, .int .u64 0, .int .u64 0, .int .u64 0, .string (⟨#[]⟩ : ByteArray)]) ?_ 1 _ rfl; (with_reducible repeat (first | refine blk_drewN ?_ _ | refine blk_drew ?_ | refine blk_alloc ?_ _)); refine blk_put (cs := #[.int .u64 0, .int .u64 0, .int .u64 0, .int .u64 0, .int .u64 0, .int .u64 0, .int .u64 0, .int .u64 0, .int .u64 0, .int .u64 0, .int .u64 0, .string (⟨#[]⟩ : ByteArray)]) ?_ 0 _ rfl; (with_reducible repeat (first | refine blk_drewN ?_ _ | refine blk_drew ?_ | refine blk_alloc ?_ _)); exact BK510.out⟩, ⟨by repeat (first | (with_reducible first | exact HB.out | apply below_alloc | apply pw_below_drewN | apply below_drew1 | refine below_set ?_ GE497.out | refine below_set ?_ GE510.out) | exact HB.out)⟩⟩
   ·rw [if_neg c16] at H
    have c16b0 : ((Int.tmod a0 5) == 1) = false := beq_eq_false_iff_ne.mpr c16
    have c16b1 : ((Int.tmod a0 5) != 1) = true := bne_iff_ne.mpr c16
    by_cases c20 : (Int.tmod a0 5) = 2
    ·rw [if_pos c20] at H
     have c20b0 : ((Int.tmod a0 5) == 2) = true := beq_iff_eq.mpr c20
     have c20b1 : ((Int.tmod a0 5) != 2) = false := bne_eq_false_iff_eq.mpr c20
     clear c20
     have H' := Aside0.mk H
     clear H
     have hnb21 := NB497_510.out
     have hnc21 := NB510_497.out
     have hcz22_0 : w9.cell? ⟨gb497, 0, none⟩ = some (.int .u64 t485) := (blk_cell BK497.out 0).trans rfl
     have hcz22_1 : w9.cell? ⟨gb497, 1, none⟩ = some (.int .u64 t486) := (blk_cell BK497.out 1).trans rfl
     have hcz22_2 : w9.cell? ⟨gb497, 2, none⟩ = some (.int .u64 t487) := (blk_cell BK497.out 2).trans rfl
     have hcz22_3 : w9.cell? ⟨gb497, 3, none⟩ = some (.int .u64 t488) := (blk_cell BK497.out 3).trans rfl
     have hcz22_4 : w9.cell? ⟨gb497, 4, none⟩ = some (.int .u64 t489) := (blk_cell BK497.out 4).trans rfl
     have hcz22_5 : w9.cell? ⟨gb497, 5, none⟩ = some (.int .u64 t490) := (blk_cell BK497.out 5).trans rfl
     have hcz22_6 : w9.cell? ⟨gb497, 6, none⟩ = some (.int .u64 t491) := (blk_cell BK497.out 6).trans rfl
     have hcz22_7 : w9.cell? ⟨gb497, 7, none⟩ = some (.int .u64 t492) := (blk_cell BK497.out 7).trans rfl
     have hcz22_8 : w9.cell? ⟨gb497, 8, none⟩ = some (.int .u64 t493) := (blk_cell BK497.out 8).trans rfl
     have hcz22_9 : w9.cell? ⟨gb497, 9, none⟩ = some (.int .u64 t494) := (blk_cell BK497.out 9).trans rfl
     have hcz22_10 : w9.cell? ⟨gb497, 10, none⟩ = some (.int .u64 t495) := (blk_cell BK497.out 10).trans rfl
     have hcz22_11 : w9.cell? ⟨gb497, 11, none⟩ = some (.string t496) := (blk_cell BK497.out 11).trans rfl
     have hfz22_0 := blk_frozen BK497.out 0
     have hfz22_1 := blk_frozen BK497.out 1
     have hfz22_2 := blk_frozen BK497.out 2
     have hfz22_3 := blk_frozen BK497.out 3
     have hfz22_4 := blk_frozen BK497.out 4
     have hfz22_5 := blk_frozen BK497.out 5
     have hfz22_6 := blk_frozen BK497.out 6
     have hfz22_7 := blk_frozen BK497.out 7
     have hfz22_8 := blk_frozen BK497.out 8
     have hfz22_9 := blk_frozen BK497.out 9
     have hfz22_10 := blk_frozen BK497.out 10
     have hfz22_11 := blk_frozen BK497.out 11
     have hcz23_0 : w9.cell? ⟨gb510, 0, none⟩ = some (.int .u64 0) := (blk_cell BK510.out 0).trans rfl
     have hcz23_1 : w9.cell? ⟨gb510, 1, none⟩ = some (.int .u64 0) := (blk_cell BK510.out 1).trans rfl
     have hcz23_2 : w9.cell? ⟨gb510, 2, none⟩ = some (.int .u64 0) := (blk_cell BK510.out 2).trans rfl
     have hcz23_3 : w9.cell? ⟨gb510, 3, none⟩ = some (.int .u64 0) := (blk_cell BK510.out 3).trans rfl
     have hcz23_4 : w9.cell? ⟨gb510, 4, none⟩ = some (.int .u64 0) := (blk_cell BK510.out 4).trans rfl
     have hcz23_5 : w9.cell? ⟨gb510, 5, none⟩ = some (.int .u64 0) := (blk_cell BK510.out 5).trans rfl
     have hcz23_6 : w9.cell? ⟨gb510, 6, none⟩ = some (.int .u64 0) := (blk_cell BK510.out 6).trans rfl
     have hcz23_7 : w9.cell? ⟨gb510, 7, none⟩ = some (.int .u64 0) := (blk_cell BK510.out 7).trans rfl
     have hcz23_8 : w9.cell? ⟨gb510, 8, none⟩ = some (.int .u64 0) := (blk_cell BK510.out 8).trans rfl
     have hcz23_9 : w9.cell? ⟨gb510, 9, none⟩ = some (.int .u64 0) := (blk_cell BK510.out 9).trans rfl
     have hcz23_10 : w9.cell? ⟨gb510, 10, none⟩ = some (.int .u64 0) := (blk_cell BK510.out 10).trans rfl
     have hcz23_11 : w9.cell? ⟨gb510, 11, none⟩ = some (.string (⟨#[]⟩ : ByteArray)) := (blk_cell BK510.out 11).trans rfl
     have hfz23_0 := blk_frozen BK510.out 0
     have hfz23_1 := blk_frozen BK510.out 1
     have hfz23_2 := blk_frozen BK510.out 2
     have hfz23_3 := blk_frozen BK510.out 3
     have hfz23_4 := blk_frozen BK510.out 4
     have hfz23_5 := blk_frozen BK510.out 5
     have hfz23_6 := blk_frozen BK510.out 6
     have hfz23_7 := blk_frozen BK510.out 7
     have hfz23_8 := blk_frozen BK510.out 8
     have hfz23_9 := blk_frozen BK510.out 9
     have hfz23_10 := blk_frozen BK510.out 10
     have hfz23_11 := blk_frozen BK510.out 11
     go_wp2
     go_meet
     case rel => exact ⟨_, (t486), (t491), (20), (t494), (t495), (t499), (t504), (21), (t507), (t508), H', ⟨by first | omega | exact Nat.le_refl _⟩, ⟨by (with_reducible repeat (first | refine blk_drewN ?_ _ | refine blk_drew ?_ | refine blk_alloc ?_ _)); refine blk_far ?_ NB497_510.out _; (with_reducible repeat (first | refine blk_drewN ?_ _ | refine blk_drew ?_ | refine blk_alloc ?_ _)); refine blk_put (cs := #[.int .u64 t485, .int .u64 t486, .int .u64 t487, .int .u64 t488, .int .u64 t489, .int .u64 t490, .int .u64 t491, .int .u64 t492, .int .u64 t493, .int .u64 t494, .int .u64 t495, .string t496]) ?_ 8 _ rfl; (with_reducible repeat (first | refine blk_drewN ?_ _ | refine blk_drew ?_ | refine blk_alloc ?_ _)); refine blk_far ?_ NB497_510.out _; (with_reducible repeat (first | refine blk_drewN ?_ _ | refine blk_drew ?_ | refine blk_alloc ?_ _)); refine blk_far ?_ NB497_510.out _; (with_reducible repeat (first | refine blk_drewN ?_ _ | refine blk_drew ?_ | refine blk_alloc ?_ _)); refine blk_far ?_ NB497_510.out _; (with_reducible repeat (first | refine blk_drewN ?_ _ | refine blk_drew ?_ | refine blk_alloc ?_ _)); refine blk_far ?_ NB497_510.out _; (with_reducible repeat (first | refine blk_drewN ?_ _ | refine blk_drew ?_ | refine blk_alloc ?_ _)); refine blk_far ?_ NB497_510.out _; (with_reducible repeat (first | refine blk_drewN ?_ _ | refine blk_drew ?_ | refine blk_alloc ?_ _)); refine blk_far ?_ NB497_510.out _; (with_reducible repeat (first | refine blk_drewN ?_ _ | refine blk_drew ?_ | refine blk_alloc ?_ _)); refine blk_far ?_ NB497_510.out _; (with_reducible repeat (first | refine blk_drewN ?_ _ | refine blk_drew ?_ | refine blk_alloc ?_ _)); refine blk_far ?_ NB497_510.out _; (with_reducible repeat (first | refine blk_drewN ?_ _ | refine blk_drew ?_ | refine blk_alloc ?_ _)); refine blk_far ?_ NB497_510.out _; (with_reducible repeat (first | refine blk_drewN ?_ _ | refine blk_drew ?_ | refine blk_alloc ?_ _)); refine blk_far ?_ NB497_510.out _; (with_reducible repeat (first | refine blk_drewN ?_ _ | refine blk_drew ?_ | refine blk_alloc ?_ _)); refine blk_far ?_ NB497_510.out _; (with_reducible repeat (first | refine blk_drewN ?_ _ | refine blk_drew ?_ | refine blk_alloc ?_ _)); refine blk_far ?_ NB497_510.out _; (with_reducible repeat (first | refine blk_drewN ?_ _ | refine blk_drew ?_ | refine blk_alloc ?_ _)); exact BK497.out⟩, ⟨by (with_reducible repeat (first | refine blk_drewN ?_ _ | refine blk_drew ?_ | refine blk_alloc ?_ _)); refine blk_put (cs := #[.int .u64 t498, .int .u64 t499, .int .u64 t500, .int .u64 t501, .int .u64 t502, .int .u64 t503, .int .u64 t504, .int .u64 t505, .int .u64 t506, .int .u64 t507, .int .u64 t508, .string t509]) ?_ 8 _ rfl; (with_reducible repeat (first | refine blk_drewN ?_ _ | refine blk_drew ?_ | refine blk_alloc ?_ _)); refine blk_far ?_ NB510_497.out _; (with_reducible repeat (first | refine blk_drewN ?_ _ | refine blk_drew ?_ | refine blk_alloc ?_ _)); refine blk_put (cs := #[.int .u64 t498, .int .u64 t499, .int .u64 t500, .int .u64 t501, .int .u64 t502, .int .u64 t503, .int .u64 t504, .int .u64 t505, .int .u64 t506, .int .u64 t507, .int .u64 t508, .string (⟨#[]⟩ : ByteArray)]) ?_ 11 _ rfl; (with_reducible repeat (first | refine blk_drewN ?_ _ | refine blk_drew ?_ | refine blk_alloc ?_ _)); refine blk_put (cs := #[.int .u64 t498, .int .u64 t499, .int .u64 t500, .int .u64 t501, .int .u64 t502, .int .u64 t503, .int .u64 t504, .int .u64 t505, .int .u64 t506, .int .u64 t507, .int .u64 0, .string (⟨#[]⟩ : ByteArray)]) ?_ 10 _ rfl; (with_reducible repeat (first | refine blk_drewN ?_ _ | refine blk_drew ?_ | refine blk_alloc ?_ _)); refine blk_put (cs := #[.int .u64 t498, .int .u64 t499, .int .u64 t500, .int .u64 t501, .int .u64 t502, .int .u64 t503, .int .u64 t504, .int .u64 t505, .int .u64 t506, .int .u64 0, .int .u64 0, .string (⟨#[]⟩ : ByteArray)]) ?_ 9 _ rfl; (with_reducible repeat (first | refine blk_drewN ?_ _ | refine blk_drew ?_ | refine blk_alloc ?_ _)); refine blk_put (cs := #[.int .u64 t498, .int .u64 t499, .int .u64 t500, .int .u64 t501, .int .u64 t502, .int .u64 t503, .int .u64 t504, .int .u64 t505, .int .u64 0, .int .u64 0, .int .u64 0, .string (⟨#[]⟩ : ByteArray)]) ?_ 8 _ rfl; (with_reducible repeat (first | refine blk_drewN ?_ _ | refine blk_drew ?_ | refine blk_alloc ?_ _)); refine blk_put (cs := #[.int .u64 t498, .int .u64 t499, .int .u64 t500, .int .u64 t501, .int .u64 t502, .int .u64 t503, .int .u64 t504, .int .u64 0, .int .u64 0, .int .u64 0, .int .u64 0, .string (⟨#[]⟩ : ByteArray)]) ?_ 7 _ rfl; (with_reducible repeat (first | refine blk_drewN ?_ _ | refine blk_drew ?_ | refine blk_alloc ?_ _)); refine blk_put (cs := #[.int .u64 t498, .int .u64 t499, .int .u64 t500, .int .u64 t501, .int .u64 t502, .int .u64 t503, .int .u64 0, .int .u64 0, .int .u64 0, .int .u64 0, .int .u64 0, .string (⟨#[]⟩ : ByteArray)]) ?_ 6 _ rfl; (with_reducible repeat (first | refine blk_drewN ?_ _ | refine blk_drew ?_ | refine blk_alloc ?_ _)); refine blk_put (cs := #[.int .u64 t498, .int .u64 t499, .int .u64 t500, .int .u64 t501, .int .u64 t502, .int .u64 0, .int .u64 0, .int .u64 0, .int .u64 0, .int .u64 0, .int .u64 0, .string (⟨#[]⟩ : ByteArray)]) ?_ 5 _ rfl; (with_reducible repeat (first | refine blk_drewN ?_ _ | refine blk_drew ?_ | refine blk_alloc ?_ _)); refine blk_put (cs := #[.int .u64 t498, .int .u64 t499, .int .u64 t500, .int .u64 t501, .int .u64 0, .int .u64 0, .int .u64 0, .int .u64 0, .int .u64 0, .int .u64 0, .int .u64 0, .string (⟨#[]⟩ : ByteArray)]) ?_ 4 _ rfl; (with_reducible repeat (first | refine blk_drewN ?_ _ | refine blk_drew ?_ | refine blk_alloc ?_ _)); refine blk_put (cs := #[.int .u64 t498, .int .u64 t499, .int .u64 t500, .int .u64 0, .int .u64 0, .int .u64 0, .int .u64 0, .int .u64 0, .int .u64 0, .int .u64 0, .int .u64 0, .string (⟨#[]⟩ : ByteArray)]) ?_ 3 _ rfl; (with_reducible repeat (first | refine blk_drewN ?_ _ | refine blk_drew ?_ | refine blk_alloc ?_ _)); refine blk_put (cs := #[.int .u64 t498, .int .u64 t499, .int .u64 0, .int .u64 0, .int .u64 0, .int .u64 0, .int .u64 0, .int .u64 0, .int .u64 0, .int .u64 0, .int .u64 0, .string (⟨#[]⟩ : ByteArray)]) ?_ 2 _ rfl; (with_reducible repeat (first | refine blk_drewN ?_ _ | refine blk_drew ?_ | refine blk_alloc ?_ _)); refine blk_put (cs := #[.int .u64 t498, .int .u64 0, .int .u64 0, .int .u64 0, .int .u64 0, .int .u64 0, .int .u64 0, .int .u64 0, .int .u64 0, .int .u64 0, .int .u64 0, .string (⟨#[]⟩ : ByteArray)]) ?_ 1 _ rfl; (with_reducible repeat (first | refine blk_drewN ?_ _ | refine blk_drew ?_ | refine blk_alloc ?_ _)); refine blk_put (cs := #[.int .u64 0, .int .u64 0, .int .u64 0, .int .u64 0, .int .u64 0, .int .u64 0, .int .u64 0, .int .u64 0, .int .u64 0, .int .u64 0, .int .u64 0, .string (⟨#[]⟩ : ByteArray)]) ?_ 0 _ rfl; (with_reducible repeat (first | refine blk_drewN ?_ _ | refine blk_drew ?_ | refine blk_alloc ?_ _)); exact BK510.out⟩, ⟨by repeat (first | (with_reducible first | exact HB.out | apply below_alloc | apply pw_below_drewN | apply below_drew1 | refine below_set ?_ GE497.out | refine below_set ?_ GE510.out) | exact HB.out)⟩⟩
    ·rw [if_neg c20] at H
     have c20b0 : ((Int.tmod a0 5) == 2) = false := beq_eq_false_iff_ne.mpr c20
     have c20b1 : ((Int.tmod a0 5) != 2) = true := bne_iff_ne.mpr c20
     by_cases c24 : (Int.tmod a0 5) = 3
     ·rw [if_pos c24] at H
      have c24b0 : ((Int.tmod a0 5) == 3) = true := beq_iff_eq.mpr c24
      have c24b1 : ((Int.tmod a0 5) != 3) = false := bne_eq_false_iff_eq.mpr c24
      clear c24
      have H' := Aside0.mk H
      clear H
      have hnb25 := NB497_510.out
      have hnc25 := NB510_497.out
      have hcz26_0 : w9.cell? ⟨gb497, 0, none⟩ = some (.int .u64 t485) := (blk_cell BK497.out 0).trans rfl
      have hcz26_1 : w9.cell? ⟨gb497, 1, none⟩ = some (.int .u64 t486) := (blk_cell BK497.out 1).trans rfl
      have hcz26_2 : w9.cell? ⟨gb497, 2, none⟩ = some (.int .u64 t487) := (blk_cell BK497.out 2).trans rfl
      have hcz26_3 : w9.cell? ⟨gb497, 3, none⟩ = some (.int .u64 t488) := (blk_cell BK497.out 3).trans rfl
      have hcz26_4 : w9.cell? ⟨gb497, 4, none⟩ = some (.int .u64 t489) := (blk_cell BK497.out 4).trans rfl
      have hcz26_5 : w9.cell? ⟨gb497, 5, none⟩ = some (.int .u64 t490) := (blk_cell BK497.out 5).trans rfl
      have hcz26_6 : w9.cell? ⟨gb497, 6, none⟩ = some (.int .u64 t491) := (blk_cell BK497.out 6).trans rfl
      have hcz26_7 : w9.cell? ⟨gb497, 7, none⟩ = some (.int .u64 t492) := (blk_cell BK497.out 7).trans rfl
      have hcz26_8 : w9.cell? ⟨gb497, 8, none⟩ = some (.int .u64 t493) := (blk_cell BK497.out 8).trans rfl
      have hcz26_9 : w9.cell? ⟨gb497, 9, none⟩ = some (.int .u64 t494) := (blk_cell BK497.out 9).trans rfl
      have hcz26_10 : w9.cell? ⟨gb497, 10, none⟩ = some (.int .u64 t495) := (blk_cell BK497.out 10).trans rfl
      have hcz26_11 : w9.cell? ⟨gb497, 11, none⟩ = some (.string t496) := (blk_cell BK497.out 11).trans rfl
      have hfz26_0 := blk_frozen BK497.out 0
      have hfz26_1 := blk_frozen BK497.out 1
      have hfz26_2 := blk_frozen BK497.out 2
      have hfz26_3 := blk_frozen BK497.out 3
      have hfz26_4 := blk_frozen BK497.out 4
      have hfz26_5 := blk_frozen BK497.out 5
      have hfz26_6 := blk_frozen BK497.out 6
      have hfz26_7 := blk_frozen BK497.out 7
      have hfz26_8 := blk_frozen BK497.out 8
      have hfz26_9 := blk_frozen BK497.out 9
      have hfz26_10 := blk_frozen BK497.out 10
      have hfz26_11 := blk_frozen BK497.out 11
      have hcz27_0 : w9.cell? ⟨gb510, 0, none⟩ = some (.int .u64 0) := (blk_cell BK510.out 0).trans rfl
      have hcz27_1 : w9.cell? ⟨gb510, 1, none⟩ = some (.int .u64 0) := (blk_cell BK510.out 1).trans rfl
      have hcz27_2 : w9.cell? ⟨gb510, 2, none⟩ = some (.int .u64 0) := (blk_cell BK510.out 2).trans rfl
      have hcz27_3 : w9.cell? ⟨gb510, 3, none⟩ = some (.int .u64 0) := (blk_cell BK510.out 3).trans rfl
      have hcz27_4 : w9.cell? ⟨gb510, 4, none⟩ = some (.int .u64 0) := (blk_cell BK510.out 4).trans rfl
      have hcz27_5 : w9.cell? ⟨gb510, 5, none⟩ = some (.int .u64 0) := (blk_cell BK510.out 5).trans rfl
      have hcz27_6 : w9.cell? ⟨gb510, 6, none⟩ = some (.int .u64 0) := (blk_cell BK510.out 6).trans rfl
      have hcz27_7 : w9.cell? ⟨gb510, 7, none⟩ = some (.int .u64 0) := (blk_cell BK510.out 7).trans rfl
      have hcz27_8 : w9.cell? ⟨gb510, 8, none⟩ = some (.int .u64 0) := (blk_cell BK510.out 8).trans rfl
      have hcz27_9 : w9.cell? ⟨gb510, 9, none⟩ = some (.int .u64 0) := (blk_cell BK510.out 9).trans rfl
      have hcz27_10 : w9.cell? ⟨gb510, 10, none⟩ = some (.int .u64 0) := (blk_cell BK510.out 10).trans rfl
      have hcz27_11 : w9.cell? ⟨gb510, 11, none⟩ = some (.string (⟨#[]⟩ : ByteArray)) := (blk_cell BK510.out 11).trans rfl
      have hfz27_0 := blk_frozen BK510.out 0
      have hfz27_1 := blk_frozen BK510.out 1
      have hfz27_2 := blk_frozen BK510.out 2
      have hfz27_3 := blk_frozen BK510.out 3
      have hfz27_4 := blk_frozen BK510.out 4
      have hfz27_5 := blk_frozen BK510.out 5
      have hfz27_6 := blk_frozen BK510.out 6
      have hfz27_7 := blk_frozen BK510.out 7
      have hfz27_8 := blk_frozen BK510.out 8
      have hfz27_9 := blk_frozen BK510.out 9
      have hfz27_10 := blk_frozen BK510.out 10
      have hfz27_11 := blk_frozen BK510.out 11
      go_wp2
      go_meet
      case rel => exact ⟨_, (t486), (t491), (t493), (16383), (t495), (t499), (t504), (t506), (16384), (t508), H', ⟨by first | omega | exact Nat.le_refl _⟩, ⟨by (with_reducible repeat (first | refine blk_drewN ?_ _ | refine blk_drew ?_ | refine blk_alloc ?_ _)); refine blk_far ?_ NB497_510.out _; (with_reducible repeat (first | refine blk_drewN ?_ _ | refine blk_drew ?_ | refine blk_alloc ?_ _)); refine blk_put (cs := #[.int .u64 t485, .int .u64 t486, .int .u64 t487, .int .u64 t488, .int .u64 t489, .int .u64 t490, .int .u64 t491, .int .u64 t492, .int .u64 t493, .int .u64 t494, .int .u64 t495, .string t496]) ?_ 9 _ rfl; (with_reducible repeat (first | refine blk_drewN ?_ _ | refine blk_drew ?_ | refine blk_alloc ?_ _)); refine blk_far ?_ NB497_510.out _; (with_reducible repeat (first | refine blk_drewN ?_ _ | refine blk_drew ?_ | refine blk_alloc ?_ _)); refine blk_far ?_ NB497_510.out _; (with_reducible repeat (first | refine blk_drewN ?_ _ | refine blk_drew ?_ | refine blk_alloc ?_ _)); refine blk_far ?_ NB497_510.out _; (with_reducible repeat (first | refine blk_drewN ?_ _ | refine blk_drew ?_ | refine blk_alloc ?_ _)); refine blk_far ?_ NB497_510.out _; (with_reducible repeat (first | refine blk_drewN ?_ _ | refine blk_drew ?_ | refine blk_alloc ?_ _)); refine blk_far ?_ NB497_510.out _; (with_reducible repeat (first | refine blk_drewN ?_ _ | refine blk_drew ?_ | refine blk_alloc ?_ _)); refine blk_far ?_ NB497_510.out _; (with_reducible repeat (first | refine blk_drewN ?_ _ | refine blk_drew ?_ | refine blk_alloc ?_ _)); refine blk_far ?_ NB497_510.out _; (with_reducible repeat (first | refine blk_drewN ?_ _ | refine blk_drew ?_ | refine blk_alloc ?_ _)); refine blk_far ?_ NB497_510.out _; (with_reducible repeat (first | refine blk_drewN ?_ _ | refine blk_drew ?_ | refine blk_alloc ?_ _)); refine blk_far ?_ NB497_510.out _; (with_reducible repeat (first | refine blk_drewN ?_ _ | refine blk_drew ?_ | refine blk_alloc ?_ _)); refine blk_far ?_ NB497_510.out _; (with_reducible repeat (first | refine blk_drewN ?_ _ | refine blk_drew ?_ | refine blk_alloc ?_ _)); refine blk_far ?_ NB497_510.out _; (with_reducible repeat (first | refine blk_drewN ?_ _ | refine blk_drew ?_ | refine blk_alloc ?_ _)); refine blk_far ?_ NB497_510.out _; (with_reducible repeat (first | refine blk_drewN ?_ _ | refine blk_drew ?_ | refine blk_alloc ?_ _)); exact BK497.out⟩, ⟨by (with_reducible repeat (first | refine blk_drewN ?_ _ | refine blk_drew ?_ | refine blk_alloc ?_ _)); refine blk_put (cs := #[.int .u64 t498, .int .u64 t499, .int .u64 t500, .int .u64 t501, .int .u64 t502, .int .u64 t503, .int .u64 t504, .int .u64 t505, .int .u64 t506, .int .u64 t507, .int .u64 t508, .string t509]) ?_ 9 _ rfl; (with_reducible repeat (first | refine blk_drewN ?_ _ | refine blk_drew ?_ | refine blk_alloc ?_ _)); refine blk_far ?_ NB510_497.out _; (with_reducible repeat (first | refine blk_drewN ?_ _ | refine blk_drew ?_ | refine blk_alloc ?_ _)); refine blk_put (cs := #[.int .u64 t498, .int .u64 t499, .int .u64 t500, .int .u64 t501, .int .u64 t502, .int .u64 t503, .int .u64 t504, .int .u64 t505, .int .u64 t506, .int .u64 t507, .int .u64 t508, .string (⟨#[]⟩ : ByteArray)]) ?_ 11 _ rfl; (with_reducible repeat (first | refine blk_drewN ?_ _ | refine blk_drew ?_ | refine blk_alloc ?_ _)); refine blk_put (cs := #[.int .u64 t498, .int .u64 t499, .int .u64 t500, .int .u64 t501, .int .u64 t502, .int .u64 t503, .int .u64 t504, .int .u64 t505, .int .u64 t506, .int .u64 t507, .int .u64 0, .string (⟨#[]⟩ : ByteArray)]) ?_ 10 _ rfl; (with_reducible repeat (first | refine blk_drewN ?_ _ | refine blk_drew ?_ | refine blk_alloc ?_ _)); refine blk_put (cs := #[.int .u64 t498, .int .u64 t499, .int .u64 t500, .int .u64 t501, .int .u64 t502, .int .u64 t503, .int .u64 t504, .int .u64 t505, .int .u64 t506, .int .u64 0, .int .u64 0, .string (⟨#[]⟩ : ByteArray)]) ?_ 9 _ rfl; (with_reducible repeat (first | refine blk_drewN ?_ _ | refine blk_drew ?_ | refine blk_alloc ?_ _)); refine blk_put (cs := #[.int .u64 t498, .int .u64 t499, .int .u64 t500, .int .u64 t501, .int .u64 t502, .int .u64 t503, .int .u64 t504, .int .u64 t505, .int .u64 0, .int .u64 0, .int .u64 0, .string (⟨#[]⟩ : ByteArray)]) ?_ 8 _ rfl; (with_reducible repeat (first | refine blk_drewN ?_ _ | refine blk_drew ?_ | refine blk_alloc ?_ _)); refine blk_put (cs := #[.int .u64 t498, .int .u64 t499, .int .u64 t500, .int .u64 t501, .int .u64 t502, .int .u64 t503, .int .u64 t504, .int .u64 0, .int .u64 0, .int .u64 0, .int .u64 0, .string (⟨#[]⟩ : ByteArray)]) ?_ 7 _ rfl; (with_reducible repeat (first | refine blk_drewN ?_ _ | refine blk_drew ?_ | refine blk_alloc ?_ _)); refine blk_put (cs := #[.int .u64 t498, .int .u64 t499, .int .u64 t500, .int .u64 t501, .int .u64 t502, .int .u64 t503, .int .u64 0, .int .u64 0, .int .u64 0, .int .u64 0, .int .u64 0, .string (⟨#[]⟩ : ByteArray)]) ?_ 6 _ rfl; (with_reducible repeat (first | refine blk_drewN ?_ _ | refine blk_drew ?_ | refine blk_alloc ?_ _)); refine blk_put (cs := #[.int .u64 t498, .int .u64 t499, .int .u64 t500, .int .u64 t501, .int .u64 t502, .int .u64 0, .int .u64 0, .int .u64 0, .int .u64 0, .int .u64 0, .int .u64 0, .string (⟨#[]⟩ : ByteArray)]) ?_ 5 _ rfl; (with_reducible repeat (first | refine blk_drewN ?_ _ | refine blk_drew ?_ | refine blk_alloc ?_ _)); refine blk_put (cs := #[.int .u64 t498, .int .u64 t499, .int .u64 t500, .int .u64 t501, .int .u64 0, .int .u64 0, .int .u64 0, .int .u64 0, .int .u64 0, .int .u64 0, .int .u64 0, .string (⟨#[]⟩ : ByteArray)]) ?_ 4 _ rfl; (with_reducible repeat (first | refine blk_drewN ?_ _ | refine blk_drew ?_ | refine blk_alloc ?_ _)); refine blk_put (cs := #[.int .u64 t498, .int .u64 t499, .int .u64 t500, .int .u64 0, .int .u64 0, .int .u64 0, .int .u64 0, .int .u64 0, .int .u64 0, .int .u64 0, .int .u64 0, .string (⟨#[]⟩ : ByteArray)]) ?_ 3 _ rfl; (with_reducible repeat (first | refine blk_drewN ?_ _ | refine blk_drew ?_ | refine blk_alloc ?_ _)); refine blk_put (cs := #[.int .u64 t498, .int .u64 t499, .int .u64 0, .int .u64 0, .int .u64 0, .int .u64 0, .int .u64 0, .int .u64 0, .int .u64 0, .int .u64 0, .int .u64 0, .string (⟨#[]⟩ : ByteArray)]) ?_ 2 _ rfl; (with_reducible repeat (first | refine blk_drewN ?_ _ | refine blk_drew ?_ | refine blk_alloc ?_ _)); refine blk_put (cs := #[.int .u64 t498, .int .u64 0, .int .u64 0, .int .u64 0, .int .u64 0, .int .u64 0, .int .u64 0, .int .u64 0, .int .u64 0, .int .u64 0, .int .u64 0, .string (⟨#[]⟩ : ByteArray)]) ?_ 1 _ rfl; (with_reducible repeat (first | refine blk_drewN ?_ _ | refine blk_drew ?_ | refine blk_alloc ?_ _)); refine blk_put (cs := #[.int .u64 0, .int .u64 0, .int .u64 0, .int .u64 0, .int .u64 0, .int .u64 0, .int .u64 0, .int .u64 0, .int .u64 0, .int .u64 0, .int .u64 0, .string (⟨#[]⟩ : ByteArray)]) ?_ 0 _ rfl; (with_reducible repeat (first | refine blk_drewN ?_ _ | refine blk_drew ?_ | refine blk_alloc ?_ _)); exact BK510.out⟩, ⟨by repeat (first | (with_reducible first | exact HB.out | apply below_alloc | apply pw_below_drewN | apply below_drew1 | refine below_set ?_ GE497.out | refine below_set ?_ GE510.out) | exact HB.out)⟩⟩
     ·rw [if_neg c24] at H
      have c24b0 : ((Int.tmod a0 5) == 3) = false := beq_eq_false_iff_ne.mpr c24
      have c24b1 : ((Int.tmod a0 5) != 3) = true := bne_iff_ne.mpr c24
      have H' := Aside0.mk H
      clear H
      have hnb28 := NB497_510.out
      have hnc28 := NB510_497.out
      have hcz29_0 : w9.cell? ⟨gb497, 0, none⟩ = some (.int .u64 t485) := (blk_cell BK497.out 0).trans rfl
      have hcz29_1 : w9.cell? ⟨gb497, 1, none⟩ = some (.int .u64 t486) := (blk_cell BK497.out 1).trans rfl
      have hcz29_2 : w9.cell? ⟨gb497, 2, none⟩ = some (.int .u64 t487) := (blk_cell BK497.out 2).trans rfl
      have hcz29_3 : w9.cell? ⟨gb497, 3, none⟩ = some (.int .u64 t488) := (blk_cell BK497.out 3).trans rfl
      have hcz29_4 : w9.cell? ⟨gb497, 4, none⟩ = some (.int .u64 t489) := (blk_cell BK497.out 4).trans rfl
      have hcz29_5 : w9.cell? ⟨gb497, 5, none⟩ = some (.int .u64 t490) := (blk_cell BK497.out 5).trans rfl
      have hcz29_6 : w9.cell? ⟨gb497, 6, none⟩ = some (.int .u64 t491) := (blk_cell BK497.out 6).trans rfl
      have hcz29_7 : w9.cell? ⟨gb497, 7, none⟩ = some (.int .u64 t492) := (blk_cell BK497.out 7).trans rfl
      have hcz29_8 : w9.cell? ⟨gb497, 8, none⟩ = some (.int .u64 t493) := (blk_cell BK497.out 8).trans rfl
      have hcz29_9 : w9.cell? ⟨gb497, 9, none⟩ = some (.int .u64 t494) := (blk_cell BK497.out 9).trans rfl
      have hcz29_10 : w9.cell? ⟨gb497, 10, none⟩ = some (.int .u64 t495) := (blk_cell BK497.out 10).trans rfl
      have hcz29_11 : w9.cell? ⟨gb497, 11, none⟩ = some (.string t496) := (blk_cell BK497.out 11).trans rfl
      have hfz29_0 := blk_frozen BK497.out 0
      have hfz29_1 := blk_frozen BK497.out 1
      have hfz29_2 := blk_frozen BK497.out 2
      have hfz29_3 := blk_frozen BK497.out 3
      have hfz29_4 := blk_frozen BK497.out 4
      have hfz29_5 := blk_frozen BK497.out 5
      have hfz29_6 := blk_frozen BK497.out 6
      have hfz29_7 := blk_frozen BK497.out 7
      have hfz29_8 := blk_frozen BK497.out 8
      have hfz29_9 := blk_frozen BK497.out 9
      have hfz29_10 := blk_frozen BK497.out 10
      have hfz29_11 := blk_frozen BK497.out 11
      have hcz30_0 : w9.cell? ⟨gb510, 0, none⟩ = some (.int .u64 0) := (blk_cell BK510.out 0).trans rfl
      have hcz30_1 : w9.cell? ⟨gb510, 1, none⟩ = some (.int .u64 0) := (blk_cell BK510.out 1).trans rfl
      have hcz30_2 : w9.cell? ⟨gb510, 2, none⟩ = some (.int .u64 0) := (blk_cell BK510.out 2).trans rfl
      have hcz30_3 : w9.cell? ⟨gb510, 3, none⟩ = some (.int .u64 0) := (blk_cell BK510.out 3).trans rfl
      have hcz30_4 : w9.cell? ⟨gb510, 4, none⟩ = some (.int .u64 0) := (blk_cell BK510.out 4).trans rfl
      have hcz30_5 : w9.cell? ⟨gb510, 5, none⟩ = some (.int .u64 0) := (blk_cell BK510.out 5).trans rfl
      have hcz30_6 : w9.cell? ⟨gb510, 6, none⟩ = some (.int .u64 0) := (blk_cell BK510.out 6).trans rfl
      have hcz30_7 : w9.cell? ⟨gb510, 7, none⟩ = some (.int .u64 0) := (blk_cell BK510.out 7).trans rfl
      have hcz30_8 : w9.cell? ⟨gb510, 8, none⟩ = some (.int .u64 0) := (blk_cell BK510.out 8).trans rfl
      have hcz30_9 : w9.cell? ⟨gb510, 9, none⟩ = some (.int .u64 0) := (blk_cell BK510.out 9).trans rfl
      have hcz30_10 : w9.cell? ⟨gb510, 10, none⟩ = some (.int .u64 0) := (blk_cell BK510.out 10).trans rfl
      have hcz30_11 : w9.cell? ⟨gb510, 11, none⟩ = some (.string (⟨#[]⟩ : ByteArray)) := (blk_cell BK510.out 11).trans rfl
      have hfz30_0 := blk_frozen BK510.out 0
      have hfz30_1 := blk_frozen BK510.out 1
      have hfz30_2 := blk_frozen BK510.out 2
      have hfz30_3 := blk_frozen BK510.out 3
      have hfz30_4 := blk_frozen BK510.out 4
      have hfz30_5 := blk_frozen BK510.out 5
      have hfz30_6 := blk_frozen BK510.out 6
      have hfz30_7 := blk_frozen BK510.out 7
      have hfz30_8 := blk_frozen BK510.out 8
      have hfz30_9 := blk_frozen BK510.out 9
      have hfz30_10 := blk_frozen BK510.out 10
      have hfz30_11 := blk_frozen BK510.out 11
      go_wp2
      go_meet
      case rel => exact ⟨_, (t486), (t491), (t493), (t494), (4), (t499), (t504), (t506), (t507), (1), H', ⟨by first | omega | exact Nat.le_refl _⟩, ⟨by (with_reducible repeat (first | refine blk_drewN ?_ _ | refine blk_drew ?_ | refine blk_alloc ?_ _)); refine blk_far ?_ NB497_510.out _; (with_reducible repeat (first | refine blk_drewN ?_ _ | refine blk_drew ?_ | refine blk_alloc ?_ _)); refine blk_put (cs := #[.int .u64 t485, .int .u64 t486, .int .u64 t487, .int .u64 t488, .int .u64 t489, .int .u64 t490, .int .u64 t491, .int .u64 t492, .int .u64 t493, .int .u64 t494, .int .u64 t495, .string t496]) ?_ 10 _ rfl; (with_reducible repeat (first | refine blk_drewN ?_ _ | refine blk_drew ?_ | refine blk_alloc ?_ _)); refine blk_far ?_ NB497_510.out _; (with_reducible repeat (first | refine blk_drewN ?_ _ | refine blk_drew ?_ | refine blk_alloc ?_ _)); refine blk_far ?_ NB497_510.out _; (with_reducible repeat (first | refine blk_drewN ?_ _ | refine blk_drew ?_ | refine blk_alloc ?_ _)); refine blk_far ?_ NB497_510.out _; (with_reducible repeat (first | refine blk_drewN ?_ _ | refine blk_drew ?_ | refine blk_alloc ?_ _)); refine blk_far ?_ NB497_510.out _; (with_reducible repeat (first | refine blk_drewN ?_ _ | refine blk_drew ?_ | refine blk_alloc ?_ _)); refine blk_far ?_ NB497_510.out _; (with_reducible repeat (first | refine blk_drewN ?_ _ | refine blk_drew ?_ | refine blk_alloc ?_ _)); refine blk_far ?_ NB497_510.out _; (with_reducible repeat (first | refine blk_drewN ?_ _ | refine blk_drew ?_ | refine blk_alloc ?_ _)); refine blk_far ?_ NB497_510.out _; (with_reducible repeat (first | refine blk_drewN ?_ _ | refine blk_drew ?_ | refine blk_alloc ?_ _)); refine blk_far ?_ NB497_510.out _; (with_reducible repeat (first | refine blk_drewN ?_ _ | refine blk_drew ?_ | refine blk_alloc ?_ _)); refine blk_far ?_ NB497_510.out _; (with_reducible repeat (first | refine blk_drewN ?_ _ | refine blk_drew ?_ | refine blk_alloc ?_ _)); refine blk_far ?_ NB497_510.out _; (with_reducible repeat (first | refine blk_drewN ?_ _ | refine blk_drew ?_ | refine blk_alloc ?_ _)); refine blk_far ?_ NB497_510.out _; (with_reducible repeat (first | refine blk_drewN ?_ _ | refine blk_drew ?_ | refine blk_alloc ?_ _)); refine blk_far ?_ NB497_510.out _; (with_reducible repeat (first | refine blk_drewN ?_ _ | refine blk_drew ?_ | refine blk_alloc ?_ _)); exact BK497.out⟩, ⟨by (with_reducible repeat (first | refine blk_drewN ?_ _ | refine blk_drew ?_ | refine blk_alloc ?_ _)); refine blk_put (cs := #[.int .u64 t498, .int .u64 t499, .int .u64 t500, .int .u64 t501, .int .u64 t502, .int .u64 t503, .int .u64 t504, .int .u64 t505, .int .u64 t506, .int .u64 t507, .int .u64 t508, .string t509]) ?_ 10 _ rfl; (with_reducible repeat (first | refine blk_drewN ?_ _ | refine blk_drew ?_ | refine blk_alloc ?_ _)); refine blk_far ?_ NB510_497.out _; (with_reducible repeat (first | refine blk_drewN ?_ _ | refine blk_drew ?_ | refine blk_alloc ?_ _)); refine blk_put (cs := #[.int .u64 t498, .int .u64 t499, .int .u64 t500, .int .u64 t501, .int .u64 t502, .int .u64 t503, .int .u64 t504, .int .u64 t505, .int .u64 t506, .int .u64 t507, .int .u64 t508, .string (⟨#[]⟩ : ByteArray)]) ?_ 11 _ rfl; (with_reducible repeat (first | refine blk_drewN ?_ _ | refine blk_drew ?_ | refine blk_alloc ?_ _)); refine blk_put (cs := #[.int .u64 t498, .int .u64 t499, .int .u64 t500, .int .u64 t501, .int .u64 t502, .int .u64 t503, .int .u64 t504, .int .u64 t505, .int .u64 t506, .int .u64 t507, .int .u64 0, .string (⟨#[]⟩ : ByteArray)]) ?_ 10 _ rfl; (with_reducible repeat (first | refine blk_drewN ?_ _ | refine blk_drew ?_ | refine blk_alloc ?_ _)); refine blk_put (cs := #[.int .u64 t498, .int .u64 t499, .int .u64 t500, .int .u64 t501, .int .u64 t502, .int .u64 t503, .int .u64 t504, .int .u64 t505, .int .u64 t506, .int .u64 0, .int .u64 0, .string (⟨#[]⟩ : ByteArray)]) ?_ 9 _ rfl; (with_reducible repeat (first | refine blk_drewN ?_ _ | refine blk_drew ?_ | refine blk_alloc ?_ _)); refine blk_put (cs := #[.int .u64 t498, .int .u64 t499, .int .u64 t500, .int .u64 t501, .int .u64 t502, .int .u64 t503, .int .u64 t504, .int .u64 t505, .int .u64 0, .int .u64 0, .int .u64 0, .string (⟨#[]⟩ : ByteArray)]) ?_ 8 _ rfl; (with_reducible repeat (first | refine blk_drewN ?_ _ | refine blk_drew ?_ | refine blk_alloc ?_ _)); refine blk_put (cs := #[.int .u64 t498, .int .u64 t499, .int .u64 t500, .int .u64 t501, .int .u64 t502, .int .u64 t503, .int .u64 t504, .int .u64 0, .int .u64 0, .int .u64 0, .int .u64 0, .string (⟨#[]⟩ : ByteArray)]) ?_ 7 _ rfl; (with_reducible repeat (first | refine blk_drewN ?_ _ | refine blk_drew ?_ | refine blk_alloc ?_ _)); refine blk_put (cs := #[.int .u64 t498, .int .u64 t499, .int .u64 t500, .int .u64 t501, .int .u64 t502, .int .u64 t503, .int .u64 0, .int .u64 0, .int .u64 0, .int .u64 0, .int .u64 0, .string (⟨#[]⟩ : ByteArray)]) ?_ 6 _ rfl; (with_reducible repeat (first | refine blk_drewN ?_ _ | refine blk_drew ?_ | refine blk_alloc ?_ _)); refine blk_put (cs := #[.int .u64 t498, .int .u64 t499, .int .u64 t500, .int .u64 t501, .int .u64 t502, .int .u64 0, .int .u64 0, .int .u64 0, .int .u64 0, .int .u64 0, .int .u64 0, .string (⟨#[]⟩ : ByteArray)]) ?_ 5 _ rfl; (with_reducible repeat (first | refine blk_drewN ?_ _ | refine blk_drew ?_ | refine blk_alloc ?_ _)); refine blk_put (cs := #[.int .u64 t498, .int .u64 t499, .int .u64 t500, .int .u64 t501, .int .u64 0, .int .u64 0, .int .u64 0, .int .u64 0, .int .u64 0, .int .u64 0, .int .u64 0, .string (⟨#[]⟩ : ByteArray)]) ?_ 4 _ rfl; (with_reducible repeat (first | refine blk_drewN ?_ _ | refine blk_drew ?_ | refine blk_alloc ?_ _)); refine blk_put (cs := #[.int .u64 t498, .int .u64 t499, .int .u64 t500, .int .u64 0, .int .u64 0, .int .u64 0, .int .u64 0, .int .u64 0, .int .u64 0, .int .u64 0, .int .u64 0, .string (⟨#[]⟩ : ByteArray)]) ?_ 3 _ rfl; (with_reducible repeat (first | refine blk_drewN ?_ _ | refine blk_drew ?_ | refine blk_alloc ?_ _)); refine blk_put (cs := #[.int .u64 t498, .int .u64 t499, .int .u64 0, .int .u64 0, .int .u64 0, .int .u64 0, .int .u64 0, .int .u64 0, .int .u64 0, .int .u64 0, .int .u64 0, .string (⟨#[]⟩ : ByteArray)]) ?_ 2 _ rfl; (with_reducible repeat (first | refine blk_drewN ?_ _ | refine blk_drew ?_ | refine blk_alloc ?_ _)); refine blk_put (cs := #[.int .u64 t498, .int .u64 0, .int .u64 0, .int .u64 0, .int .u64 0, .int .u64 0, .int .u64 0, .int .u64 0, .int .u64 0, .int .u64 0, .int .u64 0, .string (⟨#[]⟩ : ByteArray)]) ?_ 1 _ rfl; (with_reducible repeat (first | refine blk_drewN ?_ _ | refine blk_drew ?_ | refine blk_alloc ?_ _)); refine blk_put (cs := #[.int .u64 0, .int .u64 0, .int .u64 0, .int .u64 0, .int .u64 0, .int .u64 0, .int .u64 0, .int .u64 0, .int .u64 0, .int .u64 0, .int .u64 0, .string (⟨#[]⟩ : ByteArray)]) ?_ 0 _ rfl; (with_reducible repeat (first | refine blk_drewN ?_ _ | refine blk_drew ?_ | refine blk_alloc ?_ _)); exact BK510.out⟩, ⟨by repeat (first | (with_reducible first | exact HB.out | apply below_alloc | apply pw_below_drewN | apply below_drew1 | refine below_set ?_ GE497.out | refine below_set ?_ GE510.out) | exact HB.out)⟩⟩
 case rest =>
  clear HC4
  try clear c1
  try clear c2
  try clear p2
  try clear c7
  try clear c10
  try clear c12
  try clear c12b0
  try clear c12b1
  try clear c13
  try clear c15
  try clear c16
  try clear c16b0
  try clear c16b1
  try clear c17
  try clear c20
  try clear c20b0
  try clear c20b1
  try clear c21
  try clear c24
  try clear c24b0
  try clear c24b1
  try clear c25
  try clear c28
  try clear hcz11_0
  try clear hcz11_1
  try clear hcz11_10
  try clear hcz11_11
  try clear hcz11_2
  try clear hcz11_3
  try clear hcz11_4
  try clear hcz11_5
  try clear hcz11_6
  try clear hcz11_7
  try clear hcz11_8
  try clear hcz11_9
  try clear hcz14_0
  try clear hcz14_1
  try clear hcz14_10
  try clear hcz14_11
  try clear hcz14_2
  try clear hcz14_3
  try clear hcz14_4
  try clear hcz14_5
  try clear hcz14_6
  try clear hcz14_7
  try clear hcz14_8
  try clear hcz14_9
  try clear hcz15_0
  try clear hcz15_1
  try clear hcz15_10
  try clear hcz15_11
  try clear hcz15_2
  try clear hcz15_3
  try clear hcz15_4
  try clear hcz15_5
  try clear hcz15_6
  try clear hcz15_7
  try clear hcz15_8
  try clear hcz15_9
  try clear hcz18_0
  try clear hcz18_1
  try clear hcz18_10
  try clear hcz18_11
  try clear hcz18_2
  try clear hcz18_3
  try clear hcz18_4
  try clear hcz18_5
  try clear hcz18_6
  try clear hcz18_7
  try clear hcz18_8
  try clear hcz18_9
  try clear hcz19_0
  try clear hcz19_1
  try clear hcz19_10
  try clear hcz19_11
  try clear hcz19_2
  try clear hcz19_3
  try clear hcz19_4
  try clear hcz19_5
  try clear hcz19_6
  try clear hcz19_7
  try clear hcz19_8
  try clear hcz19_9
  try clear hcz22_0
  try clear hcz22_1
  try clear hcz22_10
  try clear hcz22_11
  try clear hcz22_2
  try clear hcz22_3
  try clear hcz22_4
  try clear hcz22_5
  try clear hcz22_6
  try clear hcz22_7
  try clear hcz22_8
  try clear hcz22_9
  try clear hcz23_0
  try clear hcz23_1
  try clear hcz23_10
  try clear hcz23_11
  try clear hcz23_2
  try clear hcz23_3
  try clear hcz23_4
  try clear hcz23_5
  try clear hcz23_6
  try clear hcz23_7
  try clear hcz23_8
  try clear hcz23_9
  try clear hcz26_0
  try clear hcz26_1
  try clear hcz26_10
  try clear hcz26_11
  try clear hcz26_2
  try clear hcz26_3
  try clear hcz26_4
  try clear hcz26_5
  try clear hcz26_6
  try clear hcz26_7
  try clear hcz26_8
  try clear hcz26_9
  try clear hcz27_0
  try clear hcz27_1
  try clear hcz27_10
  try clear hcz27_11
  try clear hcz27_2
  try clear hcz27_3
  try clear hcz27_4
  try clear hcz27_5
  try clear hcz27_6
  try clear hcz27_7
  try clear hcz27_8
  try clear hcz27_9
  try clear hcz29_0
  try clear hcz29_1
  try clear hcz29_10
  try clear hcz29_11
  try clear hcz29_2
  try clear hcz29_3
  try clear hcz29_4
  try clear hcz29_5
  try clear hcz29_6
  try clear hcz29_7
  try clear hcz29_8
  try clear hcz29_9
  try clear hcz30_0
  try clear hcz30_1
  try clear hcz30_10
  try clear hcz30_11
  try clear hcz30_2
  try clear hcz30_3
  try clear hcz30_4
  try clear hcz30_5
  try clear hcz30_6
  try clear hcz30_7
  try clear hcz30_8
  try clear hcz30_9
  try clear hcz7_0
  try clear hcz7_1
  try clear hcz7_10
  try clear hcz7_11
  try clear hcz7_2
  try clear hcz7_3
  try clear hcz7_4
  try clear hcz7_5
  try clear hcz7_6
  try clear hcz7_7
  try clear hcz7_8
  try clear hcz7_9
  try clear hfz11_0
  try clear hfz11_1
  try clear hfz11_10
  try clear hfz11_11
  try clear hfz11_2
  try clear hfz11_3
  try clear hfz11_4
  try clear hfz11_5
  try clear hfz11_6
  try clear hfz11_7
  try clear hfz11_8
  try clear hfz11_9
  try clear hfz14_0
  try clear hfz14_1
  try clear hfz14_10
  try clear hfz14_11
  try clear hfz14_2
  try clear hfz14_3
  try clear hfz14_4
  try clear hfz14_5
  try clear hfz14_6
  try clear hfz14_7
  try clear hfz14_8
  try clear hfz14_9
  try clear hfz15_0
  try clear hfz15_1
  try clear hfz15_10
  try clear hfz15_11
  try clear hfz15_2
  try clear hfz15_3
  try clear hfz15_4
  try clear hfz15_5
  try clear hfz15_6
  try clear hfz15_7
  try clear hfz15_8
  try clear hfz15_9
  try clear hfz18_0
  try clear hfz18_1
  try clear hfz18_10
  try clear hfz18_11
  try clear hfz18_2
  try clear hfz18_3
  try clear hfz18_4
  try clear hfz18_5
  try clear hfz18_6
  try clear hfz18_7
  try clear hfz18_8
  try clear hfz18_9
  try clear hfz19_0
  try clear hfz19_1
  try clear hfz19_10
  try clear hfz19_11
  try clear hfz19_2
  try clear hfz19_3
  try clear hfz19_4
  try clear hfz19_5
  try clear hfz19_6
  try clear hfz19_7
  try clear hfz19_8
  try clear hfz19_9
  try clear hfz22_0
  try clear hfz22_1
  try clear hfz22_10
  try clear hfz22_11
  try clear hfz22_2
  try clear hfz22_3
  try clear hfz22_4
  try clear hfz22_5
  try clear hfz22_6
  try clear hfz22_7
  try clear hfz22_8
  try clear hfz22_9
  try clear hfz23_0
  try clear hfz23_1
  try clear hfz23_10
  try clear hfz23_11
  try clear hfz23_2
  try clear hfz23_3
  try clear hfz23_4
  try clear hfz23_5
  try clear hfz23_6
  try clear hfz23_7
  try clear hfz23_8
  try clear hfz23_9
  try clear hfz26_0
  try clear hfz26_1
  try clear hfz26_10
  try clear hfz26_11
  try clear hfz26_2
  try clear hfz26_3
  try clear hfz26_4
  try clear hfz26_5
  try clear hfz26_6
  try clear hfz26_7
  try clear hfz26_8
  try clear hfz26_9
  try clear hfz27_0
  try clear hfz27_1
  try clear hfz27_10
  try clear hfz27_11
  try clear hfz27_2
  try clear hfz27_3
  try clear hfz27_4
  try clear hfz27_5
  try clear hfz27_6
  try clear hfz27_7
  try clear hfz27_8
  try clear hfz27_9
  try clear hfz29_0
  try clear hfz29_1
  try clear hfz29_10
  try clear hfz29_11
  try clear hfz29_2
  try clear hfz29_3
  try clear hfz29_4
  try clear hfz29_5
  try clear hfz29_6
  try clear hfz29_7
  try clear hfz29_8
  try clear hfz29_9
  try clear hfz30_0
  try clear hfz30_1
  try clear hfz30_10
  try clear hfz30_11
  try clear hfz30_2
  try clear hfz30_3
  try clear hfz30_4
  try clear hfz30_5
  try clear hfz30_6
  try clear hfz30_7
  try clear hfz30_8
  try clear hfz30_9
  try clear hfz7_0
  try clear hfz7_1
  try clear hfz7_10
  try clear hfz7_11
  try clear hfz7_2
  try clear hfz7_3
  try clear hfz7_4
  try clear hfz7_5
  try clear hfz7_6
  try clear hfz7_7
  try clear hfz7_8
  try clear hfz7_9
  obtain ⟨kq, x498001_3, x498006_3, x498008_3, x498009_3, x498010_3, x511001_3, x511006_3, x511008_3, x511009_3, x511010_3, HA, HJ3, BK497, BK510, HB⟩ := hcut
  cases kq with
  | zero => exact absurd HA.out (by simp [dominolaw05_ParamsBad.j0])
  | succ kj3 =>
   have H := HA.out
   clear HA
   simp only [dominolaw05_ParamsBad.j0] at H
   replace H := Option.bind_eq_some_iff.mp H
   obtain ⟨⟨t511, t512⟩, A310, H⟩ := H
   replace H : ((params_Put.f t498 x511001_3 t500 t501 t502 t503 x511006_3 t505 x511008_3 x511009_3 x511010_3 t509).bind fun bt513 => ((params_Get.f kj3 t511).bind fun bt515 => ((some (([(⟨#[3, 2, 68, 175]⟩ : ByteArray), (⟨#[8, 8, 208, 0, 0, 0, 0, 0, 0, 1]⟩ : ByteArray), (⟨#[10, 1, 21]⟩ : ByteArray), (⟨#[11, 4, 128, 0, 64, 0]⟩ : ByteArray), (⟨#[14, 1, 1]⟩ : ByteArray)] : List ByteArray) : List ByteArray)).bind fun y529 => (if 0 ≤ (Int.tmod a0 5) then (if (Int.tmod a0 5) < (y529.length : Int) then ((params_Get.f kj3 (rdOf ByteArray.empty y529 (Int.tmod a0 5))).bind fun bt533 => (if t512 = 0 then (if bt513.2 = 50 then (if bt515.2.2.2.2.2.2.2.2.2.2.2.2 = 0 then (if (bt515.1 == t485 && (bt515.2.1 == x498001_3 && (bt515.2.2.1 == t487 && (bt515.2.2.2.1 == t488 && (bt515.2.2.2.2.1 == t489 && (bt515.2.2.2.2.2.1 == t490 && (bt515.2.2.2.2.2.2.1 == x498006_3 && (bt515.2.2.2.2.2.2.2.1 == t492 && (bt515.2.2.2.2.2.2.2.2.1 == x498008_3 && (bt515.2.2.2.2.2.2.2.2.2.1 == x498009_3 && (bt515.2.2.2.2.2.2.2.2.2.2.1 == x498010_3 && (bt515.2.2.2.2.2.2.2.2.2.2.2.1.toList == t496.toList)))))))))))) = true then (if bt533.2.2.2.2.2.2.2.2.2.2.2.2 = 50 then ((dominolaw05_shown.f kj3).bind fun t547 => (some t547)) else (none)) else (none)) else (none)) else (none)) else (none))) else (none)) else (none))))) = some r := H
   have A31 := Aside0.mk A310
   clear A310
   replace H := Option.bind_eq_some_iff.mp H
   obtain ⟨⟨t513, t514⟩, A320, H⟩ := H
   replace H : ((params_Get.f kj3 t511).bind fun bt515 => ((some (([(⟨#[3, 2, 68, 175]⟩ : ByteArray), (⟨#[8, 8, 208, 0, 0, 0, 0, 0, 0, 1]⟩ : ByteArray), (⟨#[10, 1, 21]⟩ : ByteArray), (⟨#[11, 4, 128, 0, 64, 0]⟩ : ByteArray), (⟨#[14, 1, 1]⟩ : ByteArray)] : List ByteArray) : List ByteArray)).bind fun y529 => (if 0 ≤ (Int.tmod a0 5) then (if (Int.tmod a0 5) < (y529.length : Int) then ((params_Get.f kj3 (rdOf ByteArray.empty y529 (Int.tmod a0 5))).bind fun bt533 => (if t512 = 0 then (if t514 = 50 then (if bt515.2.2.2.2.2.2.2.2.2.2.2.2 = 0 then (if (bt515.1 == t485 && (bt515.2.1 == x498001_3 && (bt515.2.2.1 == t487 && (bt515.2.2.2.1 == t488 && (bt515.2.2.2.2.1 == t489 && (bt515.2.2.2.2.2.1 == t490 && (bt515.2.2.2.2.2.2.1 == x498006_3 && (bt515.2.2.2.2.2.2.2.1 == t492 && (bt515.2.2.2.2.2.2.2.2.1 == x498008_3 && (bt515.2.2.2.2.2.2.2.2.2.1 == x498009_3 && (bt515.2.2.2.2.2.2.2.2.2.2.1 == x498010_3 && (bt515.2.2.2.2.2.2.2.2.2.2.2.1.toList == t496.toList)))))))))))) = true then (if bt533.2.2.2.2.2.2.2.2.2.2.2.2 = 50 then ((dominolaw05_shown.f kj3).bind fun t547 => (some t547)) else (none)) else (none)) else (none)) else (none)) else (none))) else (none)) else (none)))) = some r := H
   have A32 := Aside0.mk A320
   clear A320
   replace H := Option.bind_eq_some_iff.mp H
   obtain ⟨⟨t515, t516, t517, t518, t519, t520, t521, t522, t523, t524, t525, t526, t527⟩, A330, H⟩ := H
   replace H : ((some (([(⟨#[3, 2, 68, 175]⟩ : ByteArray), (⟨#[8, 8, 208, 0, 0, 0, 0, 0, 0, 1]⟩ : ByteArray), (⟨#[10, 1, 21]⟩ : ByteArray), (⟨#[11, 4, 128, 0, 64, 0]⟩ : ByteArray), (⟨#[14, 1, 1]⟩ : ByteArray)] : List ByteArray) : List ByteArray)).bind fun y529 => (if 0 ≤ (Int.tmod a0 5) then (if (Int.tmod a0 5) < (y529.length : Int) then ((params_Get.f kj3 (rdOf ByteArray.empty y529 (Int.tmod a0 5))).bind fun bt533 => (if t512 = 0 then (if t514 = 50 then (if t527 = 0 then (if (t515 == t485 && (t516 == x498001_3 && (t517 == t487 && (t518 == t488 && (t519 == t489 && (t520 == t490 && (t521 == x498006_3 && (t522 == t492 && (t523 == x498008_3 && (t524 == x498009_3 && (t525 == x498010_3 && (t526.toList == t496.toList)))))))))))) = true then (if bt533.2.2.2.2.2.2.2.2.2.2.2.2 = 50 then ((dominolaw05_shown.f kj3).bind fun t547 => (some t547)) else (none)) else (none)) else (none)) else (none)) else (none))) else (none)) else (none))) = some r := H
   have A33 := Aside0.mk A330
   clear A330
   obtain ⟨y529, hy529⟩ : ∃ y_ : List ByteArray, y_ = (([(⟨#[3, 2, 68, 175]⟩ : ByteArray), (⟨#[8, 8, 208, 0, 0, 0, 0, 0, 0, 1]⟩ : ByteArray), (⟨#[10, 1, 21]⟩ : ByteArray), (⟨#[11, 4, 128, 0, 64, 0]⟩ : ByteArray), (⟨#[14, 1, 1]⟩ : ByteArray)] : List ByteArray)) := ⟨_, rfl⟩
   replace H : (if 0 ≤ (Int.tmod a0 5) then (if (Int.tmod a0 5) < (y529.length : Int) then ((params_Get.f kj3 (rdOf ByteArray.empty y529 (Int.tmod a0 5))).bind fun bt533 => (if t512 = 0 then (if t514 = 50 then (if t527 = 0 then (if (t515 == t485 && (t516 == x498001_3 && (t517 == t487 && (t518 == t488 && (t519 == t489 && (t520 == t490 && (t521 == x498006_3 && (t522 == t492 && (t523 == x498008_3 && (t524 == x498009_3 && (t525 == x498010_3 && (t526.toList == t496.toList)))))))))))) = true then (if bt533.2.2.2.2.2.2.2.2.2.2.2.2 = 50 then ((dominolaw05_shown.f kj3).bind fun t547 => (some t547)) else (none)) else (none)) else (none)) else (none)) else (none))) else (none)) else (none)) = some r := by first | (rw [hy529]; with_reducible exact H) | (have H2_ := (Option.bind_some _ _).symm.trans H; rw [hy529]; with_reducible exact H2_) | (have H2_ := (Option.bind_some _ _).symm.trans H; with_reducible exact H2_) | with_reducible exact H | (rw [hy529]; exact H) | exact H
   have Ny529 := Aside0.mk hy529
   clear hy529
   obtain ⟨ji34, hji34⟩ : ∃ j_ : Int, (Int.tmod a0 5) = j_ := ⟨_, rfl⟩
   replace H : (if 0 ≤ (ji34) then (if (ji34) < (y529.length : Int) then ((params_Get.f kj3 (rdOf ByteArray.empty y529 (ji34))).bind fun bt533 => (if t512 = 0 then (if t514 = 50 then (if t527 = 0 then (if (t515 == t485 && (t516 == x498001_3 && (t517 == t487 && (t518 == t488 && (t519 == t489 && (t520 == t490 && (t521 == x498006_3 && (t522 == t492 && (t523 == x498008_3 && (t524 == x498009_3 && (t525 == x498010_3 && (t526.toList == t496.toList)))))))))))) = true then (if bt533.2.2.2.2.2.2.2.2.2.2.2.2 = 50 then ((dominolaw05_shown.f kj3).bind fun t547 => (some t547)) else (none)) else (none)) else (none)) else (none)) else (none))) else (none)) else (none)) = some r := by first | (rw [hji34] at H; exact H) | (simp only [hji34] at H ⊢; exact H)
   (try rw [hji34] at A31)
   (try rw [hji34] at A32)
   (try rw [hji34] at A33)
   by_cases c35 : 0 ≤ (ji34)
   ·rw [if_pos c35] at H
    have c35b0 : decide (0 ≤ (ji34)) = true := decide_eq_true c35
    clear c35
    by_cases c36 : (ji34) < (y529.length : Int)
    ·rw [if_pos c36] at H
     have c36b0 : decide ((ji34) < (y529.length : Int)) = true := decide_eq_true c36
     clear c36
     replace H := Option.bind_eq_some_iff.mp H
     obtain ⟨⟨t533, t534, t535, t536, t537, t538, t539, t540, t541, t542, t543, t544, t545⟩, A370, H⟩ := H
     replace H : (if t512 = 0 then (if t514 = 50 then (if t527 = 0 then (if (t515 == t485 && (t516 == x498001_3 && (t517 == t487 && (t518 == t488 && (t519 == t489 && (t520 == t490 && (t521 == x498006_3 && (t522 == t492 && (t523 == x498008_3 && (t524 == x498009_3 && (t525 == x498010_3 && (t526.toList == t496.toList)))))))))))) = true then (if t545 = 50 then ((dominolaw05_shown.f kj3).bind fun t547 => (some t547)) else (none)) else (none)) else (none)) else (none)) else (none)) = some r := H
     have A37 := Aside0.mk A370
     clear A370
     by_cases c38 : t512 = 0
     ·rw [if_pos c38] at H
      have c38b0 : (t512 == 0) = true := beq_iff_eq.mpr c38
      have c38b1 : (t512 != 0) = false := bne_eq_false_iff_eq.mpr c38
      clear c38
      by_cases c39 : t514 = 50
      ·rw [if_pos c39] at H
       have c39b0 : (t514 == 50) = true := beq_iff_eq.mpr c39
       have c39b1 : (t514 != 50) = false := bne_eq_false_iff_eq.mpr c39
       clear c39
       by_cases c40 : t527 = 0
       ·rw [if_pos c40] at H
        have c40b0 : (t527 == 0) = true := beq_iff_eq.mpr c40
        have c40b1 : (t527 != 0) = false := bne_eq_false_iff_eq.mpr c40
        clear c40
        by_cases c41 : (t515 == t485 && (t516 == x498001_3 && (t517 == t487 && (t518 == t488 && (t519 == t489 && (t520 == t490 && (t521 == x498006_3 && (t522 == t492 && (t523 == x498008_3 && (t524 == x498009_3 && (t525 == x498010_3 && (t526.toList == t496.toList)))))))))))) = true
        ·rw [if_pos c41] at H
         have c41b0 : (t515 == t485 && (t516 == x498001_3 && (t517 == t487 && (t518 == t488 && (t519 == t489 && (t520 == t490 && (t521 == x498006_3 && (t522 == t492 && (t523 == x498008_3 && (t524 == x498009_3 && (t525 == x498010_3 && (t526.toList == t496.toList)))))))))))) = true := c41
         have c41q := c41
         simp only [Bool.not_false, Bool.not_true, Bool.true_and, Bool.and_eq_true, Bool.or_eq_false_iff, Bool.not_eq_eq_eq_not, beq_iff_eq] at c41q
         replace c41q := eq_true c41q
         (try (have c41b1 : decide (t515 = t485 && (t516 == x498001_3 && (t517 == t487 && (t518 == t488 && (t519 == t489 && (t520 == t490 && (t521 == x498006_3 && (t522 == t492 && (t523 == x498008_3 && (t524 == x498009_3 && (t525 == x498010_3 && (t526.toList == t496.toList)))))))))))) = true := by simpa using c41))
         (try (have c41b2 : (t515 == t485 && (t516 == x498001_3 && (t517 == t487 && (t518 == t488 && (t519 == t489 && (t520 == t490 && (t521 == x498006_3 && (t522 == t492 && (t523 == x498008_3 && (t524 == x498009_3 && (t525 == x498010_3 && (t526.toList == t496.toList)))))))))))) = true := by simpa using c41))
         clear c41
         by_cases c42 : t545 = 50
         ·rw [if_pos c42] at H
          have c42b0 : (t545 == 50) = true := beq_iff_eq.mpr c42
          have c42b1 : (t545 != 50) = false := bne_eq_false_iff_eq.mpr c42
          clear c42
          replace H := Option.bind_eq_some_iff.mp H
          obtain ⟨t547, A430, H⟩ := H
          replace H : (some t547) = some r := H
          have A43 := Aside0.mk A430
          clear A430
          obtain rfl := Option.some.inj H
          have hnb44 := NB497_510.out
          have hnc44 := NB510_497.out
          have hcz45_0 : wc.cell? ⟨gb497, 0, none⟩ = some (.int .u64 t485) := (blk_cell BK497.out 0).trans rfl
          have hcz45_1 : wc.cell? ⟨gb497, 1, none⟩ = some (.int .u64 x498001_3) := (blk_cell BK497.out 1).trans rfl
          have hcz45_2 : wc.cell? ⟨gb497, 2, none⟩ = some (.int .u64 t487) := (blk_cell BK497.out 2).trans rfl
          have hcz45_3 : wc.cell? ⟨gb497, 3, none⟩ = some (.int .u64 t488) := (blk_cell BK497.out 3).trans rfl
          have hcz45_4 : wc.cell? ⟨gb497, 4, none⟩ = some (.int .u64 t489) := (blk_cell BK497.out 4).trans rfl
          have hcz45_5 : wc.cell? ⟨gb497, 5, none⟩ = some (.int .u64 t490) := (blk_cell BK497.out 5).trans rfl
          have hcz45_6 : wc.cell? ⟨gb497, 6, none⟩ = some (.int .u64 x498006_3) := (blk_cell BK497.out 6).trans rfl
          have hcz45_7 : wc.cell? ⟨gb497, 7, none⟩ = some (.int .u64 t492) := (blk_cell BK497.out 7).trans rfl
          have hcz45_8 : wc.cell? ⟨gb497, 8, none⟩ = some (.int .u64 x498008_3) := (blk_cell BK497.out 8).trans rfl
          have hcz45_9 : wc.cell? ⟨gb497, 9, none⟩ = some (.int .u64 x498009_3) := (blk_cell BK497.out 9).trans rfl
          have hcz45_10 : wc.cell? ⟨gb497, 10, none⟩ = some (.int .u64 x498010_3) := (blk_cell BK497.out 10).trans rfl
          have hcz45_11 : wc.cell? ⟨gb497, 11, none⟩ = some (.string t496) := (blk_cell BK497.out 11).trans rfl
          have hfz45_0 := blk_frozen BK497.out 0
          have hfz45_1 := blk_frozen BK497.out 1
          have hfz45_2 := blk_frozen BK497.out 2
          have hfz45_3 := blk_frozen BK497.out 3
          have hfz45_4 := blk_frozen BK497.out 4
          have hfz45_5 := blk_frozen BK497.out 5
          have hfz45_6 := blk_frozen BK497.out 6
          have hfz45_7 := blk_frozen BK497.out 7
          have hfz45_8 := blk_frozen BK497.out 8
          have hfz45_9 := blk_frozen BK497.out 9
          have hfz45_10 := blk_frozen BK497.out 10
          have hfz45_11 := blk_frozen BK497.out 11
          go_wp2_with (first | ((with_reducible refine gate_callee (f := 9) rfl ?_); refine goesL_ (some 38) rfl rfl Tryd.func9 (by kernel_rfl) rfl #[.agg #[.int .u64 t485, .int .u64 x498001_3, .int .u64 t487, .int .u64 t488, .int .u64 t489, .int .u64 t490, .int .u64 x498006_3, .int .u64 t492, .int .u64 x498008_3, .int .u64 x498009_3, .int .u64 x498010_3, .string t496]] rfl (by (try simp only [List.map_toArray, List.map_cons, List.map_nil]); first | done | rfl | (simp only [List.length_drop, List.length_take]; rfl)) ?_; (with_reducible refine (params_Put.calls t485 x498001_3 t487 t488 t489 t490 x498006_3 t492 x498008_3 x498009_3 x498010_3 t496 t511 t512 _ (by first | exact HTab.out | exact tab_below HTab.out HB.out | exact (tab_below HTab.out (by repeat (first | (with_reducible first | exact HB.out | apply below_alloc | apply pw_below_drewN | apply below_drew1 | refine below_set ?_ GE497.out | refine below_set ?_ GE510.out) | exact HB.out))) | exact tab_below HTab.out (by repeat (first | exact HB.out | exact Below.refl _ _ | apply below_alloc | apply pw_below_drewN | apply below_drew1 | refine below_set ?_ GE497.out | refine below_set ?_ GE510.out | refine below_set ?_ GE528.out | refine below_set ?_ GE546.out))) A31.out).mono ?_); rintro e w46 ⟨rfl, hb⟩; refine ⟨_, rfl, ?_⟩; have n0_ := Aside0.mk (blk_below (g := gb497) (o := .cells #[.int .u64 t485, .int .u64 x498001_3, .int .u64 t487, .int .u64 t488, .int .u64 t489, .int .u64 t490, .int .u64 x498006_3, .int .u64 t492, .int .u64 x498008_3, .int .u64 x498009_3, .int .u64 x498010_3, .string t496] 24 (0, 0)) (by (with_reducible repeat (first | refine blk_drewN ?_ _ | refine blk_drew ?_ | refine blk_alloc ?_ _)); exact BK497.out) hb); have n1_ := Aside0.mk (blk_below (g := gb510) (o := .cells #[.int .u64 t498, .int .u64 x511001_3, .int .u64 t500, .int .u64 t501, .int .u64 t502, .int .u64 t503, .int .u64 x511006_3, .int .u64 t505, .int .u64 x511008_3, .int .u64 x511009_3, .int .u64 x511010_3, .string t509] 24 (0, 0)) (by (with_reducible repeat (first | refine blk_drewN ?_ _ | refine blk_drew ?_ | refine blk_alloc ?_ _)); exact BK510.out) hb); have n2_ := Aside0.mk (below_step (by repeat (first | (with_reducible first | exact HB.out | apply below_alloc | apply pw_below_drewN | apply below_drew1 | refine below_set ?_ GE497.out | refine below_set ?_ GE510.out) | exact HB.out)) hb); clear BK497; clear BK510; clear HB; have BK497 := n0_; have BK510 := n1_; have HB := n2_; clear n0_ n1_ n2_; (try clear hb); (try clear hb2); (try clear hk); (try clear hi); have hcz47_0 : w46.cell? ⟨gb510, 0, none⟩ = some (.int .u64 t498) := (blk_cell BK510.out 0).trans rfl; have hcz47_1 : w46.cell? ⟨gb510, 1, none⟩ = some (.int .u64 x511001_3) := (blk_cell BK510.out 1).trans rfl; have hcz47_2 : w46.cell? ⟨gb510, 2, none⟩ = some (.int .u64 t500) := (blk_cell BK510.out 2).trans rfl; have hcz47_3 : w46.cell? ⟨gb510, 3, none⟩ = some (.int .u64 t501) := (blk_cell BK510.out 3).trans rfl; have hcz47_4 : w46.cell? ⟨gb510, 4, none⟩ = some (.int .u64 t502) := (blk_cell BK510.out 4).trans rfl; have hcz47_5 : w46.cell? ⟨gb510, 5, none⟩ = some (.int .u64 t503) := (blk_cell BK510.out 5).trans rfl; have hcz47_6 : w46.cell? ⟨gb510, 6, none⟩ = some (.int .u64 x511006_3) := (blk_cell BK510.out 6).trans rfl; have hcz47_7 : w46.cell? ⟨gb510, 7, none⟩ = some (.int .u64 t505) := (blk_cell BK510.out 7).trans rfl; have hcz47_8 : w46.cell? ⟨gb510, 8, none⟩ = some (.int .u64 x511008_3) := (blk_cell BK510.out 8).trans rfl; have hcz47_9 : w46.cell? ⟨gb510, 9, none⟩ = some (.int .u64 x511009_3) := (blk_cell BK510.out 9).trans rfl; have hcz47_10 : w46.cell? ⟨gb510, 10, none⟩ = some (.int .u64 x511010_3) := (blk_cell BK510.out 10).trans rfl; have hcz47_11 : w46.cell? ⟨gb510, 11, none⟩ = some (.string t509) := (blk_cell BK510.out 11).trans rfl; have hfz47_0 := blk_frozen BK510.out 0; have hfz47_1 := blk_frozen BK510.out 1; have hfz47_2 := blk_frozen BK510.out 2; have hfz47_3 := blk_frozen BK510.out 3; have hfz47_4 := blk_frozen BK510.out 4; have hfz47_5 := blk_frozen BK510.out 5; have hfz47_6 := blk_frozen BK510.out 6; have hfz47_7 := blk_frozen BK510.out 7; have hfz47_8 := blk_frozen BK510.out 8; have hfz47_9 := blk_frozen BK510.out 9; have hfz47_10 := blk_frozen BK510.out 10; have hfz47_11 := blk_frozen BK510.out 11) | ((with_reducible refine gate_callee (f := 9) rfl ?_); refine goesL_ (some 43) rfl rfl Tryd.func9 (by kernel_rfl) rfl #[.agg #[.int .u64 t498, .int .u64 x511001_3, .int .u64 t500, .int .u64 t501, .int .u64 t502, .int .u64 t503, .int .u64 x511006_3, .int .u64 t505, .int .u64 x511008_3, .int .u64 x511009_3, .int .u64 x511010_3, .string t509]] rfl (by (try simp only [List.map_toArray, List.map_cons, List.map_nil]); first | done | rfl | (simp only [List.length_drop, List.length_take]; rfl)) ?_; (with_reducible refine (params_Put.calls t498 x511001_3 t500 t501 t502 t503 x511006_3 t505 x511008_3 x511009_3 x511010_3 t509 t513 t514 _ (by first | exact HTab.out | exact tab_below HTab.out HB.out | exact (tab_below HTab.out (by repeat (first | (with_reducible first | exact HB.out | apply below_alloc | apply pw_below_drewN | apply below_drew1 | refine below_set ?_ GE497.out | refine below_set ?_ GE510.out) | exact HB.out))) | exact tab_below HTab.out (by repeat (first | exact HB.out | exact Below.refl _ _ | apply below_alloc | apply pw_below_drewN | apply below_drew1 | refine below_set ?_ GE497.out | refine below_set ?_ GE510.out | refine below_set ?_ GE528.out | refine below_set ?_ GE546.out))) A32.out).mono ?_); rintro e w48 ⟨rfl, hb⟩; refine ⟨_, rfl, ?_⟩; have n0_ := Aside0.mk (blk_below (g := gb497) (o := .cells #[.int .u64 t485, .int .u64 x498001_3, .int .u64 t487, .int .u64 t488, .int .u64 t489, .int .u64 t490, .int .u64 x498006_3, .int .u64 t492, .int .u64 x498008_3, .int .u64 x498009_3, .int .u64 x498010_3, .string t496] 24 (0, 0)) (by (with_reducible repeat (first | refine blk_drewN ?_ _ | refine blk_drew ?_ | refine blk_alloc ?_ _)); exact BK497.out) hb); have n1_ := Aside0.mk (blk_below (g := gb510) (o := .cells #[.int .u64 t498, .int .u64 x511001_3, .int .u64 t500, .int .u64 t501, .int .u64 t502, .int .u64 t503, .int .u64 x511006_3, .int .u64 t505, .int .u64 x511008_3, .int .u64 x511009_3, .int .u64 x511010_3, .string t509] 24 (0, 0)) (by (with_reducible repeat (first | refine blk_drewN ?_ _ | refine blk_drew ?_ | refine blk_alloc ?_ _)); exact BK510.out) hb); have n2_ := Aside0.mk (below_step (by repeat (first | (with_reducible first | exact HB.out | apply below_alloc | apply pw_below_drewN | apply below_drew1 | refine below_set ?_ GE497.out | refine below_set ?_ GE510.out) | exact HB.out)) hb); clear BK497; clear BK510; clear HB; have BK497 := n0_; have BK510 := n1_; have HB := n2_; clear n0_ n1_ n2_; (try clear hb); (try clear hb2); (try clear hk); (try clear hi)) | ((with_reducible refine gate_callee (f := 11) rfl ?_); refine goesL_ (some 48) rfl rfl Tryd.func11 (by kernel_rfl) rfl #[.string t511] rfl (by (try simp only [List.map_toArray, List.map_cons, List.map_nil]); first | done | rfl | (simp only [List.length_drop, List.length_take]; rfl)) ?_; (with_reducible refine (params_Get.calls kj3 t511 t515 t516 t517 t518 t519 t520 t521 t522 t523 t524 t525 t526 t527 _ A33.out).mono ?_); rintro e w49 ⟨rfl, hb⟩; refine ⟨_, rfl, ?_⟩; have n0_ := Aside0.mk (blk_below (g := gb497) (o := .cells #[.int .u64 t485, .int .u64 x498001_3, .int .u64 t487, .int .u64 t488, .int .u64 t489, .int .u64 t490, .int .u64 x498006_3, .int .u64 t492, .int .u64 x498008_3, .int .u64 x498009_3, .int .u64 x498010_3, .string t496] 24 (0, 0)) (by (with_reducible repeat (first | refine blk_drewN ?_ _ | refine blk_drew ?_ | refine blk_alloc ?_ _)); exact BK497.out) hb); have n1_ := Aside0.mk (blk_below (g := gb510) (o := .cells #[.int .u64 t498, .int .u64 x511001_3, .int .u64 t500, .int .u64 t501, .int .u64 t502, .int .u64 t503, .int .u64 x511006_3, .int .u64 t505, .int .u64 x511008_3, .int .u64 x511009_3, .int .u64 x511010_3, .string t509] 24 (0, 0)) (by (with_reducible repeat (first | refine blk_drewN ?_ _ | refine blk_drew ?_ | refine blk_alloc ?_ _)); exact BK510.out) hb); have n2_ := Aside0.mk (below_step (by repeat (first | (with_reducible first | exact HB.out | apply below_alloc | apply pw_below_drewN | apply below_drew1 | refine below_set ?_ GE497.out | refine below_set ?_ GE510.out) | exact HB.out)) hb); clear BK497; clear BK510; clear HB; have BK497 := n0_; have BK510 := n1_; have HB := n2_; clear n0_ n1_ n2_; (try clear hb); (try clear hb2); (try clear hk); (try clear hi)) | ((with_reducible refine gate_dst (N := 9) rfl ?_); refine box_event ?hg (N := 9) ?hd (cs := #[.int .u64 0, .int .u64 0, .int .u64 0, .int .u64 0, .int .u64 0, .int .u64 0, .int .u64 0, .int .u64 0, .int .u64 0, .int .u64 0, .int .u64 0, .string (⟨#[]⟩ : ByteArray)]) (t := 24) ?hr ?_; (case hd => rfl); (case hg => rfl); (case hr => first | (go_simp; done) | (go_simp; rfl)); intro gb528 hg w50 hbox hb; have n0_ := Aside0.mk (blk_below (g := gb497) (o := .cells #[.int .u64 t485, .int .u64 x498001_3, .int .u64 t487, .int .u64 t488, .int .u64 t489, .int .u64 t490, .int .u64 x498006_3, .int .u64 t492, .int .u64 x498008_3, .int .u64 x498009_3, .int .u64 x498010_3, .string t496] 24 (0, 0)) (by (with_reducible repeat (first | refine blk_drewN ?_ _ | refine blk_drew ?_ | refine blk_alloc ?_ _)); exact BK497.out) hb); have n1_ := Aside0.mk (blk_below (g := gb510) (o := .cells #[.int .u64 t498, .int .u64 x511001_3, .int .u64 t500, .int .u64 t501, .int .u64 t502, .int .u64 t503, .int .u64 x511006_3, .int .u64 t505, .int .u64 x511008_3, .int .u64 x511009_3, .int .u64 x511010_3, .string t509] 24 (0, 0)) (by (with_reducible repeat (first | refine blk_drewN ?_ _ | refine blk_drew ?_ | refine blk_alloc ?_ _)); exact BK510.out) hb); have n2_ := Aside0.mk (below_step (by repeat (first | (with_reducible first | exact HB.out | apply below_alloc | apply pw_below_drewN | apply below_drew1 | refine below_set ?_ GE497.out | refine below_set ?_ GE510.out) | exact HB.out)) hb); have n3_ := Aside0.mk (hbox); have n4_ := Aside0.mk ((by rw [hg]; exact (below_size (by repeat (first | (with_reducible first | exact HB.out | apply below_alloc | apply pw_below_drewN | apply below_drew1 | refine below_set ?_ GE497.out | refine below_set ?_ GE510.out) | exact HB.out))) : w.heap.size ≤ gb528)); have n5_ := Aside0.mk ((by rw [hg]; exact (below_size (by repeat (first | (with_reducible first | exact HB.out | apply below_alloc | apply pw_below_drewN | apply below_drew1 | refine below_set ?_ GE497.out | refine below_set ?_ GE510.out) | exact HB.out))) : w.heap.size ≤ gb528)); have n6_ := Aside0.mk ((by rw [hg]; exact Nat.ne_of_lt (blk_lt (g := gb497) (o := .cells #[.int .u64 t485, .int .u64 x498001_3, .int .u64 t487, .int .u64 t488, .int .u64 t489, .int .u64 t490, .int .u64 x498006_3, .int .u64 t492, .int .u64 x498008_3, .int .u64 x498009_3, .int .u64 x498010_3, .string t496] 24 (0, 0)) (by (with_reducible repeat (first | refine blk_drewN ?_ _ | refine blk_drew ?_ | refine blk_alloc ?_ _)); exact BK497.out)) : gb497 ≠ gb528)); have n7_ := Aside0.mk ((by rw [hg]; exact Nat.ne_of_gt (blk_lt (g := gb497) (o := .cells #[.int .u64 t485, .int .u64 x498001_3, .int .u64 t487, .int .u64 t488, .int .u64 t489, .int .u64 t490, .int .u64 x498006_3, .int .u64 t492, .int .u64 x498008_3, .int .u64 x498009_3, .int .u64 x498010_3, .string t496] 24 (0, 0)) (by (with_reducible repeat (first | refine blk_drewN ?_ _ | refine blk_drew ?_ | refine blk_alloc ?_ _)); exact BK497.out)) : gb528 ≠ gb497)); have n8_ := Aside0.mk ((by rw [hg]; exact Nat.ne_of_lt (blk_lt (g := gb510) (o := .cells #[.int .u64 t498, .int .u64 x511001_3, .int .u64 t500, .int .u64 t501, .int .u64 t502, .int .u64 t503, .int .u64 x511006_3, .int .u64 t505, .int .u64 x511008_3, .int .u64 x511009_3, .int .u64 x511010_3, .string t509] 24 (0, 0)) (by (with_reducible repeat (first | refine blk_drewN ?_ _ | refine blk_drew ?_ | refine blk_alloc ?_ _)); exact BK510.out)) : gb510 ≠ gb528)); have n9_ := Aside0.mk ((by rw [hg]; exact Nat.ne_of_gt (blk_lt (g := gb510) (o := .cells #[.int .u64 t498, .int .u64 x511001_3, .int .u64 t500, .int .u64 t501, .int .u64 t502, .int .u64 t503, .int .u64 x511006_3, .int .u64 t505, .int .u64 x511008_3, .int .u64 x511009_3, .int .u64 x511010_3, .string t509] 24 (0, 0)) (by (with_reducible repeat (first | refine blk_drewN ?_ _ | refine blk_drew ?_ | refine blk_alloc ?_ _)); exact BK510.out)) : gb528 ≠ gb510)); clear BK497; clear BK510; clear HB; have BK497 := n0_; have BK510 := n1_; have HB := n2_; have BK528 := n3_; have GW528 := n4_; have GE528 := n5_; have NB497_528 := n6_; have NB528_497 := n7_; have NB510_528 := n8_; have NB528_510 := n9_; clear n0_ n1_ n2_ n3_ n4_ n5_ n6_ n7_ n8_ n9_; clear hb hbox hg; have hnb51 := NB528_497.out; have hnc51 := NB497_528.out; have hnb52 := NB528_510.out; have hnc52 := NB510_528.out; have hcz53_0 : w50.cell? ⟨gb528, 0, none⟩ = some (.int .u64 0) := (blk_cell BK528.out 0).trans rfl; have hcz53_1 : w50.cell? ⟨gb528, 1, none⟩ = some (.int .u64 0) := (blk_cell BK528.out 1).trans rfl; have hcz53_2 : w50.cell? ⟨gb528, 2, none⟩ = some (.int .u64 0) := (blk_cell BK528.out 2).trans rfl; have hcz53_3 : w50.cell? ⟨gb528, 3, none⟩ = some (.int .u64 0) := (blk_cell BK528.out 3).trans rfl; have hcz53_4 : w50.cell? ⟨gb528, 4, none⟩ = some (.int .u64 0) := (blk_cell BK528.out 4).trans rfl; have hcz53_5 : w50.cell? ⟨gb528, 5, none⟩ = some (.int .u64 0) := (blk_cell BK528.out 5).trans rfl; have hcz53_6 : w50.cell? ⟨gb528, 6, none⟩ = some (.int .u64 0) := (blk_cell BK528.out 6).trans rfl; have hcz53_7 : w50.cell? ⟨gb528, 7, none⟩ = some (.int .u64 0) := (blk_cell BK528.out 7).trans rfl; have hcz53_8 : w50.cell? ⟨gb528, 8, none⟩ = some (.int .u64 0) := (blk_cell BK528.out 8).trans rfl; have hcz53_9 : w50.cell? ⟨gb528, 9, none⟩ = some (.int .u64 0) := (blk_cell BK528.out 9).trans rfl; have hcz53_10 : w50.cell? ⟨gb528, 10, none⟩ = some (.int .u64 0) := (blk_cell BK528.out 10).trans rfl; have hcz53_11 : w50.cell? ⟨gb528, 11, none⟩ = some (.string (⟨#[]⟩ : ByteArray)) := (blk_cell BK528.out 11).trans rfl; have hfz53_0 := blk_frozen BK528.out 0; have hfz53_1 := blk_frozen BK528.out 1; have hfz53_2 := blk_frozen BK528.out 2; have hfz53_3 := blk_frozen BK528.out 3; have hfz53_4 := blk_frozen BK528.out 4; have hfz53_5 := blk_frozen BK528.out 5; have hfz53_6 := blk_frozen BK528.out 6; have hfz53_7 := blk_frozen BK528.out 7; have hfz53_8 := blk_frozen BK528.out 8; have hfz53_9 := blk_frozen BK528.out 9; have hfz53_10 := blk_frozen BK528.out 10; have hfz53_11 := blk_frozen BK528.out 11) | ((with_reducible refine gate_dst (N := 51) rfl ?_); refine Kd.R_lit Kd.string _ 9 ?hg (N := 51) ?hd (xs := ([(⟨#[3, 2, 68, 175]⟩ : ByteArray), (⟨#[8, 8, 208, 0, 0, 0, 0, 0, 0, 1]⟩ : ByteArray), (⟨#[10, 1, 21]⟩ : ByteArray), (⟨#[11, 4, 128, 0, 64, 0]⟩ : ByteArray), (⟨#[14, 1, 1]⟩ : ByteArray)] : List ByteArray)) (inner := [.string (⟨#[3, 2, 68, 175]⟩ : ByteArray), .string (⟨#[8, 8, 208, 0, 0, 0, 0, 0, 0, 1]⟩ : ByteArray), .string (⟨#[10, 1, 21]⟩ : ByteArray), .string (⟨#[11, 4, 128, 0, 64, 0]⟩ : ByteArray), .string (⟨#[14, 1, 1]⟩ : ByteArray)]) (ok := fun _ => True) (okp := fun _ => True) ?hr ?hp (fun _ hk => hk) trivial (Below.refl _ _) (Nat.le_refl _) (by simp) ?_; (case hd => rfl); (case hg => rfl); (case hr => first | (go_simp; done) | (go_simp; rfl)); (case hp => exact (Reps.one (show Kd.M Kd.string _ _ _ (⟨#[3, 2, 68, 175]⟩ : ByteArray) [.string (⟨#[3, 2, 68, 175]⟩ : ByteArray)] from rfl) (Reps.one (show Kd.M Kd.string _ _ _ (⟨#[8, 8, 208, 0, 0, 0, 0, 0, 0, 1]⟩ : ByteArray) [.string (⟨#[8, 8, 208, 0, 0, 0, 0, 0, 0, 1]⟩ : ByteArray)] from rfl) (Reps.one (show Kd.M Kd.string _ _ _ (⟨#[10, 1, 21]⟩ : ByteArray) [.string (⟨#[10, 1, 21]⟩ : ByteArray)] from rfl) (Reps.one (show Kd.M Kd.string _ _ _ (⟨#[11, 4, 128, 0, 64, 0]⟩ : ByteArray) [.string (⟨#[11, 4, 128, 0, 64, 0]⟩ : ByteArray)] from rfl) (Reps.one (show Kd.M Kd.string _ _ _ (⟨#[14, 1, 1]⟩ : ByteArray) [.string (⟨#[14, 1, 1]⟩ : ByteArray)] from rfl) (Reps.none _ _))))))); intro v530 w54 ho55 hb hg_ hnew_; clear hg_ hnew_; (first | rw [← Ny529.out] at ho55 | (simp only [Int.reduceToNat] at ho55; rw [← Ny529.out] at ho55)); have n0_ := Aside0.mk (Kd.R_lower ho55 (below_size (by repeat (first | (with_reducible first | exact HB.out | apply below_alloc | apply pw_below_drewN | apply below_drew1 | refine below_set ?_ GE497.out | refine below_set ?_ GE510.out | refine below_set ?_ GE528.out) | exact HB.out)))); have n1_ := Aside0.mk (blk_below (g := gb497) (o := .cells #[.int .u64 t485, .int .u64 x498001_3, .int .u64 t487, .int .u64 t488, .int .u64 t489, .int .u64 t490, .int .u64 x498006_3, .int .u64 t492, .int .u64 x498008_3, .int .u64 x498009_3, .int .u64 x498010_3, .string t496] 24 (0, 0)) (by (with_reducible repeat (first | refine blk_drewN ?_ _ | refine blk_drew ?_ | refine blk_alloc ?_ _)); refine blk_far ?_ NB497_528.out _; (with_reducible repeat (first | refine blk_drewN ?_ _ | refine blk_drew ?_ | refine blk_alloc ?_ _)); refine blk_far ?_ NB497_528.out _; (with_reducible repeat (first | refine blk_drewN ?_ _ | refine blk_drew ?_ | refine blk_alloc ?_ _)); refine blk_far ?_ NB497_528.out _; (with_reducible repeat (first | refine blk_drewN ?_ _ | refine blk_drew ?_ | refine blk_alloc ?_ _)); refine blk_far ?_ NB497_528.out _; (with_reducible repeat (first | refine blk_drewN ?_ _ | refine blk_drew ?_ | refine blk_alloc ?_ _)); refine blk_far ?_ NB497_528.out _; (with_reducible repeat (first | refine blk_drewN ?_ _ | refine blk_drew ?_ | refine blk_alloc ?_ _)); refine blk_far ?_ NB497_528.out _; (with_reducible repeat (first | refine blk_drewN ?_ _ | refine blk_drew ?_ | refine blk_alloc ?_ _)); refine blk_far ?_ NB497_528.out _; (with_reducible repeat (first | refine blk_drewN ?_ _ | refine blk_drew ?_ | refine blk_alloc ?_ _)); refine blk_far ?_ NB497_528.out _; (with_reducible repeat (first | refine blk_drewN ?_ _ | refine blk_drew ?_ | refine blk_alloc ?_ _)); refine blk_far ?_ NB497_528.out _; (with_reducible repeat (first | refine blk_drewN ?_ _ | refine blk_drew ?_ | refine blk_alloc ?_ _)); refine blk_far ?_ NB497_528.out _; (with_reducible repeat (first | refine blk_drewN ?_ _ | refine blk_drew ?_ | refine blk_alloc ?_ _)); refine blk_far ?_ NB497_528.out _; (with_reducible repeat (first | refine blk_drewN ?_ _ | refine blk_drew ?_ | refine blk_alloc ?_ _)); refine blk_far ?_ NB497_528.out _; (with_reducible repeat (first | refine blk_drewN ?_ _ | refine blk_drew ?_ | refine blk_alloc ?_ _)); exact BK497.out) hb); have n2_ := Aside0.mk (blk_below (g := gb510) (o := .cells #[.int .u64 t498, .int .u64 x511001_3, .int .u64 t500, .int .u64 t501, .int .u64 t502, .int .u64 t503, .int .u64 x511006_3, .int .u64 t505, .int .u64 x511008_3, .int .u64 x511009_3, .int .u64 x511010_3, .string t509] 24 (0, 0)) (by (with_reducible repeat (first | refine blk_drewN ?_ _ | refine blk_drew ?_ | refine blk_alloc ?_ _)); refine blk_far ?_ NB510_528.out _; (with_reducible repeat (first | refine blk_drewN ?_ _ | refine blk_drew ?_ | refine blk_alloc ?_ _)); refine blk_far ?_ NB510_528.out _; (with_reducible repeat (first | refine blk_drewN ?_ _ | refine blk_drew ?_ | refine blk_alloc ?_ _)); refine blk_far ?_ NB510_528.out _; (with_reducible repeat (first | refine blk_drewN ?_ _ | refine blk_drew ?_ | refine blk_alloc ?_ _)); refine blk_far ?_ NB510_528.out _; (with_reducible repeat (first | refine blk_drewN ?_ _ | refine blk_drew ?_ | refine blk_alloc ?_ _)); refine blk_far ?_ NB510_528.out _; (with_reducible repeat (first | refine blk_drewN ?_ _ | refine blk_drew ?_ | refine blk_alloc ?_ _)); refine blk_far ?_ NB510_528.out _; (with_reducible repeat (first | refine blk_drewN ?_ _ | refine blk_drew ?_ | refine blk_alloc ?_ _)); refine blk_far ?_ NB510_528.out _; (with_reducible repeat (first | refine blk_drewN ?_ _ | refine blk_drew ?_ | refine blk_alloc ?_ _)); refine blk_far ?_ NB510_528.out _; (with_reducible repeat (first | refine blk_drewN ?_ _ | refine blk_drew ?_ | refine blk_alloc ?_ _)); refine blk_far ?_ NB510_528.out _; (with_reducible repeat (first | refine blk_drewN ?_ _ | refine blk_drew ?_ | refine blk_alloc ?_ _)); refine blk_far ?_ NB510_528.out _; (with_reducible repeat (first | refine blk_drewN ?_ _ | refine blk_drew ?_ | refine blk_alloc ?_ _)); refine blk_far ?_ NB510_528.out _; (with_reducible repeat (first | refine blk_drewN ?_ _ | refine blk_drew ?_ | refine blk_alloc ?_ _)); refine blk_far ?_ NB510_528.out _; (with_reducible repeat (first | refine blk_drewN ?_ _ | refine blk_drew ?_ | refine blk_alloc ?_ _)); exact BK510.out) hb); have n3_ := Aside0.mk (blk_below (g := gb528) (o := .cells #[.int .u64 t515, .int .u64 t516, .int .u64 t517, .int .u64 t518, .int .u64 t519, .int .u64 t520, .int .u64 t521, .int .u64 t522, .int .u64 t523, .int .u64 t524, .int .u64 t525, .string t526] 24 (0, 0)) (by (with_reducible repeat (first | refine blk_drewN ?_ _ | refine blk_drew ?_ | refine blk_alloc ?_ _)); refine blk_put (cs := #[.int .u64 t515, .int .u64 t516, .int .u64 t517, .int .u64 t518, .int .u64 t519, .int .u64 t520, .int .u64 t521, .int .u64 t522, .int .u64 t523, .int .u64 t524, .int .u64 t525, .string (⟨#[]⟩ : ByteArray)]) ?_ 11 _ rfl; (with_reducible repeat (first | refine blk_drewN ?_ _ | refine blk_drew ?_ | refine blk_alloc ?_ _)); refine blk_put (cs := #[.int .u64 t515, .int .u64 t516, .int .u64 t517, .int .u64 t518, .int .u64 t519, .int .u64 t520, .int .u64 t521, .int .u64 t522, .int .u64 t523, .int .u64 t524, .int .u64 0, .string (⟨#[]⟩ : ByteArray)]) ?_ 10 _ rfl; (with_reducible repeat (first | refine blk_drewN ?_ _ | refine blk_drew ?_ | refine blk_alloc ?_ _)); refine blk_put (cs := #[.int .u64 t515, .int .u64 t516, .int .u64 t517, .int .u64 t518, .int .u64 t519, .int .u64 t520, .int .u64 t521, .int .u64 t522, .int .u64 t523, .int .u64 0, .int .u64 0, .string (⟨#[]⟩ : ByteArray)]) ?_ 9 _ rfl; (with_reducible repeat (first | refine blk_drewN ?_ _ | refine blk_drew ?_ | refine blk_alloc ?_ _)); refine blk_put (cs := #[.int .u64 t515, .int .u64 t516, .int .u64 t517, .int .u64 t518, .int .u64 t519, .int .u64 t520, .int .u64 t521, .int .u64 t522, .int .u64 0, .int .u64 0, .int .u64 0, .string (⟨#[]⟩ : ByteArray)]) ?_ 8 _ rfl; (with_reducible repeat (first | refine blk_drewN ?_ _ | refine blk_drew ?_ | refine blk_alloc ?_ _)); refine blk_put (cs := #[.int .u64 t515, .int .u64 t516, .int .u64 t517, .int .u64 t518, .int .u64 t519, .int .u64 t520, .int .u64 t521, .int .u64 0, .int .u64 0, .int .u64 0, .int .u64 0, .string (⟨#[]⟩ : ByteArray)]) ?_ 7 _ rfl; (with_reducible repeat (first | refine blk_drewN ?_ _ | refine blk_drew ?_ | refine blk_alloc ?_ _)); refine blk_put (cs := #[.int .u64 t515, .int .u64 t516, .int .u64 t517, .int .u64 t518, .int .u64 t519, .int .u64 t520, .int .u64 0, .int .u64 0, .int .u64 0, .int .u64 0, .int .u64 0, .string (⟨#[]⟩ : ByteArray)]) ?_ 6 _ rfl; (with_reducible repeat (first | refine blk_drewN ?_ _ | refine blk_drew ?_ | refine blk_alloc ?_ _)); refine blk_put (cs := #[.int .u64 t515, .int .u64 t516, .int .u64 t517, .int .u64 t518, .int .u64 t519, .int .u64 0, .int .u64 0, .int .u64 0, .int .u64 0, .int .u64 0, .int .u64 0, .string (⟨#[]⟩ : ByteArray)]) ?_ 5 _ rfl; (with_reducible repeat (first | refine blk_drewN ?_ _ | refine blk_drew ?_ | refine blk_alloc ?_ _)); refine blk_put (cs := #[.int .u64 t515, .int .u64 t516, .int .u64 t517, .int .u64 t518, .int .u64 0, .int .u64 0, .int .u64 0, .int .u64 0, .int .u64 0, .int .u64 0, .int .u64 0, .string (⟨#[]⟩ : ByteArray)]) ?_ 4 _ rfl; (with_reducible repeat (first | refine blk_drewN ?_ _ | refine blk_drew ?_ | refine blk_alloc ?_ _)); refine blk_put (cs := #[.int .u64 t515, .int .u64 t516, .int .u64 t517, .int .u64 0, .int .u64 0, .int .u64 0, .int .u64 0, .int .u64 0, .int .u64 0, .int .u64 0, .int .u64 0, .string (⟨#[]⟩ : ByteArray)]) ?_ 3 _ rfl; (with_reducible repeat (first | refine blk_drewN ?_ _ | refine blk_drew ?_ | refine blk_alloc ?_ _)); refine blk_put (cs := #[.int .u64 t515, .int .u64 t516, .int .u64 0, .int .u64 0, .int .u64 0, .int .u64 0, .int .u64 0, .int .u64 0, .int .u64 0, .int .u64 0, .int .u64 0, .string (⟨#[]⟩ : ByteArray)]) ?_ 2 _ rfl; (with_reducible repeat (first | refine blk_drewN ?_ _ | refine blk_drew ?_ | refine blk_alloc ?_ _)); refine blk_put (cs := #[.int .u64 t515, .int .u64 0, .int .u64 0, .int .u64 0, .int .u64 0, .int .u64 0, .int .u64 0, .int .u64 0, .int .u64 0, .int .u64 0, .int .u64 0, .string (⟨#[]⟩ : ByteArray)]) ?_ 1 _ rfl; (with_reducible repeat (first | refine blk_drewN ?_ _ | refine blk_drew ?_ | refine blk_alloc ?_ _)); refine blk_put (cs := #[.int .u64 0, .int .u64 0, .int .u64 0, .int .u64 0, .int .u64 0, .int .u64 0, .int .u64 0, .int .u64 0, .int .u64 0, .int .u64 0, .int .u64 0, .string (⟨#[]⟩ : ByteArray)]) ?_ 0 _ rfl; (with_reducible repeat (first | refine blk_drewN ?_ _ | refine blk_drew ?_ | refine blk_alloc ?_ _)); exact BK528.out) hb); have n4_ := Aside0.mk (below_step (by repeat (first | (with_reducible first | exact HB.out | apply below_alloc | apply pw_below_drewN | apply below_drew1 | refine below_set ?_ GE497.out | refine below_set ?_ GE510.out | refine below_set ?_ GE528.out) | exact HB.out)) hb); clear BK497; clear BK510; clear BK528; clear HB; have HO531 := n0_; have BK497 := n1_; have BK510 := n2_; have BK528 := n3_; have HB := n4_; clear n0_ n1_ n2_ n3_ n4_; clear hb ho55; obtain ⟨Ao56, co56, eo56⟩ := Kd.R_slice HO531.out; subst eo56; have p532 : 0 ≤ ((ji34) : Int) := of_decide_eq_true (by first | (with_reducible assumption) | assumption); have q532 : (ji34) < (y529.length : Int) := of_decide_eq_true (by first | (with_reducible assumption) | assumption); obtain ⟨ad532, e532, hx532_0⟩ := Kd.at_string (Kd.R_reads' HO531.out).2.2 (ji34) p532 q532; cases e532; replace p532 := eq_true p532; replace q532 := eq_true q532) | ((with_reducible refine gate_callee (f := 11) rfl ?_); refine goesL_ (some 58) rfl rfl Tryd.func11 (by kernel_rfl) rfl #[.string (rdOf ByteArray.empty y529 (ji34))] rfl (by (try simp only [List.map_toArray, List.map_cons, List.map_nil]); first | done | (simp only [hji34]; rfl) | rfl | (simp only [List.length_drop, List.length_take]; rfl)) ?_; (with_reducible refine (params_Get.calls kj3 (rdOf ByteArray.empty y529 (ji34)) t533 t534 t535 t536 t537 t538 t539 t540 t541 t542 t543 t544 t545 _ A37.out).mono ?_); rintro e w57 ⟨rfl, hb⟩; refine ⟨_, rfl, ?_⟩; have n0_ := Aside0.mk (Kd.R_below (by (with_reducible repeat (first | apply Kd.R_alloc | apply Kd.R_drewN | apply Kd.R_drew)); exact HO531.out) hb); have n1_ := Aside0.mk (blk_below (g := gb497) (o := .cells #[.int .u64 t485, .int .u64 x498001_3, .int .u64 t487, .int .u64 t488, .int .u64 t489, .int .u64 t490, .int .u64 x498006_3, .int .u64 t492, .int .u64 x498008_3, .int .u64 x498009_3, .int .u64 x498010_3, .string t496] 24 (0, 0)) (by (with_reducible repeat (first | refine blk_drewN ?_ _ | refine blk_drew ?_ | refine blk_alloc ?_ _)); exact BK497.out) hb); have n2_ := Aside0.mk (blk_below (g := gb510) (o := .cells #[.int .u64 t498, .int .u64 x511001_3, .int .u64 t500, .int .u64 t501, .int .u64 t502, .int .u64 t503, .int .u64 x511006_3, .int .u64 t505, .int .u64 x511008_3, .int .u64 x511009_3, .int .u64 x511010_3, .string t509] 24 (0, 0)) (by (with_reducible repeat (first | refine blk_drewN ?_ _ | refine blk_drew ?_ | refine blk_alloc ?_ _)); exact BK510.out) hb); have n3_ := Aside0.mk (blk_below (g := gb528) (o := .cells #[.int .u64 t515, .int .u64 t516, .int .u64 t517, .int .u64 t518, .int .u64 t519, .int .u64 t520, .int .u64 t521, .int .u64 t522, .int .u64 t523, .int .u64 t524, .int .u64 t525, .string t526] 24 (0, 0)) (by (with_reducible repeat (first | refine blk_drewN ?_ _ | refine blk_drew ?_ | refine blk_alloc ?_ _)); exact BK528.out) hb); have n4_ := Aside0.mk (below_step (by repeat (first | (with_reducible first | exact HB.out | apply below_alloc | apply pw_below_drewN | apply below_drew1 | refine below_set ?_ GE497.out | refine below_set ?_ GE510.out | refine below_set ?_ GE528.out) | exact HB.out)) hb); clear HO531; clear BK497; clear BK510; clear BK528; clear HB; have HO531 := n0_; have BK497 := n1_; have BK510 := n2_; have BK528 := n3_; have HB := n4_; clear n0_ n1_ n2_ n3_ n4_; (try clear hb); (try clear hb2); (try clear hk); (try clear hi)) | ((with_reducible refine gate_dst (N := 12) rfl ?_); refine box_event ?hg (N := 12) ?hd (cs := #[.int .u64 0, .int .u64 0, .int .u64 0, .int .u64 0, .int .u64 0, .int .u64 0, .int .u64 0, .int .u64 0, .int .u64 0, .int .u64 0, .int .u64 0, .string (⟨#[]⟩ : ByteArray)]) (t := 24) ?hr ?_; (case hd => rfl); (case hg => rfl); (case hr => first | (go_simp; done) | (go_simp; rfl)); intro gb546 hg w58 hbox hb; have n0_ := Aside0.mk (Kd.R_below (by (with_reducible repeat (first | apply Kd.R_alloc | apply Kd.R_drewN | apply Kd.R_drew)); exact HO531.out) hb); have n1_ := Aside0.mk (blk_below (g := gb497) (o := .cells #[.int .u64 t485, .int .u64 x498001_3, .int .u64 t487, .int .u64 t488, .int .u64 t489, .int .u64 t490, .int .u64 x498006_3, .int .u64 t492, .int .u64 x498008_3, .int .u64 x498009_3, .int .u64 x498010_3, .string t496] 24 (0, 0)) (by (with_reducible repeat (first | refine blk_drewN ?_ _ | refine blk_drew ?_ | refine blk_alloc ?_ _)); exact BK497.out) hb); have n2_ := Aside0.mk (blk_below (g := gb510) (o := .cells #[.int .u64 t498, .int .u64 x511001_3, .int .u64 t500, .int .u64 t501, .int .u64 t502, .int .u64 t503, .int .u64 x511006_3, .int .u64 t505, .int .u64 x511008_3, .int .u64 x511009_3, .int .u64 x511010_3, .string t509] 24 (0, 0)) (by (with_reducible repeat (first | refine blk_drewN ?_ _ | refine blk_drew ?_ | refine blk_alloc ?_ _)); exact BK510.out) hb); have n3_ := Aside0.mk (blk_below (g := gb528) (o := .cells #[.int .u64 t515, .int .u64 t516, .int .u64 t517, .int .u64 t518, .int .u64 t519, .int .u64 t520, .int .u64 t521, .int .u64 t522, .int .u64 t523, .int .u64 t524, .int .u64 t525, .string t526] 24 (0, 0)) (by (with_reducible repeat (first | refine blk_drewN ?_ _ | refine blk_drew ?_ | refine blk_alloc ?_ _)); exact BK528.out) hb); have n4_ := Aside0.mk (below_step (by repeat (first | (with_reducible first | exact HB.out | apply below_alloc | apply pw_below_drewN | apply below_drew1 | refine below_set ?_ GE497.out | refine below_set ?_ GE510.out | refine below_set ?_ GE528.out) | exact HB.out)) hb); have n5_ := Aside0.mk (hbox); have n6_ := Aside0.mk ((by rw [hg]; exact (below_size (by repeat (first | (with_reducible first | exact HB.out | apply below_alloc | apply pw_below_drewN | apply below_drew1 | refine below_set ?_ GE497.out | refine below_set ?_ GE510.out | refine below_set ?_ GE528.out) | exact HB.out))) : w.heap.size ≤ gb546)); have n7_ := Aside0.mk ((by rw [hg]; exact (below_size (by repeat (first | (with_reducible first | exact HB.out | apply below_alloc | apply pw_below_drewN | apply below_drew1 | refine below_set ?_ GE497.out | refine below_set ?_ GE510.out | refine below_set ?_ GE528.out) | exact HB.out))) : w.heap.size ≤ gb546)); have n8_ := Aside0.mk ((by rw [hg]; exact Nat.ne_of_lt (blk_lt (g := gb497) (o := .cells #[.int .u64 t485, .int .u64 x498001_3, .int .u64 t487, .int .u64 t488, .int .u64 t489, .int .u64 t490, .int .u64 x498006_3, .int .u64 t492, .int .u64 x498008_3, .int .u64 x498009_3, .int .u64 x498010_3, .string t496] 24 (0, 0)) (by (with_reducible repeat (first | refine blk_drewN ?_ _ | refine blk_drew ?_ | refine blk_alloc ?_ _)); exact BK497.out)) : gb497 ≠ gb546)); have n9_ := Aside0.mk ((by rw [hg]; exact Nat.ne_of_gt (blk_lt (g := gb497) (o := .cells #[.int .u64 t485, .int .u64 x498001_3, .int .u64 t487, .int .u64 t488, .int .u64 t489, .int .u64 t490, .int .u64 x498006_3, .int .u64 t492, .int .u64 x498008_3, .int .u64 x498009_3, .int .u64 x498010_3, .string t496] 24 (0, 0)) (by (with_reducible repeat (first | refine blk_drewN ?_ _ | refine blk_drew ?_ | refine blk_alloc ?_ _)); exact BK497.out)) : gb546 ≠ gb497)); have n10_ := Aside0.mk ((by rw [hg]; exact Nat.ne_of_lt (blk_lt (g := gb510) (o := .cells #[.int .u64 t498, .int .u64 x511001_3, .int .u64 t500, .int .u64 t501, .int .u64 t502, .int .u64 t503, .int .u64 x511006_3, .int .u64 t505, .int .u64 x511008_3, .int .u64 x511009_3, .int .u64 x511010_3, .string t509] 24 (0, 0)) (by (with_reducible repeat (first | refine blk_drewN ?_ _ | refine blk_drew ?_ | refine blk_alloc ?_ _)); exact BK510.out)) : gb510 ≠ gb546)); have n11_ := Aside0.mk ((by rw [hg]; exact Nat.ne_of_gt (blk_lt (g := gb510) (o := .cells #[.int .u64 t498, .int .u64 x511001_3, .int .u64 t500, .int .u64 t501, .int .u64 t502, .int .u64 t503, .int .u64 x511006_3, .int .u64 t505, .int .u64 x511008_3, .int .u64 x511009_3, .int .u64 x511010_3, .string t509] 24 (0, 0)) (by (with_reducible repeat (first | refine blk_drewN ?_ _ | refine blk_drew ?_ | refine blk_alloc ?_ _)); exact BK510.out)) : gb546 ≠ gb510)); have n12_ := Aside0.mk ((by rw [hg]; exact Nat.ne_of_lt (blk_lt (g := gb528) (o := .cells #[.int .u64 t515, .int .u64 t516, .int .u64 t517, .int .u64 t518, .int .u64 t519, .int .u64 t520, .int .u64 t521, .int .u64 t522, .int .u64 t523, .int .u64 t524, .int .u64 t525, .string t526] 24 (0, 0)) (by (with_reducible repeat (first | refine blk_drewN ?_ _ | refine blk_drew ?_ | refine blk_alloc ?_ _)); exact BK528.out)) : gb528 ≠ gb546)); have n13_ := Aside0.mk ((by rw [hg]; exact Nat.ne_of_gt (blk_lt (g := gb528) (o := .cells #[.int .u64 t515, .int .u64 t516, .int .u64 t517, .int .u64 t518, .int .u64 t519, .int .u64 t520, .int .u64 t521, .int .u64 t522, .int .u64 t523, .int .u64 t524, .int .u64 t525, .string t526] 24 (0, 0)) (by (with_reducible repeat (first | refine blk_drewN ?_ _ | refine blk_drew ?_ | refine blk_alloc ?_ _)); exact BK528.out)) : gb546 ≠ gb528)); clear HO531; clear BK497; clear BK510; clear BK528; clear HB; have HO531 := n0_; have BK497 := n1_; have BK510 := n2_; have BK528 := n3_; have HB := n4_; have BK546 := n5_; have GW546 := n6_; have GE546 := n7_; have NB497_546 := n8_; have NB546_497 := n9_; have NB510_546 := n10_; have NB546_510 := n11_; have NB528_546 := n12_; have NB546_528 := n13_; clear n0_ n1_ n2_ n3_ n4_ n5_ n6_ n7_ n8_ n9_ n10_ n11_ n12_ n13_; clear hb hbox hg; have hnb59 := NB546_497.out; have hnc59 := NB497_546.out; have hnb60 := NB546_510.out; have hnc60 := NB510_546.out; have hnb61 := NB546_528.out; have hnc61 := NB528_546.out; have hcz62_0 : w58.cell? ⟨gb546, 0, none⟩ = some (.int .u64 0) := (blk_cell BK546.out 0).trans rfl; have hcz62_1 : w58.cell? ⟨gb546, 1, none⟩ = some (.int .u64 0) := (blk_cell BK546.out 1).trans rfl; have hcz62_2 : w58.cell? ⟨gb546, 2, none⟩ = some (.int .u64 0) := (blk_cell BK546.out 2).trans rfl; have hcz62_3 : w58.cell? ⟨gb546, 3, none⟩ = some (.int .u64 0) := (blk_cell BK546.out 3).trans rfl; have hcz62_4 : w58.cell? ⟨gb546, 4, none⟩ = some (.int .u64 0) := (blk_cell BK546.out 4).trans rfl; have hcz62_5 : w58.cell? ⟨gb546, 5, none⟩ = some (.int .u64 0) := (blk_cell BK546.out 5).trans rfl; have hcz62_6 : w58.cell? ⟨gb546, 6, none⟩ = some (.int .u64 0) := (blk_cell BK546.out 6).trans rfl; have hcz62_7 : w58.cell? ⟨gb546, 7, none⟩ = some (.int .u64 0) := (blk_cell BK546.out 7).trans rfl; have hcz62_8 : w58.cell? ⟨gb546, 8, none⟩ = some (.int .u64 0) := (blk_cell BK546.out 8).trans rfl; have hcz62_9 : w58.cell? ⟨gb546, 9, none⟩ = some (.int .u64 0) := (blk_cell BK546.out 9).trans rfl; have hcz62_10 : w58.cell? ⟨gb546, 10, none⟩ = some (.int .u64 0) := (blk_cell BK546.out 10).trans rfl; have hcz62_11 : w58.cell? ⟨gb546, 11, none⟩ = some (.string (⟨#[]⟩ : ByteArray)) := (blk_cell BK546.out 11).trans rfl; have hfz62_0 := blk_frozen BK546.out 0; have hfz62_1 := blk_frozen BK546.out 1; have hfz62_2 := blk_frozen BK546.out 2; have hfz62_3 := blk_frozen BK546.out 3; have hfz62_4 := blk_frozen BK546.out 4; have hfz62_5 := blk_frozen BK546.out 5; have hfz62_6 := blk_frozen BK546.out 6; have hfz62_7 := blk_frozen BK546.out 7; have hfz62_8 := blk_frozen BK546.out 8; have hfz62_9 := blk_frozen BK546.out 9; have hfz62_10 := blk_frozen BK546.out 10; have hfz62_11 := blk_frozen BK546.out 11; have hcz63_0 : w58.cell? ⟨gb528, 0, none⟩ = some (.int .u64 t515) := (blk_cell BK528.out 0).trans rfl; have hcz63_1 : w58.cell? ⟨gb528, 1, none⟩ = some (.int .u64 t516) := (blk_cell BK528.out 1).trans rfl; have hcz63_2 : w58.cell? ⟨gb528, 2, none⟩ = some (.int .u64 t517) := (blk_cell BK528.out 2).trans rfl; have hcz63_3 : w58.cell? ⟨gb528, 3, none⟩ = some (.int .u64 t518) := (blk_cell BK528.out 3).trans rfl; have hcz63_4 : w58.cell? ⟨gb528, 4, none⟩ = some (.int .u64 t519) := (blk_cell BK528.out 4).trans rfl; have hcz63_5 : w58.cell? ⟨gb528, 5, none⟩ = some (.int .u64 t520) := (blk_cell BK528.out 5).trans rfl; have hcz63_6 : w58.cell? ⟨gb528, 6, none⟩ = some (.int .u64 t521) := (blk_cell BK528.out 6).trans rfl; have hcz63_7 : w58.cell? ⟨gb528, 7, none⟩ = some (.int .u64 t522) := (blk_cell BK528.out 7).trans rfl; have hcz63_8 : w58.cell? ⟨gb528, 8, none⟩ = some (.int .u64 t523) := (blk_cell BK528.out 8).trans rfl; have hcz63_9 : w58.cell? ⟨gb528, 9, none⟩ = some (.int .u64 t524) := (blk_cell BK528.out 9).trans rfl; have hcz63_10 : w58.cell? ⟨gb528, 10, none⟩ = some (.int .u64 t525) := (blk_cell BK528.out 10).trans rfl; have hcz63_11 : w58.cell? ⟨gb528, 11, none⟩ = some (.string t526) := (blk_cell BK528.out 11).trans rfl; have hfz63_0 := blk_frozen BK528.out 0; have hfz63_1 := blk_frozen BK528.out 1; have hfz63_2 := blk_frozen BK528.out 2; have hfz63_3 := blk_frozen BK528.out 3; have hfz63_4 := blk_frozen BK528.out 4; have hfz63_5 := blk_frozen BK528.out 5; have hfz63_6 := blk_frozen BK528.out 6; have hfz63_7 := blk_frozen BK528.out 7; have hfz63_8 := blk_frozen BK528.out 8; have hfz63_9 := blk_frozen BK528.out 9; have hfz63_10 := blk_frozen BK528.out 10; have hfz63_11 := blk_frozen BK528.out 11; have hcz64_0 : w58.cell? ⟨gb497, 0, none⟩ = some (.int .u64 t485) := (blk_cell BK497.out 0).trans rfl; have hcz64_1 : w58.cell? ⟨gb497, 1, none⟩ = some (.int .u64 x498001_3) := (blk_cell BK497.out 1).trans rfl; have hcz64_2 : w58.cell? ⟨gb497, 2, none⟩ = some (.int .u64 t487) := (blk_cell BK497.out 2).trans rfl; have hcz64_3 : w58.cell? ⟨gb497, 3, none⟩ = some (.int .u64 t488) := (blk_cell BK497.out 3).trans rfl; have hcz64_4 : w58.cell? ⟨gb497, 4, none⟩ = some (.int .u64 t489) := (blk_cell BK497.out 4).trans rfl; have hcz64_5 : w58.cell? ⟨gb497, 5, none⟩ = some (.int .u64 t490) := (blk_cell BK497.out 5).trans rfl; have hcz64_6 : w58.cell? ⟨gb497, 6, none⟩ = some (.int .u64 x498006_3) := (blk_cell BK497.out 6).trans rfl; have hcz64_7 : w58.cell? ⟨gb497, 7, none⟩ = some (.int .u64 t492) := (blk_cell BK497.out 7).trans rfl; have hcz64_8 : w58.cell? ⟨gb497, 8, none⟩ = some (.int .u64 x498008_3) := (blk_cell BK497.out 8).trans rfl; have hcz64_9 : w58.cell? ⟨gb497, 9, none⟩ = some (.int .u64 x498009_3) := (blk_cell BK497.out 9).trans rfl; have hcz64_10 : w58.cell? ⟨gb497, 10, none⟩ = some (.int .u64 x498010_3) := (blk_cell BK497.out 10).trans rfl; have hcz64_11 : w58.cell? ⟨gb497, 11, none⟩ = some (.string t496) := (blk_cell BK497.out 11).trans rfl; have hfz64_0 := blk_frozen BK497.out 0; have hfz64_1 := blk_frozen BK497.out 1; have hfz64_2 := blk_frozen BK497.out 2; have hfz64_3 := blk_frozen BK497.out 3; have hfz64_4 := blk_frozen BK497.out 4; have hfz64_5 := blk_frozen BK497.out 5; have hfz64_6 := blk_frozen BK497.out 6; have hfz64_7 := blk_frozen BK497.out 7; have hfz64_8 := blk_frozen BK497.out 8; have hfz64_9 := blk_frozen BK497.out 9; have hfz64_10 := blk_frozen BK497.out 10; have hfz64_11 := blk_frozen BK497.out 11) | (go_at_call 8; (with_reducible refine (dominolaw05_shown.calls kj3  t547 _ (by first | exact HTab.out | exact tab_below HTab.out HB.out | exact tab_below HTab.out (by repeat (first | exact HB.out | exact Below.refl _ _ | apply below_alloc | apply pw_below_drewN | apply below_drew1 | refine below_set ?_ GE497.out | refine below_set ?_ GE510.out | refine below_set ?_ GE528.out | refine below_set ?_ GE546.out))) A43.out).mono ?_); rintro e w65 ⟨rfl, hb⟩; have n0_ := Aside0.mk (Kd.R_below (by (with_reducible repeat (first | apply Kd.R_alloc | apply Kd.R_drewN | apply Kd.R_drew)); exact (Kd.R_mono (Kd.R_far (p := ⟨gb546, 11, none⟩) (Kd.R_far (p := ⟨gb546, 10, none⟩) (Kd.R_far (p := ⟨gb546, 9, none⟩) (Kd.R_far (p := ⟨gb546, 8, none⟩) (Kd.R_far (p := ⟨gb546, 7, none⟩) (Kd.R_far (p := ⟨gb546, 6, none⟩) (Kd.R_far (p := ⟨gb546, 5, none⟩) (Kd.R_far (p := ⟨gb546, 4, none⟩) (Kd.R_far (p := ⟨gb546, 3, none⟩) (Kd.R_far (p := ⟨gb546, 2, none⟩) (Kd.R_far (p := ⟨gb546, 1, none⟩) (Kd.R_far (p := ⟨gb546, 0, none⟩) (Kd.R_types HO531.out BK546.out (by decide)) (fun _ hk => hk.2) (.int .u64 t533)) (fun _ hk => hk.2) (.int .u64 t534)) (fun _ hk => hk.2) (.int .u64 t535)) (fun _ hk => hk.2) (.int .u64 t536)) (fun _ hk => hk.2) (.int .u64 t537)) (fun _ hk => hk.2) (.int .u64 t538)) (fun _ hk => hk.2) (.int .u64 t539)) (fun _ hk => hk.2) (.int .u64 t540)) (fun _ hk => hk.2) (.int .u64 t541)) (fun _ hk => hk.2) (.int .u64 t542)) (fun _ hk => hk.2) (.int .u64 t543)) (fun _ hk => hk.2) (.string t544)) (fun _ h_ => h_.1))) hb); have n1_ := Aside0.mk (blk_below (g := gb497) (o := .cells #[.int .u64 t485, .int .u64 x498001_3, .int .u64 t487, .int .u64 t488, .int .u64 t489, .int .u64 t490, .int .u64 x498006_3, .int .u64 t492, .int .u64 x498008_3, .int .u64 x498009_3, .int .u64 x498010_3, .string t496] 24 (0, 0)) (by (with_reducible repeat (first | refine blk_drewN ?_ _ | refine blk_drew ?_ | refine blk_alloc ?_ _)); refine blk_far ?_ NB497_546.out _; (with_reducible repeat (first | refine blk_drewN ?_ _ | refine blk_drew ?_ | refine blk_alloc ?_ _)); refine blk_far ?_ NB497_546.out _; (with_reducible repeat (first | refine blk_drewN ?_ _ | refine blk_drew ?_ | refine blk_alloc ?_ _)); refine blk_far ?_ NB497_546.out _; (with_reducible repeat (first | refine blk_drewN ?_ _ | refine blk_drew ?_ | refine blk_alloc ?_ _)); refine blk_far ?_ NB497_546.out _; (with_reducible repeat (first | refine blk_drewN ?_ _ | refine blk_drew ?_ | refine blk_alloc ?_ _)); refine blk_far ?_ NB497_546.out _; (with_reducible repeat (first | refine blk_drewN ?_ _ | refine blk_drew ?_ | refine blk_alloc ?_ _)); refine blk_far ?_ NB497_546.out _; (with_reducible repeat (first | refine blk_drewN ?_ _ | refine blk_drew ?_ | refine blk_alloc ?_ _)); refine blk_far ?_ NB497_546.out _; (with_reducible repeat (first | refine blk_drewN ?_ _ | refine blk_drew ?_ | refine blk_alloc ?_ _)); refine blk_far ?_ NB497_546.out _; (with_reducible repeat (first | refine blk_drewN ?_ _ | refine blk_drew ?_ | refine blk_alloc ?_ _)); refine blk_far ?_ NB497_546.out _; (with_reducible repeat (first | refine blk_drewN ?_ _ | refine blk_drew ?_ | refine blk_alloc ?_ _)); refine blk_far ?_ NB497_546.out _; (with_reducible repeat (first | refine blk_drewN ?_ _ | refine blk_drew ?_ | refine blk_alloc ?_ _)); refine blk_far ?_ NB497_546.out _; (with_reducible repeat (first | refine blk_drewN ?_ _ | refine blk_drew ?_ | refine blk_alloc ?_ _)); refine blk_far ?_ NB497_546.out _; (with_reducible repeat (first | refine blk_drewN ?_ _ | refine blk_drew ?_ | refine blk_alloc ?_ _)); exact BK497.out) hb); have n2_ := Aside0.mk (blk_below (g := gb510) (o := .cells #[.int .u64 t498, .int .u64 x511001_3, .int .u64 t500, .int .u64 t501, .int .u64 t502, .int .u64 t503, .int .u64 x511006_3, .int .u64 t505, .int .u64 x511008_3, .int .u64 x511009_3, .int .u64 x511010_3, .string t509] 24 (0, 0)) (by (with_reducible repeat (first | refine blk_drewN ?_ _ | refine blk_drew ?_ | refine blk_alloc ?_ _)); refine blk_far ?_ NB510_546.out _; (with_reducible repeat (first | refine blk_drewN ?_ _ | refine blk_drew ?_ | refine blk_alloc ?_ _)); refine blk_far ?_ NB510_546.out _; (with_reducible repeat (first | refine blk_drewN ?_ _ | refine blk_drew ?_ | refine blk_alloc ?_ _)); refine blk_far ?_ NB510_546.out _; (with_reducible repeat (first | refine blk_drewN ?_ _ | refine blk_drew ?_ | refine blk_alloc ?_ _)); refine blk_far ?_ NB510_546.out _; (with_reducible repeat (first | refine blk_drewN ?_ _ | refine blk_drew ?_ | refine blk_alloc ?_ _)); refine blk_far ?_ NB510_546.out _; (with_reducible repeat (first | refine blk_drewN ?_ _ | refine blk_drew ?_ | refine blk_alloc ?_ _)); refine blk_far ?_ NB510_546.out _; (with_reducible repeat (first | refine blk_drewN ?_ _ | refine blk_drew ?_ | refine blk_alloc ?_ _)); refine blk_far ?_ NB510_546.out _; (with_reducible repeat (first | refine blk_drewN ?_ _ | refine blk_drew ?_ | refine blk_alloc ?_ _)); refine blk_far ?_ NB510_546.out _; (with_reducible repeat (first | refine blk_drewN ?_ _ | refine blk_drew ?_ | refine blk_alloc ?_ _)); refine blk_far ?_ NB510_546.out _; (with_reducible repeat (first | refine blk_drewN ?_ _ | refine blk_drew ?_ | refine blk_alloc ?_ _)); refine blk_far ?_ NB510_546.out _; (with_reducible repeat (first | refine blk_drewN ?_ _ | refine blk_drew ?_ | refine blk_alloc ?_ _)); refine blk_far ?_ NB510_546.out _; (with_reducible repeat (first | refine blk_drewN ?_ _ | refine blk_drew ?_ | refine blk_alloc ?_ _)); refine blk_far ?_ NB510_546.out _; (with_reducible repeat (first | refine blk_drewN ?_ _ | refine blk_drew ?_ | refine blk_alloc ?_ _)); exact BK510.out) hb); have n3_ := Aside0.mk (blk_below (g := gb528) (o := .cells #[.int .u64 t515, .int .u64 t516, .int .u64 t517, .int .u64 t518, .int .u64 t519, .int .u64 t520, .int .u64 t521, .int .u64 t522, .int .u64 t523, .int .u64 t524, .int .u64 t525, .string t526] 24 (0, 0)) (by (with_reducible repeat (first | refine blk_drewN ?_ _ | refine blk_drew ?_ | refine blk_alloc ?_ _)); refine blk_far ?_ NB528_546.out _; (with_reducible repeat (first | refine blk_drewN ?_ _ | refine blk_drew ?_ | refine blk_alloc ?_ _)); refine blk_far ?_ NB528_546.out _; (with_reducible repeat (first | refine blk_drewN ?_ _ | refine blk_drew ?_ | refine blk_alloc ?_ _)); refine blk_far ?_ NB528_546.out _; (with_reducible repeat (first | refine blk_drewN ?_ _ | refine blk_drew ?_ | refine blk_alloc ?_ _)); refine blk_far ?_ NB528_546.out _; (with_reducible repeat (first | refine blk_drewN ?_ _ | refine blk_drew ?_ | refine blk_alloc ?_ _)); refine blk_far ?_ NB528_546.out _; (with_reducible repeat (first | refine blk_drewN ?_ _ | refine blk_drew ?_ | refine blk_alloc ?_ _)); refine blk_far ?_ NB528_546.out _; (with_reducible repeat (first | refine blk_drewN ?_ _ | refine blk_drew ?_ | refine blk_alloc ?_ _)); refine blk_far ?_ NB528_546.out _; (with_reducible repeat (first | refine blk_drewN ?_ _ | refine blk_drew ?_ | refine blk_alloc ?_ _)); refine blk_far ?_ NB528_546.out _; (with_reducible repeat (first | refine blk_drewN ?_ _ | refine blk_drew ?_ | refine blk_alloc ?_ _)); refine blk_far ?_ NB528_546.out _; (with_reducible repeat (first | refine blk_drewN ?_ _ | refine blk_drew ?_ | refine blk_alloc ?_ _)); refine blk_far ?_ NB528_546.out _; (with_reducible repeat (first | refine blk_drewN ?_ _ | refine blk_drew ?_ | refine blk_alloc ?_ _)); refine blk_far ?_ NB528_546.out _; (with_reducible repeat (first | refine blk_drewN ?_ _ | refine blk_drew ?_ | refine blk_alloc ?_ _)); refine blk_far ?_ NB528_546.out _; (with_reducible repeat (first | refine blk_drewN ?_ _ | refine blk_drew ?_ | refine blk_alloc ?_ _)); exact BK528.out) hb); have n4_ := Aside0.mk (blk_below (g := gb546) (o := .cells #[.int .u64 t533, .int .u64 t534, .int .u64 t535, .int .u64 t536, .int .u64 t537, .int .u64 t538, .int .u64 t539, .int .u64 t540, .int .u64 t541, .int .u64 t542, .int .u64 t543, .string t544] 24 (0, 0)) (by (with_reducible repeat (first | refine blk_drewN ?_ _ | refine blk_drew ?_ | refine blk_alloc ?_ _)); refine blk_put (cs := #[.int .u64 t533, .int .u64 t534, .int .u64 t535, .int .u64 t536, .int .u64 t537, .int .u64 t538, .int .u64 t539, .int .u64 t540, .int .u64 t541, .int .u64 t542, .int .u64 t543, .string (⟨#[]⟩ : ByteArray)]) ?_ 11 _ rfl; (with_reducible repeat (first | refine blk_drewN ?_ _ | refine blk_drew ?_ | refine blk_alloc ?_ _)); refine blk_put (cs := #[.int .u64 t533, .int .u64 t534, .int .u64 t535, .int .u64 t536, .int .u64 t537, .int .u64 t538, .int .u64 t539, .int .u64 t540, .int .u64 t541, .int .u64 t542, .int .u64 0, .string (⟨#[]⟩ : ByteArray)]) ?_ 10 _ rfl; (with_reducible repeat (first | refine blk_drewN ?_ _ | refine blk_drew ?_ | refine blk_alloc ?_ _)); refine blk_put (cs := #[.int .u64 t533, .int .u64 t534, .int .u64 t535, .int .u64 t536, .int .u64 t537, .int .u64 t538, .int .u64 t539, .int .u64 t540, .int .u64 t541, .int .u64 0, .int .u64 0, .string (⟨#[]⟩ : ByteArray)]) ?_ 9 _ rfl; (with_reducible repeat (first | refine blk_drewN ?_ _ | refine blk_drew ?_ | refine blk_alloc ?_ _)); refine blk_put (cs := #[.int .u64 t533, .int .u64 t534, .int .u64 t535, .int .u64 t536, .int .u64 t537, .int .u64 t538, .int .u64 t539, .int .u64 t540, .int .u64 0, .int .u64 0, .int .u64 0, .string (⟨#[]⟩ : ByteArray)]) ?_ 8 _ rfl; (with_reducible repeat (first | refine blk_drewN ?_ _ | refine blk_drew ?_ | refine blk_alloc ?_ _)); refine blk_put (cs := #[.int .u64 t533, .int .u64 t534, .int .u64 t535, .int .u64 t536, .int .u64 t537, .int .u64 t538, .int .u64 t539, .int .u64 0, .int .u64 0, .int .u64 0, .int .u64 0, .string (⟨#[]⟩ : ByteArray)]) ?_ 7 _ rfl; (with_reducible repeat (first | refine blk_drewN ?_ _ | refine blk_drew ?_ | refine blk_alloc ?_ _)); refine blk_put (cs := #[.int .u64 t533, .int .u64 t534, .int .u64 t535, .int .u64 t536, .int .u64 t537, .int .u64 t538, .int .u64 0, .int .u64 0, .int .u64 0, .int .u64 0, .int .u64 0, .string (⟨#[]⟩ : ByteArray)]) ?_ 6 _ rfl; (with_reducible repeat (first | refine blk_drewN ?_ _ | refine blk_drew ?_ | refine blk_alloc ?_ _)); refine blk_put (cs := #[.int .u64 t533, .int .u64 t534, .int .u64 t535, .int .u64 t536, .int .u64 t537, .int .u64 0, .int .u64 0, .int .u64 0, .int .u64 0, .int .u64 0, .int .u64 0, .string (⟨#[]⟩ : ByteArray)]) ?_ 5 _ rfl; (with_reducible repeat (first | refine blk_drewN ?_ _ | refine blk_drew ?_ | refine blk_alloc ?_ _)); refine blk_put (cs := #[.int .u64 t533, .int .u64 t534, .int .u64 t535, .int .u64 t536, .int .u64 0, .int .u64 0, .int .u64 0, .int .u64 0, .int .u64 0, .int .u64 0, .int .u64 0, .string (⟨#[]⟩ : ByteArray)]) ?_ 4 _ rfl; (with_reducible repeat (first | refine blk_drewN ?_ _ | refine blk_drew ?_ | refine blk_alloc ?_ _)); refine blk_put (cs := #[.int .u64 t533, .int .u64 t534, .int .u64 t535, .int .u64 0, .int .u64 0, .int .u64 0, .int .u64 0, .int .u64 0, .int .u64 0, .int .u64 0, .int .u64 0, .string (⟨#[]⟩ : ByteArray)]) ?_ 3 _ rfl; (with_reducible repeat (first | refine blk_drewN ?_ _ | refine blk_drew ?_ | refine blk_alloc ?_ _)); refine blk_put (cs := #[.int .u64 t533, .int .u64 t534, .int .u64 0, .int .u64 0, .int .u64 0, .int .u64 0, .int .u64 0, .int .u64 0, .int .u64 0, .int .u64 0, .int .u64 0, .string (⟨#[]⟩ : ByteArray)]) ?_ 2 _ rfl; (with_reducible repeat (first | refine blk_drewN ?_ _ | refine blk_drew ?_ | refine blk_alloc ?_ _)); refine blk_put (cs := #[.int .u64 t533, .int .u64 0, .int .u64 0, .int .u64 0, .int .u64 0, .int .u64 0, .int .u64 0, .int .u64 0, .int .u64 0, .int .u64 0, .int .u64 0, .string (⟨#[]⟩ : ByteArray)]) ?_ 1 _ rfl; (with_reducible repeat (first | refine blk_drewN ?_ _ | refine blk_drew ?_ | refine blk_alloc ?_ _)); refine blk_put (cs := #[.int .u64 0, .int .u64 0, .int .u64 0, .int .u64 0, .int .u64 0, .int .u64 0, .int .u64 0, .int .u64 0, .int .u64 0, .int .u64 0, .int .u64 0, .string (⟨#[]⟩ : ByteArray)]) ?_ 0 _ rfl; (with_reducible repeat (first | refine blk_drewN ?_ _ | refine blk_drew ?_ | refine blk_alloc ?_ _)); exact BK546.out) hb); have n5_ := Aside0.mk (below_step (by repeat (first | (with_reducible first | exact HB.out | apply below_alloc | apply pw_below_drewN | apply below_drew1 | refine below_set ?_ GE497.out | refine below_set ?_ GE510.out | refine below_set ?_ GE528.out | refine below_set ?_ GE546.out) | exact HB.out)) hb); clear HO531; clear BK497; clear BK510; clear BK528; clear BK546; clear HB; have HO531 := n0_; have BK497 := n1_; have BK510 := n2_; have BK528 := n3_; have BK546 := n4_; have HB := n5_; clear n0_ n1_ n2_ n3_ n4_ n5_; (try clear hb); (try clear hb2); (try clear hk); (try clear hi)))
          go_ret
          exact ⟨by first | rfl | (have hq_ := of_eq_true c41q; simp [errW_none, errW_some, hq_, bne]; done) | (have hq_ := of_eq_true c41q; simp [errW_none, errW_some, hq_, bne]; rfl) | (simp [errW_none, errW_some] <;> rfl) | (simp only [← hji34]; first | rfl | (simp [errW_none, errW_some] <;> rfl)) | (simp [*, errW_none, errW_some] <;> rfl), by repeat (first | (with_reducible first | exact HB.out | apply below_alloc | apply pw_below_drewN | apply below_drew1 | refine below_set ?_ GE497.out | refine below_set ?_ GE510.out | refine below_set ?_ GE528.out | refine below_set ?_ GE546.out) | exact HB.out)⟩
         ·rw [if_neg c42] at H
          exact absurd H (by simp)
        ·rw [if_neg c41] at H
         exact absurd H (by simp)
       ·rw [if_neg c40] at H
        exact absurd H (by simp)
      ·rw [if_neg c39] at H
       exact absurd H (by simp)
     ·rw [if_neg c38] at H
      exact absurd H (by simp)
    ·rw [if_neg c36] at H
     exact absurd H (by simp)
   ·rw [if_neg c35] at H
    exact absurd H (by simp)

/-- THE ONE PURE STATEMENT of dominolaw05_ParamsBad: yours. -/
def dominolaw05_ParamsBad.Pure : Prop := ∀ (a0 : Int), (Lit.int .u8 a0).wf = true → ∃ k, dominolaw05_ParamsBad.f k a0 = some true
theorem dominolaw05_ParamsBad.walk (P : dominolaw05_ParamsBad.Pure) (a0 : Int) (w : World) (w0 : (Lit.int .u8 a0).wf = true) (ht : Tab w) :
  Calls Tryd.prog 7 #[.int .u8 a0] w fun e w' => e = .returned (.bool true) ∧ Below w.heap.size w w' := by
 obtain ⟨k, h⟩ := P a0 w0
 refine (dominolaw05_ParamsBad.calls k a0 true w ht h).mono ?_
 rintro e w' ⟨rfl, hd⟩
 exact ⟨rfl, hd⟩

end Go.Proofs.YthbnedjcaflofaaDoor.PPax
