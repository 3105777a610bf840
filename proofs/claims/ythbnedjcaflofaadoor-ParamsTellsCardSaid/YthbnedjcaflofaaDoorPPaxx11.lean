-- printed for this claim by a program of the claim (wip/tools/pp.py over the kit's print)
import Derived.Test.YthbnedjcaflofaaDoorPPaxx0
import Derived.Test.YthbnedjcaflofaaDoorPPaxx7
import Derived.Test.YthbnedjcaflofaaDoorPPaxx10
namespace Go.Proofs.YthbnedjcaflofaaDoor.PPax
open Go.RowKit Go.Proofs.YthbnedjcaflofaaDoorW.PrintWords Go.Proofs.YthbnedjcaflofaaDoorW.PrintLast Go.Proofs.YthbnedjcaflofaaDoorW.PrintMore
attribute [local go_sem] max2_int min2_int max_two min_two max_three min_three max_four min_four   -- for this text's walks alone
set_option linter.unusedVariables false
set_option linter.unusedSimpArgs false

attribute [local go_sem] isSome_setCell_
/-! ### dominoref05_Get: function 12 -/
mutual
def dominoref05_Get.l0 : Nat → ByteArray → List Int → Int → Int → Int → Int → Int → Int → Int → Int → Int → Int → Int → ByteArray → Option (Int × Int × Int × Int × Int × Int × Int × Int × Int × Int × Int × ByteArray × Int)
 | 0, _, _, _, _, _, _, _, _, _, _, _, _, _, _ => none
 | k + 1, x0, x5, x215000, x215001, x215002, x215003, x215004, x215005, x215006, x215007, x215008, x215009, x215010, x215011 => if x0.toList = ([] : List UInt8) then ((dominoref05_Check.f k x215000 x215001 x215002 x215003 x215004 x215005 x215006 x215007 x215008 x215009 x215010 x215011).bind fun t218 => (if t218 = 0 then (some (x215000, x215001, x215002, x215003, x215004, x215005, x215006, x215007, x215008, x215009, x215010, x215011, 0)) else (some (0, 0, 0, 0, 0, 0, 0, 0, 0, 0, 0, (⟨#[]⟩ : ByteArray), 50)))) else ((dominoref01_Gets.f k x0 2).bind fun bt219 => (if bt219.2.2 = 0 then (if 1 < (bt219.1.length : Int) then (dominoref05_Get.j1 k x5 bt219.1 bt219.2.1 (decide ((rd bt219.1 1) > (IntKind.u64.wrap ((bt219.2.1.size : Int))))) x215000 x215001 x215002 x215003 x215004 x215005 x215006 x215007 x215008 x215009 x215010 x215011) else (none)) else (dominoref05_Get.j1 k x5 bt219.1 bt219.2.1 true x215000 x215001 x215002 x215003 x215004 x215005 x215006 x215007 x215008 x215009 x215010 x215011)))
def dominoref05_Get.j1 : Nat → List Int → List Int → ByteArray → Bool → Int → Int → Int → Int → Int → Int → Int → Int → Int → Int → Int → ByteArray → Option (Int × Int × Int × Int × Int × Int × Int × Int × Int × Int × Int × ByteArray × Int)
 | 0, _, _, _, _, _, _, _, _, _, _, _, _, _, _, _, _ => none
 | k + 1, x5, x6, x7, x36, x215000, x215001, x215002, x215003, x215004, x215005, x215006, x215007, x215008, x215009, x215010, x215011 => if x36 = true then (some (0, 0, 0, 0, 0, 0, 0, 0, 0, 0, 0, (⟨#[]⟩ : ByteArray), 50)) else (dominoref05_Get.l1 k x5 x6 x7 0 x215000 x215001 x215002 x215003 x215004 x215005 x215006 x215007 x215008 x215009 x215010 x215011)
def dominoref05_Get.l1 : Nat → List Int → List Int → ByteArray → Int → Int → Int → Int → Int → Int → Int → Int → Int → Int → Int → Int → ByteArray → Option (Int × Int × Int × Int × Int × Int × Int × Int × Int × Int × Int × ByteArray × Int)
 | 0, _, _, _, _, _, _, _, _, _, _, _, _, _, _, _, _ => none
 | k + 1, x5, x6, x7, x9, x215000, x215001, x215002, x215003, x215004, x215005, x215006, x215007, x215008, x215009, x215010, x215011 => if x9 < (x5.length : Int) then (if 0 ≤ x9 then (if 0 < (x6.length : Int) then (if (rd x5 x9) = (rd x6 0) then (some (0, 0, 0, 0, 0, 0, 0, 0, 0, 0, 0, (⟨#[]⟩ : ByteArray), 50)) else (dominoref05_Get.l1 k x5 x6 x7 (wrap64 (x9 + 1)) x215000 x215001 x215002 x215003 x215004 x215005 x215006 x215007 x215008 x215009 x215010 x215011)) else (none)) else (none)) else (if 0 < (x6.length : Int) then (if x5.length < 17592186044416 then ((some (x5 ++ [rd x6 0] : List Int)).bind fun y228 => (if 1 < (x6.length : Int) then (if 0 ≤ (rd x6 1) then (if (rd x6 1) ≤ (x7.size : Int) then ((dominoref05_value.f x215000 x215001 x215002 x215003 x215004 x215005 x215006 x215007 x215008 x215009 x215010 x215011 (rd x6 0)).bind fun bt234 => (if bt234.2 = true then ((dominoref01_Get.f k (x7.extract 0 ((rd x6 1) : Int).toNat)).bind fun bt236 => (if bt236.2.2 = 0 then (if bt236.2.1.toList = ([] : List UInt8) then ((dominoref05_set.f x215000 x215001 x215002 x215003 x215004 x215005 x215006 x215007 x215008 x215009 x215010 x215011 (rd x6 0) bt236.1).bind fun bt240 => (dominoref05_Get.j3 k (x7.extract ((rd x6 1) : Int).toNat x7.size) y228 x6 (x7.extract 0 ((rd x6 1) : Int).toNat) bt240.1 bt240.2.1 bt240.2.2.1 bt240.2.2.2.1 bt240.2.2.2.2.1 bt240.2.2.2.2.2.1 bt240.2.2.2.2.2.2.1 bt240.2.2.2.2.2.2.2.1 bt240.2.2.2.2.2.2.2.2.1 bt240.2.2.2.2.2.2.2.2.2.1 bt240.2.2.2.2.2.2.2.2.2.2.1 bt240.2.2.2.2.2.2.2.2.2.2.2)) else (some (0, 0, 0, 0, 0, 0, 0, 0, 0, 0, 0, (⟨#[]⟩ : ByteArray), 50))) else (some (0, 0, 0, 0, 0, 0, 0, 0, 0, 0, 0, (⟨#[]⟩ : ByteArray), 50)))) else (dominoref05_Get.j3 k (x7.extract ((rd x6 1) : Int).toNat x7.size) y228 x6 (x7.extract 0 ((rd x6 1) : Int).toNat) x215000 x215001 x215002 x215003 x215004 x215005 x215006 x215007 x215008 x215009 x215010 x215011))) else (none)) else (none)) else (none))) else (none)) else (none))
def dominoref05_Get.j3 : Nat → ByteArray → List Int → List Int → ByteArray → Int → Int → Int → Int → Int → Int → Int → Int → Int → Int → Int → ByteArray → Option (Int × Int × Int × Int × Int × Int × Int × Int × Int × Int × Int × ByteArray × Int)
 | 0, _, _, _, _, _, _, _, _, _, _, _, _, _, _, _, _ => none
 | k + 1, x0, x5, x6, x10, x215000, x215001, x215002, x215003, x215004, x215005, x215006, x215007, x215008, x215009, x215010, x215011 => if 0 < (x6.length : Int) then (if (rd x6 0) = 2 then (if (x10.size : Int) = 16 then (dominoref05_Get.l0 k x0 x5 x215000 x215001 x215002 x215003 x215004 x215005 x215006 x215007 x215008 x215009 x215010 x10) else (some (0, 0, 0, 0, 0, 0, 0, 0, 0, 0, 0, (⟨#[]⟩ : ByteArray), 50))) else (dominoref05_Get.l0 k x0 x5 x215000 x215001 x215002 x215003 x215004 x215005 x215006 x215007 x215008 x215009 x215010 x215011)) else (none)
end
def dominoref05_Get.f (k : Nat) (a0 : ByteArray) : Option (Int × Int × Int × Int × Int × Int × Int × Int × Int × Int × Int × ByteArray × Int) := (dominoref05_Default.f).bind fun bt202 => (dominoref05_Get.l0 k a0 (([] : List Int)) bt202.1 bt202.2.1 bt202.2.2.1 bt202.2.2.2.1 bt202.2.2.2.2.1 bt202.2.2.2.2.2.1 bt202.2.2.2.2.2.2.1 bt202.2.2.2.2.2.2.2.1 bt202.2.2.2.2.2.2.2.2.1 bt202.2.2.2.2.2.2.2.2.2.1 bt202.2.2.2.2.2.2.2.2.2.2.1 bt202.2.2.2.2.2.2.2.2.2.2.2)
theorem dominoref05_Get.mono_l : ∀ k, (∀ y0 y1 y2 y3 y4 y5 y6 y7 y8 y9 y10 y11 y12 y13, LeO (dominoref05_Get.l0 k y0 y1 y2 y3 y4 y5 y6 y7 y8 y9 y10 y11 y12 y13) (dominoref05_Get.l0 (k + 1) y0 y1 y2 y3 y4 y5 y6 y7 y8 y9 y10 y11 y12 y13)) ∧ (∀ y0 y1 y2 y3 y4 y5 y6 y7 y8 y9 y10 y11 y12 y13 y14 y15, LeO (dominoref05_Get.j1 k y0 y1 y2 y3 y4 y5 y6 y7 y8 y9 y10 y11 y12 y13 y14 y15) (dominoref05_Get.j1 (k + 1) y0 y1 y2 y3 y4 y5 y6 y7 y8 y9 y10 y11 y12 y13 y14 y15)) ∧ (∀ y0 y1 y2 y3 y4 y5 y6 y7 y8 y9 y10 y11 y12 y13 y14 y15, LeO (dominoref05_Get.l1 k y0 y1 y2 y3 y4 y5 y6 y7 y8 y9 y10 y11 y12 y13 y14 y15) (dominoref05_Get.l1 (k + 1) y0 y1 y2 y3 y4 y5 y6 y7 y8 y9 y10 y11 y12 y13 y14 y15)) ∧ (∀ y0 y1 y2 y3 y4 y5 y6 y7 y8 y9 y10 y11 y12 y13 y14 y15, LeO (dominoref05_Get.j3 k y0 y1 y2 y3 y4 y5 y6 y7 y8 y9 y10 y11 y12 y13 y14 y15) (dominoref05_Get.j3 (k + 1) y0 y1 y2 y3 y4 y5 y6 y7 y8 y9 y10 y11 y12 y13 y14 y15))
 | 0 => ⟨fun _ _ _ _ _ _ _ _ _ _ _ _ _ _ r h => by simp [dominoref05_Get.l0] at h, fun _ _ _ _ _ _ _ _ _ _ _ _ _ _ _ _ r h => by simp [dominoref05_Get.j1] at h, fun _ _ _ _ _ _ _ _ _ _ _ _ _ _ _ _ r h => by simp [dominoref05_Get.l1] at h, fun _ _ _ _ _ _ _ _ _ _ _ _ _ _ _ _ r h => by simp [dominoref05_Get.j3] at h⟩
 | k + 1 => by
  obtain ⟨ih0, ih1, ih2, ih3⟩ := dominoref05_Get.mono_l k
  refine ⟨?_, ?_, ?_, ?_⟩
  ·intro y0 y1 y2 y3 y4 y5 y6 y7 y8 y9 y10 y11 y12 y13
   unfold dominoref05_Get.l0
   repeat' first
   | (with_reducible exact ih0 _ _ _ _ _ _ _ _ _ _ _ _ _ _)
   | (with_reducible exact ih1 _ _ _ _ _ _ _ _ _ _ _ _ _ _ _ _)
   | (with_reducible exact ih2 _ _ _ _ _ _ _ _ _ _ _ _ _ _ _ _)
   | (with_reducible exact ih3 _ _ _ _ _ _ _ _ _ _ _ _ _ _ _ _)
   | (with_reducible exact dominoref01_Get.mono _ _)
   | (with_reducible exact dominoref01_Gets.mono _ _ _)
   | (with_reducible exact dominoref05_Check.mono _ _ _ _ _ _ _ _ _ _ _ _ _)
   | (with_reducible exact LeO.refl _)
   | (with_reducible exact LeO.none _)
   | (with_reducible refine LeO.ite ?_ ?_)
   | (with_reducible refine LeO.bind ?_ (fun _ => ?_))
   | exact ih0 _ _ _ _ _ _ _ _ _ _ _ _ _ _
   | exact ih1 _ _ _ _ _ _ _ _ _ _ _ _ _ _ _ _
   | exact ih2 _ _ _ _ _ _ _ _ _ _ _ _ _ _ _ _
   | exact ih3 _ _ _ _ _ _ _ _ _ _ _ _ _ _ _ _
   | exact dominoref01_Get.mono _ _
   | exact dominoref01_Gets.mono _ _ _
   | exact dominoref05_Check.mono _ _ _ _ _ _ _ _ _ _ _ _ _
   | exact LeO.none _
   | refine LeO.ite ?_ ?_
   | refine LeO.bind ?_ (fun _ => ?_)
  ·intro y0 y1 y2 y3 y4 y5 y6 y7 y8 y9 y10 y11 y12 y13 y14 y15
   unfold dominoref05_Get.j1
   repeat' first
   | (with_reducible exact ih0 _ _ _ _ _ _ _ _ _ _ _ _ _ _)
   | (with_reducible exact ih1 _ _ _ _ _ _ _ _ _ _ _ _ _ _ _ _)
   | (with_reducible exact ih2 _ _ _ _ _ _ _ _ _ _ _ _ _ _ _ _)
   | (with_reducible exact ih3 _ _ _ _ _ _ _ _ _ _ _ _ _ _ _ _)
   | (with_reducible exact dominoref01_Get.mono _ _)
   | (with_reducible exact dominoref01_Gets.mono _ _ _)
   | (with_reducible exact dominoref05_Check.mono _ _ _ _ _ _ _ _ _ _ _ _ _)
   | (with_reducible exact LeO.refl _)
   | (with_reducible exact LeO.none _)
   | (with_reducible refine LeO.ite ?_ ?_)
   | (with_reducible refine LeO.bind ?_ (fun _ => ?_))
   | exact ih0 _ _ _ _ _ _ _ _ _ _ _ _ _ _
   | exact ih1 _ _ _ _ _ _ _ _ _ _ _ _ _ _ _ _
   | exact ih2 _ _ _ _ _ _ _ _ _ _ _ _ _ _ _ _
   | exact ih3 _ _ _ _ _ _ _ _ _ _ _ _ _ _ _ _
   | exact dominoref01_Get.mono _ _
   | exact dominoref01_Gets.mono _ _ _
   | exact dominoref05_Check.mono _ _ _ _ _ _ _ _ _ _ _ _ _
   | exact LeO.none _
   | refine LeO.ite ?_ ?_
   | refine LeO.bind ?_ (fun _ => ?_)
  ·intro y0 y1 y2 y3 y4 y5 y6 y7 y8 y9 y10 y11 y12 y13 y14 y15
   unfold dominoref05_Get.l1
   repeat' first
   | (with_reducible exact ih0 _ _ _ _ _ _ _ _ _ _ _ _ _ _)
   | (with_reducible exact ih1 _ _ _ _ _ _ _ _ _ _ _ _ _ _ _ _)
   | (with_reducible exact ih2 _ _ _ _ _ _ _ _ _ _ _ _ _ _ _ _)
   | (with_reducible exact ih3 _ _ _ _ _ _ _ _ _ _ _ _ _ _ _ _)
   | (with_reducible exact dominoref01_Get.mono _ _)
   | (with_reducible exact dominoref01_Gets.mono _ _ _)
   | (with_reducible exact dominoref05_Check.mono _ _ _ _ _ _ _ _ _ _ _ _ _)
   | (with_reducible exact LeO.refl _)
   | (with_reducible exact LeO.none _)
   | (with_reducible refine LeO.ite ?_ ?_)
   | (with_reducible refine LeO.bind ?_ (fun _ => ?_))
   | exact ih0 _ _ _ _ _ _ _ _ _ _ _ _ _ _
   | exact ih1 _ _ _ _ _ _ _ _ _ _ _ _ _ _ _ _
   | exact ih2 _ _ _ _ _ _ _ _ _ _ _ _ _ _ _ _
   | exact ih3 _ _ _ _ _ _ _ _ _ _ _ _ _ _ _ _
   | exact dominoref01_Get.mono _ _
   | exact dominoref01_Gets.mono _ _ _
   | exact dominoref05_Check.mono _ _ _ _ _ _ _ _ _ _ _ _ _
   | exact LeO.none _
   | refine LeO.ite ?_ ?_
   | refine LeO.bind ?_ (fun _ => ?_)
  ·intro y0 y1 y2 y3 y4 y5 y6 y7 y8 y9 y10 y11 y12 y13 y14 y15
   unfold dominoref05_Get.j3
   repeat' first
   | (with_reducible exact ih0 _ _ _ _ _ _ _ _ _ _ _ _ _ _)
   | (with_reducible exact ih1 _ _ _ _ _ _ _ _ _ _ _ _ _ _ _ _)
   | (with_reducible exact ih2 _ _ _ _ _ _ _ _ _ _ _ _ _ _ _ _)
   | (with_reducible exact ih3 _ _ _ _ _ _ _ _ _ _ _ _ _ _ _ _)
   | (with_reducible exact dominoref01_Get.mono _ _)
   | (with_reducible exact dominoref01_Gets.mono _ _ _)
   | (with_reducible exact dominoref05_Check.mono _ _ _ _ _ _ _ _ _ _ _ _ _)
   | (with_reducible exact LeO.refl _)
   | (with_reducible exact LeO.none _)
   | (with_reducible refine LeO.ite ?_ ?_)
   | (with_reducible refine LeO.bind ?_ (fun _ => ?_))
   | exact ih0 _ _ _ _ _ _ _ _ _ _ _ _ _ _
   | exact ih1 _ _ _ _ _ _ _ _ _ _ _ _ _ _ _ _
   | exact ih2 _ _ _ _ _ _ _ _ _ _ _ _ _ _ _ _
   | exact ih3 _ _ _ _ _ _ _ _ _ _ _ _ _ _ _ _
   | exact dominoref01_Get.mono _ _
   | exact dominoref01_Gets.mono _ _ _
   | exact dominoref05_Check.mono _ _ _ _ _ _ _ _ _ _ _ _ _
   | exact LeO.none _
   | refine LeO.ite ?_ ?_
   | refine LeO.bind ?_ (fun _ => ?_)
theorem dominoref05_Get.mono : ∀ a0 k, LeO (dominoref05_Get.f k a0) (dominoref05_Get.f (k + 1) a0) := by
 intro a0 k
 obtain ⟨ih0, ih1, ih2, ih3⟩ := dominoref05_Get.mono_l k
 unfold dominoref05_Get.f
 repeat' first
   | (with_reducible exact ih0 _ _ _ _ _ _ _ _ _ _ _ _ _ _)
   | (with_reducible exact ih1 _ _ _ _ _ _ _ _ _ _ _ _ _ _ _ _)
   | (with_reducible exact ih2 _ _ _ _ _ _ _ _ _ _ _ _ _ _ _ _)
   | (with_reducible exact ih3 _ _ _ _ _ _ _ _ _ _ _ _ _ _ _ _)
   | (with_reducible exact dominoref01_Get.mono _ _)
   | (with_reducible exact dominoref01_Gets.mono _ _ _)
   | (with_reducible exact dominoref05_Check.mono _ _ _ _ _ _ _ _ _ _ _ _ _)
   | (with_reducible exact LeO.refl _)
   | (with_reducible exact LeO.none _)
   | (with_reducible refine LeO.ite ?_ ?_)
   | (with_reducible refine LeO.bind ?_ (fun _ => ?_))
   | exact ih0 _ _ _ _ _ _ _ _ _ _ _ _ _ _
   | exact ih1 _ _ _ _ _ _ _ _ _ _ _ _ _ _ _ _
   | exact ih2 _ _ _ _ _ _ _ _ _ _ _ _ _ _ _ _
   | exact ih3 _ _ _ _ _ _ _ _ _ _ _ _ _ _ _ _
   | exact dominoref01_Get.mono _ _
   | exact dominoref01_Gets.mono _ _ _
   | exact dominoref05_Check.mono _ _ _ _ _ _ _ _ _ _ _ _ _
   | exact LeO.none _
   | refine LeO.ite ?_ ?_
   | refine LeO.bind ?_ (fun _ => ?_)
def dominoref05_Get.T10 : Bool × List (List Nat × List Nat) := (true, [([], []), ([], []), ([0, 1], [0, 1]), ([2], [2]), ([], []), ([4], [4]), ([5], [5]), ([3, 6], [3, 6])])
def dominoref05_Get.B10 : List Nat := [0, 0, 3, 7, 0, 16, 48, 127]
theorem dominoref05_Get.tab10 : rtab .any (opsOf Tryd.f12 10) = dominoref05_Get.T10 := by kernel_rfl
theorem dominoref05_Get.bits10 : waitsOk dominoref05_Get.T10.2 dominoref05_Get.B10 = true := by kernel_rfl
def dominoref05_Get.T15 : Bool × List (List Nat × List Nat) := (true, [([], []), ([], []), ([1], [1]), ([2], [2]), ([0, 3], [0, 3]), ([4], [4]), ([5], [5]), ([5], [5]), ([6, 4, 0, 1, 2, 3, 4, 5, 6], [6]), ([7, 8, 0, 1, 2, 3, 4, 5, 6, 7, 8], [7])])
def dominoref05_Get.B15 : List Nat := [0, 0, 2, 6, 15, 31, 63, 63, 127, 511]
theorem dominoref05_Get.tab15 : rtab .any (opsOf Tryd.f12 15) = dominoref05_Get.T15 := by kernel_rfl
theorem dominoref05_Get.bits15 : waitsOk dominoref05_Get.T15.2 dominoref05_Get.B15 = true := by kernel_rfl
set_option maxHeartbeats 8000000 in
set_option maxRecDepth 100000 in
theorem dominoref05_Get.calls (k : Nat) (a0 : ByteArray) (r1 : Int) (r2 : Int) (r3 : Int) (r4 : Int) (r5 : Int) (r6 : Int) (r7 : Int) (r8 : Int) (r9 : Int) (r10 : Int) (r11 : Int) (r12 : ByteArray) (r13 : Int) (w : World) (h : dominoref05_Get.f k a0 = some (r1, r2, r3, r4, r5, r6, r7, r8, r9, r10, r11, r12, r13)) :
  Calls Tryd.prog 12 #[.string a0] w fun e w' => e = .returned (.tuple #[.agg #[.int .u64 r1, .int .u64 r2, .int .u64 r3, .int .u64 r4, .int .u64 r5, .int .u64 r6, .int .u64 r7, .int .u64 r8, .int .u64 r9, .int .u64 r10, .int .u64 r11, .string r12], .int .i64 r13]) ∧ Below w.heap.size w w' := by
 have hu26 := Tryd.underlying26
 have HB := Aside0.mk (Below.refl w.heap.size w)
 have H : ((dominoref05_Default.f).bind fun bt202 => (dominoref05_Get.l0 k a0 (([] : List Int)) bt202.1 bt202.2.1 bt202.2.2.1 bt202.2.2.2.1 bt202.2.2.2.2.1 bt202.2.2.2.2.2.1 bt202.2.2.2.2.2.2.1 bt202.2.2.2.2.2.2.2.1 bt202.2.2.2.2.2.2.2.2.1 bt202.2.2.2.2.2.2.2.2.2.1 bt202.2.2.2.2.2.2.2.2.2.2.1 bt202.2.2.2.2.2.2.2.2.2.2.2)) = some (r1, r2, r3, r4, r5, r6, r7, r8, r9, r10, r11, r12, r13) := h
 clear h
 replace H := Option.bind_eq_some_iff.mp H
 obtain ⟨⟨t202, t203, t204, t205, t206, t207, t208, t209, t210, t211, t212, t213⟩, A20, H⟩ := H
 replace H : (dominoref05_Get.l0 k a0 (([] : List Int)) t202 t203 t204 t205 t206 t207 t208 t209 t210 t211 t212 t213) = some (r1, r2, r3, r4, r5, r6, r7, r8, r9, r10, r11, r12, r13) := H
 have A2 := Aside0.mk A20
 clear A20
 obtain ⟨y215, hy215⟩ : ∃ y_ : List Int, y_ = (([] : List Int)) := ⟨_, rfl⟩
 replace H : (dominoref05_Get.l0 k a0 y215 t202 t203 t204 t205 t206 t207 t208 t209 t210 t211 t212 t213) = some (r1, r2, r3, r4, r5, r6, r7, r8, r9, r10, r11, r12, r13) := by first | (rw [hy215]; with_reducible exact H) | (have H2_ := (Option.bind_some _ _).symm.trans H; rw [hy215]; with_reducible exact H2_) | (have H2_ := (Option.bind_some _ _).symm.trans H; with_reducible exact H2_) | with_reducible exact H | (rw [hy215]; exact H) | exact H
 have Ny215 := Aside0.mk hy215
 clear hy215
 have H' := Aside0.mk H
 clear H
 go_enter Tryd.func12, Tryd.ntmps12
 go_wp2_with (first | ((with_reducible refine gate_dst (N := 2) rfl ?_); (try (refine gate_guard (by rfl) ?_; dsimp only)); refine box_event ?hg (N := 2) ?hd (cs := #[.int .u64 0, .int .u64 0, .int .u64 0, .int .u64 0, .int .u64 0, .int .u64 0, .int .u64 0, .int .u64 0, .int .u64 0, .int .u64 0, .int .u64 0, .string (⟨#[]⟩ : ByteArray)]) (t := 26) ?hr ?_; (case hd => rfl); (case hg => rfl); (case hr => first | (go_simp; done) | (go_simp; rfl)); intro gb201 hg w3 hbox hb; have n0_ := Aside0.mk (below_step (by repeat (first | (with_reducible first | exact HB.out | apply below_alloc | apply pw_below_drewN | apply below_drew1) | exact HB.out)) hb); have n1_ := Aside0.mk (hbox); have n2_ := Aside0.mk ((by rw [hg]; exact (below_size (by repeat (first | (with_reducible first | exact HB.out | apply below_alloc | apply pw_below_drewN | apply below_drew1) | exact HB.out))) : w.heap.size ≤ gb201)); have n3_ := Aside0.mk ((by rw [hg]; exact (below_size (by repeat (first | (with_reducible first | exact HB.out | apply below_alloc | apply pw_below_drewN | apply below_drew1) | exact HB.out))) : w.heap.size ≤ gb201)); clear HB; have HB := n0_; have BK201 := n1_; have GW201 := n2_; have GE201 := n3_; clear n0_ n1_ n2_ n3_; clear hb hbox hg) | ((with_reducible refine gate_callee (f := 16) rfl ?_); refine goesL_ (some 16) rfl rfl Tryd.func16 (by kernel_rfl) rfl #[] rfl (by (try simp only [List.map_toArray, List.map_cons, List.map_nil]); first | done | rfl | (simp only [List.length_drop, List.length_take]; rfl)) ?_; (with_reducible refine (dominoref05_Default.calls  t202 t203 t204 t205 t206 t207 t208 t209 t210 t211 t212 t213 _ A2.out).mono ?_); rintro e w4 ⟨rfl, hb⟩; refine ⟨_, rfl, ?_⟩; have n0_ := Aside0.mk (blk_below (g := gb201) (o := .cells #[.int .u64 0, .int .u64 0, .int .u64 0, .int .u64 0, .int .u64 0, .int .u64 0, .int .u64 0, .int .u64 0, .int .u64 0, .int .u64 0, .int .u64 0, .string (⟨#[]⟩ : ByteArray)] 26 (0, 0)) (by (with_reducible repeat (first | refine blk_drewN ?_ _ | refine blk_drew ?_ | refine blk_alloc ?_ _)); exact BK201.out) hb); have n1_ := Aside0.mk (below_step (by repeat (first | (with_reducible first | exact HB.out | apply below_alloc | apply pw_below_drewN | apply below_drew1 | refine below_set ?_ GE201.out) | exact HB.out)) hb); clear BK201; clear HB; have BK201 := n0_; have HB := n1_; clear n0_ n1_; (try clear hb); (try clear hb2); (try clear hk); (try clear hi)) | ((with_reducible refine gate_dst (N := 4) rfl ?_); (try (refine gate_guard (by rfl) ?_; dsimp only)); refine box_event ?hg (N := 4) ?hd (cs := #[.int .u64 0, .int .u64 0, .int .u64 0, .int .u64 0, .int .u64 0, .int .u64 0, .int .u64 0, .int .u64 0, .int .u64 0, .int .u64 0, .int .u64 0, .string (⟨#[]⟩ : ByteArray)]) (t := 26) ?hr ?_; (case hd => rfl); (case hg => rfl); (case hr => first | (go_simp; done) | (go_simp; rfl)); intro gb214 hg w5 hbox hb; have n0_ := Aside0.mk (blk_below (g := gb201) (o := .cells #[.int .u64 0, .int .u64 0, .int .u64 0, .int .u64 0, .int .u64 0, .int .u64 0, .int .u64 0, .int .u64 0, .int .u64 0, .int .u64 0, .int .u64 0, .string (⟨#[]⟩ : ByteArray)] 26 (0, 0)) (by (with_reducible repeat (first | refine blk_drewN ?_ _ | refine blk_drew ?_ | refine blk_alloc ?_ _)); exact BK201.out) hb); have n1_ := Aside0.mk (below_step (by repeat (first | (with_reducible first | exact HB.out | apply below_alloc | apply pw_below_drewN | apply below_drew1 | refine below_set ?_ GE201.out) | exact HB.out)) hb); have n2_ := Aside0.mk (hbox); have n3_ := Aside0.mk ((by rw [hg]; exact (below_size (by repeat (first | (with_reducible first | exact HB.out | apply below_alloc | apply pw_below_drewN | apply below_drew1 | refine below_set ?_ GE201.out) | exact HB.out))) : w.heap.size ≤ gb214)); have n4_ := Aside0.mk ((by rw [hg]; exact (below_size (by repeat (first | (with_reducible first | exact HB.out | apply below_alloc | apply pw_below_drewN | apply below_drew1 | refine below_set ?_ GE201.out) | exact HB.out))) : w.heap.size ≤ gb214)); have n5_ := Aside0.mk ((by rw [hg]; exact Nat.ne_of_lt (blk_lt (g := gb201) (o := .cells #[.int .u64 0, .int .u64 0, .int .u64 0, .int .u64 0, .int .u64 0, .int .u64 0, .int .u64 0, .int .u64 0, .int .u64 0, .int .u64 0, .int .u64 0, .string (⟨#[]⟩ : ByteArray)] 26 (0, 0)) (by (with_reducible repeat (first | refine blk_drewN ?_ _ | refine blk_drew ?_ | refine blk_alloc ?_ _)); exact BK201.out)) : gb201 ≠ gb214)); have n6_ := Aside0.mk ((by rw [hg]; exact Nat.ne_of_gt (blk_lt (g := gb201) (o := .cells #[.int .u64 0, .int .u64 0, .int .u64 0, .int .u64 0, .int .u64 0, .int .u64 0, .int .u64 0, .int .u64 0, .int .u64 0, .int .u64 0, .int .u64 0, .string (⟨#[]⟩ : ByteArray)] 26 (0, 0)) (by (with_reducible repeat (first | refine blk_drewN ?_ _ | refine blk_drew ?_ | refine blk_alloc ?_ _)); exact BK201.out)) : gb214 ≠ gb201)); clear BK201; clear HB; have BK201 := n0_; have HB := n1_; have BK214 := n2_; have GW214 := n3_; have GE214 := n4_; have NB201_214 := n5_; have NB214_201 := n6_; clear n0_ n1_ n2_ n3_ n4_ n5_ n6_; clear hb hbox hg; have hnb6 := NB214_201.out; have hnc6 := NB201_214.out; have hcz7_0 : w5.cell? ⟨gb214, 0, none⟩ = some (.int .u64 0) := (blk_cell BK214.out 0).trans rfl; have hcz7_1 : w5.cell? ⟨gb214, 1, none⟩ = some (.int .u64 0) := (blk_cell BK214.out 1).trans rfl; have hcz7_2 : w5.cell? ⟨gb214, 2, none⟩ = some (.int .u64 0) := (blk_cell BK214.out 2).trans rfl; have hcz7_3 : w5.cell? ⟨gb214, 3, none⟩ = some (.int .u64 0) := (blk_cell BK214.out 3).trans rfl; have hcz7_4 : w5.cell? ⟨gb214, 4, none⟩ = some (.int .u64 0) := (blk_cell BK214.out 4).trans rfl; have hcz7_5 : w5.cell? ⟨gb214, 5, none⟩ = some (.int .u64 0) := (blk_cell BK214.out 5).trans rfl; have hcz7_6 : w5.cell? ⟨gb214, 6, none⟩ = some (.int .u64 0) := (blk_cell BK214.out 6).trans rfl; have hcz7_7 : w5.cell? ⟨gb214, 7, none⟩ = some (.int .u64 0) := (blk_cell BK214.out 7).trans rfl; have hcz7_8 : w5.cell? ⟨gb214, 8, none⟩ = some (.int .u64 0) := (blk_cell BK214.out 8).trans rfl; have hcz7_9 : w5.cell? ⟨gb214, 9, none⟩ = some (.int .u64 0) := (blk_cell BK214.out 9).trans rfl; have hcz7_10 : w5.cell? ⟨gb214, 10, none⟩ = some (.int .u64 0) := (blk_cell BK214.out 10).trans rfl; have hcz7_11 : w5.cell? ⟨gb214, 11, none⟩ = some (.string (⟨#[]⟩ : ByteArray)) := (blk_cell BK214.out 11).trans rfl; have hfz7_0 := blk_frozen BK214.out 0; have hfz7_1 := blk_frozen BK214.out 1; have hfz7_2 := blk_frozen BK214.out 2; have hfz7_3 := blk_frozen BK214.out 3; have hfz7_4 := blk_frozen BK214.out 4; have hfz7_5 := blk_frozen BK214.out 5; have hfz7_6 := blk_frozen BK214.out 6; have hfz7_7 := blk_frozen BK214.out 7; have hfz7_8 := blk_frozen BK214.out 8; have hfz7_9 := blk_frozen BK214.out 9; have hfz7_10 := blk_frozen BK214.out 10; have hfz7_11 := blk_frozen BK214.out 11) | ((with_reducible refine gate_dst (N := 17) rfl ?_); (try (refine gate_guard (by rfl) ?_; dsimp only)); refine Kd.R_lit (Kd.int .u64) _ 22 ?hg (N := 17) ?hd (xs := ([] : List Int)) (inner := []) (ok := fun _ => True) (okp := fun _ => True) ?hr ?hp (fun _ hk => hk) trivial (Below.refl _ _) (Nat.le_refl _) (by simp) ?_; (case hd => rfl); (case hg => rfl); (case hr => first | (go_simp; done) | (go_simp; rfl)); (case hp => exact (Reps.none _ _)); intro v216 w8 ho9 hb hg_ hnew_; clear hg_ hnew_; (first | rw [← Ny215.out] at ho9 | (simp only [Int.reduceToNat] at ho9; rw [← Ny215.out] at ho9)); have n0_ := Aside0.mk (Kd.R_lower ho9 (below_size (by repeat (first | (with_reducible first | exact HB.out | apply below_alloc | apply pw_below_drewN | apply below_drew1 | refine below_set ?_ GE201.out | refine below_set ?_ GE214.out) | exact HB.out)))); have n1_ := Aside0.mk (blk_below (g := gb201) (o := .cells #[.int .u64 0, .int .u64 0, .int .u64 0, .int .u64 0, .int .u64 0, .int .u64 0, .int .u64 0, .int .u64 0, .int .u64 0, .int .u64 0, .int .u64 0, .string (⟨#[]⟩ : ByteArray)] 26 (0, 0)) (by (with_reducible repeat (first | refine blk_drewN ?_ _ | refine blk_drew ?_ | refine blk_alloc ?_ _)); refine blk_far ?_ NB201_214.out _; (with_reducible repeat (first | refine blk_drewN ?_ _ | refine blk_drew ?_ | refine blk_alloc ?_ _)); refine blk_far ?_ NB201_214.out _; (with_reducible repeat (first | refine blk_drewN ?_ _ | refine blk_drew ?_ | refine blk_alloc ?_ _)); refine blk_far ?_ NB201_214.out _; (with_reducible repeat (first | refine blk_drewN ?_ _ | refine blk_drew ?_ | refine blk_alloc ?_ _)); refine blk_far ?_ NB201_214.out _; (with_reducible repeat (first | refine blk_drewN ?_ _ | refine blk_drew ?_ | refine blk_alloc ?_ _)); refine blk_far ?_ NB201_214.out _; (with_reducible repeat (first | refine blk_drewN ?_ _ | refine blk_drew ?_ | refine blk_alloc ?_ _)); refine blk_far ?_ NB201_214.out _; (with_reducible repeat (first | refine blk_drewN ?_ _ | refine blk_drew ?_ | refine blk_alloc ?_ _)); refine blk_far ?_ NB201_214.out _; (with_reducible repeat (first | refine blk_drewN ?_ _ | refine blk_drew ?_ | refine blk_alloc ?_ _)); refine blk_far ?_ NB201_214.out _; (with_reducible repeat (first | refine blk_drewN ?_ _ | refine blk_drew ?_ | refine blk_alloc ?_ _)); refine blk_far ?_ NB201_214.out _; (with_reducible repeat (first | refine blk_drewN ?_ _ | refine blk_drew ?_ | refine blk_alloc ?_ _)); refine blk_far ?_ NB201_214.out _; (with_reducible repeat (first | refine blk_drewN ?_ _ | refine blk_drew ?_ | refine blk_alloc ?_ _)); refine blk_far ?_ NB201_214.out _; (with_reducible repeat (first | refine blk_drewN ?_ _ | refine blk_drew ?_ | refine blk_alloc ?_ _)); refine blk_far ?_ NB201_214.out _; (with_reducible repeat (first | refine blk_drewN ?_ _ | refine blk_drew ?_ | refine blk_alloc ?_ _)); exact BK201.out) hb); have n2_ := Aside0.mk (blk_below (g := gb214) (o := .cells #[.int .u64 t202, .int .u64 t203, .int .u64 t204, .int .u64 t205, .int .u64 t206, .int .u64 t207, .int .u64 t208, .int .u64 t209, .int .u64 t210, .int .u64 t211, .int .u64 t212, .string t213] 26 (0, 0)) (by (with_reducible repeat (first | refine blk_drewN ?_ _ | refine blk_drew ?_ | refine blk_alloc ?_ _)); refine blk_put (cs := #[.int .u64 t202, .int .u64 t203, .int .u64 t204, .int .u64 t205, .int .u64 t206, .int .u64 t207, .int .u64 t208, .int .u64 t209, .int .u64 t210, .int .u64 t211, .int .u64 t212, .string (⟨#[]⟩ : ByteArray)]) ?_ 11 _ rfl; (with_reducible repeat (first | refine blk_drewN ?_ _ | refine blk_drew ?_ | refine blk_alloc ?_ _)); refine blk_put (cs := #[.int .u64 t202, .int .u64 t203, .int .u64 t204, .int .u64 t205, .int .u64 t206, .int .u64 t207, .int .u64 t208, .int .u64 t209, .int .u64 t210, .int .u64 t211, .int .u64 0, .string (⟨#[]⟩ : ByteArray)]) ?_ 10 _ rfl; (with_reducible repeat (first | refine blk_drewN ?_ _ | refine blk_drew ?_ | refine blk_alloc ?_ _)); refine blk_put (cs := #[.int .u64 t202, .int .u64 t203, .int .u64 t204, .int .u64 t205, .int .u64 t206, .int .u64 t207, .int .u64 t208, .int .u64 t209, .int .u64 t210, .int .u64 0, .int .u64 0, .string (⟨#[]⟩ : ByteArray)]) ?_ 9 _ rfl; (with_reducible repeat (first | refine blk_drewN ?_ _ | refine blk_drew ?_ | refine blk_alloc ?_ _)); refine blk_put (cs := #[.int .u64 t202, .int .u64 t203, .int .u64 t204, .int .u64 t205, .int .u64 t206, .int .u64 t207, .int .u64 t208, .int .u64 t209, .int .u64 0, .int .u64 0, .int .u64 0, .string (⟨#[]⟩ : ByteArray)]) ?_ 8 _ rfl; (with_reducible repeat (first | refine blk_drewN ?_ _ | refine blk_drew ?_ | refine blk_alloc ?_ _)); refine blk_put (cs := #[.int .u64 t202, .int .u64 t203, .int .u64 t204, .int .u64 t205, .int .u64 t206, .int .u64 t207, .int .u64 t208, .int .u64 0, .int .u64 0, .int .u64 0, .int .u64 0, .string (⟨#[]⟩ : ByteArray)]) ?_ 7 _ rfl; (with_reducible repeat (first | refine blk_drewN ?_ _ | refine blk_drew ?_ | refine blk_alloc ?_ _)); refine blk_put (cs := #[.int .u64 t202, .int .u64 t203, .int .u64 t204, .int .u64 t205, .int .u64 t206, .int .u64 t207, .int .u64 0, .int .u64 0, .int .u64 0, .int .u64 0, .int .u64 0, .string (⟨#[]⟩ : ByteArray)]) ?_ 6 _ rfl; (with_reducible repeat (first | refine blk_drewN ?_ _ | refine blk_drew ?_ | refine blk_alloc ?_ _)); refine blk_put (cs := #[.int .u64 t202, .int .u64 t203, .int .u64 t204, .int .u64 t205, .int .u64 t206, .int .u64 0, .int .u64 0, .int .u64 0, .int .u64 0, .int .u64 0, .int .u64 0, .string (⟨#[]⟩ : ByteArray)]) ?_ 5 _ rfl; (with_reducible repeat (first | refine blk_drewN ?_ _ | refine blk_drew ?_ | refine blk_alloc ?_ _)); refine blk_put (cs := #[.int .u64 t202, .int .u64 t203, .int .u64 t204, .int .u64 t205, .int .u64 0, .int .u64 0, .int .u64 0, .int .u64 0, .int .u64 0, .int .u64 0, .int .u64 0, .string (⟨#[]⟩ : ByteArray)]) ?_ 4 _ rfl; (with_reducible repeat (first | refine blk_drewN ?_ _ | refine blk_drew ?_ | refine blk_alloc ?_ _)); refine blk_put (cs := #[.int .u64 t202, .int .u64 t203, .int .u64 t204, .int .u64 0, .int .u64 0, .int .u64 0, .int .u64 0, .int .u64 0, .int .u64 0, .int .u64 0, .int .u64 0, .string (⟨#[]⟩ : ByteArray)]) ?_ 3 _ rfl; (with_reducible repeat (first | refine blk_drewN ?_ _ | refine blk_drew ?_ | refine blk_alloc ?_ _)); refine blk_put (cs := #[.int .u64 t202, .int .u64 t203, .int .u64 0, .int .u64 0, .int .u64 0, .int .u64 0, .int .u64 0, .int .u64 0, .int .u64 0, .int .u64 0, .int .u64 0, .string (⟨#[]⟩ : ByteArray)]) ?_ 2 _ rfl; (with_reducible repeat (first | refine blk_drewN ?_ _ | refine blk_drew ?_ | refine blk_alloc ?_ _)); refine blk_put (cs := #[.int .u64 t202, .int .u64 0, .int .u64 0, .int .u64 0, .int .u64 0, .int .u64 0, .int .u64 0, .int .u64 0, .int .u64 0, .int .u64 0, .int .u64 0, .string (⟨#[]⟩ : ByteArray)]) ?_ 1 _ rfl; (with_reducible repeat (first | refine blk_drewN ?_ _ | refine blk_drew ?_ | refine blk_alloc ?_ _)); refine blk_put (cs := #[.int .u64 0, .int .u64 0, .int .u64 0, .int .u64 0, .int .u64 0, .int .u64 0, .int .u64 0, .int .u64 0, .int .u64 0, .int .u64 0, .int .u64 0, .string (⟨#[]⟩ : ByteArray)]) ?_ 0 _ rfl; (with_reducible repeat (first | refine blk_drewN ?_ _ | refine blk_drew ?_ | refine blk_alloc ?_ _)); exact BK214.out) hb); have n3_ := Aside0.mk (below_step (by repeat (first | (with_reducible first | exact HB.out | apply below_alloc | apply pw_below_drewN | apply below_drew1 | refine below_set ?_ GE201.out | refine below_set ?_ GE214.out) | exact HB.out)) hb); clear BK201; clear BK214; clear HB; have HO217 := n0_; have BK201 := n1_; have BK214 := n2_; have HB := n3_; clear n0_ n1_ n2_ n3_; clear hb ho9))
 go_loopg [0, 5] k (fun kq v0 v5 w' => ∃ (x0_1 : ByteArray) (x5_1 : List Int) (x202000_1 : Int) (x202001_1 : Int) (x202002_1 : Int) (x202003_1 : Int) (x202004_1 : Int) (x202005_1 : Int) (x202006_1 : Int) (x202007_1 : Int) (x202008_1 : Int) (x202009_1 : Int) (x202010_1 : Int) (x202011_1 : ByteArray) (x215000_1 : Int) (x215001_1 : Int) (x215002_1 : Int) (x215003_1 : Int) (x215004_1 : Int) (x215005_1 : Int) (x215006_1 : Int) (x215007_1 : Int) (x215008_1 : Int) (x215009_1 : Int) (x215010_1 : Int) (x215011_1 : ByteArray), v0 = .string x0_1 ∧ Aside0 (dominoref05_Get.l0 kq x0_1 x5_1 x215000_1 x215001_1 x215002_1 x215003_1 x215004_1 x215005_1 x215006_1 x215007_1 x215008_1 x215009_1 x215010_1 x215011_1 = some (r1, r2, r3, r4, r5, r6, r7, r8, r9, r10, r11, r12, r13)) ∧ Aside0 (kq ≤ k) ∧ Aside0 (Kd.R (Kd.int .u64) 22 w' w.heap.size (fun _ => True) v5 x5_1) ∧ Aside0 (w'.heap[gb201]? = some (.cells #[.int .u64 x202000_1, .int .u64 x202001_1, .int .u64 x202002_1, .int .u64 x202003_1, .int .u64 x202004_1, .int .u64 x202005_1, .int .u64 x202006_1, .int .u64 x202007_1, .int .u64 x202008_1, .int .u64 x202009_1, .int .u64 x202010_1, .string x202011_1] 26 (0, 0))) ∧ Aside0 (w'.heap[gb214]? = some (.cells #[.int .u64 x215000_1, .int .u64 x215001_1, .int .u64 x215002_1, .int .u64 x215003_1, .int .u64 x215004_1, .int .u64 x215005_1, .int .u64 x215006_1, .int .u64 x215007_1, .int .u64 x215008_1, .int .u64 x215009_1, .int .u64 x215010_1, .string x215011_1] 26 (0, 0))) ∧ Aside0 (Below w.heap.size w w'))
 case atStart => exact ⟨(a0), (y215), (0), (0), (0), (0), (0), (0), (0), (0), (0), (0), (0), ((⟨#[]⟩ : ByteArray)), (t202), (t203), (t204), (t205), (t206), (t207), (t208), (t209), (t210), (t211), (t212), (t213), (by first | rfl | (simp; done) | (simp [*]; done)), H', ⟨Nat.le_refl _⟩, ⟨by (with_reducible repeat (first | apply Kd.R_alloc | apply Kd.R_drewN | apply Kd.R_drew)); exact HO217.out⟩, ⟨by (with_reducible repeat (first | refine blk_drewN ?_ _ | refine blk_drew ?_ | refine blk_alloc ?_ _)); exact BK201.out⟩, ⟨by (with_reducible repeat (first | refine blk_drewN ?_ _ | refine blk_drew ?_ | refine blk_alloc ?_ _)); exact BK214.out⟩, ⟨by repeat (first | (with_reducible first | exact HB.out | apply below_alloc | apply pw_below_drewN | apply below_drew1 | refine below_set ?_ GE201.out | refine below_set ?_ GE214.out) | exact HB.out)⟩⟩
 case round =>
  clear H'
  try clear c1
  try clear p2
  try clear c6
  try clear hcz7_0
  try clear hcz7_1
  try clear hcz7_10
  try clear hcz7_11
  try clear hcz7_2
  try clear hcz7_3
  try clear hcz7_4
  try clear hcz7_5
  try clear hcz7_6
  try clear hcz7_7
  try clear hcz7_8
  try clear hcz7_9
  try clear hfz7_0
  try clear hfz7_1
  try clear hfz7_10
  try clear hfz7_11
  try clear hfz7_2
  try clear hfz7_3
  try clear hfz7_4
  try clear hfz7_5
  try clear hfz7_6
  try clear hfz7_7
  try clear hfz7_8
  try clear hfz7_9
  obtain ⟨x0_1, x5_1, x202000_1, x202001_1, x202002_1, x202003_1, x202004_1, x202005_1, x202006_1, x202007_1, x202008_1, x202009_1, x202010_1, x202011_1, x215000_1, x215001_1, x215002_1, x215003_1, x215004_1, x215005_1, x215006_1, x215007_1, x215008_1, x215009_1, x215010_1, x215011_1, rfl, HA, HK1, HO_5, BK201, BK214, HB⟩ := hrel
  cases gk with
  | zero => exact absurd HA.out (by simp [dominoref05_Get.l0])
  | succ k1 =>
   have H := HA.out
   clear HA
   simp only [dominoref05_Get.l0] at H
   by_cases c10 : x0_1.toList = ([] : List UInt8)
   ·rw [if_pos c10] at H
    have c10b0 : (x0_1.toList == ([] : List UInt8)) = true := beq_iff_eq.mpr c10
    have c10b1 : (x0_1.toList != ([] : List UInt8)) = false := bne_eq_false_iff_eq.mpr c10
    clear c10
    replace H := Option.bind_eq_some_iff.mp H
    obtain ⟨t218, A110, H⟩ := H
    replace H : (if t218 = 0 then (some (x215000_1, x215001_1, x215002_1, x215003_1, x215004_1, x215005_1, x215006_1, x215007_1, x215008_1, x215009_1, x215010_1, x215011_1, 0)) else (some (0, 0, 0, 0, 0, 0, 0, 0, 0, 0, 0, (⟨#[]⟩ : ByteArray), 50))) = some (r1, r2, r3, r4, r5, r6, r7, r8, r9, r10, r11, r12, r13) := H
    have A11 := Aside0.mk A110
    clear A110
    by_cases c12 : t218 = 0
    ·rw [if_pos c12] at H
     have c12b0 : (t218 == 0) = true := beq_iff_eq.mpr c12
     have c12b1 : (t218 != 0) = false := bne_eq_false_iff_eq.mpr c12
     clear c12
     simp only [Option.some.injEq, Prod.mk.injEq] at H
     obtain ⟨rfl, rfl, rfl, rfl, rfl, rfl, rfl, rfl, rfl, rfl, rfl, rfl, rfl⟩ := H
     have hnb13 := NB214_201.out
     have hnc13 := NB201_214.out
     have hcz14_0 : wr.cell? ⟨gb214, 0, none⟩ = some (.int .u64 x215000_1) := (blk_cell BK214.out 0).trans rfl
     have hcz14_1 : wr.cell? ⟨gb214, 1, none⟩ = some (.int .u64 x215001_1) := (blk_cell BK214.out 1).trans rfl
     have hcz14_2 : wr.cell? ⟨gb214, 2, none⟩ = some (.int .u64 x215002_1) := (blk_cell BK214.out 2).trans rfl
     have hcz14_3 : wr.cell? ⟨gb214, 3, none⟩ = some (.int .u64 x215003_1) := (blk_cell BK214.out 3).trans rfl
     have hcz14_4 : wr.cell? ⟨gb214, 4, none⟩ = some (.int .u64 x215004_1) := (blk_cell BK214.out 4).trans rfl
     have hcz14_5 : wr.cell? ⟨gb214, 5, none⟩ = some (.int .u64 x215005_1) := (blk_cell BK214.out 5).trans rfl
     have hcz14_6 : wr.cell? ⟨gb214, 6, none⟩ = some (.int .u64 x215006_1) := (blk_cell BK214.out 6).trans rfl
     have hcz14_7 : wr.cell? ⟨gb214, 7, none⟩ = some (.int .u64 x215007_1) := (blk_cell BK214.out 7).trans rfl
     have hcz14_8 : wr.cell? ⟨gb214, 8, none⟩ = some (.int .u64 x215008_1) := (blk_cell BK214.out 8).trans rfl
     have hcz14_9 : wr.cell? ⟨gb214, 9, none⟩ = some (.int .u64 x215009_1) := (blk_cell BK214.out 9).trans rfl
     have hcz14_10 : wr.cell? ⟨gb214, 10, none⟩ = some (.int .u64 x215010_1) := (blk_cell BK214.out 10).trans rfl
     have hcz14_11 : wr.cell? ⟨gb214, 11, none⟩ = some (.string x215011_1) := (blk_cell BK214.out 11).trans rfl
     have hfz14_0 := blk_frozen BK214.out 0
     have hfz14_1 := blk_frozen BK214.out 1
     have hfz14_2 := blk_frozen BK214.out 2
     have hfz14_3 := blk_frozen BK214.out 3
     have hfz14_4 := blk_frozen BK214.out 4
     have hfz14_5 := blk_frozen BK214.out 5
     have hfz14_6 := blk_frozen BK214.out 6
     have hfz14_7 := blk_frozen BK214.out 7
     have hfz14_8 := blk_frozen BK214.out 8
     have hfz14_9 := blk_frozen BK214.out 9
     have hfz14_10 := blk_frozen BK214.out 10
     have hfz14_11 := blk_frozen BK214.out 11
     go_wp2_with (first | ((with_reducible refine gate_callee (f := 14) rfl ?_); refine goesL_ (some 108) rfl rfl Tryd.func14 (by kernel_rfl) rfl #[.agg #[.int .u64 x215000_1, .int .u64 x215001_1, .int .u64 x215002_1, .int .u64 x215003_1, .int .u64 x215004_1, .int .u64 x215005_1, .int .u64 x215006_1, .int .u64 x215007_1, .int .u64 x215008_1, .int .u64 x215009_1, .int .u64 x215010_1, .string x215011_1]] rfl (by (try simp only [List.map_toArray, List.map_cons, List.map_nil]); first | done | rfl | (simp only [List.length_drop, List.length_take]; rfl)) ?_; (with_reducible refine (dominoref05_Check.calls k1 x215000_1 x215001_1 x215002_1 x215003_1 x215004_1 x215005_1 x215006_1 x215007_1 x215008_1 x215009_1 x215010_1 x215011_1 t218 _ A11.out).mono ?_); rintro e w15 ⟨rfl, hb⟩; refine ⟨_, rfl, ?_⟩; have n0_ := Aside0.mk (Kd.R_below (by (with_reducible repeat (first | apply Kd.R_alloc | apply Kd.R_drewN | apply Kd.R_drew)); exact HO_5.out) hb); have n1_ := Aside0.mk (blk_below (g := gb201) (o := .cells #[.int .u64 x202000_1, .int .u64 x202001_1, .int .u64 x202002_1, .int .u64 x202003_1, .int .u64 x202004_1, .int .u64 x202005_1, .int .u64 x202006_1, .int .u64 x202007_1, .int .u64 x202008_1, .int .u64 x202009_1, .int .u64 x202010_1, .string x202011_1] 26 (0, 0)) (by (with_reducible repeat (first | refine blk_drewN ?_ _ | refine blk_drew ?_ | refine blk_alloc ?_ _)); exact BK201.out) hb); have n2_ := Aside0.mk (blk_below (g := gb214) (o := .cells #[.int .u64 x215000_1, .int .u64 x215001_1, .int .u64 x215002_1, .int .u64 x215003_1, .int .u64 x215004_1, .int .u64 x215005_1, .int .u64 x215006_1, .int .u64 x215007_1, .int .u64 x215008_1, .int .u64 x215009_1, .int .u64 x215010_1, .string x215011_1] 26 (0, 0)) (by (with_reducible repeat (first | refine blk_drewN ?_ _ | refine blk_drew ?_ | refine blk_alloc ?_ _)); exact BK214.out) hb); have n3_ := Aside0.mk (below_step (by repeat (first | (with_reducible first | exact HB.out | apply below_alloc | apply pw_below_drewN | apply below_drew1 | refine below_set ?_ GE201.out | refine below_set ?_ GE214.out) | exact HB.out)) hb); clear HO_5; clear BK201; clear BK214; clear HB; have HO_5 := n0_; have BK201 := n1_; have BK214 := n2_; have HB := n3_; clear n0_ n1_ n2_ n3_; (try clear hb); (try clear hb2); (try clear hk); (try clear hi); have hcz16_0 : w15.cell? ⟨gb214, 0, none⟩ = some (.int .u64 x215000_1) := (blk_cell BK214.out 0).trans rfl; have hcz16_1 : w15.cell? ⟨gb214, 1, none⟩ = some (.int .u64 x215001_1) := (blk_cell BK214.out 1).trans rfl; have hcz16_2 : w15.cell? ⟨gb214, 2, none⟩ = some (.int .u64 x215002_1) := (blk_cell BK214.out 2).trans rfl; have hcz16_3 : w15.cell? ⟨gb214, 3, none⟩ = some (.int .u64 x215003_1) := (blk_cell BK214.out 3).trans rfl; have hcz16_4 : w15.cell? ⟨gb214, 4, none⟩ = some (.int .u64 x215004_1) := (blk_cell BK214.out 4).trans rfl; have hcz16_5 : w15.cell? ⟨gb214, 5, none⟩ = some (.int .u64 x215005_1) := (blk_cell BK214.out 5).trans rfl; have hcz16_6 : w15.cell? ⟨gb214, 6, none⟩ = some (.int .u64 x215006_1) := (blk_cell BK214.out 6).trans rfl; have hcz16_7 : w15.cell? ⟨gb214, 7, none⟩ = some (.int .u64 x215007_1) := (blk_cell BK214.out 7).trans rfl; have hcz16_8 : w15.cell? ⟨gb214, 8, none⟩ = some (.int .u64 x215008_1) := (blk_cell BK214.out 8).trans rfl; have hcz16_9 : w15.cell? ⟨gb214, 9, none⟩ = some (.int .u64 x215009_1) := (blk_cell BK214.out 9).trans rfl; have hcz16_10 : w15.cell? ⟨gb214, 10, none⟩ = some (.int .u64 x215010_1) := (blk_cell BK214.out 10).trans rfl; have hcz16_11 : w15.cell? ⟨gb214, 11, none⟩ = some (.string x215011_1) := (blk_cell BK214.out 11).trans rfl; have hfz16_0 := blk_frozen BK214.out 0; have hfz16_1 := blk_frozen BK214.out 1; have hfz16_2 := blk_frozen BK214.out 2; have hfz16_3 := blk_frozen BK214.out 3; have hfz16_4 := blk_frozen BK214.out 4; have hfz16_5 := blk_frozen BK214.out 5; have hfz16_6 := blk_frozen BK214.out 6; have hfz16_7 := blk_frozen BK214.out 7; have hfz16_8 := blk_frozen BK214.out 8; have hfz16_9 := blk_frozen BK214.out 9; have hfz16_10 := blk_frozen BK214.out 10; have hfz16_11 := blk_frozen BK214.out 11; have hcz17_0 : w15.cell? ⟨gb201, 0, none⟩ = some (.int .u64 x202000_1) := (blk_cell BK201.out 0).trans rfl; have hcz17_1 : w15.cell? ⟨gb201, 1, none⟩ = some (.int .u64 x202001_1) := (blk_cell BK201.out 1).trans rfl; have hcz17_2 : w15.cell? ⟨gb201, 2, none⟩ = some (.int .u64 x202002_1) := (blk_cell BK201.out 2).trans rfl; have hcz17_3 : w15.cell? ⟨gb201, 3, none⟩ = some (.int .u64 x202003_1) := (blk_cell BK201.out 3).trans rfl; have hcz17_4 : w15.cell? ⟨gb201, 4, none⟩ = some (.int .u64 x202004_1) := (blk_cell BK201.out 4).trans rfl; have hcz17_5 : w15.cell? ⟨gb201, 5, none⟩ = some (.int .u64 x202005_1) := (blk_cell BK201.out 5).trans rfl; have hcz17_6 : w15.cell? ⟨gb201, 6, none⟩ = some (.int .u64 x202006_1) := (blk_cell BK201.out 6).trans rfl; have hcz17_7 : w15.cell? ⟨gb201, 7, none⟩ = some (.int .u64 x202007_1) := (blk_cell BK201.out 7).trans rfl; have hcz17_8 : w15.cell? ⟨gb201, 8, none⟩ = some (.int .u64 x202008_1) := (blk_cell BK201.out 8).trans rfl; have hcz17_9 : w15.cell? ⟨gb201, 9, none⟩ = some (.int .u64 x202009_1) := (blk_cell BK201.out 9).trans rfl; have hcz17_10 : w15.cell? ⟨gb201, 10, none⟩ = some (.int .u64 x202010_1) := (blk_cell BK201.out 10).trans rfl; have hcz17_11 : w15.cell? ⟨gb201, 11, none⟩ = some (.string x202011_1) := (blk_cell BK201.out 11).trans rfl; have hfz17_0 := blk_frozen BK201.out 0; have hfz17_1 := blk_frozen BK201.out 1; have hfz17_2 := blk_frozen BK201.out 2; have hfz17_3 := blk_frozen BK201.out 3; have hfz17_4 := blk_frozen BK201.out 4; have hfz17_5 := blk_frozen BK201.out 5; have hfz17_6 := blk_frozen BK201.out 6; have hfz17_7 := blk_frozen BK201.out 7; have hfz17_8 := blk_frozen BK201.out 8; have hfz17_9 := blk_frozen BK201.out 9; have hfz17_10 := blk_frozen BK201.out 10; have hfz17_11 := blk_frozen BK201.out 11))
     refine bodyPost_ret (results_ct rfl _ _ gb201 26 #[.int .u64 x215000_1, .int .u64 x215001_1, .int .u64 x215002_1, .int .u64 x215003_1, .int .u64 x215004_1, .int .u64 x215005_1, .int .u64 x215006_1, .int .u64 x215007_1, .int .u64 x215008_1, .int .u64 x215009_1, .int .u64 x215010_1, .string x215011_1] (0, 0) _ rfl (by (with_reducible repeat (first | refine blk_drewN ?_ _ | refine blk_drew ?_ | refine blk_alloc ?_ _)); refine blk_put (cs := #[.int .u64 x215000_1, .int .u64 x215001_1, .int .u64 x215002_1, .int .u64 x215003_1, .int .u64 x215004_1, .int .u64 x215005_1, .int .u64 x215006_1, .int .u64 x215007_1, .int .u64 x215008_1, .int .u64 x215009_1, .int .u64 x215010_1, .string x202011_1]) ?_ 11 _ rfl; (with_reducible repeat (first | refine blk_drewN ?_ _ | refine blk_drew ?_ | refine blk_alloc ?_ _)); refine blk_put (cs := #[.int .u64 x215000_1, .int .u64 x215001_1, .int .u64 x215002_1, .int .u64 x215003_1, .int .u64 x215004_1, .int .u64 x215005_1, .int .u64 x215006_1, .int .u64 x215007_1, .int .u64 x215008_1, .int .u64 x215009_1, .int .u64 x202010_1, .string x202011_1]) ?_ 10 _ rfl; (with_reducible repeat (first | refine blk_drewN ?_ _ | refine blk_drew ?_ | refine blk_alloc ?_ _)); refine blk_put (cs := #[.int .u64 x215000_1, .int .u64 x215001_1, .int .u64 x215002_1, .int .u64 x215003_1, .int .u64 x215004_1, .int .u64 x215005_1, .int .u64 x215006_1, .int .u64 x215007_1, .int .u64 x215008_1, .int .u64 x202009_1, .int .u64 x202010_1, .string x202011_1]) ?_ 9 _ rfl; (with_reducible repeat (first | refine blk_drewN ?_ _ | refine blk_drew ?_ | refine blk_alloc ?_ _)); refine blk_put (cs := #[.int .u64 x215000_1, .int .u64 x215001_1, .int .u64 x215002_1, .int .u64 x215003_1, .int .u64 x215004_1, .int .u64 x215005_1, .int .u64 x215006_1, .int .u64 x215007_1, .int .u64 x202008_1, .int .u64 x202009_1, .int .u64 x202010_1, .string x202011_1]) ?_ 8 _ rfl; (with_reducible repeat (first | refine blk_drewN ?_ _ | refine blk_drew ?_ | refine blk_alloc ?_ _)); refine blk_put (cs := #[.int .u64 x215000_1, .int .u64 x215001_1, .int .u64 x215002_1, .int .u64 x215003_1, .int .u64 x215004_1, .int .u64 x215005_1, .int .u64 x215006_1, .int .u64 x202007_1, .int .u64 x202008_1, .int .u64 x202009_1, .int .u64 x202010_1, .string x202011_1]) ?_ 7 _ rfl; (with_reducible repeat (first | refine blk_drewN ?_ _ | refine blk_drew ?_ | refine blk_alloc ?_ _)); refine blk_put (cs := #[.int .u64 x215000_1, .int .u64 x215001_1, .int .u64 x215002_1, .int .u64 x215003_1, .int .u64 x215004_1, .int .u64 x215005_1, .int .u64 x202006_1, .int .u64 x202007_1, .int .u64 x202008_1, .int .u64 x202009_1, .int .u64 x202010_1, .string x202011_1]) ?_ 6 _ rfl; (with_reducible repeat (first | refine blk_drewN ?_ _ | refine blk_drew ?_ | refine blk_alloc ?_ _)); refine blk_put (cs := #[.int .u64 x215000_1, .int .u64 x215001_1, .int .u64 x215002_1, .int .u64 x215003_1, .int .u64 x215004_1, .int .u64 x202005_1, .int .u64 x202006_1, .int .u64 x202007_1, .int .u64 x202008_1, .int .u64 x202009_1, .int .u64 x202010_1, .string x202011_1]) ?_ 5 _ rfl; (with_reducible repeat (first | refine blk_drewN ?_ _ | refine blk_drew ?_ | refine blk_alloc ?_ _)); refine blk_put (cs := #[.int .u64 x215000_1, .int .u64 x215001_1, .int .u64 x215002_1, .int .u64 x215003_1, .int .u64 x202004_1, .int .u64 x202005_1, .int .u64 x202006_1, .int .u64 x202007_1, .int .u64 x202008_1, .int .u64 x202009_1, .int .u64 x202010_1, .string x202011_1]) ?_ 4 _ rfl; (with_reducible repeat (first | refine blk_drewN ?_ _ | refine blk_drew ?_ | refine blk_alloc ?_ _)); refine blk_put (cs := #[.int .u64 x215000_1, .int .u64 x215001_1, .int .u64 x215002_1, .int .u64 x202003_1, .int .u64 x202004_1, .int .u64 x202005_1, .int .u64 x202006_1, .int .u64 x202007_1, .int .u64 x202008_1, .int .u64 x202009_1, .int .u64 x202010_1, .string x202011_1]) ?_ 3 _ rfl; (with_reducible repeat (first | refine blk_drewN ?_ _ | refine blk_drew ?_ | refine blk_alloc ?_ _)); refine blk_put (cs := #[.int .u64 x215000_1, .int .u64 x215001_1, .int .u64 x202002_1, .int .u64 x202003_1, .int .u64 x202004_1, .int .u64 x202005_1, .int .u64 x202006_1, .int .u64 x202007_1, .int .u64 x202008_1, .int .u64 x202009_1, .int .u64 x202010_1, .string x202011_1]) ?_ 2 _ rfl; (with_reducible repeat (first | refine blk_drewN ?_ _ | refine blk_drew ?_ | refine blk_alloc ?_ _)); refine blk_put (cs := #[.int .u64 x215000_1, .int .u64 x202001_1, .int .u64 x202002_1, .int .u64 x202003_1, .int .u64 x202004_1, .int .u64 x202005_1, .int .u64 x202006_1, .int .u64 x202007_1, .int .u64 x202008_1, .int .u64 x202009_1, .int .u64 x202010_1, .string x202011_1]) ?_ 1 _ rfl; (with_reducible repeat (first | refine blk_drewN ?_ _ | refine blk_drew ?_ | refine blk_alloc ?_ _)); refine blk_put (cs := #[.int .u64 x202000_1, .int .u64 x202001_1, .int .u64 x202002_1, .int .u64 x202003_1, .int .u64 x202004_1, .int .u64 x202005_1, .int .u64 x202006_1, .int .u64 x202007_1, .int .u64 x202008_1, .int .u64 x202009_1, .int .u64 x202010_1, .string x202011_1]) ?_ 0 _ rfl; (with_reducible repeat (first | refine blk_drewN ?_ _ | refine blk_drew ?_ | refine blk_alloc ?_ _)); exact BK201.out) Tryd.underlying26 rfl (by kernel_rfl)) rfl ?_
     exact ⟨by first | rfl | (simp [errW_none, errW_some] <;> rfl) | (simp [*, errW_none, errW_some] <;> rfl), by repeat (first | (with_reducible first | exact HB.out | apply below_alloc | apply pw_below_drewN | apply below_drew1 | refine below_set ?_ GE201.out | refine below_set ?_ GE214.out) | exact HB.out)⟩
    ·rw [if_neg c12] at H
     have c12b0 : (t218 == 0) = false := beq_eq_false_iff_ne.mpr c12
     have c12b1 : (t218 != 0) = true := bne_iff_ne.mpr c12
     simp only [Option.some.injEq, Prod.mk.injEq] at H
     obtain ⟨rfl, rfl, rfl, rfl, rfl, rfl, rfl, rfl, rfl, rfl, rfl, rfl, rfl⟩ := H
     have hnb18 := NB214_201.out
     have hnc18 := NB201_214.out
     have hcz19_0 : wr.cell? ⟨gb214, 0, none⟩ = some (.int .u64 x215000_1) := (blk_cell BK214.out 0).trans rfl
     have hcz19_1 : wr.cell? ⟨gb214, 1, none⟩ = some (.int .u64 x215001_1) := (blk_cell BK214.out 1).trans rfl
     have hcz19_2 : wr.cell? ⟨gb214, 2, none⟩ = some (.int .u64 x215002_1) := (blk_cell BK214.out 2).trans rfl
     have hcz19_3 : wr.cell? ⟨gb214, 3, none⟩ = some (.int .u64 x215003_1) := (blk_cell BK214.out 3).trans rfl
     have hcz19_4 : wr.cell? ⟨gb214, 4, none⟩ = some (.int .u64 x215004_1) := (blk_cell BK214.out 4).trans rfl
     have hcz19_5 : wr.cell? ⟨gb214, 5, none⟩ = some (.int .u64 x215005_1) := (blk_cell BK214.out 5).trans rfl
     have hcz19_6 : wr.cell? ⟨gb214, 6, none⟩ = some (.int .u64 x215006_1) := (blk_cell BK214.out 6).trans rfl
     have hcz19_7 : wr.cell? ⟨gb214, 7, none⟩ = some (.int .u64 x215007_1) := (blk_cell BK214.out 7).trans rfl
     have hcz19_8 : wr.cell? ⟨gb214, 8, none⟩ = some (.int .u64 x215008_1) := (blk_cell BK214.out 8).trans rfl
     have hcz19_9 : wr.cell? ⟨gb214, 9, none⟩ = some (.int .u64 x215009_1) := (blk_cell BK214.out 9).trans rfl
     have hcz19_10 : wr.cell? ⟨gb214, 10, none⟩ = some (.int .u64 x215010_1) := (blk_cell BK214.out 10).trans rfl
     have hcz19_11 : wr.cell? ⟨gb214, 11, none⟩ = some (.string x215011_1) := (blk_cell BK214.out 11).trans rfl
     have hfz19_0 := blk_frozen BK214.out 0
     have hfz19_1 := blk_frozen BK214.out 1
     have hfz19_2 := blk_frozen BK214.out 2
     have hfz19_3 := blk_frozen BK214.out 3
     have hfz19_4 := blk_frozen BK214.out 4
     have hfz19_5 := blk_frozen BK214.out 5
     have hfz19_6 := blk_frozen BK214.out 6
     have hfz19_7 := blk_frozen BK214.out 7
     have hfz19_8 := blk_frozen BK214.out 8
     have hfz19_9 := blk_frozen BK214.out 9
     have hfz19_10 := blk_frozen BK214.out 10
     have hfz19_11 := blk_frozen BK214.out 11
     go_wp2_with (first | ((with_reducible refine gate_callee (f := 14) rfl ?_); refine goesL_ (some 108) rfl rfl Tryd.func14 (by kernel_rfl) rfl #[.agg #[.int .u64 x215000_1, .int .u64 x215001_1, .int .u64 x215002_1, .int .u64 x215003_1, .int .u64 x215004_1, .int .u64 x215005_1, .int .u64 x215006_1, .int .u64 x215007_1, .int .u64 x215008_1, .int .u64 x215009_1, .int .u64 x215010_1, .string x215011_1]] rfl (by (try simp only [List.map_toArray, List.map_cons, List.map_nil]); first | done | rfl | (simp only [List.length_drop, List.length_take]; rfl)) ?_; (with_reducible refine (dominoref05_Check.calls k1 x215000_1 x215001_1 x215002_1 x215003_1 x215004_1 x215005_1 x215006_1 x215007_1 x215008_1 x215009_1 x215010_1 x215011_1 t218 _ A11.out).mono ?_); rintro e w20 ⟨rfl, hb⟩; refine ⟨_, rfl, ?_⟩; have n0_ := Aside0.mk (Kd.R_below (by (with_reducible repeat (first | apply Kd.R_alloc | apply Kd.R_drewN | apply Kd.R_drew)); exact HO_5.out) hb); have n1_ := Aside0.mk (blk_below (g := gb201) (o := .cells #[.int .u64 x202000_1, .int .u64 x202001_1, .int .u64 x202002_1, .int .u64 x202003_1, .int .u64 x202004_1, .int .u64 x202005_1, .int .u64 x202006_1, .int .u64 x202007_1, .int .u64 x202008_1, .int .u64 x202009_1, .int .u64 x202010_1, .string x202011_1] 26 (0, 0)) (by (with_reducible repeat (first | refine blk_drewN ?_ _ | refine blk_drew ?_ | refine blk_alloc ?_ _)); exact BK201.out) hb); have n2_ := Aside0.mk (blk_below (g := gb214) (o := .cells #[.int .u64 x215000_1, .int .u64 x215001_1, .int .u64 x215002_1, .int .u64 x215003_1, .int .u64 x215004_1, .int .u64 x215005_1, .int .u64 x215006_1, .int .u64 x215007_1, .int .u64 x215008_1, .int .u64 x215009_1, .int .u64 x215010_1, .string x215011_1] 26 (0, 0)) (by (with_reducible repeat (first | refine blk_drewN ?_ _ | refine blk_drew ?_ | refine blk_alloc ?_ _)); exact BK214.out) hb); have n3_ := Aside0.mk (below_step (by repeat (first | (with_reducible first | exact HB.out | apply below_alloc | apply pw_below_drewN | apply below_drew1 | refine below_set ?_ GE201.out | refine below_set ?_ GE214.out) | exact HB.out)) hb); clear HO_5; clear BK201; clear BK214; clear HB; have HO_5 := n0_; have BK201 := n1_; have BK214 := n2_; have HB := n3_; clear n0_ n1_ n2_ n3_; (try clear hb); (try clear hb2); (try clear hk); (try clear hi); have hcz21_0 : w20.cell? ⟨gb201, 0, none⟩ = some (.int .u64 x202000_1) := (blk_cell BK201.out 0).trans rfl; have hcz21_1 : w20.cell? ⟨gb201, 1, none⟩ = some (.int .u64 x202001_1) := (blk_cell BK201.out 1).trans rfl; have hcz21_2 : w20.cell? ⟨gb201, 2, none⟩ = some (.int .u64 x202002_1) := (blk_cell BK201.out 2).trans rfl; have hcz21_3 : w20.cell? ⟨gb201, 3, none⟩ = some (.int .u64 x202003_1) := (blk_cell BK201.out 3).trans rfl; have hcz21_4 : w20.cell? ⟨gb201, 4, none⟩ = some (.int .u64 x202004_1) := (blk_cell BK201.out 4).trans rfl; have hcz21_5 : w20.cell? ⟨gb201, 5, none⟩ = some (.int .u64 x202005_1) := (blk_cell BK201.out 5).trans rfl; have hcz21_6 : w20.cell? ⟨gb201, 6, none⟩ = some (.int .u64 x202006_1) := (blk_cell BK201.out 6).trans rfl; have hcz21_7 : w20.cell? ⟨gb201, 7, none⟩ = some (.int .u64 x202007_1) := (blk_cell BK201.out 7).trans rfl; have hcz21_8 : w20.cell? ⟨gb201, 8, none⟩ = some (.int .u64 x202008_1) := (blk_cell BK201.out 8).trans rfl; have hcz21_9 : w20.cell? ⟨gb201, 9, none⟩ = some (.int .u64 x202009_1) := (blk_cell BK201.out 9).trans rfl; have hcz21_10 : w20.cell? ⟨gb201, 10, none⟩ = some (.int .u64 x202010_1) := (blk_cell BK201.out 10).trans rfl; have hcz21_11 : w20.cell? ⟨gb201, 11, none⟩ = some (.string x202011_1) := (blk_cell BK201.out 11).trans rfl; have hfz21_0 := blk_frozen BK201.out 0; have hfz21_1 := blk_frozen BK201.out 1; have hfz21_2 := blk_frozen BK201.out 2; have hfz21_3 := blk_frozen BK201.out 3; have hfz21_4 := blk_frozen BK201.out 4; have hfz21_5 := blk_frozen BK201.out 5; have hfz21_6 := blk_frozen BK201.out 6; have hfz21_7 := blk_frozen BK201.out 7; have hfz21_8 := blk_frozen BK201.out 8; have hfz21_9 := blk_frozen BK201.out 9; have hfz21_10 := blk_frozen BK201.out 10; have hfz21_11 := blk_frozen BK201.out 11))
     refine bodyPost_ret (results_ct rfl _ _ gb201 26 #[.int .u64 0, .int .u64 0, .int .u64 0, .int .u64 0, .int .u64 0, .int .u64 0, .int .u64 0, .int .u64 0, .int .u64 0, .int .u64 0, .int .u64 0, .string (⟨#[]⟩ : ByteArray)] (0, 0) _ rfl (by (with_reducible repeat (first | refine blk_drewN ?_ _ | refine blk_drew ?_ | refine blk_alloc ?_ _)); refine blk_put (cs := #[.int .u64 0, .int .u64 0, .int .u64 0, .int .u64 0, .int .u64 0, .int .u64 0, .int .u64 0, .int .u64 0, .int .u64 0, .int .u64 0, .int .u64 0, .string x202011_1]) ?_ 11 _ rfl; (with_reducible repeat (first | refine blk_drewN ?_ _ | refine blk_drew ?_ | refine blk_alloc ?_ _)); refine blk_put (cs := #[.int .u64 0, .int .u64 0, .int .u64 0, .int .u64 0, .int .u64 0, .int .u64 0, .int .u64 0, .int .u64 0, .int .u64 0, .int .u64 0, .int .u64 x202010_1, .string x202011_1]) ?_ 10 _ rfl; (with_reducible repeat (first | refine blk_drewN ?_ _ | refine blk_drew ?_ | refine blk_alloc ?_ _)); refine blk_put (cs := #[.int .u64 0, .int .u64 0, .int .u64 0, .int .u64 0, .int .u64 0, .int .u64 0, .int .u64 0, .int .u64 0, .int .u64 0, .int .u64 x202009_1, .int .u64 x202010_1, .string x202011_1]) ?_ 9 _ rfl; (with_reducible repeat (first | refine blk_drewN ?_ _ | refine blk_drew ?_ | refine blk_alloc ?_ _)); refine blk_put (cs := #[.int .u64 0, .int .u64 0, .int .u64 0, .int .u64 0, .int .u64 0, .int .u64 0, .int .u64 0, .int .u64 0, .int .u64 x202008_1, .int .u64 x202009_1, .int .u64 x202010_1, .string x202011_1]) ?_ 8 _ rfl; (with_reducible repeat (first | refine blk_drewN ?_ _ | refine blk_drew ?_ | refine blk_alloc ?_ _)); refine blk_put (cs := #[.int .u64 0, .int .u64 0, .int .u64 0, .int .u64 0, .int .u64 0, .int .u64 0, .int .u64 0, .int .u64 x202007_1, .int .u64 x202008_1, .int .u64 x202009_1, .int .u64 x202010_1, .string x202011_1]) ?_ 7 _ rfl; (with_reducible repeat (first | refine blk_drewN ?_ _ | refine blk_drew ?_ | refine blk_alloc ?_ _)); refine blk_put (cs := #[.int .u64 0, .int .u64 0, .int .u64 0, .int .u64 0, .int .u64 0, .int .u64 0, .int .u64 x202006_1, .int .u64 x202007_1, .int .u64 x202008_1, .int .u64 x202009_1, .int .u64 x202010_1, .string x202011_1]) ?_ 6 _ rfl; (with_reducible repeat (first | refine blk_drewN ?_ _ | refine blk_drew ?_ | refine blk_alloc ?_ _)); refine blk_put (cs := #[.int .u64 0, .int .u64 0, .int .u64 0, .int .u64 0, .int .u64 0, .int .u64 x202005_1, .int .u64 x202006_1, .int .u64 x202007_1, .int .u64 x202008_1, .int .u64 x202009_1, .int .u64 x202010_1, .string x202011_1]) ?_ 5 _ rfl; (with_reducible repeat (first | refine blk_drewN ?_ _ | refine blk_drew ?_ | refine blk_alloc ?_ _)); refine blk_put (cs := #[.int .u64 0, .int .u64 0, .int .u64 0, .int .u64 0, .int .u64 x202004_1, .int .u64 x202005_1, .int .u64 x202006_1, .int .u64 x202007_1, .int .u64 x202008_1, .int .u64 x202009_1, .int .u64 x202010_1, .string x202011_1]) ?_ 4 _ rfl; (with_reducible repeat (first | refine blk_drewN ?_ _ | refine blk_drew ?_ | refine blk_alloc ?_ _)); refine blk_put (cs := #[.int .u64 0, .int .u64 0, .int .u64 0, .int .u64 x202003_1, .int .u64 x202004_1, .int .u64 x202005_1, .int .u64 x202006_1, .int .u64 x202007_1, .int .u64 x202008_1, .int .u64 x202009_1, .int .u64 x202010_1, .string x202011_1]) ?_ 3 _ rfl; (with_reducible repeat (first | refine blk_drewN ?_ _ | refine blk_drew ?_ | refine blk_alloc ?_ _)); refine blk_put (cs := #[.int .u64 0, .int .u64 0, .int .u64 x202002_1, .int .u64 x202003_1, .int .u64 x202004_1, .int .u64 x202005_1, .int .u64 x202006_1, .int .u64 x202007_1, .int .u64 x202008_1, .int .u64 x202009_1, .int .u64 x202010_1, .string x202011_1]) ?_ 2 _ rfl; (with_reducible repeat (first | refine blk_drewN ?_ _ | refine blk_drew ?_ | refine blk_alloc ?_ _)); refine blk_put (cs := #[.int .u64 0, .int .u64 x202001_1, .int .u64 x202002_1, .int .u64 x202003_1, .int .u64 x202004_1, .int .u64 x202005_1, .int .u64 x202006_1, .int .u64 x202007_1, .int .u64 x202008_1, .int .u64 x202009_1, .int .u64 x202010_1, .string x202011_1]) ?_ 1 _ rfl; (with_reducible repeat (first | refine blk_drewN ?_ _ | refine blk_drew ?_ | refine blk_alloc ?_ _)); refine blk_put (cs := #[.int .u64 x202000_1, .int .u64 x202001_1, .int .u64 x202002_1, .int .u64 x202003_1, .int .u64 x202004_1, .int .u64 x202005_1, .int .u64 x202006_1, .int .u64 x202007_1, .int .u64 x202008_1, .int .u64 x202009_1, .int .u64 x202010_1, .string x202011_1]) ?_ 0 _ rfl; (with_reducible repeat (first | refine blk_drewN ?_ _ | refine blk_drew ?_ | refine blk_alloc ?_ _)); exact BK201.out) Tryd.underlying26 rfl (by kernel_rfl)) rfl ?_
     exact ⟨by first | rfl | (simp [errW_none, errW_some] <;> rfl) | (simp [*, errW_none, errW_some] <;> rfl), by repeat (first | (with_reducible first | exact HB.out | apply below_alloc | apply pw_below_drewN | apply below_drew1 | refine below_set ?_ GE201.out | refine below_set ?_ GE214.out) | exact HB.out)⟩
   ·rw [if_neg c10] at H
    have c10b0 : (x0_1.toList == ([] : List UInt8)) = false := beq_eq_false_iff_ne.mpr c10
    have c10b1 : (x0_1.toList != ([] : List UInt8)) = true := bne_iff_ne.mpr c10
    replace H := Option.bind_eq_some_iff.mp H
    obtain ⟨⟨t219, t220, t221⟩, A220, H⟩ := H
    replace H : (if t221 = 0 then (if 1 < (t219.length : Int) then (dominoref05_Get.j1 k1 x5_1 t219 t220 (decide ((rd t219 1) > (IntKind.u64.wrap ((t220.size : Int))))) x215000_1 x215001_1 x215002_1 x215003_1 x215004_1 x215005_1 x215006_1 x215007_1 x215008_1 x215009_1 x215010_1 x215011_1) else (none)) else (dominoref05_Get.j1 k1 x5_1 t219 t220 true x215000_1 x215001_1 x215002_1 x215003_1 x215004_1 x215005_1 x215006_1 x215007_1 x215008_1 x215009_1 x215010_1 x215011_1)) = some (r1, r2, r3, r4, r5, r6, r7, r8, r9, r10, r11, r12, r13) := H
    have A22 := Aside0.mk A220
    clear A220
    have HC23 := Aside0.mk H
    clear H
    go_upto_region 5 with (first | ((with_reducible refine gate_callee (f := 26) rfl ?_); refine goesL_ (some 22) rfl rfl Tryd.func26 (by kernel_rfl) rfl #[.string x0_1, .int .i64 2] rfl (by (try simp only [List.map_toArray, List.map_cons, List.map_nil]); first | done | rfl | (simp only [List.length_drop, List.length_take]; rfl)) ?_; (with_reducible refine (dominoref01_Gets.calls k1 x0_1 2 t219 t220 t221 _ A22.out).mono ?_); rintro e w24 ⟨v222, rfl, ho0, hb⟩; refine ⟨_, rfl, ?_⟩; have n0_ := Aside0.mk (Kd.R_elder' (by (with_reducible repeat (first | apply Kd.R_alloc | apply Kd.R_drewN | apply Kd.R_drew)); exact HO_5.out) (Kd.R_base ho0) hb); have n1_ := Aside0.mk (Kd.R_lower (Kd.R_new' ho0 (Kd.R_lt (by (with_reducible repeat (first | apply Kd.R_alloc | apply Kd.R_drewN | apply Kd.R_drew)); exact HO_5.out))) (below_size (by repeat (first | (with_reducible first | exact HB.out | apply below_alloc | apply pw_below_drewN | apply below_drew1 | refine below_set ?_ GE201.out | refine below_set ?_ GE214.out) | exact HB.out)))); have n2_ := Aside0.mk (blk_below (g := gb201) (o := .cells #[.int .u64 x202000_1, .int .u64 x202001_1, .int .u64 x202002_1, .int .u64 x202003_1, .int .u64 x202004_1, .int .u64 x202005_1, .int .u64 x202006_1, .int .u64 x202007_1, .int .u64 x202008_1, .int .u64 x202009_1, .int .u64 x202010_1, .string x202011_1] 26 (0, 0)) (by (with_reducible repeat (first | refine blk_drewN ?_ _ | refine blk_drew ?_ | refine blk_alloc ?_ _)); exact BK201.out) hb); have n3_ := Aside0.mk (blk_below (g := gb214) (o := .cells #[.int .u64 x215000_1, .int .u64 x215001_1, .int .u64 x215002_1, .int .u64 x215003_1, .int .u64 x215004_1, .int .u64 x215005_1, .int .u64 x215006_1, .int .u64 x215007_1, .int .u64 x215008_1, .int .u64 x215009_1, .int .u64 x215010_1, .string x215011_1] 26 (0, 0)) (by (with_reducible repeat (first | refine blk_drewN ?_ _ | refine blk_drew ?_ | refine blk_alloc ?_ _)); exact BK214.out) hb); have n4_ := Aside0.mk (below_step (by repeat (first | (with_reducible first | exact HB.out | apply below_alloc | apply pw_below_drewN | apply below_drew1 | refine below_set ?_ GE201.out | refine below_set ?_ GE214.out) | exact HB.out)) hb); clear HO_5; clear BK201; clear BK214; clear HB; have HO_5 := n0_; have HO223 := n1_; have BK201 := n2_; have BK214 := n3_; have HB := n4_; clear n0_ n1_ n2_ n3_ n4_; (try clear hb); (try clear hb2); (try clear hk); (try clear hi); (try clear ho0)))
    (try simp only [Act.put, List.setIfInBounds_toArray, List.set_cons_zero, List.set_cons_succ])
    go_cut [36] (fun v36 wc => ∃ (kq : Nat) (x36_22 : Bool), v36 = .bool x36_22 ∧ Aside0 (dominoref05_Get.j1 kq x5_1 t219 t220 x36_22 x215000_1 x215001_1 x215002_1 x215003_1 x215004_1 x215005_1 x215006_1 x215007_1 x215008_1 x215009_1 x215010_1 x215011_1 = some (r1, r2, r3, r4, r5, r6, r7, r8, r9, r10, r11, r12, r13)) ∧ Aside0 (kq ≤ k1) ∧ Aside0 (Kd.R (Kd.int .u64) 22 wc w.heap.size (fun k_ => some k_ ≠ (v222 : Value).ownBlock) u5 x5_1) ∧ Aside0 (Kd.R (Kd.int .u64) 22 wc w.heap.size (fun k_ => some k_ ≠ (u5 : Value).ownBlock) v222 t219) ∧ Aside0 (wc.heap[gb201]? = some (.cells #[.int .u64 x202000_1, .int .u64 x202001_1, .int .u64 x202002_1, .int .u64 x202003_1, .int .u64 x202004_1, .int .u64 x202005_1, .int .u64 x202006_1, .int .u64 x202007_1, .int .u64 x202008_1, .int .u64 x202009_1, .int .u64 x202010_1, .string x202011_1] 26 (0, 0))) ∧ Aside0 (wc.heap[gb214]? = some (.cells #[.int .u64 x215000_1, .int .u64 x215001_1, .int .u64 x215002_1, .int .u64 x215003_1, .int .u64 x215004_1, .int .u64 x215005_1, .int .u64 x215006_1, .int .u64 x215007_1, .int .u64 x215008_1, .int .u64 x215009_1, .int .u64 x215010_1, .string x215011_1] 26 (0, 0))) ∧ Aside0 (Below w.heap.size w wc))
    case first =>
     have H := HC23.out
     clear HC23
     by_cases c25 : t221 = 0
     ·rw [if_pos c25] at H
      have c25b0 : (t221 == 0) = true := beq_iff_eq.mpr c25
      have c25b1 : (t221 != 0) = false := bne_eq_false_iff_eq.mpr c25
      clear c25
      (first | rw [c25b0] | (simp only [i64_w, i32_w]; rw [c25b0]) | skip)
      by_cases c26 : 1 < (t219.length : Int)
      ·rw [if_pos c26] at H
       have c26b0 : decide (1 < (t219.length : Int)) = true := decide_eq_true c26
       have c26b1 : decide (1 < t219.length) = true := decide_eq_true (by omega)
       clear c26
       have H' := Aside0.mk H
       clear H
       obtain ⟨Ao27, co27, eo27⟩ := Kd.R_slice HO223.out
       subst eo27
       have p224 : 0 ≤ (1 : Int) := (by omega)
       have q224 : 1 < (t219.length : Int) := of_decide_eq_true (by first | (with_reducible assumption) | assumption)
       obtain ⟨ad224, e224, hx224_0⟩ := Kd.at_int (Kd.R_reads' HO223.out).2.2 1 p224 q224
       cases e224
       (try simp only [show (1 : Int).toNat = 1 from rfl, Nat.reduceMul, Nat.reduceEqDiff, Go.Addr.add, ↓reduceIte] at hx224_0)
       have qi224 : (1 < t219.length) = True := eq_true (by omega)
       (try rw [show ((1 : Int)).toNat = 1 from rfl] at hx224_0)
       replace p224 := eq_true p224
       replace q224 := eq_true q224
       go_wp2
       go_meet
       case rel => exact ⟨_, (decide ((rd t219 1) > (IntKind.u64.wrap ((t220.size : Int))))), (by first | rfl | (simp; done) | (simp [*]; done)), H', ⟨by have := HK1.out; first | omega | exact Nat.le_refl _⟩, ⟨by (with_reducible repeat (first | apply Kd.R_alloc | apply Kd.R_drewN | apply Kd.R_drew)); exact Kd.R_mono HO_5.out (fun _ hk => hk.2)⟩, ⟨by (with_reducible repeat (first | apply Kd.R_alloc | apply Kd.R_drewN | apply Kd.R_drew)); exact Kd.R_mono HO223.out (fun _ hk => hk.2)⟩, ⟨by (with_reducible repeat (first | refine blk_drewN ?_ _ | refine blk_drew ?_ | refine blk_alloc ?_ _)); exact BK201.out⟩, ⟨by (with_reducible repeat (first | refine blk_drewN ?_ _ | refine blk_drew ?_ | refine blk_alloc ?_ _)); exact BK214.out⟩, ⟨by repeat (first | (with_reducible first | exact HB.out | apply below_alloc | apply pw_below_drewN | apply below_drew1 | refine below_set ?_ GE201.out | refine below_set ?_ GE214.out) | exact HB.out)⟩⟩
      ·rw [if_neg c26] at H
       exact absurd H (by simp)
     ·rw [if_neg c25] at H
      have c25b0 : (t221 == 0) = false := beq_eq_false_iff_ne.mpr c25
      have c25b1 : (t221 != 0) = true := bne_iff_ne.mpr c25
      (first | rw [c25b0] | (simp only [i64_w, i32_w]; rw [c25b0]) | skip)
      have H' := Aside0.mk H
      clear H
      go_wp2
      go_meet
      case rel => exact ⟨_, (true), (by first | rfl | (simp; done) | (simp [*]; done)), H', ⟨by have := HK1.out; first | omega | exact Nat.le_refl _⟩, ⟨by (with_reducible repeat (first | apply Kd.R_alloc | apply Kd.R_drewN | apply Kd.R_drew)); exact Kd.R_mono HO_5.out (fun _ hk => hk.2)⟩, ⟨by (with_reducible repeat (first | apply Kd.R_alloc | apply Kd.R_drewN | apply Kd.R_drew)); exact Kd.R_mono HO223.out (fun _ hk => hk.2)⟩, ⟨by (with_reducible repeat (first | refine blk_drewN ?_ _ | refine blk_drew ?_ | refine blk_alloc ?_ _)); exact BK201.out⟩, ⟨by (with_reducible repeat (first | refine blk_drewN ?_ _ | refine blk_drew ?_ | refine blk_alloc ?_ _)); exact BK214.out⟩, ⟨by repeat (first | (with_reducible first | exact HB.out | apply below_alloc | apply pw_below_drewN | apply below_drew1 | refine below_set ?_ GE201.out | refine below_set ?_ GE214.out) | exact HB.out)⟩⟩
    case rest =>
     clear HC23
     try clear c1
     try clear c2
     try clear p2
     try clear q2
     try clear hx2
     try clear qi2
     try clear c6
     try clear c10
     try clear c10b0
     try clear c10b1
     try clear c12
     try clear c12b0
     try clear c12b1
     try clear c13
     try clear c14
     try clear c16
     try clear c18
     try clear p22
     try clear q22
     try clear hx22
     try clear qi22
     try clear c25
     try clear c25b0
     try clear c25b1
     try clear c26
     try clear c26b0
     try clear c26b1
     try clear hcz14_0
     try clear hcz14_1
     try clear hcz14_10
     try clear hcz14_11
     try clear hcz14_2
     try clear hcz14_3
     try clear hcz14_4
     try clear hcz14_5
     try clear hcz14_6
     try clear hcz14_7
     try clear hcz14_8
     try clear hcz14_9
     try clear hcz16_0
     try clear hcz16_1
     try clear hcz16_10
     try clear hcz16_11
     try clear hcz16_2
     try clear hcz16_3
     try clear hcz16_4
     try clear hcz16_5
     try clear hcz16_6
     try clear hcz16_7
     try clear hcz16_8
     try clear hcz16_9
     try clear hcz17_0
     try clear hcz17_1
     try clear hcz17_10
     try clear hcz17_11
     try clear hcz17_2
     try clear hcz17_3
     try clear hcz17_4
     try clear hcz17_5
     try clear hcz17_6
     try clear hcz17_7
     try clear hcz17_8
     try clear hcz17_9
     try clear hcz19_0
     try clear hcz19_1
     try clear hcz19_10
     try clear hcz19_11
     try clear hcz19_2
     try clear hcz19_3
     try clear hcz19_4
     try clear hcz19_5
     try clear hcz19_6
     try clear hcz19_7
     try clear hcz19_8
     try clear hcz19_9
     try clear hcz21_0
     try clear hcz21_1
     try clear hcz21_10
     try clear hcz21_11
     try clear hcz21_2
     try clear hcz21_3
     try clear hcz21_4
     try clear hcz21_5
     try clear hcz21_6
     try clear hcz21_7
     try clear hcz21_8
     try clear hcz21_9
     try clear hcz7_0
     try clear hcz7_1
     try clear hcz7_10
     try clear hcz7_11
     try clear hcz7_2
     try clear hcz7_3
     try clear hcz7_4
     try clear hcz7_5
     try clear hcz7_6
     try clear hcz7_7
     try clear hcz7_8
     try clear hcz7_9
     try clear hfz14_0
     try clear hfz14_1
     try clear hfz14_10
     try clear hfz14_11
     try clear hfz14_2
     try clear hfz14_3
     try clear hfz14_4
     try clear hfz14_5
     try clear hfz14_6
     try clear hfz14_7
     try clear hfz14_8
     try clear hfz14_9
     try clear hfz16_0
     try clear hfz16_1
     try clear hfz16_10
     try clear hfz16_11
     try clear hfz16_2
     try clear hfz16_3
     try clear hfz16_4
     try clear hfz16_5
     try clear hfz16_6
     try clear hfz16_7
     try clear hfz16_8
     try clear hfz16_9
     try clear hfz17_0
     try clear hfz17_1
     try clear hfz17_10
     try clear hfz17_11
     try clear hfz17_2
     try clear hfz17_3
     try clear hfz17_4
     try clear hfz17_5
     try clear hfz17_6
     try clear hfz17_7
     try clear hfz17_8
     try clear hfz17_9
     try clear hfz19_0
     try clear hfz19_1
     try clear hfz19_10
     try clear hfz19_11
     try clear hfz19_2
     try clear hfz19_3
     try clear hfz19_4
     try clear hfz19_5
     try clear hfz19_6
     try clear hfz19_7
     try clear hfz19_8
     try clear hfz19_9
     try clear hfz21_0
     try clear hfz21_1
     try clear hfz21_10
     try clear hfz21_11
     try clear hfz21_2
     try clear hfz21_3
     try clear hfz21_4
     try clear hfz21_5
     try clear hfz21_6
     try clear hfz21_7
     try clear hfz21_8
     try clear hfz21_9
     try clear hfz7_0
     try clear hfz7_1
     try clear hfz7_10
     try clear hfz7_11
     try clear hfz7_2
     try clear hfz7_3
     try clear hfz7_4
     try clear hfz7_5
     try clear hfz7_6
     try clear hfz7_7
     try clear hfz7_8
     try clear hfz7_9
     try clear hx224_0
     try clear p2
     try clear p224
     try clear q224
     obtain ⟨kq, x36_22, rfl, HA, HJ22, HO_5, HO_6, BK201, BK214, HB⟩ := hcut
     cases kq with
     | zero => exact absurd HA.out (by simp [dominoref05_Get.j1])
     | succ kj22 =>
      have H := HA.out
      clear HA
      simp only [dominoref05_Get.j1] at H
      by_cases c28 : x36_22 = true
      ·subst c28
       have H1 : (some (0, 0, 0, 0, 0, 0, 0, 0, 0, 0, 0, (⟨#[]⟩ : ByteArray), 50)) = some (r1, r2, r3, r4, r5, r6, r7, r8, r9, r10, r11, r12, r13) := by rw [if_pos rfl] at H; exact H
       clear H
       have H := H1
       clear H1
       simp only [Option.some.injEq, Prod.mk.injEq] at H
       obtain ⟨rfl, rfl, rfl, rfl, rfl, rfl, rfl, rfl, rfl, rfl, rfl, rfl, rfl⟩ := H
       have hnb29 := NB201_214.out
       have hnc29 := NB214_201.out
       have hcz30_0 : wc.cell? ⟨gb201, 0, none⟩ = some (.int .u64 x202000_1) := (blk_cell BK201.out 0).trans rfl
       have hcz30_1 : wc.cell? ⟨gb201, 1, none⟩ = some (.int .u64 x202001_1) := (blk_cell BK201.out 1).trans rfl
       have hcz30_2 : wc.cell? ⟨gb201, 2, none⟩ = some (.int .u64 x202002_1) := (blk_cell BK201.out 2).trans rfl
       have hcz30_3 : wc.cell? ⟨gb201, 3, none⟩ = some (.int .u64 x202003_1) := (blk_cell BK201.out 3).trans rfl
       have hcz30_4 : wc.cell? ⟨gb201, 4, none⟩ = some (.int .u64 x202004_1) := (blk_cell BK201.out 4).trans rfl
       have hcz30_5 : wc.cell? ⟨gb201, 5, none⟩ = some (.int .u64 x202005_1) := (blk_cell BK201.out 5).trans rfl
       have hcz30_6 : wc.cell? ⟨gb201, 6, none⟩ = some (.int .u64 x202006_1) := (blk_cell BK201.out 6).trans rfl
       have hcz30_7 : wc.cell? ⟨gb201, 7, none⟩ = some (.int .u64 x202007_1) := (blk_cell BK201.out 7).trans rfl
       have hcz30_8 : wc.cell? ⟨gb201, 8, none⟩ = some (.int .u64 x202008_1) := (blk_cell BK201.out 8).trans rfl
       have hcz30_9 : wc.cell? ⟨gb201, 9, none⟩ = some (.int .u64 x202009_1) := (blk_cell BK201.out 9).trans rfl
       have hcz30_10 : wc.cell? ⟨gb201, 10, none⟩ = some (.int .u64 x202010_1) := (blk_cell BK201.out 10).trans rfl
       have hcz30_11 : wc.cell? ⟨gb201, 11, none⟩ = some (.string x202011_1) := (blk_cell BK201.out 11).trans rfl
       have hfz30_0 := blk_frozen BK201.out 0
       have hfz30_1 := blk_frozen BK201.out 1
       have hfz30_2 := blk_frozen BK201.out 2
       have hfz30_3 := blk_frozen BK201.out 3
       have hfz30_4 := blk_frozen BK201.out 4
       have hfz30_5 := blk_frozen BK201.out 5
       have hfz30_6 := blk_frozen BK201.out 6
       have hfz30_7 := blk_frozen BK201.out 7
       have hfz30_8 := blk_frozen BK201.out 8
       have hfz30_9 := blk_frozen BK201.out 9
       have hfz30_10 := blk_frozen BK201.out 10
       have hfz30_11 := blk_frozen BK201.out 11
       go_wp2
       refine bodyPost_ret (results_ct rfl _ _ gb201 26 #[.int .u64 0, .int .u64 0, .int .u64 0, .int .u64 0, .int .u64 0, .int .u64 0, .int .u64 0, .int .u64 0, .int .u64 0, .int .u64 0, .int .u64 0, .string (⟨#[]⟩ : ByteArray)] (0, 0) _ rfl (by (with_reducible repeat (first | refine blk_drewN ?_ _ | refine blk_drew ?_ | refine blk_alloc ?_ _)); refine blk_put (cs := #[.int .u64 0, .int .u64 0, .int .u64 0, .int .u64 0, .int .u64 0, .int .u64 0, .int .u64 0, .int .u64 0, .int .u64 0, .int .u64 0, .int .u64 0, .string x202011_1]) ?_ 11 _ rfl; (with_reducible repeat (first | refine blk_drewN ?_ _ | refine blk_drew ?_ | refine blk_alloc ?_ _)); refine blk_put (cs := #[.int .u64 0, .int .u64 0, .int .u64 0, .int .u64 0, .int .u64 0, .int .u64 0, .int .u64 0, .int .u64 0, .int .u64 0, .int .u64 0, .int .u64 x202010_1, .string x202011_1]) ?_ 10 _ rfl; (with_reducible repeat (first | refine blk_drewN ?_ _ | refine blk_drew ?_ | refine blk_alloc ?_ _)); refine blk_put (cs := #[.int .u64 0, .int .u64 0, .int .u64 0, .int .u64 0, .int .u64 0, .int .u64 0, .int .u64 0, .int .u64 0, .int .u64 0, .int .u64 x202009_1, .int .u64 x202010_1, .string x202011_1]) ?_ 9 _ rfl; (with_reducible repeat (first | refine blk_drewN ?_ _ | refine blk_drew ?_ | refine blk_alloc ?_ _)); refine blk_put (cs := #[.int .u64 0, .int .u64 0, .int .u64 0, .int .u64 0, .int .u64 0, .int .u64 0, .int .u64 0, .int .u64 0, .int .u64 x202008_1, .int .u64 x202009_1, .int .u64 x202010_1, .string x202011_1]) ?_ 8 _ rfl; (with_reducible repeat (first | refine blk_drewN ?_ _ | refine blk_drew ?_ | refine blk_alloc ?_ _)); refine blk_put (cs := #[.int .u64 0, .int .u64 0, .int .u64 0, .int .u64 0, .int .u64 0, .int .u64 0, .int .u64 0, .int .u64 x202007_1, .int .u64 x202008_1, .int .u64 x202009_1, .int .u64 x202010_1, .string x202011_1]) ?_ 7 _ rfl; (with_reducible repeat (first | refine blk_drewN ?_ _ | refine blk_drew ?_ | refine blk_alloc ?_ _)); refine blk_put (cs := #[.int .u64 0, .int .u64 0, .int .u64 0, .int .u64 0, .int .u64 0, .int .u64 0, .int .u64 x202006_1, .int .u64 x202007_1, .int .u64 x202008_1, .int .u64 x202009_1, .int .u64 x202010_1, .string x202011_1]) ?_ 6 _ rfl; (with_reducible repeat (first | refine blk_drewN ?_ _ | refine blk_drew ?_ | refine blk_alloc ?_ _)); refine blk_put (cs := #[.int .u64 0, .int .u64 0, .int .u64 0, .int .u64 0, .int .u64 0, .int .u64 x202005_1, .int .u64 x202006_1, .int .u64 x202007_1, .int .u64 x202008_1, .int .u64 x202009_1, .int .u64 x202010_1, .string x202011_1]) ?_ 5 _ rfl; (with_reducible repeat (first | refine blk_drewN ?_ _ | refine blk_drew ?_ | refine blk_alloc ?_ _)); refine blk_put (cs := #[.int .u64 0, .int .u64 0, .int .u64 0, .int .u64 0, .int .u64 x202004_1, .int .u64 x202005_1, .int .u64 x202006_1, .int .u64 x202007_1, .int .u64 x202008_1, .int .u64 x202009_1, .int .u64 x202010_1, .string x202011_1]) ?_ 4 _ rfl; (with_reducible repeat (first | refine blk_drewN ?_ _ | refine blk_drew ?_ | refine blk_alloc ?_ _)); refine blk_put (cs := #[.int .u64 0, .int .u64 0, .int .u64 0, .int .u64 x202003_1, .int .u64 x202004_1, .int .u64 x202005_1, .int .u64 x202006_1, .int .u64 x202007_1, .int .u64 x202008_1, .int .u64 x202009_1, .int .u64 x202010_1, .string x202011_1]) ?_ 3 _ rfl; (with_reducible repeat (first | refine blk_drewN ?_ _ | refine blk_drew ?_ | refine blk_alloc ?_ _)); refine blk_put (cs := #[.int .u64 0, .int .u64 0, .int .u64 x202002_1, .int .u64 x202003_1, .int .u64 x202004_1, .int .u64 x202005_1, .int .u64 x202006_1, .int .u64 x202007_1, .int .u64 x202008_1, .int .u64 x202009_1, .int .u64 x202010_1, .string x202011_1]) ?_ 2 _ rfl; (with_reducible repeat (first | refine blk_drewN ?_ _ | refine blk_drew ?_ | refine blk_alloc ?_ _)); refine blk_put (cs := #[.int .u64 0, .int .u64 x202001_1, .int .u64 x202002_1, .int .u64 x202003_1, .int .u64 x202004_1, .int .u64 x202005_1, .int .u64 x202006_1, .int .u64 x202007_1, .int .u64 x202008_1, .int .u64 x202009_1, .int .u64 x202010_1, .string x202011_1]) ?_ 1 _ rfl; (with_reducible repeat (first | refine blk_drewN ?_ _ | refine blk_drew ?_ | refine blk_alloc ?_ _)); refine blk_put (cs := #[.int .u64 x202000_1, .int .u64 x202001_1, .int .u64 x202002_1, .int .u64 x202003_1, .int .u64 x202004_1, .int .u64 x202005_1, .int .u64 x202006_1, .int .u64 x202007_1, .int .u64 x202008_1, .int .u64 x202009_1, .int .u64 x202010_1, .string x202011_1]) ?_ 0 _ rfl; (with_reducible repeat (first | refine blk_drewN ?_ _ | refine blk_drew ?_ | refine blk_alloc ?_ _)); exact BK201.out) Tryd.underlying26 rfl (by kernel_rfl)) rfl ?_
       exact ⟨by first | rfl | (simp [errW_none, errW_some] <;> rfl) | (simp [*, errW_none, errW_some] <;> rfl), by repeat (first | (with_reducible first | exact HB.out | apply below_alloc | apply pw_below_drewN | apply below_drew1 | refine below_set ?_ GE201.out | refine below_set ?_ GE214.out) | exact HB.out)⟩
      ·replace c28 := Bool.eq_false_iff.mpr c28
       subst c28
       have H1 : (dominoref05_Get.l1 kj22 x5_1 t219 t220 0 x215000_1 x215001_1 x215002_1 x215003_1 x215004_1 x215005_1 x215006_1 x215007_1 x215008_1 x215009_1 x215010_1 x215011_1) = some (r1, r2, r3, r4, r5, r6, r7, r8, r9, r10, r11, r12, r13) := by rw [if_neg (show ¬ (false = true) by decide)] at H; exact H
       clear H
       have H := H1
       clear H1
       have H' := Aside0.mk H
       clear H
       go_wp2
       go_loopg [9] kj22 (fun kq v9 w' => ∃ (x9_3 : Int) (x202000_3 : Int) (x202001_3 : Int) (x202002_3 : Int) (x202003_3 : Int) (x202004_3 : Int) (x202005_3 : Int) (x202006_3 : Int) (x202007_3 : Int) (x202008_3 : Int) (x202009_3 : Int) (x202010_3 : Int) (x202011_3 : ByteArray), v9 = .int .i64 x9_3 ∧ Aside0 (dominoref05_Get.l1 kq x5_1 t219 t220 x9_3 x215000_1 x215001_1 x215002_1 x215003_1 x215004_1 x215005_1 x215006_1 x215007_1 x215008_1 x215009_1 x215010_1 x215011_1 = some (r1, r2, r3, r4, r5, r6, r7, r8, r9, r10, r11, r12, r13)) ∧ Aside0 (kq ≤ kj22) ∧ Aside0 (Kd.R (Kd.int .u64) 22 w' w.heap.size (fun k_ => some k_ ≠ (v222 : Value).ownBlock) u5 x5_1) ∧ Aside0 (Kd.R (Kd.int .u64) 22 w' w.heap.size (fun k_ => some k_ ≠ (u5 : Value).ownBlock) v222 t219) ∧ Aside0 (w'.heap[gb201]? = some (.cells #[.int .u64 x202000_3, .int .u64 x202001_3, .int .u64 x202002_3, .int .u64 x202003_3, .int .u64 x202004_3, .int .u64 x202005_3, .int .u64 x202006_3, .int .u64 x202007_3, .int .u64 x202008_3, .int .u64 x202009_3, .int .u64 x202010_3, .string x202011_3] 26 (0, 0))) ∧ Aside0 (w'.heap[gb214]? = some (.cells #[.int .u64 x215000_1, .int .u64 x215001_1, .int .u64 x215002_1, .int .u64 x215003_1, .int .u64 x215004_1, .int .u64 x215005_1, .int .u64 x215006_1, .int .u64 x215007_1, .int .u64 x215008_1, .int .u64 x215009_1, .int .u64 x215010_1, .string x215011_1] 26 (0, 0))) ∧ Aside0 (Below w.heap.size w w'))
       case atStart => exact ⟨(0), (x202000_1), (x202001_1), (x202002_1), (x202003_1), (x202004_1), (x202005_1), (x202006_1), (x202007_1), (x202008_1), (x202009_1), (x202010_1), (x202011_1), (by first | rfl | (simp; done) | (simp [*]; done)), H', ⟨Nat.le_refl _⟩, ⟨by (with_reducible repeat (first | apply Kd.R_alloc | apply Kd.R_drewN | apply Kd.R_drew)); exact HO_5.out⟩, ⟨by (with_reducible repeat (first | apply Kd.R_alloc | apply Kd.R_drewN | apply Kd.R_drew)); exact HO_6.out⟩, ⟨by (with_reducible repeat (first | refine blk_drewN ?_ _ | refine blk_drew ?_ | refine blk_alloc ?_ _)); exact BK201.out⟩, ⟨by (with_reducible repeat (first | refine blk_drewN ?_ _ | refine blk_drew ?_ | refine blk_alloc ?_ _)); exact BK214.out⟩, ⟨by repeat (first | (with_reducible first | exact HB.out | apply below_alloc | apply pw_below_drewN | apply below_drew1 | refine below_set ?_ GE201.out | refine below_set ?_ GE214.out) | exact HB.out)⟩⟩
       case round =>
        clear H'
        try clear c1
        try clear c2
        try clear p2
        try clear q2
        try clear hx2
        try clear qi2
        try clear c6
        try clear c10
        try clear c10b0
        try clear c10b1
        try clear c12
        try clear c12b0
        try clear c12b1
        try clear c13
        try clear c14
        try clear c16
        try clear c18
        try clear p22
        try clear q22
        try clear hx22
        try clear qi22
        try clear c25
        try clear c25b0
        try clear c25b1
        try clear c26
        try clear c26b0
        try clear c26b1
        try clear c28
        try clear c29
        try clear hcz14_0
        try clear hcz14_1
        try clear hcz14_10
        try clear hcz14_11
        try clear hcz14_2
        try clear hcz14_3
        try clear hcz14_4
        try clear hcz14_5
        try clear hcz14_6
        try clear hcz14_7
        try clear hcz14_8
        try clear hcz14_9
        try clear hcz16_0
        try clear hcz16_1
        try clear hcz16_10
        try clear hcz16_11
        try clear hcz16_2
        try clear hcz16_3
        try clear hcz16_4
        try clear hcz16_5
        try clear hcz16_6
        try clear hcz16_7
        try clear hcz16_8
        try clear hcz16_9
        try clear hcz17_0
        try clear hcz17_1
        try clear hcz17_10
        try clear hcz17_11
        try clear hcz17_2
        try clear hcz17_3
        try clear hcz17_4
        try clear hcz17_5
        try clear hcz17_6
        try clear hcz17_7
        try clear hcz17_8
        try clear hcz17_9
        try clear hcz19_0
        try clear hcz19_1
        try clear hcz19_10
        try clear hcz19_11
        try clear hcz19_2
        try clear hcz19_3
        try clear hcz19_4
        try clear hcz19_5
        try clear hcz19_6
        try clear hcz19_7
        try clear hcz19_8
        try clear hcz19_9
        try clear hcz21_0
        try clear hcz21_1
        try clear hcz21_10
        try clear hcz21_11
        try clear hcz21_2
        try clear hcz21_3
        try clear hcz21_4
        try clear hcz21_5
        try clear hcz21_6
        try clear hcz21_7
        try clear hcz21_8
        try clear hcz21_9
        try clear hcz30_0
        try clear hcz30_1
        try clear hcz30_10
        try clear hcz30_11
        try clear hcz30_2
        try clear hcz30_3
        try clear hcz30_4
        try clear hcz30_5
        try clear hcz30_6
        try clear hcz30_7
        try clear hcz30_8
        try clear hcz30_9
        try clear hcz7_0
        try clear hcz7_1
        try clear hcz7_10
        try clear hcz7_11
        try clear hcz7_2
        try clear hcz7_3
        try clear hcz7_4
        try clear hcz7_5
        try clear hcz7_6
        try clear hcz7_7
        try clear hcz7_8
        try clear hcz7_9
        try clear hfz14_0
        try clear hfz14_1
        try clear hfz14_10
        try clear hfz14_11
        try clear hfz14_2
        try clear hfz14_3
        try clear hfz14_4
        try clear hfz14_5
        try clear hfz14_6
        try clear hfz14_7
        try clear hfz14_8
        try clear hfz14_9
        try clear hfz16_0
        try clear hfz16_1
        try clear hfz16_10
        try clear hfz16_11
        try clear hfz16_2
        try clear hfz16_3
        try clear hfz16_4
        try clear hfz16_5
        try clear hfz16_6
        try clear hfz16_7
        try clear hfz16_8
        try clear hfz16_9
        try clear hfz17_0
        try clear hfz17_1
        try clear hfz17_10
        try clear hfz17_11
        try clear hfz17_2
        try clear hfz17_3
        try clear hfz17_4
        try clear hfz17_5
        try clear hfz17_6
        try clear hfz17_7
        try clear hfz17_8
        try clear hfz17_9
        try clear hfz19_0
        try clear hfz19_1
        try clear hfz19_10
        try clear hfz19_11
        try clear hfz19_2
        try clear hfz19_3
        try clear hfz19_4
        try clear hfz19_5
        try clear hfz19_6
        try clear hfz19_7
        try clear hfz19_8
        try clear hfz19_9
        try clear hfz21_0
        try clear hfz21_1
        try clear hfz21_10
        try clear hfz21_11
        try clear hfz21_2
        try clear hfz21_3
        try clear hfz21_4
        try clear hfz21_5
        try clear hfz21_6
        try clear hfz21_7
        try clear hfz21_8
        try clear hfz21_9
        try clear hfz30_0
        try clear hfz30_1
        try clear hfz30_10
        try clear hfz30_11
        try clear hfz30_2
        try clear hfz30_3
        try clear hfz30_4
        try clear hfz30_5
        try clear hfz30_6
        try clear hfz30_7
        try clear hfz30_8
        try clear hfz30_9
        try clear hfz7_0
        try clear hfz7_1
        try clear hfz7_10
        try clear hfz7_11
        try clear hfz7_2
        try clear hfz7_3
        try clear hfz7_4
        try clear hfz7_5
        try clear hfz7_6
        try clear hfz7_7
        try clear hfz7_8
        try clear hfz7_9
        try clear hx224_0
        try clear p2
        try clear p22
        try clear p224
        try clear q2
        try clear q22
        try clear q224
        obtain ⟨x9_3, x202000_3, x202001_3, x202002_3, x202003_3, x202004_3, x202005_3, x202006_3, x202007_3, x202008_3, x202009_3, x202010_3, x202011_3, rfl, HA, HK3, HO_5, HO_6, BK201, BK214, HB⟩ := hrel
        cases gk with
        | zero => exact absurd HA.out (by simp [dominoref05_Get.l1])
        | succ k3 =>
         have H := HA.out
         clear HA
         simp only [dominoref05_Get.l1] at H
         by_cases c31 : x9_3 < (x5_1.length : Int)
         ·rw [if_pos c31] at H
          have c31b0 : decide (x9_3 < (x5_1.length : Int)) = true := decide_eq_true c31
          clear c31
          by_cases c32 : 0 ≤ x9_3
          ·rw [if_pos c32] at H
           have c32b0 : decide (0 ≤ x9_3) = true := decide_eq_true c32
           clear c32
           by_cases c33 : 0 < (t219.length : Int)
           ·rw [if_pos c33] at H
            have c33b0 : decide (0 < (t219.length : Int)) = true := decide_eq_true c33
            have c33b1 : decide (0 < t219.length) = true := decide_eq_true (by omega)
            clear c33
            by_cases c34 : (rd x5_1 x9_3) = (rd t219 0)
            ·rw [if_pos c34] at H
             have c34b0 : ((rd x5_1 x9_3) == (rd t219 0)) = true := beq_iff_eq.mpr c34
             have c34b1 : ((rd x5_1 x9_3) != (rd t219 0)) = false := bne_eq_false_iff_eq.mpr c34
             clear c34
             simp only [Option.some.injEq, Prod.mk.injEq] at H
             obtain ⟨rfl, rfl, rfl, rfl, rfl, rfl, rfl, rfl, rfl, rfl, rfl, rfl, rfl⟩ := H
             obtain ⟨Ao35, co35, eo35⟩ := Kd.R_slice HO_5.out
             subst eo35
             try go_wp2
             have n0_ := Aside0.mk (Kd.R_drew HO_5.out)
             have n1_ := Aside0.mk (Kd.R_drew HO_6.out)
             have n2_ := Aside0.mk (blk_drew BK201.out)
             have n3_ := Aside0.mk (blk_drew BK214.out)
             have n4_ := Aside0.mk (below_drew1 HB.out)
             clear HO_5
             clear HO_6
             clear BK201
             clear BK214
             clear HB
             have HO_5 := n0_
             have HO_6 := n1_
             have BK201 := n2_
             have BK214 := n3_
             have HB := n4_
             clear n0_ n1_ n2_ n3_ n4_
             have p225 : 0 ≤ (x9_3 : Int) := of_decide_eq_true (by first | (with_reducible assumption) | assumption)
             have q225 : x9_3 < (x5_1.length : Int) := of_decide_eq_true (by first | (with_reducible assumption) | assumption)
             obtain ⟨ad225, e225, hx225_0⟩ := Kd.at_int (Kd.R_reads' HO_5.out).2.2 x9_3 p225 q225
             cases e225
             replace p225 := eq_true p225
             replace q225 := eq_true q225
             obtain ⟨Ao37, co37, eo37⟩ := Kd.R_slice HO_6.out
             (first | subst eo37 | (injection eo37 with f1_ f2_ f3_; have f4_ := f1_.symm; have f5_ := f3_.symm; clear f1_ f2_ f3_; subst f4_; subst f5_))
             have p226 : 0 ≤ (0 : Int) := (by omega)
             have q226 : 0 < (t219.length : Int) := of_decide_eq_true (by first | (with_reducible assumption) | assumption)
             obtain ⟨ad226, e226, hx226_0⟩ := Kd.at_int (Kd.R_reads' HO_6.out).2.2 0 p226 q226
             cases e226
             have qi226 : (0 < t219.length) = True := eq_true (by omega)
             (try rw [show ((0 : Int)).toNat = 0 from rfl] at hx226_0)
             (try rw [Addr.add_zero'] at hx226_0)
             replace p226 := eq_true p226
             replace q226 := eq_true q226
             refine start_ (n := 8) (S := fun w' => w'.cell? (ad225.add (x9_3).toNat) = some (.int .u64 (rd x5_1 x9_3)) ∧ w'.cell? ad226 = some (.int .u64 (rd t219 0))) (ds := []) #[false,false,false,false,false,false,false,false] (by kernel_rfl) rfl rfl ⟨hx225_0, hx226_0⟩ (fun hHeld => ?_); refine with_tabW dominoref05_Get.tab10 dominoref05_Get.bits10 (fun HT_ HW_ => ?_)
             generalize wr.drew = w36 at HO_5 HO_6 BK201 BK214 HB hx225_0 hx226_0 hHeld ⊢
             refine pure_ (i := 0) (N := some 44) (v := ?_) (a' := ?_) #[true,false,false,false,false,false,false,false] rfl rfl (any_of HT_.out (by kernel_rfl)) (fun _ _ _ h => h) (Or.inl ⟨by rfl, ?_⟩) ?_ ?_
             rotate_left;(intro w';go_simp;with_reducible rfl);rotate_left;(simp only [Act.put, List.setIfInBounds_toArray, List.set_cons_zero, List.set_cons_succ, i64_w, i32_w];rfl)
             refine pure_ (i := 1) (N := some 45) (v := ?_) (a' := ?_) #[true,true,false,false,false,false,false,false] rfl rfl (any_of HT_.out (by kernel_rfl)) (fun _ _ _ h => h) (Or.inl ⟨by rfl, ?_⟩) ?_ ?_
             rotate_left;(intro w';go_simp;with_reducible rfl);rotate_left;(simp only [Act.put, List.setIfInBounds_toArray, List.set_cons_zero, List.set_cons_succ, i64_w, i32_w];rfl)
             refine pure_ (i := 2) (N := some 46) (v := ?_) (a' := ?_) #[true,true,true,false,false,false,false,false] rfl rfl (any_of HT_.out (by kernel_rfl)) (fun _ _ _ h => h) (Or.inl ⟨by rfl, ?_⟩) ?_ ?_
             rotate_left;(intro w';go_simp;with_reducible rfl);rotate_left;(simp only [Act.put, List.setIfInBounds_toArray, List.set_cons_zero, List.set_cons_succ, i64_w, i32_w];rfl)
             refine pure_ (i := 4) (N := some 48) (v := ?_) (a' := ?_) #[true,true,true,false,true,false,false,false] rfl rfl (any_of HT_.out (by kernel_rfl)) (fun _ _ _ h => h) (Or.inl ⟨by rfl, ?_⟩) ?_ ?_
             rotate_left;(intro w';go_simp;with_reducible rfl);rotate_left;(simp only [Act.put, List.setIfInBounds_toArray, List.set_cons_zero, List.set_cons_succ, i64_w, i32_w];rfl)
             refine pure_ (i := 5) (N := some 49) (v := ?_) (a' := ?_) #[true,true,true,false,true,true,false,false] rfl rfl (any_of HT_.out (by kernel_rfl)) (fun _ _ _ h => h) (Or.inl ⟨by rfl, ?_⟩) ?_ ?_
             rotate_left;(intro w';go_simp;with_reducible rfl);rotate_left;(simp only [Act.put, List.setIfInBounds_toArray, List.set_cons_zero, List.set_cons_succ, i64_w, i32_w];rfl)
             refine take_ (i := 3) (N := some 47) (v := ?_) (a' := ?_) #[true,true,true,true,true,true,false,false] rfl rfl (take_ofW HT_.out HW_.out (by kernel_rfl)) (fun _ _ _ h => h) (Or.inl ⟨by rfl, ?_⟩) hHeld ?_ ?_
             rotate_left
             ·rintro w' ⟨s0, s1⟩
              go_simp
              with_reducible rfl
             rotate_left
             ·simp only [Act.put, List.setIfInBounds_toArray, List.set_cons_zero, List.set_cons_succ, i64_w, i32_w]
              rfl
             refine take_ (i := 6) (N := some 50) (v := ?_) (a' := ?_) #[true,true,true,true,true,true,true,false] rfl rfl (take_ofW HT_.out HW_.out (by kernel_rfl)) (fun _ _ _ h => h) (Or.inl ⟨by rfl, ?_⟩) hHeld ?_ ?_
             rotate_left
             ·rintro w' ⟨s0, s1⟩
              go_simp
              with_reducible rfl
             rotate_left
             ·simp only [Act.put, List.setIfInBounds_toArray, List.set_cons_zero, List.set_cons_succ, i64_w, i32_w]
              rfl
             refine pure_ (i := 7) (N := some 51) (v := ?_) (a' := ?_) #[true,true,true,true,true,true,true,true] rfl rfl (any_of HT_.out (by kernel_rfl)) (fun _ _ _ h => h) (Or.inl ⟨by rfl, ?_⟩) ?_ ?_
             rotate_left;(intro w';go_simp;with_reducible rfl);rotate_left;(simp only [Act.put, List.setIfInBounds_toArray, List.set_cons_zero, List.set_cons_succ, i64_w, i32_w];rfl)
             refine done_ (done_of HT_.out (by kernel_rfl)) ?_
             have hnb38 := NB201_214.out
             have hnc38 := NB214_201.out
             have hcz39_0 : w36.cell? ⟨gb201, 0, none⟩ = some (.int .u64 x202000_3) := (blk_cell BK201.out 0).trans rfl
             have hcz39_1 : w36.cell? ⟨gb201, 1, none⟩ = some (.int .u64 x202001_3) := (blk_cell BK201.out 1).trans rfl
             have hcz39_2 : w36.cell? ⟨gb201, 2, none⟩ = some (.int .u64 x202002_3) := (blk_cell BK201.out 2).trans rfl
             have hcz39_3 : w36.cell? ⟨gb201, 3, none⟩ = some (.int .u64 x202003_3) := (blk_cell BK201.out 3).trans rfl
             have hcz39_4 : w36.cell? ⟨gb201, 4, none⟩ = some (.int .u64 x202004_3) := (blk_cell BK201.out 4).trans rfl
             have hcz39_5 : w36.cell? ⟨gb201, 5, none⟩ = some (.int .u64 x202005_3) := (blk_cell BK201.out 5).trans rfl
             have hcz39_6 : w36.cell? ⟨gb201, 6, none⟩ = some (.int .u64 x202006_3) := (blk_cell BK201.out 6).trans rfl
             have hcz39_7 : w36.cell? ⟨gb201, 7, none⟩ = some (.int .u64 x202007_3) := (blk_cell BK201.out 7).trans rfl
             have hcz39_8 : w36.cell? ⟨gb201, 8, none⟩ = some (.int .u64 x202008_3) := (blk_cell BK201.out 8).trans rfl
             have hcz39_9 : w36.cell? ⟨gb201, 9, none⟩ = some (.int .u64 x202009_3) := (blk_cell BK201.out 9).trans rfl
             have hcz39_10 : w36.cell? ⟨gb201, 10, none⟩ = some (.int .u64 x202010_3) := (blk_cell BK201.out 10).trans rfl
             have hcz39_11 : w36.cell? ⟨gb201, 11, none⟩ = some (.string x202011_3) := (blk_cell BK201.out 11).trans rfl
             have hfz39_0 := blk_frozen BK201.out 0
             have hfz39_1 := blk_frozen BK201.out 1
             have hfz39_2 := blk_frozen BK201.out 2
             have hfz39_3 := blk_frozen BK201.out 3
             have hfz39_4 := blk_frozen BK201.out 4
             have hfz39_5 := blk_frozen BK201.out 5
             have hfz39_6 := blk_frozen BK201.out 6
             have hfz39_7 := blk_frozen BK201.out 7
             have hfz39_8 := blk_frozen BK201.out 8
             have hfz39_9 := blk_frozen BK201.out 9
             have hfz39_10 := blk_frozen BK201.out 10
             have hfz39_11 := blk_frozen BK201.out 11
             try go_wp2
             refine bodyPost_ret (results_ct rfl _ _ gb201 26 #[.int .u64 0, .int .u64 0, .int .u64 0, .int .u64 0, .int .u64 0, .int .u64 0, .int .u64 0, .int .u64 0, .int .u64 0, .int .u64 0, .int .u64 0, .string (⟨#[]⟩ : ByteArray)] (0, 0) _ rfl (by (with_reducible repeat (first | refine blk_drewN ?_ _ | refine blk_drew ?_ | refine blk_alloc ?_ _)); refine blk_put (cs := #[.int .u64 0, .int .u64 0, .int .u64 0, .int .u64 0, .int .u64 0, .int .u64 0, .int .u64 0, .int .u64 0, .int .u64 0, .int .u64 0, .int .u64 0, .string x202011_3]) ?_ 11 _ rfl; (with_reducible repeat (first | refine blk_drewN ?_ _ | refine blk_drew ?_ | refine blk_alloc ?_ _)); refine blk_put (cs := #[.int .u64 0, .int .u64 0, .int .u64 0, .int .u64 0, .int .u64 0, .int .u64 0, .int .u64 0, .int .u64 0, .int .u64 0, .int .u64 0, .int .u64 x202010_3, .string x202011_3]) ?_ 10 _ rfl; (with_reducible repeat (first | refine blk_drewN ?_ _ | refine blk_drew ?_ | refine blk_alloc ?_ _)); refine blk_put (cs := #[.int .u64 0, .int .u64 0, .int .u64 0, .int .u64 0, .int .u64 0, .int .u64 0, .int .u64 0, .int .u64 0, .int .u64 0, .int .u64 x202009_3, .int .u64 x202010_3, .string x202011_3]) ?_ 9 _ rfl; (with_reducible repeat (first | refine blk_drewN ?_ _ | refine blk_drew ?_ | refine blk_alloc ?_ _)); refine blk_put (cs := #[.int .u64 0, .int .u64 0, .int .u64 0, .int .u64 0, .int .u64 0, .int .u64 0, .int .u64 0, .int .u64 0, .int .u64 x202008_3, .int .u64 x202009_3, .int .u64 x202010_3, .string x202011_3]) ?_ 8 _ rfl; (with_reducible repeat (first | refine blk_drewN ?_ _ | refine blk_drew ?_ | refine blk_alloc ?_ _)); refine blk_put (cs := #[.int .u64 0, .int .u64 0, .int .u64 0, .int .u64 0, .int .u64 0, .int .u64 0, .int .u64 0, .int .u64 x202007_3, .int .u64 x202008_3, .int .u64 x202009_3, .int .u64 x202010_3, .string x202011_3]) ?_ 7 _ rfl; (with_reducible repeat (first | refine blk_drewN ?_ _ | refine blk_drew ?_ | refine blk_alloc ?_ _)); refine blk_put (cs := #[.int .u64 0, .int .u64 0, .int .u64 0, .int .u64 0, .int .u64 0, .int .u64 0, .int .u64 x202006_3, .int .u64 x202007_3, .int .u64 x202008_3, .int .u64 x202009_3, .int .u64 x202010_3, .string x202011_3]) ?_ 6 _ rfl; (with_reducible repeat (first | refine blk_drewN ?_ _ | refine blk_drew ?_ | refine blk_alloc ?_ _)); refine blk_put (cs := #[.int .u64 0, .int .u64 0, .int .u64 0, .int .u64 0, .int .u64 0, .int .u64 x202005_3, .int .u64 x202006_3, .int .u64 x202007_3, .int .u64 x202008_3, .int .u64 x202009_3, .int .u64 x202010_3, .string x202011_3]) ?_ 5 _ rfl; (with_reducible repeat (first | refine blk_drewN ?_ _ | refine blk_drew ?_ | refine blk_alloc ?_ _)); refine blk_put (cs := #[.int .u64 0, .int .u64 0, .int .u64 0, .int .u64 0, .int .u64 x202004_3, .int .u64 x202005_3, .int .u64 x202006_3, .int .u64 x202007_3, .int .u64 x202008_3, .int .u64 x202009_3, .int .u64 x202010_3, .string x202011_3]) ?_ 4 _ rfl; (with_reducible repeat (first | refine blk_drewN ?_ _ | refine blk_drew ?_ | refine blk_alloc ?_ _)); refine blk_put (cs := #[.int .u64 0, .int .u64 0, .int .u64 0, .int .u64 x202003_3, .int .u64 x202004_3, .int .u64 x202005_3, .int .u64 x202006_3, .int .u64 x202007_3, .int .u64 x202008_3, .int .u64 x202009_3, .int .u64 x202010_3, .string x202011_3]) ?_ 3 _ rfl; (with_reducible repeat (first | refine blk_drewN ?_ _ | refine blk_drew ?_ | refine blk_alloc ?_ _)); refine blk_put (cs := #[.int .u64 0, .int .u64 0, .int .u64 x202002_3, .int .u64 x202003_3, .int .u64 x202004_3, .int .u64 x202005_3, .int .u64 x202006_3, .int .u64 x202007_3, .int .u64 x202008_3, .int .u64 x202009_3, .int .u64 x202010_3, .string x202011_3]) ?_ 2 _ rfl; (with_reducible repeat (first | refine blk_drewN ?_ _ | refine blk_drew ?_ | refine blk_alloc ?_ _)); refine blk_put (cs := #[.int .u64 0, .int .u64 x202001_3, .int .u64 x202002_3, .int .u64 x202003_3, .int .u64 x202004_3, .int .u64 x202005_3, .int .u64 x202006_3, .int .u64 x202007_3, .int .u64 x202008_3, .int .u64 x202009_3, .int .u64 x202010_3, .string x202011_3]) ?_ 1 _ rfl; (with_reducible repeat (first | refine blk_drewN ?_ _ | refine blk_drew ?_ | refine blk_alloc ?_ _)); refine blk_put (cs := #[.int .u64 x202000_3, .int .u64 x202001_3, .int .u64 x202002_3, .int .u64 x202003_3, .int .u64 x202004_3, .int .u64 x202005_3, .int .u64 x202006_3, .int .u64 x202007_3, .int .u64 x202008_3, .int .u64 x202009_3, .int .u64 x202010_3, .string x202011_3]) ?_ 0 _ rfl; (with_reducible repeat (first | refine blk_drewN ?_ _ | refine blk_drew ?_ | refine blk_alloc ?_ _)); exact BK201.out) Tryd.underlying26 rfl (by kernel_rfl)) rfl ?_
             exact ⟨by first | rfl | (simp [errW_none, errW_some] <;> rfl) | (simp [*, errW_none, errW_some] <;> rfl), by repeat (first | (with_reducible first | exact HB.out | apply below_alloc | apply pw_below_drewN | apply below_drew1 | refine below_set ?_ GE201.out | refine below_set ?_ GE214.out) | exact HB.out)⟩
            ·rw [if_neg c34] at H
             have c34b0 : ((rd x5_1 x9_3) == (rd t219 0)) = false := beq_eq_false_iff_ne.mpr c34
             have c34b1 : ((rd x5_1 x9_3) != (rd t219 0)) = true := bne_iff_ne.mpr c34
             have H' := Aside0.mk H
             clear H
             obtain ⟨Ao40, co40, eo40⟩ := Kd.R_slice HO_5.out
             subst eo40
             try go_wp2
             have n0_ := Aside0.mk (Kd.R_drew HO_5.out)
             have n1_ := Aside0.mk (Kd.R_drew HO_6.out)
             have n2_ := Aside0.mk (blk_drew BK201.out)
             have n3_ := Aside0.mk (blk_drew BK214.out)
             have n4_ := Aside0.mk (below_drew1 HB.out)
             clear HO_5
             clear HO_6
             clear BK201
             clear BK214
             clear HB
             have HO_5 := n0_
             have HO_6 := n1_
             have BK201 := n2_
             have BK214 := n3_
             have HB := n4_
             clear n0_ n1_ n2_ n3_ n4_
             have p225 : 0 ≤ (x9_3 : Int) := of_decide_eq_true (by first | (with_reducible assumption) | assumption)
             have q225 : x9_3 < (x5_1.length : Int) := of_decide_eq_true (by first | (with_reducible assumption) | assumption)
             obtain ⟨ad225, e225, hx225_0⟩ := Kd.at_int (Kd.R_reads' HO_5.out).2.2 x9_3 p225 q225
             cases e225
             replace p225 := eq_true p225
             replace q225 := eq_true q225
             obtain ⟨Ao42, co42, eo42⟩ := Kd.R_slice HO_6.out
             (first | subst eo42 | (injection eo42 with f1_ f2_ f3_; have f4_ := f1_.symm; have f5_ := f3_.symm; clear f1_ f2_ f3_; subst f4_; subst f5_))
             have p226 : 0 ≤ (0 : Int) := (by omega)
             have q226 : 0 < (t219.length : Int) := of_decide_eq_true (by first | (with_reducible assumption) | assumption)
             obtain ⟨ad226, e226, hx226_0⟩ := Kd.at_int (Kd.R_reads' HO_6.out).2.2 0 p226 q226
             cases e226
             have qi226 : (0 < t219.length) = True := eq_true (by omega)
             (try rw [show ((0 : Int)).toNat = 0 from rfl] at hx226_0)
             (try rw [Addr.add_zero'] at hx226_0)
             replace p226 := eq_true p226
             replace q226 := eq_true q226
             refine start_ (n := 8) (S := fun w' => w'.cell? (ad225.add (x9_3).toNat) = some (.int .u64 (rd x5_1 x9_3)) ∧ w'.cell? ad226 = some (.int .u64 (rd t219 0))) (ds := []) #[false,false,false,false,false,false,false,false] (by kernel_rfl) rfl rfl ⟨hx225_0, hx226_0⟩ (fun hHeld => ?_); refine with_tabW dominoref05_Get.tab10 dominoref05_Get.bits10 (fun HT_ HW_ => ?_)
             generalize wr.drew = w41 at HO_5 HO_6 BK201 BK214 HB hx225_0 hx226_0 hHeld ⊢
             refine pure_ (i := 0) (N := some 44) (v := ?_) (a' := ?_) #[true,false,false,false,false,false,false,false] rfl rfl (any_of HT_.out (by kernel_rfl)) (fun _ _ _ h => h) (Or.inl ⟨by rfl, ?_⟩) ?_ ?_
             rotate_left;(intro w';go_simp;with_reducible rfl);rotate_left;(simp only [Act.put, List.setIfInBounds_toArray, List.set_cons_zero, List.set_cons_succ, i64_w, i32_w];rfl)
             refine pure_ (i := 1) (N := some 45) (v := ?_) (a' := ?_) #[true,true,false,false,false,false,false,false] rfl rfl (any_of HT_.out (by kernel_rfl)) (fun _ _ _ h => h) (Or.inl ⟨by rfl, ?_⟩) ?_ ?_
             rotate_left;(intro w';go_simp;with_reducible rfl);rotate_left;(simp only [Act.put, List.setIfInBounds_toArray, List.set_cons_zero, List.set_cons_succ, i64_w, i32_w];rfl)
             refine pure_ (i := 2) (N := some 46) (v := ?_) (a' := ?_) #[true,true,true,false,false,false,false,false] rfl rfl (any_of HT_.out (by kernel_rfl)) (fun _ _ _ h => h) (Or.inl ⟨by rfl, ?_⟩) ?_ ?_
             rotate_left;(intro w';go_simp;with_reducible rfl);rotate_left;(simp only [Act.put, List.setIfInBounds_toArray, List.set_cons_zero, List.set_cons_succ, i64_w, i32_w];rfl)
             refine pure_ (i := 4) (N := some 48) (v := ?_) (a' := ?_) #[true,true,true,false,true,false,false,false] rfl rfl (any_of HT_.out (by kernel_rfl)) (fun _ _ _ h => h) (Or.inl ⟨by rfl, ?_⟩) ?_ ?_
             rotate_left;(intro w';go_simp;with_reducible rfl);rotate_left;(simp only [Act.put, List.setIfInBounds_toArray, List.set_cons_zero, List.set_cons_succ, i64_w, i32_w];rfl)
             refine pure_ (i := 5) (N := some 49) (v := ?_) (a' := ?_) #[true,true,true,false,true,true,false,false] rfl rfl (any_of HT_.out (by kernel_rfl)) (fun _ _ _ h => h) (Or.inl ⟨by rfl, ?_⟩) ?_ ?_
             rotate_left;(intro w';go_simp;with_reducible rfl);rotate_left;(simp only [Act.put, List.setIfInBounds_toArray, List.set_cons_zero, List.set_cons_succ, i64_w, i32_w];rfl)
             refine take_ (i := 3) (N := some 47) (v := ?_) (a' := ?_) #[true,true,true,true,true,true,false,false] rfl rfl (take_ofW HT_.out HW_.out (by kernel_rfl)) (fun _ _ _ h => h) (Or.inl ⟨by rfl, ?_⟩) hHeld ?_ ?_
             rotate_left
             ·rintro w' ⟨s0, s1⟩
              go_simp
              with_reducible rfl
             rotate_left
             ·simp only [Act.put, List.setIfInBounds_toArray, List.set_cons_zero, List.set_cons_succ, i64_w, i32_w]
              rfl
             refine take_ (i := 6) (N := some 50) (v := ?_) (a' := ?_) #[true,true,true,true,true,true,true,false] rfl rfl (take_ofW HT_.out HW_.out (by kernel_rfl)) (fun _ _ _ h => h) (Or.inl ⟨by rfl, ?_⟩) hHeld ?_ ?_
             rotate_left
             ·rintro w' ⟨s0, s1⟩
              go_simp
              with_reducible rfl
             rotate_left
             ·simp only [Act.put, List.setIfInBounds_toArray, List.set_cons_zero, List.set_cons_succ, i64_w, i32_w]
              rfl
             refine pure_ (i := 7) (N := some 51) (v := ?_) (a' := ?_) #[true,true,true,true,true,true,true,true] rfl rfl (any_of HT_.out (by kernel_rfl)) (fun _ _ _ h => h) (Or.inl ⟨by rfl, ?_⟩) ?_ ?_
             rotate_left;(intro w';go_simp;with_reducible rfl);rotate_left;(simp only [Act.put, List.setIfInBounds_toArray, List.set_cons_zero, List.set_cons_succ, i64_w, i32_w];rfl)
             refine done_ (done_of HT_.out (by kernel_rfl)) ?_
             try go_wp2
             go_roundg k3
             case measure => have := HK1.out; have := HJ22.out; have := HK3.out; omega
             case rel => exact ⟨(wrap64 (x9_3 + 1)), (x202000_3), (x202001_3), (x202002_3), (x202003_3), (x202004_3), (x202005_3), (x202006_3), (x202007_3), (x202008_3), (x202009_3), (x202010_3), (x202011_3), (by first | rfl | (simp; done) | (simp [*]; done)), H', ⟨by have := HK1.out; have := HJ22.out; have := HK3.out; omega⟩, ⟨by (with_reducible repeat (first | apply Kd.R_alloc | apply Kd.R_drewN | apply Kd.R_drew)); exact HO_5.out⟩, ⟨by (with_reducible repeat (first | apply Kd.R_alloc | apply Kd.R_drewN | apply Kd.R_drew)); exact HO_6.out⟩, ⟨by (with_reducible repeat (first | refine blk_drewN ?_ _ | refine blk_drew ?_ | refine blk_alloc ?_ _)); exact BK201.out⟩, ⟨by (with_reducible repeat (first | refine blk_drewN ?_ _ | refine blk_drew ?_ | refine blk_alloc ?_ _)); exact BK214.out⟩, ⟨by repeat (first | (with_reducible first | exact HB.out | apply below_alloc | apply pw_below_drewN | apply below_drew1 | refine below_set ?_ GE201.out | refine below_set ?_ GE214.out) | exact HB.out)⟩⟩
           ·rw [if_neg c33] at H
            exact absurd H (by simp)
          ·rw [if_neg c32] at H
           exact absurd H (by simp)
         ·rw [if_neg c31] at H
          have c31b0 : decide (x9_3 < (x5_1.length : Int)) = false := decide_eq_false c31
          clear c31
          by_cases c43 : 0 < (t219.length : Int)
          ·rw [if_pos c43] at H
           have c43b0 : decide (0 < (t219.length : Int)) = true := decide_eq_true c43
           have c43b1 : decide (0 < t219.length) = true := decide_eq_true (by omega)
           clear c43
           by_cases c44 : x5_1.length < 17592186044416
           ·rw [if_pos c44] at H
            have LMc44 := Aside0.mk c44
            clear c44
            obtain ⟨y228, hy228⟩ : ∃ y_ : List Int, y_ = (x5_1 ++ [rd t219 0]) := ⟨_, rfl⟩
            replace H : (if 1 < (t219.length : Int) then (if 0 ≤ (rd t219 1) then (if (rd t219 1) ≤ (t220.size : Int) then ((dominoref05_value.f x215000_1 x215001_1 x215002_1 x215003_1 x215004_1 x215005_1 x215006_1 x215007_1 x215008_1 x215009_1 x215010_1 x215011_1 (rd t219 0)).bind fun bt234 => (if bt234.2 = true then ((dominoref01_Get.f k3 (t220.extract 0 ((rd t219 1) : Int).toNat)).bind fun bt236 => (if bt236.2.2 = 0 then (if bt236.2.1.toList = ([] : List UInt8) then ((dominoref05_set.f x215000_1 x215001_1 x215002_1 x215003_1 x215004_1 x215005_1 x215006_1 x215007_1 x215008_1 x215009_1 x215010_1 x215011_1 (rd t219 0) bt236.1).bind fun bt240 => (dominoref05_Get.j3 k3 (t220.extract ((rd t219 1) : Int).toNat t220.size) y228 t219 (t220.extract 0 ((rd t219 1) : Int).toNat) bt240.1 bt240.2.1 bt240.2.2.1 bt240.2.2.2.1 bt240.2.2.2.2.1 bt240.2.2.2.2.2.1 bt240.2.2.2.2.2.2.1 bt240.2.2.2.2.2.2.2.1 bt240.2.2.2.2.2.2.2.2.1 bt240.2.2.2.2.2.2.2.2.2.1 bt240.2.2.2.2.2.2.2.2.2.2.1 bt240.2.2.2.2.2.2.2.2.2.2.2)) else (some (0, 0, 0, 0, 0, 0, 0, 0, 0, 0, 0, (⟨#[]⟩ : ByteArray), 50))) else (some (0, 0, 0, 0, 0, 0, 0, 0, 0, 0, 0, (⟨#[]⟩ : ByteArray), 50)))) else (dominoref05_Get.j3 k3 (t220.extract ((rd t219 1) : Int).toNat t220.size) y228 t219 (t220.extract 0 ((rd t219 1) : Int).toNat) x215000_1 x215001_1 x215002_1 x215003_1 x215004_1 x215005_1 x215006_1 x215007_1 x215008_1 x215009_1 x215010_1 x215011_1))) else (none)) else (none)) else (none)) = some (r1, r2, r3, r4, r5, r6, r7, r8, r9, r10, r11, r12, r13) := by first | (rw [hy228]; with_reducible exact H) | (have H2_ := (Option.bind_some _ _).symm.trans H; rw [hy228]; with_reducible exact H2_) | (have H2_ := (Option.bind_some _ _).symm.trans H; with_reducible exact H2_) | with_reducible exact H | (rw [hy228]; exact H) | exact H
            have Ny228 := Aside0.mk hy228
            clear hy228
            by_cases c45 : 1 < (t219.length : Int)
            ·rw [if_pos c45] at H
             have c45b0 : decide (1 < (t219.length : Int)) = true := decide_eq_true c45
             have c45b1 : decide (1 < t219.length) = true := decide_eq_true (by omega)
             clear c45
             by_cases c46 : 0 ≤ (rd t219 1)
             ·rw [if_pos c46] at H
              have c46b0 := eq_true c46
              have c46b1 : decide (0 ≤ (rd t219 1)) = true := decide_eq_true c46
              clear c46
              by_cases c47 : (rd t219 1) ≤ (t220.size : Int)
              ·rw [if_pos c47] at H
               have c47b0 := eq_true c47
               have c47b1 : decide ((rd t219 1) ≤ (t220.size : Int)) = true := decide_eq_true c47
               clear c47
               have c48b0 := eq_true (of_decide_eq_true (by first | (with_reducible assumption) | assumption) : 0 ≤ (rd t219 1))
               have c49b0 := eq_true (of_decide_eq_true (by first | (with_reducible assumption) | assumption) : (rd t219 1) ≤ (t220.size : Int))
               replace H := Option.bind_eq_some_iff.mp H
               obtain ⟨⟨t234, t235⟩, A500, H⟩ := H
               replace H : (if t235 = true then ((dominoref01_Get.f k3 (t220.extract 0 ((rd t219 1) : Int).toNat)).bind fun bt236 => (if bt236.2.2 = 0 then (if bt236.2.1.toList = ([] : List UInt8) then ((dominoref05_set.f x215000_1 x215001_1 x215002_1 x215003_1 x215004_1 x215005_1 x215006_1 x215007_1 x215008_1 x215009_1 x215010_1 x215011_1 (rd t219 0) bt236.1).bind fun bt240 => (dominoref05_Get.j3 k3 (t220.extract ((rd t219 1) : Int).toNat t220.size) y228 t219 (t220.extract 0 ((rd t219 1) : Int).toNat) bt240.1 bt240.2.1 bt240.2.2.1 bt240.2.2.2.1 bt240.2.2.2.2.1 bt240.2.2.2.2.2.1 bt240.2.2.2.2.2.2.1 bt240.2.2.2.2.2.2.2.1 bt240.2.2.2.2.2.2.2.2.1 bt240.2.2.2.2.2.2.2.2.2.1 bt240.2.2.2.2.2.2.2.2.2.2.1 bt240.2.2.2.2.2.2.2.2.2.2.2)) else (some (0, 0, 0, 0, 0, 0, 0, 0, 0, 0, 0, (⟨#[]⟩ : ByteArray), 50))) else (some (0, 0, 0, 0, 0, 0, 0, 0, 0, 0, 0, (⟨#[]⟩ : ByteArray), 50)))) else (dominoref05_Get.j3 k3 (t220.extract ((rd t219 1) : Int).toNat t220.size) y228 t219 (t220.extract 0 ((rd t219 1) : Int).toNat) x215000_1 x215001_1 x215002_1 x215003_1 x215004_1 x215005_1 x215006_1 x215007_1 x215008_1 x215009_1 x215010_1 x215011_1)) = some (r1, r2, r3, r4, r5, r6, r7, r8, r9, r10, r11, r12, r13) := H
               have A50 := Aside0.mk A500
               clear A500
               have HC51 := Aside0.mk H
               clear H
               obtain ⟨Ao52, co52, eo52⟩ := Kd.R_slice HO_5.out
               subst eo52
               obtain ⟨Ao53, co53, eo53⟩ := Kd.R_slice HO_6.out
               subst eo53
               have p227 : 0 ≤ (0 : Int) := (by omega)
               have q227 : 0 < (t219.length : Int) := of_decide_eq_true (by first | (with_reducible assumption) | assumption)
               obtain ⟨ad227, e227, hx227_0⟩ := Kd.at_int (Kd.R_reads' HO_6.out).2.2 0 p227 q227
               cases e227
               have qi227 : (0 < t219.length) = True := eq_true (by omega)
               (try rw [show ((0 : Int)).toNat = 0 from rfl] at hx227_0)
               (try rw [Addr.add_zero'] at hx227_0)
               replace p227 := eq_true p227
               replace q227 := eq_true q227
               try go_wp2_with (first | ((with_reducible refine gate_builtin (b := .append) (xs := #[.tmp 53, .tmp 57]) rfl ?_); (try (refine gate_guard (by rfl) ?_; dsimp only)); at_builtin; refine Kd.R_append (Kd.int .u64) (w0 := w) w.heap.size rfl (.tmp 53) (.tmp 57) 68 22 (.int .u64 0) 8 rfl Tryd.underlying68 info22 rfl (by decide) (by omega) (.slice Ao52 x5_1.length co52) x5_1 (rd t219 0) [.int .u64 (rd t219 0)] (fun k_ => some k_ ≠ (.slice (some ad227) t219.length co53 : Value).ownBlock) (fun _ => False) rfl rfl ?aP (fun _ hk => hk.elim) ?aF ?aO ?aB ?aS ?aL ?_; (case aP => exact rfl); (case aB => exact (by repeat (first | (with_reducible first | exact HB.out | apply below_alloc | apply pw_below_drewN | apply below_drew1 | refine below_set ?_ GE201.out | refine below_set ?_ GE214.out) | exact HB.out))); (case aF => exact (fun k_ hk => Kd.fresh' (Kd.R_lt (by (with_reducible repeat (first | apply Kd.R_alloc | apply Kd.R_drewN | apply Kd.R_drew)); exact HO_6.out)) k_ hk)); (case aO => exact (by (with_reducible repeat (first | apply Kd.R_alloc | apply Kd.R_drewN | apply Kd.R_drew)); exact HO_5.out)); (case aS => exact (below_size (by repeat (first | (with_reducible first | exact HB.out | apply below_alloc | apply pw_below_drewN | apply below_drew1 | refine below_set ?_ GE201.out | refine below_set ?_ GE214.out) | exact HB.out)))); (case aL => have := LMc44.out; omega); intro v229 w54 ho hb hg hat; rw [← Ny228.out] at ho; have n0_ := Aside0.mk (Kd.R_after (ok := (fun _ => True)) (by (with_reducible repeat (first | apply Kd.R_alloc | apply Kd.R_drewN | apply Kd.R_drew)); exact Kd.R_mono HO_6.out (fun _ hk => ⟨trivial, hk⟩)) hg hat); have n1_ := Aside0.mk (blk_grown (g := gb201) (o := .cells #[.int .u64 x202000_3, .int .u64 x202001_3, .int .u64 x202002_3, .int .u64 x202003_3, .int .u64 x202004_3, .int .u64 x202005_3, .int .u64 x202006_3, .int .u64 x202007_3, .int .u64 x202008_3, .int .u64 x202009_3, .int .u64 x202010_3, .string x202011_3] 26 (0, 0)) (by (with_reducible repeat (first | refine blk_drewN ?_ _ | refine blk_drew ?_ | refine blk_alloc ?_ _)); exact BK201.out) hg (Kd.R_ne HO_5.out BK201.out (by decide))); have n2_ := Aside0.mk (blk_grown (g := gb214) (o := .cells #[.int .u64 x215000_1, .int .u64 x215001_1, .int .u64 x215002_1, .int .u64 x215003_1, .int .u64 x215004_1, .int .u64 x215005_1, .int .u64 x215006_1, .int .u64 x215007_1, .int .u64 x215008_1, .int .u64 x215009_1, .int .u64 x215010_1, .string x215011_1] 26 (0, 0)) (by (with_reducible repeat (first | refine blk_drewN ?_ _ | refine blk_drew ?_ | refine blk_alloc ?_ _)); exact BK214.out) hg (Kd.R_ne HO_5.out BK214.out (by decide))); have n3_ := Aside0.mk (hb); have n4_ := Aside0.mk (ho); clear HO_6; clear BK201; clear BK214; clear HB; clear HO_5; have HO_6 := n0_; have BK201 := n1_; have BK214 := n2_; have HB := n3_; have HO230 := n4_; clear n0_ n1_ n2_ n3_ n4_; clear ho hb hg hat; have p231 : 0 ≤ (1 : Int) := (by omega); have q231 : 1 < (t219.length : Int) := of_decide_eq_true (by first | (with_reducible assumption) | assumption); obtain ⟨ad231, e231, hx231_0⟩ := Kd.at_int (Kd.R_reads' HO_6.out).2.2 1 p231 q231; obtain rfl : ad227 = ad231 := (by injection e231); (try simp only [show (1 : Int).toNat = 1 from rfl, Nat.reduceMul, Nat.reduceEqDiff, Go.Addr.add, ↓reduceIte] at hx231_0); have qi231 : (1 < t219.length) = True := eq_true (by omega); (try rw [show ((1 : Int)).toNat = 1 from rfl] at hx231_0); replace p231 := eq_true p231; replace q231 := eq_true q231; have p232 : 0 ≤ (1 : Int) := (by omega); have q232 : 1 < (t219.length : Int) := of_decide_eq_true (by first | (with_reducible assumption) | assumption); obtain ⟨ad232, e232, hx232_0⟩ := Kd.at_int (Kd.R_reads' HO_6.out).2.2 1 p232 q232; obtain rfl : ad227 = ad232 := (by injection e232); (try simp only [show (1 : Int).toNat = 1 from rfl, Nat.reduceMul, Nat.reduceEqDiff, Go.Addr.add, ↓reduceIte] at hx232_0); have qi232 : (1 < t219.length) = True := eq_true (by omega); (try rw [show ((1 : Int)).toNat = 1 from rfl] at hx232_0); replace p232 := eq_true p232; replace q232 := eq_true q232))
               have n0_ := Aside0.mk (Kd.R_drew HO_6.out)
               have n1_ := Aside0.mk (Kd.R_drew HO230.out)
               have n2_ := Aside0.mk (blk_drew BK201.out)
               have n3_ := Aside0.mk (blk_drew BK214.out)
               have n4_ := Aside0.mk (below_drew1 HB.out)
               clear HO_6
               clear HO230
               clear BK201
               clear BK214
               clear HB
               have HO_6 := n0_
               have HO230 := n1_
               have BK201 := n2_
               have BK214 := n3_
               have HB := n4_
               clear n0_ n1_ n2_ n3_ n4_
               have p233 : 0 ≤ (0 : Int) := (by omega)
               have q233 : 0 < (t219.length : Int) := of_decide_eq_true (by first | (with_reducible assumption) | assumption)
               obtain ⟨ad233, e233, hx233_0⟩ := Kd.at_int (Kd.R_reads' HO_6.out).2.2 0 p233 q233
               obtain rfl : ad227 = ad233 := (by injection e233)
               have qi233 : (0 < t219.length) = True := eq_true (by omega)
               (try rw [show ((0 : Int)).toNat = 0 from rfl] at hx233_0)
               (try rw [Addr.add_zero'] at hx233_0)
               replace p233 := eq_true p233
               replace q233 := eq_true q233
               refine start_ (n := 10) (S := fun w' => w'.cell? ⟨gb214, 0, none⟩ = some (.int .u64 x215000_1) ∧ w'.cell? ⟨gb214, 1, none⟩ = some (.int .u64 x215001_1) ∧ w'.cell? ⟨gb214, 2, none⟩ = some (.int .u64 x215002_1) ∧ w'.cell? ⟨gb214, 3, none⟩ = some (.int .u64 x215003_1) ∧ w'.cell? ⟨gb214, 4, none⟩ = some (.int .u64 x215004_1) ∧ w'.cell? ⟨gb214, 5, none⟩ = some (.int .u64 x215005_1) ∧ w'.cell? ⟨gb214, 6, none⟩ = some (.int .u64 x215006_1) ∧ w'.cell? ⟨gb214, 7, none⟩ = some (.int .u64 x215007_1) ∧ w'.cell? ⟨gb214, 8, none⟩ = some (.int .u64 x215008_1) ∧ w'.cell? ⟨gb214, 9, none⟩ = some (.int .u64 x215009_1) ∧ w'.cell? ⟨gb214, 10, none⟩ = some (.int .u64 x215010_1) ∧ w'.cell? ⟨gb214, 11, none⟩ = some (.string x215011_1) ∧ w'.cell? ad227 = some (.int .u64 (rd t219 0))) (ds := []) #[false,false,false,false,false,false,false,false,false,false] (by kernel_rfl) rfl rfl ⟨(blk_cell BK214.out 0).trans rfl, (blk_cell BK214.out 1).trans rfl, (blk_cell BK214.out 2).trans rfl, (blk_cell BK214.out 3).trans rfl, (blk_cell BK214.out 4).trans rfl, (blk_cell BK214.out 5).trans rfl, (blk_cell BK214.out 6).trans rfl, (blk_cell BK214.out 7).trans rfl, (blk_cell BK214.out 8).trans rfl, (blk_cell BK214.out 9).trans rfl, (blk_cell BK214.out 10).trans rfl, (blk_cell BK214.out 11).trans rfl, hx233_0⟩ (fun hHeld => ?_); refine with_tabW dominoref05_Get.tab15 dominoref05_Get.bits15 (fun HT_ HW_ => ?_)
               generalize w54.drew = w55 at HO_6 HO230 BK201 BK214 HB hx233_0 hHeld ⊢
               refine pure_ (i := 1) (N := some 71) (v := ?_) (a' := ?_) #[false,true,false,false,false,false,false,false,false,false] rfl rfl (any_of HT_.out (by kernel_rfl)) (fun _ _ _ h => h) (Or.inl ⟨by rfl, ?_⟩) ?_ ?_
               rotate_left;(intro w';go_simp;with_reducible rfl);rotate_left;(simp only [Act.put, List.setIfInBounds_toArray, List.set_cons_zero, List.set_cons_succ, i64_w, i32_w];rfl)
               refine pure_ (i := 2) (N := some 72) (v := ?_) (a' := ?_) #[false,true,true,false,false,false,false,false,false,false] rfl rfl (any_of HT_.out (by kernel_rfl)) (fun _ _ _ h => h) (Or.inl ⟨by rfl, ?_⟩) ?_ ?_
               rotate_left;(intro w';go_simp;with_reducible rfl);rotate_left;(simp only [Act.put, List.setIfInBounds_toArray, List.set_cons_zero, List.set_cons_succ, i64_w, i32_w];rfl)
               refine take_ (i := 0) (N := some 70) (v := ?_) (a' := ?_) #[true,true,true,false,false,false,false,false,false,false] rfl rfl (take_ofW HT_.out HW_.out (by kernel_rfl)) (fun _ _ _ h => h) (Or.inl ⟨by rfl, ?_⟩) hHeld ?_ ?_
               rotate_left
               ·rintro w' ⟨s0, s1, s2, s3, s4, s5, s6, s7, s8, s9, s10, s11, s12⟩
                go_simp
                with_reducible rfl
               rotate_left
               ·simp only [Act.put, List.setIfInBounds_toArray, List.set_cons_zero, List.set_cons_succ, i64_w, i32_w]
                rfl
               refine take_ (i := 3) (N := some 73) (v := ?_) (a' := ?_) #[true,true,true,true,false,false,false,false,false,false] rfl rfl (take_ofW HT_.out HW_.out (by kernel_rfl)) (fun _ _ _ h => h) (Or.inl ⟨by rfl, ?_⟩) hHeld ?_ ?_
               rotate_left
               ·rintro w' ⟨s0, s1, s2, s3, s4, s5, s6, s7, s8, s9, s10, s11, s12⟩
                go_simp
                with_reducible rfl
               rotate_left
               ·simp only [Act.put, List.setIfInBounds_toArray, List.set_cons_zero, List.set_cons_succ, i64_w, i32_w]
                rfl
               refine one_ (i := 4) (N := some 74) #[true,true,true,true,true,false,false,false,false,false] rfl rfl (one_of HT_.out (by kernel_rfl)) (by decide) (fun K hK => ?_)
               refine goes_ Tryd.func22 (by kernel_rfl) rfl #[.agg #[.int .u64 x215000_1, .int .u64 x215001_1, .int .u64 x215002_1, .int .u64 x215003_1, .int .u64 x215004_1, .int .u64 x215005_1, .int .u64 x215006_1, .int .u64 x215007_1, .int .u64 x215008_1, .int .u64 x215009_1, .int .u64 x215010_1, .string x215011_1], .int .u64 (rd t219 0)] (by rfl) rfl rfl (by (try simp only [List.map_toArray, List.map_cons, List.map_nil]); first | done | rfl | (simp only [List.length_drop, List.length_take]; rfl)) ?_
               with_reducible refine (dominoref05_value.calls x215000_1 x215001_1 x215002_1 x215003_1 x215004_1 x215005_1 x215006_1 x215007_1 x215008_1 x215009_1 x215010_1 x215011_1 (rd t219 0) t234 t235 _ A50.out).mono ?_
               rintro e w56 ⟨rfl, hb⟩
               have HS12_ := (hb.cell (World.block_lt_of_cell? _ _ (hHeld.2.2.2.2.2.2.2.2.2.2.2.2))).trans (hHeld.2.2.2.2.2.2.2.2.2.2.2.2)
               refine ⟨_, rfl, ?_⟩
               have n0_ := Aside0.mk (Kd.R_below (by (with_reducible repeat (first | apply Kd.R_alloc | apply Kd.R_drewN | apply Kd.R_drew)); exact HO_6.out) hb)
               have n1_ := Aside0.mk (Kd.R_below (by (with_reducible repeat (first | apply Kd.R_alloc | apply Kd.R_drewN | apply Kd.R_drew)); exact HO230.out) hb)
               have n2_ := Aside0.mk (blk_below (g := gb201) (o := .cells #[.int .u64 x202000_3, .int .u64 x202001_3, .int .u64 x202002_3, .int .u64 x202003_3, .int .u64 x202004_3, .int .u64 x202005_3, .int .u64 x202006_3, .int .u64 x202007_3, .int .u64 x202008_3, .int .u64 x202009_3, .int .u64 x202010_3, .string x202011_3] 26 (0, 0)) (by (with_reducible repeat (first | refine blk_drewN ?_ _ | refine blk_drew ?_ | refine blk_alloc ?_ _)); exact BK201.out) hb)
               have n3_ := Aside0.mk (blk_below (g := gb214) (o := .cells #[.int .u64 x215000_1, .int .u64 x215001_1, .int .u64 x215002_1, .int .u64 x215003_1, .int .u64 x215004_1, .int .u64 x215005_1, .int .u64 x215006_1, .int .u64 x215007_1, .int .u64 x215008_1, .int .u64 x215009_1, .int .u64 x215010_1, .string x215011_1] 26 (0, 0)) (by (with_reducible repeat (first | refine blk_drewN ?_ _ | refine blk_drew ?_ | refine blk_alloc ?_ _)); exact BK214.out) hb)
               have n4_ := Aside0.mk (below_step (by repeat (first | (with_reducible first | exact HB.out | apply below_alloc | apply pw_below_drewN | apply below_drew1 | refine below_set ?_ GE201.out | refine below_set ?_ GE214.out) | exact HB.out)) hb)
               clear HO_6
               clear HO230
               clear BK201
               clear BK214
               clear HB
               have HO_6 := n0_
               have HO230 := n1_
               have BK201 := n2_
               have BK214 := n3_
               have HB := n4_
               clear n0_ n1_ n2_ n3_ n4_
               (try clear hb)
               (try clear hb2)
               (try clear hk)
               (try clear hi)
               refine hK.out _ _ ⟨(blk_cell BK214.out 0).trans rfl, (blk_cell BK214.out 1).trans rfl, (blk_cell BK214.out 2).trans rfl, (blk_cell BK214.out 3).trans rfl, (blk_cell BK214.out 4).trans rfl, (blk_cell BK214.out 5).trans rfl, (blk_cell BK214.out 6).trans rfl, (blk_cell BK214.out 7).trans rfl, (blk_cell BK214.out 8).trans rfl, (blk_cell BK214.out 9).trans rfl, (blk_cell BK214.out 10).trans rfl, (blk_cell BK214.out 11).trans rfl, HS12_⟩ (fun hHeld => ?_)
               clear hK K
               refine norm_ (a' := ?_) ?_ ?_
               rotate_left
               ·show Act.put _ (some 74) _ = _
                simp only [Act.put, List.setIfInBounds_toArray, List.set_cons_zero, List.set_cons_succ, i64_w, i32_w]
                rfl
               refine pure_ (i := 5) (N := some 69) (v := ?_) (a' := ?_) #[true,true,true,true,true,true,false,false,false,false] rfl rfl (any_of HT_.out (by kernel_rfl)) (fun _ _ _ h => h) (Or.inl ⟨by rfl, ?_⟩) ?_ ?_
               rotate_left;(intro w';go_simp;with_reducible rfl);rotate_left;(simp only [Act.put, List.setIfInBounds_toArray, List.set_cons_zero, List.set_cons_succ, i64_w, i32_w];rfl)
               refine pure_ (i := 6) (N := some 75) (v := ?_) (a' := ?_) #[true,true,true,true,true,true,true,false,false,false] rfl rfl (any_of HT_.out (by kernel_rfl)) (fun _ _ _ h => h) (Or.inl ⟨by rfl, ?_⟩) ?_ ?_
               rotate_left;(intro w';go_simp;with_reducible rfl);rotate_left;(simp only [Act.put, List.setIfInBounds_toArray, List.set_cons_zero, List.set_cons_succ, i64_w, i32_w];rfl)
               refine pure_ (i := 7) (N := some 76) (v := ?_) (a' := ?_) #[true,true,true,true,true,true,true,true,false,false] rfl rfl (any_of HT_.out (by kernel_rfl)) (fun _ _ _ h => h) (Or.inl ⟨by rfl, ?_⟩) ?_ ?_
               rotate_left;(intro w';go_simp;with_reducible rfl);rotate_left;(simp only [Act.put, List.setIfInBounds_toArray, List.set_cons_zero, List.set_cons_succ, i64_w, i32_w];rfl)
               refine pure_ (i := 8) (N := some 11) (v := ?_) (a' := ?_) #[true,true,true,true,true,true,true,true,true,false] rfl rfl (any_of HT_.out (by kernel_rfl)) (fun _ _ _ h => h) (Or.inl ⟨by rfl, ?_⟩) ?_ ?_
               rotate_left;(intro w';go_simp;with_reducible rfl);rotate_left;(simp only [Act.put, List.setIfInBounds_toArray, List.set_cons_zero, List.set_cons_succ, i64_w, i32_w];rfl)
               refine pure_ (i := 9) (N := some 12) (v := ?_) (a' := ?_) #[true,true,true,true,true,true,true,true,true,true] rfl rfl (any_of HT_.out (by kernel_rfl)) (fun _ _ _ h => h) (Or.inl ⟨by rfl, ?_⟩) ?_ ?_
               rotate_left;(intro w';go_simp;with_reducible rfl);rotate_left;(simp only [Act.put, List.setIfInBounds_toArray, List.set_cons_zero, List.set_cons_succ, i64_w, i32_w];rfl)
               refine done_ (done_of HT_.out (by kernel_rfl)) ?_
               go_upto_if 77 with (fail)
               go_cut [] (fun wc => ∃ (kq : Nat) (x202000_50 : Int) (x202001_50 : Int) (x202002_50 : Int) (x202003_50 : Int) (x202004_50 : Int) (x202005_50 : Int) (x202006_50 : Int) (x202007_50 : Int) (x202008_50 : Int) (x202009_50 : Int) (x202010_50 : Int) (x202011_50 : ByteArray) (x215000_50 : Int) (x215001_50 : Int) (x215002_50 : Int) (x215003_50 : Int) (x215004_50 : Int) (x215005_50 : Int) (x215006_50 : Int) (x215007_50 : Int) (x215008_50 : Int) (x215009_50 : Int) (x215010_50 : Int) (x215011_50 : ByteArray), Aside0 (dominoref05_Get.j3 kq (t220.extract ((rd t219 1) : Int).toNat t220.size) y228 t219 (t220.extract 0 ((rd t219 1) : Int).toNat) x215000_50 x215001_50 x215002_50 x215003_50 x215004_50 x215005_50 x215006_50 x215007_50 x215008_50 x215009_50 x215010_50 x215011_50 = some (r1, r2, r3, r4, r5, r6, r7, r8, r9, r10, r11, r12, r13)) ∧ Aside0 (kq ≤ k3) ∧ Aside0 (Kd.R (Kd.int .u64) 22 wc w.heap.size (fun k_ => some k_ ≠ ((.slice (some ad227) t219.length co53) : Value).ownBlock) v229 y228) ∧ Aside0 (Kd.R (Kd.int .u64) 22 wc w.heap.size (fun k_ => some k_ ≠ (v229 : Value).ownBlock) (.slice (some ad227) t219.length co53) t219) ∧ Aside0 (wc.heap[gb201]? = some (.cells #[.int .u64 x202000_50, .int .u64 x202001_50, .int .u64 x202002_50, .int .u64 x202003_50, .int .u64 x202004_50, .int .u64 x202005_50, .int .u64 x202006_50, .int .u64 x202007_50, .int .u64 x202008_50, .int .u64 x202009_50, .int .u64 x202010_50, .string x202011_50] 26 (0, 0))) ∧ Aside0 (wc.heap[gb214]? = some (.cells #[.int .u64 x215000_50, .int .u64 x215001_50, .int .u64 x215002_50, .int .u64 x215003_50, .int .u64 x215004_50, .int .u64 x215005_50, .int .u64 x215006_50, .int .u64 x215007_50, .int .u64 x215008_50, .int .u64 x215009_50, .int .u64 x215010_50, .string x215011_50] 26 (0, 0))) ∧ Aside0 (Below w.heap.size w wc))
               case first =>
                have H := HC51.out
                clear HC51
                by_cases c57 : t235 = true
                ·subst c57
                 have H1 : ((dominoref01_Get.f k3 (t220.extract 0 ((rd t219 1) : Int).toNat)).bind fun bt236 => (if bt236.2.2 = 0 then (if bt236.2.1.toList = ([] : List UInt8) then ((dominoref05_set.f x215000_1 x215001_1 x215002_1 x215003_1 x215004_1 x215005_1 x215006_1 x215007_1 x215008_1 x215009_1 x215010_1 x215011_1 (rd t219 0) bt236.1).bind fun bt240 => (dominoref05_Get.j3 k3 (t220.extract ((rd t219 1) : Int).toNat t220.size) y228 t219 (t220.extract 0 ((rd t219 1) : Int).toNat) bt240.1 bt240.2.1 bt240.2.2.1 bt240.2.2.2.1 bt240.2.2.2.2.1 bt240.2.2.2.2.2.1 bt240.2.2.2.2.2.2.1 bt240.2.2.2.2.2.2.2.1 bt240.2.2.2.2.2.2.2.2.1 bt240.2.2.2.2.2.2.2.2.2.1 bt240.2.2.2.2.2.2.2.2.2.2.1 bt240.2.2.2.2.2.2.2.2.2.2.2)) else (some (0, 0, 0, 0, 0, 0, 0, 0, 0, 0, 0, (⟨#[]⟩ : ByteArray), 50))) else (some (0, 0, 0, 0, 0, 0, 0, 0, 0, 0, 0, (⟨#[]⟩ : ByteArray), 50)))) = some (r1, r2, r3, r4, r5, r6, r7, r8, r9, r10, r11, r12, r13) := by rw [if_pos rfl] at H; exact H
                 clear H
                 have H := H1
                 clear H1
                 replace H := Option.bind_eq_some_iff.mp H
                 obtain ⟨⟨t236, t237, t238⟩, A580, H⟩ := H
                 replace H : (if t238 = 0 then (if t237.toList = ([] : List UInt8) then ((dominoref05_set.f x215000_1 x215001_1 x215002_1 x215003_1 x215004_1 x215005_1 x215006_1 x215007_1 x215008_1 x215009_1 x215010_1 x215011_1 (rd t219 0) t236).bind fun bt240 => (dominoref05_Get.j3 k3 (t220.extract ((rd t219 1) : Int).toNat t220.size) y228 t219 (t220.extract 0 ((rd t219 1) : Int).toNat) bt240.1 bt240.2.1 bt240.2.2.1 bt240.2.2.2.1 bt240.2.2.2.2.1 bt240.2.2.2.2.2.1 bt240.2.2.2.2.2.2.1 bt240.2.2.2.2.2.2.2.1 bt240.2.2.2.2.2.2.2.2.1 bt240.2.2.2.2.2.2.2.2.2.1 bt240.2.2.2.2.2.2.2.2.2.2.1 bt240.2.2.2.2.2.2.2.2.2.2.2)) else (some (0, 0, 0, 0, 0, 0, 0, 0, 0, 0, 0, (⟨#[]⟩ : ByteArray), 50))) else (some (0, 0, 0, 0, 0, 0, 0, 0, 0, 0, 0, (⟨#[]⟩ : ByteArray), 50))) = some (r1, r2, r3, r4, r5, r6, r7, r8, r9, r10, r11, r12, r13) := H
                 have A58 := Aside0.mk A580
                 clear A580
                 by_cases c59 : t238 = 0
                 ·rw [if_pos c59] at H
                  have c59b0 : (t238 == 0) = true := beq_iff_eq.mpr c59
                  have c59b1 : (t238 != 0) = false := bne_eq_false_iff_eq.mpr c59
                  clear c59
                  (first | rw [c59b0] | (simp only [i64_w, i32_w]; rw [c59b0]) | skip)
                  by_cases c60 : t237.toList = ([] : List UInt8)
                  ·rw [if_pos c60] at H
                   have c60b0 : (t237.toList == ([] : List UInt8)) = true := beq_iff_eq.mpr c60
                   have c60b1 : (t237.toList != ([] : List UInt8)) = false := bne_eq_false_iff_eq.mpr c60
                   clear c60
                   replace H := Option.bind_eq_some_iff.mp H
                   obtain ⟨⟨t240, t241, t242, t243, t244, t245, t246, t247, t248, t249, t250, t251⟩, A610, H⟩ := H
                   replace H : (dominoref05_Get.j3 k3 (t220.extract ((rd t219 1) : Int).toNat t220.size) y228 t219 (t220.extract 0 ((rd t219 1) : Int).toNat) t240 t241 t242 t243 t244 t245 t246 t247 t248 t249 t250 t251) = some (r1, r2, r3, r4, r5, r6, r7, r8, r9, r10, r11, r12, r13) := H
                   have A61 := Aside0.mk A610
                   clear A610
                   have H' := Aside0.mk H
                   clear H
                   try go_wp2_with (first | ((with_reducible refine gate_callee (f := 27) rfl ?_); refine goesL_ (some 80) rfl rfl Tryd.func27 (by kernel_rfl) rfl #[.string (t220.extract 0 ((rd t219 1) : Int).toNat)] rfl (by (try simp only [List.map_toArray, List.map_cons, List.map_nil]); first | done | rfl | (simp only [List.length_drop, List.length_take]; rfl)) ?_; (with_reducible refine (dominoref01_Get.calls k3 (t220.extract 0 ((rd t219 1) : Int).toNat) t236 t237 t238 _ A58.out).mono ?_); rintro e w' ⟨rfl, ⟨nd, rfl⟩⟩; refine ⟨_, rfl, ?_⟩; (try (rw [drewN_self w56]; generalize hq_ : World.drewN w56 _ = w56; have n0_ : Aside0 (Kd.R (Kd.int .u64) 22 w56 w.heap.size (fun k_ => some k_ ≠ (.slice (some ad227) t219.length co53 : Value).ownBlock) v229 y228) := ⟨by rw [← hq_]; exact (by (with_reducible repeat (first | apply Kd.R_alloc | apply Kd.R_drewN | apply Kd.R_drew)); exact HO230.out)⟩; have n1_ : Aside0 (Kd.R (Kd.int .u64) 22 w56 w.heap.size (fun k_ => some k_ ≠ (v229 : Value).ownBlock) (.slice (some ad227) t219.length co53) t219) := ⟨by rw [← hq_]; exact (by (with_reducible repeat (first | apply Kd.R_alloc | apply Kd.R_drewN | apply Kd.R_drew)); exact Kd.R_mono HO_6.out (fun _ hk => hk.2))⟩; have n2_ : Aside0 (w56.heap[gb201]? = some (.cells #[.int .u64 x202000_3, .int .u64 x202001_3, .int .u64 x202002_3, .int .u64 x202003_3, .int .u64 x202004_3, .int .u64 x202005_3, .int .u64 x202006_3, .int .u64 x202007_3, .int .u64 x202008_3, .int .u64 x202009_3, .int .u64 x202010_3, .string x202011_3] 26 (0, 0))) := ⟨by rw [← hq_]; exact (by (with_reducible repeat (first | refine blk_drewN ?_ _ | refine blk_drew ?_ | refine blk_alloc ?_ _)); exact BK201.out)⟩; have n3_ : Aside0 (w56.heap[gb214]? = some (.cells #[.int .u64 x215000_1, .int .u64 x215001_1, .int .u64 x215002_1, .int .u64 x215003_1, .int .u64 x215004_1, .int .u64 x215005_1, .int .u64 x215006_1, .int .u64 x215007_1, .int .u64 x215008_1, .int .u64 x215009_1, .int .u64 x215010_1, .string x215011_1] 26 (0, 0))) := ⟨by rw [← hq_]; exact (by (with_reducible repeat (first | refine blk_drewN ?_ _ | refine blk_drew ?_ | refine blk_alloc ?_ _)); exact BK214.out)⟩; have n4_ : Aside0 (Below w.heap.size w w56) := ⟨by rw [← hq_]; exact (by repeat (first | (with_reducible first | exact HB.out | apply below_alloc | apply pw_below_drewN | apply below_drew1 | refine below_set ?_ GE201.out | refine below_set ?_ GE214.out) | exact HB.out))⟩; clear HO230 HO_6 BK201 BK214 HB hq_; have HO230 := n0_; have HO_6 := n1_; have BK201 := n2_; have BK214 := n3_; have HB := n4_; clear n0_ n1_ n2_ n3_ n4_))))
                   have n0_ := Aside0.mk (Kd.R_drew HO_6.out)
                   have n1_ := Aside0.mk (Kd.R_drew HO230.out)
                   have n2_ := Aside0.mk (blk_drew BK201.out)
                   have n3_ := Aside0.mk (blk_drew BK214.out)
                   have n4_ := Aside0.mk (below_drew1 HB.out)
                   clear HO_6
                   clear HO230
                   clear BK201
                   clear BK214
                   clear HB
                   have HO_6 := n0_
                   have HO230 := n1_
                   have BK201 := n2_
                   have BK214 := n3_
                   have HB := n4_
                   clear n0_ n1_ n2_ n3_ n4_
                   have p239 : 0 ≤ (0 : Int) := (by omega)
                   have q239 : 0 < (t219.length : Int) := of_decide_eq_true (by first | (with_reducible assumption) | assumption)
                   obtain ⟨ad239, e239, hx239_0⟩ := Kd.at_int (Kd.R_reads' HO_6.out).2.2 0 p239 q239
                   obtain rfl : ad227 = ad239 := (by injection e239)
                   have qi239 : (0 < t219.length) = True := eq_true (by omega)
                   (try rw [show ((0 : Int)).toNat = 0 from rfl] at hx239_0)
                   (try rw [Addr.add_zero'] at hx239_0)
                   replace p239 := eq_true p239
                   replace q239 := eq_true q239
                   refine start_ (n := 7) (S := fun w' => w'.cell? ⟨gb214, 0, none⟩ = some (.int .u64 x215000_1) ∧ w'.cell? ⟨gb214, 1, none⟩ = some (.int .u64 x215001_1) ∧ w'.cell? ⟨gb214, 2, none⟩ = some (.int .u64 x215002_1) ∧ w'.cell? ⟨gb214, 3, none⟩ = some (.int .u64 x215003_1) ∧ w'.cell? ⟨gb214, 4, none⟩ = some (.int .u64 x215004_1) ∧ w'.cell? ⟨gb214, 5, none⟩ = some (.int .u64 x215005_1) ∧ w'.cell? ⟨gb214, 6, none⟩ = some (.int .u64 x215006_1) ∧ w'.cell? ⟨gb214, 7, none⟩ = some (.int .u64 x215007_1) ∧ w'.cell? ⟨gb214, 8, none⟩ = some (.int .u64 x215008_1) ∧ w'.cell? ⟨gb214, 9, none⟩ = some (.int .u64 x215009_1) ∧ w'.cell? ⟨gb214, 10, none⟩ = some (.int .u64 x215010_1) ∧ w'.cell? ⟨gb214, 11, none⟩ = some (.string x215011_1) ∧ w'.cell? ad227 = some (.int .u64 (rd t219 0))) (ds := [6]) #[false,false,false,false,false,false,false] (by kernel_rfl) rfl rfl ⟨(blk_cell BK214.out 0).trans rfl, (blk_cell BK214.out 1).trans rfl, (blk_cell BK214.out 2).trans rfl, (blk_cell BK214.out 3).trans rfl, (blk_cell BK214.out 4).trans rfl, (blk_cell BK214.out 5).trans rfl, (blk_cell BK214.out 6).trans rfl, (blk_cell BK214.out 7).trans rfl, (blk_cell BK214.out 8).trans rfl, (blk_cell BK214.out 9).trans rfl, (blk_cell BK214.out 10).trans rfl, (blk_cell BK214.out 11).trans rfl, hx239_0⟩ (fun hHeld => ?_)
                   generalize w56.drew = w62 at HO_6 HO230 BK201 BK214 HB hx239_0 hHeld ⊢
                   refine pure_ (i := 1) (N := some 92) (v := ?_) (a' := ?_) #[false,true,false,false,false,false,false] rfl rfl (by kernel_rfl) (fun _ _ _ h => h) (Or.inl ⟨by rfl, ?_⟩) ?_ ?_
                   rotate_left;(intro w';go_simp;with_reducible rfl);rotate_left;(simp only [Act.put, List.setIfInBounds_toArray, List.set_cons_zero, List.set_cons_succ, i64_w, i32_w];rfl)
                   refine pure_ (i := 2) (N := some 93) (v := ?_) (a' := ?_) #[false,true,true,false,false,false,false] rfl rfl (by kernel_rfl) (fun _ _ _ h => h) (Or.inl ⟨by rfl, ?_⟩) ?_ ?_
                   rotate_left;(intro w';go_simp;with_reducible rfl);rotate_left;(simp only [Act.put, List.setIfInBounds_toArray, List.set_cons_zero, List.set_cons_succ, i64_w, i32_w];rfl)
                   refine pure_ (i := 4) (N := some 95) (v := ?_) (a' := ?_) #[false,true,true,false,true,false,false] rfl rfl (by kernel_rfl) (fun _ _ _ h => h) (Or.inl ⟨by rfl, ?_⟩) ?_ ?_
                   rotate_left;(intro w';go_simp;with_reducible rfl);rotate_left;(simp only [Act.put, List.setIfInBounds_toArray, List.set_cons_zero, List.set_cons_succ, i64_w, i32_w];rfl)
                   refine take_ (i := 0) (N := some 91) (v := ?_) (a' := ?_) #[true,true,true,false,true,false,false] rfl rfl (by kernel_rfl) (fun _ _ _ h => h) (Or.inl ⟨by rfl, ?_⟩) hHeld ?_ ?_
                   rotate_left
                   ·rintro w' ⟨s0, s1, s2, s3, s4, s5, s6, s7, s8, s9, s10, s11, s12⟩
                    go_simp
                    with_reducible rfl
                   rotate_left
                   ·simp only [Act.put, List.setIfInBounds_toArray, List.set_cons_zero, List.set_cons_succ, i64_w, i32_w]
                    rfl
                   refine take_ (i := 3) (N := some 94) (v := ?_) (a' := ?_) #[true,true,true,true,true,false,false] rfl rfl (by kernel_rfl) (fun _ _ _ h => h) (Or.inl ⟨by rfl, ?_⟩) hHeld ?_ ?_
                   rotate_left
                   ·rintro w' ⟨s0, s1, s2, s3, s4, s5, s6, s7, s8, s9, s10, s11, s12⟩
                    go_simp
                    with_reducible rfl
                   rotate_left
                   ·simp only [Act.put, List.setIfInBounds_toArray, List.set_cons_zero, List.set_cons_succ, i64_w, i32_w]
                    rfl
                   refine one_ (i := 5) (N := some 96) #[true,true,true,true,true,true,false] rfl rfl (by kernel_rfl) (by decide) (fun K hK => ?_)
                   refine goes_ Tryd.func28 (by kernel_rfl) rfl #[.agg #[.int .u64 x215000_1, .int .u64 x215001_1, .int .u64 x215002_1, .int .u64 x215003_1, .int .u64 x215004_1, .int .u64 x215005_1, .int .u64 x215006_1, .int .u64 x215007_1, .int .u64 x215008_1, .int .u64 x215009_1, .int .u64 x215010_1, .string x215011_1], .int .u64 (rd t219 0), .int .u64 t236] (by rfl) rfl rfl (by (try simp only [List.map_toArray, List.map_cons, List.map_nil]); first | done | rfl | (simp only [List.length_drop, List.length_take]; rfl)) ?_
                   with_reducible refine (dominoref05_set.calls x215000_1 x215001_1 x215002_1 x215003_1 x215004_1 x215005_1 x215006_1 x215007_1 x215008_1 x215009_1 x215010_1 x215011_1 (rd t219 0) t236 t240 t241 t242 t243 t244 t245 t246 t247 t248 t249 t250 t251 _ A61.out).mono ?_
                   rintro e w63 ⟨rfl, hb⟩
                   have HS12_ := (hb.cell (World.block_lt_of_cell? _ _ (hHeld.2.2.2.2.2.2.2.2.2.2.2.2))).trans (hHeld.2.2.2.2.2.2.2.2.2.2.2.2)
                   refine ⟨_, rfl, ?_⟩
                   have n0_ := Aside0.mk (Kd.R_below (by (with_reducible repeat (first | apply Kd.R_alloc | apply Kd.R_drewN | apply Kd.R_drew)); exact HO_6.out) hb)
                   have n1_ := Aside0.mk (Kd.R_below (by (with_reducible repeat (first | apply Kd.R_alloc | apply Kd.R_drewN | apply Kd.R_drew)); exact HO230.out) hb)
                   have n2_ := Aside0.mk (blk_below (g := gb201) (o := .cells #[.int .u64 x202000_3, .int .u64 x202001_3, .int .u64 x202002_3, .int .u64 x202003_3, .int .u64 x202004_3, .int .u64 x202005_3, .int .u64 x202006_3, .int .u64 x202007_3, .int .u64 x202008_3, .int .u64 x202009_3, .int .u64 x202010_3, .string x202011_3] 26 (0, 0)) (by (with_reducible repeat (first | refine blk_drewN ?_ _ | refine blk_drew ?_ | refine blk_alloc ?_ _)); exact BK201.out) hb)
                   have n3_ := Aside0.mk (blk_below (g := gb214) (o := .cells #[.int .u64 x215000_1, .int .u64 x215001_1, .int .u64 x215002_1, .int .u64 x215003_1, .int .u64 x215004_1, .int .u64 x215005_1, .int .u64 x215006_1, .int .u64 x215007_1, .int .u64 x215008_1, .int .u64 x215009_1, .int .u64 x215010_1, .string x215011_1] 26 (0, 0)) (by (with_reducible repeat (first | refine blk_drewN ?_ _ | refine blk_drew ?_ | refine blk_alloc ?_ _)); exact BK214.out) hb)
                   have n4_ := Aside0.mk (below_step (by repeat (first | (with_reducible first | exact HB.out | apply below_alloc | apply pw_below_drewN | apply below_drew1 | refine below_set ?_ GE201.out | refine below_set ?_ GE214.out) | exact HB.out)) hb)
                   clear HO_6
                   clear HO230
                   clear BK201
                   clear BK214
                   clear HB
                   have HO_6 := n0_
                   have HO230 := n1_
                   have BK201 := n2_
                   have BK214 := n3_
                   have HB := n4_
                   clear n0_ n1_ n2_ n3_ n4_
                   (try clear hb)
                   (try clear hb2)
                   (try clear hk)
                   (try clear hi)
                   refine hK.out _ _ ⟨(blk_cell BK214.out 0).trans rfl, (blk_cell BK214.out 1).trans rfl, (blk_cell BK214.out 2).trans rfl, (blk_cell BK214.out 3).trans rfl, (blk_cell BK214.out 4).trans rfl, (blk_cell BK214.out 5).trans rfl, (blk_cell BK214.out 6).trans rfl, (blk_cell BK214.out 7).trans rfl, (blk_cell BK214.out 8).trans rfl, (blk_cell BK214.out 9).trans rfl, (blk_cell BK214.out 10).trans rfl, (blk_cell BK214.out 11).trans rfl, HS12_⟩ (fun hHeld => ?_)
                   clear hK K
                   refine norm_ (a' := ?_) ?_ ?_
                   rotate_left
                   ·show Act.put _ (some 96) _ = _
                    simp only [Act.put, List.setIfInBounds_toArray, List.set_cons_zero, List.set_cons_succ, i64_w, i32_w]
                    rfl
                   refine last_ (i := 6) (N := none) #[true,true,true,true,true,true,true] rfl rfl (by kernel_rfl) (by decide) (fun K hK => ?_)
                   have hs64 : w63.cell? ⟨gb214, 0, none⟩ = some (.int .u64 x215000_1) := (blk_cell BK214.out 0).trans rfl
                   have hfs64 := blk_frozen BK214.out 0
                   have hns64_0 := NB201_214.out
                   have hms64_0 := NB214_201.out
                   have hs65 : w63.cell? ⟨gb214, 1, none⟩ = some (.int .u64 x215001_1) := (blk_cell BK214.out 1).trans rfl
                   have hfs65 := blk_frozen BK214.out 1
                   have hns65_0 := NB201_214.out
                   have hms65_0 := NB214_201.out
                   have hs66 : w63.cell? ⟨gb214, 2, none⟩ = some (.int .u64 x215002_1) := (blk_cell BK214.out 2).trans rfl
                   have hfs66 := blk_frozen BK214.out 2
                   have hns66_0 := NB201_214.out
                   have hms66_0 := NB214_201.out
                   have hs67 : w63.cell? ⟨gb214, 3, none⟩ = some (.int .u64 x215003_1) := (blk_cell BK214.out 3).trans rfl
                   have hfs67 := blk_frozen BK214.out 3
                   have hns67_0 := NB201_214.out
                   have hms67_0 := NB214_201.out
                   have hs68 : w63.cell? ⟨gb214, 4, none⟩ = some (.int .u64 x215004_1) := (blk_cell BK214.out 4).trans rfl
                   have hfs68 := blk_frozen BK214.out 4
                   have hns68_0 := NB201_214.out
                   have hms68_0 := NB214_201.out
                   have hs69 : w63.cell? ⟨gb214, 5, none⟩ = some (.int .u64 x215005_1) := (blk_cell BK214.out 5).trans rfl
                   have hfs69 := blk_frozen BK214.out 5
                   have hns69_0 := NB201_214.out
                   have hms69_0 := NB214_201.out
                   have hs70 : w63.cell? ⟨gb214, 6, none⟩ = some (.int .u64 x215006_1) := (blk_cell BK214.out 6).trans rfl
                   have hfs70 := blk_frozen BK214.out 6
                   have hns70_0 := NB201_214.out
                   have hms70_0 := NB214_201.out
                   have hs71 : w63.cell? ⟨gb214, 7, none⟩ = some (.int .u64 x215007_1) := (blk_cell BK214.out 7).trans rfl
                   have hfs71 := blk_frozen BK214.out 7
                   have hns71_0 := NB201_214.out
                   have hms71_0 := NB214_201.out
                   have hs72 : w63.cell? ⟨gb214, 8, none⟩ = some (.int .u64 x215008_1) := (blk_cell BK214.out 8).trans rfl
                   have hfs72 := blk_frozen BK214.out 8
                   have hns72_0 := NB201_214.out
                   have hms72_0 := NB214_201.out
                   have hs73 : w63.cell? ⟨gb214, 9, none⟩ = some (.int .u64 x215009_1) := (blk_cell BK214.out 9).trans rfl
                   have hfs73 := blk_frozen BK214.out 9
                   have hns73_0 := NB201_214.out
                   have hms73_0 := NB214_201.out
                   have hs74 : w63.cell? ⟨gb214, 10, none⟩ = some (.int .u64 x215010_1) := (blk_cell BK214.out 10).trans rfl
                   have hfs74 := blk_frozen BK214.out 10
                   have hns74_0 := NB201_214.out
                   have hms74_0 := NB214_201.out
                   have hs75 : w63.cell? ⟨gb214, 11, none⟩ = some (.string x215011_1) := (blk_cell BK214.out 11).trans rfl
                   have hfs75 := blk_frozen BK214.out 11
                   have hns75_0 := NB201_214.out
                   have hms75_0 := NB214_201.out
                   refine skip_ (w1 := ?_) (by rfl) rfl ?_ ?_
                   rotate_left
                   ·go_simp
                    rfl
                   refine hK.out _ _ ?_
                   clear hK K
                   refine done_ (by kernel_rfl) ?_
                   try go_wp2
                   go_meet
                   case rel => exact ⟨_, (x202000_3), (x202001_3), (x202002_3), (x202003_3), (x202004_3), (x202005_3), (x202006_3), (x202007_3), (x202008_3), (x202009_3), (x202010_3), (x202011_3), (t240), (t241), (t242), (t243), (t244), (t245), (t246), (t247), (t248), (t249), (t250), (t251), H', ⟨by have := HK1.out; have := HJ22.out; have := HK3.out; first | omega | exact Nat.le_refl _⟩, ⟨by (with_reducible repeat (first | apply Kd.R_alloc | apply Kd.R_drewN | apply Kd.R_drew)); exact Kd.R_mono (Kd.R_far (p := ⟨gb214, 11, none⟩) (Kd.R_far (p := ⟨gb214, 10, none⟩) (Kd.R_far (p := ⟨gb214, 9, none⟩) (Kd.R_far (p := ⟨gb214, 8, none⟩) (Kd.R_far (p := ⟨gb214, 7, none⟩) (Kd.R_far (p := ⟨gb214, 6, none⟩) (Kd.R_far (p := ⟨gb214, 5, none⟩) (Kd.R_far (p := ⟨gb214, 4, none⟩) (Kd.R_far (p := ⟨gb214, 3, none⟩) (Kd.R_far (p := ⟨gb214, 2, none⟩) (Kd.R_far (p := ⟨gb214, 1, none⟩) (Kd.R_far (p := ⟨gb214, 0, none⟩) (Kd.R_types HO230.out BK214.out (by decide)) (fun _ hk => hk.2) (.int .u64 t240)) (fun _ hk => hk.2) (.int .u64 t241)) (fun _ hk => hk.2) (.int .u64 t242)) (fun _ hk => hk.2) (.int .u64 t243)) (fun _ hk => hk.2) (.int .u64 t244)) (fun _ hk => hk.2) (.int .u64 t245)) (fun _ hk => hk.2) (.int .u64 t246)) (fun _ hk => hk.2) (.int .u64 t247)) (fun _ hk => hk.2) (.int .u64 t248)) (fun _ hk => hk.2) (.int .u64 t249)) (fun _ hk => hk.2) (.int .u64 t250)) (fun _ hk => hk.2) (.string t251)) (fun _ hk => hk.1)⟩, ⟨by (with_reducible repeat (first | apply Kd.R_alloc | apply Kd.R_drewN | apply Kd.R_drew)); exact Kd.R_mono (Kd.R_far (p := ⟨gb214, 11, none⟩) (Kd.R_far (p := ⟨gb214, 10, none⟩) (Kd.R_far (p := ⟨gb214, 9, none⟩) (Kd.R_far (p := ⟨gb214, 8, none⟩) (Kd.R_far (p := ⟨gb214, 7, none⟩) (Kd.R_far (p := ⟨gb214, 6, none⟩) (Kd.R_far (p := ⟨gb214, 5, none⟩) (Kd.R_far (p := ⟨gb214, 4, none⟩) (Kd.R_far (p := ⟨gb214, 3, none⟩) (Kd.R_far (p := ⟨gb214, 2, none⟩) (Kd.R_far (p := ⟨gb214, 1, none⟩) (Kd.R_far (p := ⟨gb214, 0, none⟩) (Kd.R_types HO_6.out BK214.out (by decide)) (fun _ hk => hk.2) (.int .u64 t240)) (fun _ hk => hk.2) (.int .u64 t241)) (fun _ hk => hk.2) (.int .u64 t242)) (fun _ hk => hk.2) (.int .u64 t243)) (fun _ hk => hk.2) (.int .u64 t244)) (fun _ hk => hk.2) (.int .u64 t245)) (fun _ hk => hk.2) (.int .u64 t246)) (fun _ hk => hk.2) (.int .u64 t247)) (fun _ hk => hk.2) (.int .u64 t248)) (fun _ hk => hk.2) (.int .u64 t249)) (fun _ hk => hk.2) (.int .u64 t250)) (fun _ hk => hk.2) (.string t251)) (fun _ hk => by first | exact hk.1.2 | exact hk.1 | exact hk.2)⟩, ⟨by (with_reducible repeat (first | refine blk_drewN ?_ _ | refine blk_drew ?_ | refine blk_alloc ?_ _)); refine blk_far ?_ NB201_214.out _; (with_reducible repeat (first | refine blk_drewN ?_ _ | refine blk_drew ?_ | refine blk_alloc ?_ _)); refine blk_far ?_ NB201_214.out _; (with_reducible repeat (first | refine blk_drewN ?_ _ | refine blk_drew ?_ | refine blk_alloc ?_ _)); refine blk_far ?_ NB201_214.out _; (with_reducible repeat (first | refine blk_drewN ?_ _ | refine blk_drew ?_ | refine blk_alloc ?_ _)); refine blk_far ?_ NB201_214.out _; (with_reducible repeat (first | refine blk_drewN ?_ _ | refine blk_drew ?_ | refine blk_alloc ?_ _)); refine blk_far ?_ NB201_214.out _; (with_reducible repeat (first | refine blk_drewN ?_ _ | refine blk_drew ?_ | refine blk_alloc ?_ _)); refine blk_far ?_ NB201_214.out _; (with_reducible repeat (first | refine blk_drewN ?_ _ | refine blk_drew ?_ | refine blk_alloc ?_ _)); refine blk_far ?_ NB201_214.out _; (with_reducible repeat (first | refine blk_drewN ?_ _ | refine blk_drew ?_ | refine blk_alloc ?_ _)); refine blk_far ?_ NB201_214.out _; (with_reducible repeat (first | refine blk_drewN ?_ _ | refine blk_drew ?_ | refine blk_alloc ?_ _)); refine blk_far ?_ NB201_214.out _; (with_reducible repeat (first | refine blk_drewN ?_ _ | refine blk_drew ?_ | refine blk_alloc ?_ _)); refine blk_far ?_ NB201_214.out _; (with_reducible repeat (first | refine blk_drewN ?_ _ | refine blk_drew ?_ | refine blk_alloc ?_ _)); refine blk_far ?_ NB201_214.out _; (with_reducible repeat (first | refine blk_drewN ?_ _ | refine blk_drew ?_ | refine blk_alloc ?_ _)); refine blk_far ?_ NB201_214.out _; (with_reducible repeat (first | refine blk_drewN ?_ _ | refine blk_drew ?_ | refine blk_alloc ?_ _)); exact BK201.out⟩, ⟨by (with_reducible repeat (first | refine blk_drewN ?_ _ | refine blk_drew ?_ | refine blk_alloc ?_ _)); refine blk_put (cs := #[.int .u64 t240, .int .u64 t241, .int .u64 t242, .int .u64 t243, .int .u64 t244, .int .u64 t245, .int .u64 t246, .int .u64 t247, .int .u64 t248, .int .u64 t249, .int .u64 t250, .string x215011_1]) ?_ 11 _ rfl; (with_reducible repeat (first | refine blk_drewN ?_ _ | refine blk_drew ?_ | refine blk_alloc ?_ _)); refine blk_put (cs := #[.int .u64 t240, .int .u64 t241, .int .u64 t242, .int .u64 t243, .int .u64 t244, .int .u64 t245, .int .u64 t246, .int .u64 t247, .int .u64 t248, .int .u64 t249, .int .u64 x215010_1, .string x215011_1]) ?_ 10 _ rfl; (with_reducible repeat (first | refine blk_drewN ?_ _ | refine blk_drew ?_ | refine blk_alloc ?_ _)); refine blk_put (cs := #[.int .u64 t240, .int .u64 t241, .int .u64 t242, .int .u64 t243, .int .u64 t244, .int .u64 t245, .int .u64 t246, .int .u64 t247, .int .u64 t248, .int .u64 x215009_1, .int .u64 x215010_1, .string x215011_1]) ?_ 9 _ rfl; (with_reducible repeat (first | refine blk_drewN ?_ _ | refine blk_drew ?_ | refine blk_alloc ?_ _)); refine blk_put (cs := #[.int .u64 t240, .int .u64 t241, .int .u64 t242, .int .u64 t243, .int .u64 t244, .int .u64 t245, .int .u64 t246, .int .u64 t247, .int .u64 x215008_1, .int .u64 x215009_1, .int .u64 x215010_1, .string x215011_1]) ?_ 8 _ rfl; (with_reducible repeat (first | refine blk_drewN ?_ _ | refine blk_drew ?_ | refine blk_alloc ?_ _)); refine blk_put (cs := #[.int .u64 t240, .int .u64 t241, .int .u64 t242, .int .u64 t243, .int .u64 t244, .int .u64 t245, .int .u64 t246, .int .u64 x215007_1, .int .u64 x215008_1, .int .u64 x215009_1, .int .u64 x215010_1, .string x215011_1]) ?_ 7 _ rfl; (with_reducible repeat (first | refine blk_drewN ?_ _ | refine blk_drew ?_ | refine blk_alloc ?_ _)); refine blk_put (cs := #[.int .u64 t240, .int .u64 t241, .int .u64 t242, .int .u64 t243, .int .u64 t244, .int .u64 t245, .int .u64 x215006_1, .int .u64 x215007_1, .int .u64 x215008_1, .int .u64 x215009_1, .int .u64 x215010_1, .string x215011_1]) ?_ 6 _ rfl; (with_reducible repeat (first | refine blk_drewN ?_ _ | refine blk_drew ?_ | refine blk_alloc ?_ _)); refine blk_put (cs := #[.int .u64 t240, .int .u64 t241, .int .u64 t242, .int .u64 t243, .int .u64 t244, .int .u64 x215005_1, .int .u64 x215006_1, .int .u64 x215007_1, .int .u64 x215008_1, .int .u64 x215009_1, .int .u64 x215010_1, .string x215011_1]) ?_ 5 _ rfl; (with_reducible repeat (first | refine blk_drewN ?_ _ | refine blk_drew ?_ | refine blk_alloc ?_ _)); refine blk_put (cs := #[.int .u64 t240, .int .u64 t241, .int .u64 t242, .int .u64 t243, .int .u64 x215004_1, .int .u64 x215005_1, .int .u64 x215006_1, .int .u64 x215007_1, .int .u64 x215008_1, .int .u64 x215009_1, .int .u64 x215010_1, .string x215011_1]) ?_ 4 _ rfl; (with_reducible repeat (first | refine blk_drewN ?_ _ | refine blk_drew ?_ | refine blk_alloc ?_ _)); refine blk_put (cs := #[.int .u64 t240, .int .u64 t241, .int .u64 t242, .int .u64 x215003_1, .int .u64 x215004_1, .int .u64 x215005_1, .int .u64 x215006_1, .int .u64 x215007_1, .int .u64 x215008_1, .int .u64 x215009_1, .int .u64 x215010_1, .string x215011_1]) ?_ 3 _ rfl; (with_reducible repeat (first | refine blk_drewN ?_ _ | refine blk_drew ?_ | refine blk_alloc ?_ _)); refine blk_put (cs := #[.int .u64 t240, .int .u64 t241, .int .u64 x215002_1, .int .u64 x215003_1, .int .u64 x215004_1, .int .u64 x215005_1, .int .u64 x215006_1, .int .u64 x215007_1, .int .u64 x215008_1, .int .u64 x215009_1, .int .u64 x215010_1, .string x215011_1]) ?_ 2 _ rfl; (with_reducible repeat (first | refine blk_drewN ?_ _ | refine blk_drew ?_ | refine blk_alloc ?_ _)); refine blk_put (cs := #[.int .u64 t240, .int .u64 x215001_1, .int .u64 x215002_1, .int .u64 x215003_1, .int .u64 x215004_1, .int .u64 x215005_1, .int .u64 x215006_1, .int .u64 x215007_1, .int .u64 x215008_1, .int .u64 x215009_1, .int .u64 x215010_1, .string x215011_1]) ?_ 1 _ rfl; (with_reducible repeat (first | refine blk_drewN ?_ _ | refine blk_drew ?_ | refine blk_alloc ?_ _)); refine blk_put (cs := #[.int .u64 x215000_1, .int .u64 x215001_1, .int .u64 x215002_1, .int .u64 x215003_1, .int .u64 x215004_1, .int .u64 x215005_1, .int .u64 x215006_1, .int .u64 x215007_1, .int .u64 x215008_1, .int .u64 x215009_1, .int .u64 x215010_1, .string x215011_1]) ?_ 0 _ rfl; (with_reducible repeat (first | refine blk_drewN ?_ _ | refine blk_drew ?_ | refine blk_alloc ?_ _)); exact BK214.out⟩, ⟨by repeat (first | (with_reducible first | exact HB.out | apply below_alloc | apply pw_below_drewN | apply below_drew1 | refine below_set ?_ GE201.out | refine below_set ?_ GE214.out) | exact HB.out)⟩⟩
                  ·rw [if_neg c60] at H
                   have c60b0 : (t237.toList == ([] : List UInt8)) = false := beq_eq_false_iff_ne.mpr c60
                   have c60b1 : (t237.toList != ([] : List UInt8)) = true := bne_iff_ne.mpr c60
                   simp only [Option.some.injEq, Prod.mk.injEq] at H
                   obtain ⟨rfl, rfl, rfl, rfl, rfl, rfl, rfl, rfl, rfl, rfl, rfl, rfl, rfl⟩ := H
                   go_wp2_with (first | ((with_reducible refine gate_callee (f := 27) rfl ?_); refine goesL_ (some 80) rfl rfl Tryd.func27 (by kernel_rfl) rfl #[.string (t220.extract 0 ((rd t219 1) : Int).toNat)] rfl (by (try simp only [List.map_toArray, List.map_cons, List.map_nil]); first | done | rfl | (simp only [List.length_drop, List.length_take]; rfl)) ?_; (with_reducible refine (dominoref01_Get.calls k3 (t220.extract 0 ((rd t219 1) : Int).toNat) t236 t237 t238 _ A58.out).mono ?_); rintro e w' ⟨rfl, ⟨nd, rfl⟩⟩; refine ⟨_, rfl, ?_⟩; (try (rw [drewN_self w56]; generalize hq_ : World.drewN w56 _ = w56; have n0_ : Aside0 (Kd.R (Kd.int .u64) 22 w56 w.heap.size (fun k_ => some k_ ≠ (.slice (some ad227) t219.length co53 : Value).ownBlock) v229 y228) := ⟨by rw [← hq_]; exact (by (with_reducible repeat (first | apply Kd.R_alloc | apply Kd.R_drewN | apply Kd.R_drew)); exact HO230.out)⟩; have n1_ : Aside0 (Kd.R (Kd.int .u64) 22 w56 w.heap.size (fun k_ => some k_ ≠ (v229 : Value).ownBlock) (.slice (some ad227) t219.length co53) t219) := ⟨by rw [← hq_]; exact (by (with_reducible repeat (first | apply Kd.R_alloc | apply Kd.R_drewN | apply Kd.R_drew)); exact Kd.R_mono HO_6.out (fun _ hk => hk.2))⟩; have n2_ : Aside0 (w56.heap[gb201]? = some (.cells #[.int .u64 x202000_3, .int .u64 x202001_3, .int .u64 x202002_3, .int .u64 x202003_3, .int .u64 x202004_3, .int .u64 x202005_3, .int .u64 x202006_3, .int .u64 x202007_3, .int .u64 x202008_3, .int .u64 x202009_3, .int .u64 x202010_3, .string x202011_3] 26 (0, 0))) := ⟨by rw [← hq_]; exact (by (with_reducible repeat (first | refine blk_drewN ?_ _ | refine blk_drew ?_ | refine blk_alloc ?_ _)); exact BK201.out)⟩; have n3_ : Aside0 (w56.heap[gb214]? = some (.cells #[.int .u64 x215000_1, .int .u64 x215001_1, .int .u64 x215002_1, .int .u64 x215003_1, .int .u64 x215004_1, .int .u64 x215005_1, .int .u64 x215006_1, .int .u64 x215007_1, .int .u64 x215008_1, .int .u64 x215009_1, .int .u64 x215010_1, .string x215011_1] 26 (0, 0))) := ⟨by rw [← hq_]; exact (by (with_reducible repeat (first | refine blk_drewN ?_ _ | refine blk_drew ?_ | refine blk_alloc ?_ _)); exact BK214.out)⟩; have n4_ : Aside0 (Below w.heap.size w w56) := ⟨by rw [← hq_]; exact (by repeat (first | (with_reducible first | exact HB.out | apply below_alloc | apply pw_below_drewN | apply below_drew1 | refine below_set ?_ GE201.out | refine below_set ?_ GE214.out) | exact HB.out))⟩; clear HO230 HO_6 BK201 BK214 HB hq_; have HO230 := n0_; have HO_6 := n1_; have BK201 := n2_; have BK214 := n3_; have HB := n4_; clear n0_ n1_ n2_ n3_ n4_)); have hnb76 := NB201_214.out; have hnc76 := NB214_201.out; have hcz77_0 : w56.cell? ⟨gb201, 0, none⟩ = some (.int .u64 x202000_3) := (blk_cell BK201.out 0).trans rfl; have hcz77_1 : w56.cell? ⟨gb201, 1, none⟩ = some (.int .u64 x202001_3) := (blk_cell BK201.out 1).trans rfl; have hcz77_2 : w56.cell? ⟨gb201, 2, none⟩ = some (.int .u64 x202002_3) := (blk_cell BK201.out 2).trans rfl; have hcz77_3 : w56.cell? ⟨gb201, 3, none⟩ = some (.int .u64 x202003_3) := (blk_cell BK201.out 3).trans rfl; have hcz77_4 : w56.cell? ⟨gb201, 4, none⟩ = some (.int .u64 x202004_3) := (blk_cell BK201.out 4).trans rfl; have hcz77_5 : w56.cell? ⟨gb201, 5, none⟩ = some (.int .u64 x202005_3) := (blk_cell BK201.out 5).trans rfl; have hcz77_6 : w56.cell? ⟨gb201, 6, none⟩ = some (.int .u64 x202006_3) := (blk_cell BK201.out 6).trans rfl; have hcz77_7 : w56.cell? ⟨gb201, 7, none⟩ = some (.int .u64 x202007_3) := (blk_cell BK201.out 7).trans rfl; have hcz77_8 : w56.cell? ⟨gb201, 8, none⟩ = some (.int .u64 x202008_3) := (blk_cell BK201.out 8).trans rfl; have hcz77_9 : w56.cell? ⟨gb201, 9, none⟩ = some (.int .u64 x202009_3) := (blk_cell BK201.out 9).trans rfl; have hcz77_10 : w56.cell? ⟨gb201, 10, none⟩ = some (.int .u64 x202010_3) := (blk_cell BK201.out 10).trans rfl; have hcz77_11 : w56.cell? ⟨gb201, 11, none⟩ = some (.string x202011_3) := (blk_cell BK201.out 11).trans rfl; have hfz77_0 := blk_frozen BK201.out 0; have hfz77_1 := blk_frozen BK201.out 1; have hfz77_2 := blk_frozen BK201.out 2; have hfz77_3 := blk_frozen BK201.out 3; have hfz77_4 := blk_frozen BK201.out 4; have hfz77_5 := blk_frozen BK201.out 5; have hfz77_6 := blk_frozen BK201.out 6; have hfz77_7 := blk_frozen BK201.out 7; have hfz77_8 := blk_frozen BK201.out 8; have hfz77_9 := blk_frozen BK201.out 9; have hfz77_10 := blk_frozen BK201.out 10; have hfz77_11 := blk_frozen BK201.out 11))
                   refine bodyPost_ret (results_ct rfl _ _ gb201 26 #[.int .u64 0, .int .u64 0, .int .u64 0, .int .u64 0, .int .u64 0, .int .u64 0, .int .u64 0, .int .u64 0, .int .u64 0, .int .u64 0, .int .u64 0, .string (⟨#[]⟩ : ByteArray)] (0, 0) _ rfl (by (with_reducible repeat (first | refine blk_drewN ?_ _ | refine blk_drew ?_ | refine blk_alloc ?_ _)); refine blk_put (cs := #[.int .u64 0, .int .u64 0, .int .u64 0, .int .u64 0, .int .u64 0, .int .u64 0, .int .u64 0, .int .u64 0, .int .u64 0, .int .u64 0, .int .u64 0, .string x202011_3]) ?_ 11 _ rfl; (with_reducible repeat (first | refine blk_drewN ?_ _ | refine blk_drew ?_ | refine blk_alloc ?_ _)); refine blk_put (cs := #[.int .u64 0, .int .u64 0, .int .u64 0, .int .u64 0, .int .u64 0, .int .u64 0, .int .u64 0, .int .u64 0, .int .u64 0, .int .u64 0, .int .u64 x202010_3, .string x202011_3]) ?_ 10 _ rfl; (with_reducible repeat (first | refine blk_drewN ?_ _ | refine blk_drew ?_ | refine blk_alloc ?_ _)); refine blk_put (cs := #[.int .u64 0, .int .u64 0, .int .u64 0, .int .u64 0, .int .u64 0, .int .u64 0, .int .u64 0, .int .u64 0, .int .u64 0, .int .u64 x202009_3, .int .u64 x202010_3, .string x202011_3]) ?_ 9 _ rfl; (with_reducible repeat (first | refine blk_drewN ?_ _ | refine blk_drew ?_ | refine blk_alloc ?_ _)); refine blk_put (cs := #[.int .u64 0, .int .u64 0, .int .u64 0, .int .u64 0, .int .u64 0, .int .u64 0, .int .u64 0, .int .u64 0, .int .u64 x202008_3, .int .u64 x202009_3, .int .u64 x202010_3, .string x202011_3]) ?_ 8 _ rfl; (with_reducible repeat (first | refine blk_drewN ?_ _ | refine blk_drew ?_ | refine blk_alloc ?_ _)); refine blk_put (cs := #[.int .u64 0, .int .u64 0, .int .u64 0, .int .u64 0, .int .u64 0, .int .u64 0, .int .u64 0, .int .u64 x202007_3, .int .u64 x202008_3, .int .u64 x202009_3, .int .u64 x202010_3, .string x202011_3]) ?_ 7 _ rfl; (with_reducible repeat (first | refine blk_drewN ?_ _ | refine blk_drew ?_ | refine blk_alloc ?_ _)); refine blk_put (cs := #[.int .u64 0, .int .u64 0, .int .u64 0, .int .u64 0, .int .u64 0, .int .u64 0, .int .u64 x202006_3, .int .u64 x202007_3, .int .u64 x202008_3, .int .u64 x202009_3, .int .u64 x202010_3, .string x202011_3]) ?_ 6 _ rfl; (with_reducible repeat (first | refine blk_drewN ?_ _ | refine blk_drew ?_ | refine blk_alloc ?_ _)); refine blk_put (cs := #[.int .u64 0, .int .u64 0, .int .u64 0, .int .u64 0, .int .u64 0, .int .u64 x202005_3, .int .u64 x202006_3, .int .u64 x202007_3, .int .u64 x202008_3, .int .u64 x202009_3, .int .u64 x202010_3, .string x202011_3]) ?_ 5 _ rfl; (with_reducible repeat (first | refine blk_drewN ?_ _ | refine blk_drew ?_ | refine blk_alloc ?_ _)); refine blk_put (cs := #[.int .u64 0, .int .u64 0, .int .u64 0, .int .u64 0, .int .u64 x202004_3, .int .u64 x202005_3, .int .u64 x202006_3, .int .u64 x202007_3, .int .u64 x202008_3, .int .u64 x202009_3, .int .u64 x202010_3, .string x202011_3]) ?_ 4 _ rfl; (with_reducible repeat (first | refine blk_drewN ?_ _ | refine blk_drew ?_ | refine blk_alloc ?_ _)); refine blk_put (cs := #[.int .u64 0, .int .u64 0, .int .u64 0, .int .u64 x202003_3, .int .u64 x202004_3, .int .u64 x202005_3, .int .u64 x202006_3, .int .u64 x202007_3, .int .u64 x202008_3, .int .u64 x202009_3, .int .u64 x202010_3, .string x202011_3]) ?_ 3 _ rfl; (with_reducible repeat (first | refine blk_drewN ?_ _ | refine blk_drew ?_ | refine blk_alloc ?_ _)); refine blk_put (cs := #[.int .u64 0, .int .u64 0, .int .u64 x202002_3, .int .u64 x202003_3, .int .u64 x202004_3, .int .u64 x202005_3, .int .u64 x202006_3, .int .u64 x202007_3, .int .u64 x202008_3, .int .u64 x202009_3, .int .u64 x202010_3, .string x202011_3]) ?_ 2 _ rfl; (with_reducible repeat (first | refine blk_drewN ?_ _ | refine blk_drew ?_ | refine blk_alloc ?_ _)); refine blk_put (cs := #[.int .u64 0, .int .u64 x202001_3, .int .u64 x202002_3, .int .u64 x202003_3, .int .u64 x202004_3, .int .u64 x202005_3, .int .u64 x202006_3, .int .u64 x202007_3, .int .u64 x202008_3, .int .u64 x202009_3, .int .u64 x202010_3, .string x202011_3]) ?_ 1 _ rfl; (with_reducible repeat (first | refine blk_drewN ?_ _ | refine blk_drew ?_ | refine blk_alloc ?_ _)); refine blk_put (cs := #[.int .u64 x202000_3, .int .u64 x202001_3, .int .u64 x202002_3, .int .u64 x202003_3, .int .u64 x202004_3, .int .u64 x202005_3, .int .u64 x202006_3, .int .u64 x202007_3, .int .u64 x202008_3, .int .u64 x202009_3, .int .u64 x202010_3, .string x202011_3]) ?_ 0 _ rfl; (with_reducible repeat (first | refine blk_drewN ?_ _ | refine blk_drew ?_ | refine blk_alloc ?_ _)); exact BK201.out) Tryd.underlying26 rfl (by kernel_rfl)) rfl ?_
                   exact ⟨by first | rfl | (simp [errW_none, errW_some] <;> rfl) | (simp [*, errW_none, errW_some] <;> rfl), by repeat (first | (with_reducible first | exact HB.out | apply below_alloc | apply pw_below_drewN | apply below_drew1 | refine below_set ?_ GE201.out | refine below_set ?_ GE214.out) | exact HB.out)⟩
                 ·rw [if_neg c59] at H
                  have c59b0 : (t238 == 0) = false := beq_eq_false_iff_ne.mpr c59
                  have c59b1 : (t238 != 0) = true := bne_iff_ne.mpr c59
                  (first | rw [c59b0] | (simp only [i64_w, i32_w]; rw [c59b0]) | skip)
                  simp only [Option.some.injEq, Prod.mk.injEq] at H
                  obtain ⟨rfl, rfl, rfl, rfl, rfl, rfl, rfl, rfl, rfl, rfl, rfl, rfl, rfl⟩ := H
                  go_wp2_with (first | ((with_reducible refine gate_callee (f := 27) rfl ?_); refine goesL_ (some 80) rfl rfl Tryd.func27 (by kernel_rfl) rfl #[.string (t220.extract 0 ((rd t219 1) : Int).toNat)] rfl (by (try simp only [List.map_toArray, List.map_cons, List.map_nil]); first | done | rfl | (simp only [List.length_drop, List.length_take]; rfl)) ?_; (with_reducible refine (dominoref01_Get.calls k3 (t220.extract 0 ((rd t219 1) : Int).toNat) t236 t237 t238 _ A58.out).mono ?_); rintro e w' ⟨rfl, ⟨nd, rfl⟩⟩; refine ⟨_, rfl, ?_⟩; (try (rw [drewN_self w56]; generalize hq_ : World.drewN w56 _ = w56; have n0_ : Aside0 (Kd.R (Kd.int .u64) 22 w56 w.heap.size (fun k_ => some k_ ≠ (.slice (some ad227) t219.length co53 : Value).ownBlock) v229 y228) := ⟨by rw [← hq_]; exact (by (with_reducible repeat (first | apply Kd.R_alloc | apply Kd.R_drewN | apply Kd.R_drew)); exact HO230.out)⟩; have n1_ : Aside0 (Kd.R (Kd.int .u64) 22 w56 w.heap.size (fun k_ => some k_ ≠ (v229 : Value).ownBlock) (.slice (some ad227) t219.length co53) t219) := ⟨by rw [← hq_]; exact (by (with_reducible repeat (first | apply Kd.R_alloc | apply Kd.R_drewN | apply Kd.R_drew)); exact Kd.R_mono HO_6.out (fun _ hk => hk.2))⟩; have n2_ : Aside0 (w56.heap[gb201]? = some (.cells #[.int .u64 x202000_3, .int .u64 x202001_3, .int .u64 x202002_3, .int .u64 x202003_3, .int .u64 x202004_3, .int .u64 x202005_3, .int .u64 x202006_3, .int .u64 x202007_3, .int .u64 x202008_3, .int .u64 x202009_3, .int .u64 x202010_3, .string x202011_3] 26 (0, 0))) := ⟨by rw [← hq_]; exact (by (with_reducible repeat (first | refine blk_drewN ?_ _ | refine blk_drew ?_ | refine blk_alloc ?_ _)); exact BK201.out)⟩; have n3_ : Aside0 (w56.heap[gb214]? = some (.cells #[.int .u64 x215000_1, .int .u64 x215001_1, .int .u64 x215002_1, .int .u64 x215003_1, .int .u64 x215004_1, .int .u64 x215005_1, .int .u64 x215006_1, .int .u64 x215007_1, .int .u64 x215008_1, .int .u64 x215009_1, .int .u64 x215010_1, .string x215011_1] 26 (0, 0))) := ⟨by rw [← hq_]; exact (by (with_reducible repeat (first | refine blk_drewN ?_ _ | refine blk_drew ?_ | refine blk_alloc ?_ _)); exact BK214.out)⟩; have n4_ : Aside0 (Below w.heap.size w w56) := ⟨by rw [← hq_]; exact (by repeat (first | (with_reducible first | exact HB.out | apply below_alloc | apply pw_below_drewN | apply below_drew1 | refine below_set ?_ GE201.out | refine below_set ?_ GE214.out) | exact HB.out))⟩; clear HO230 HO_6 BK201 BK214 HB hq_; have HO230 := n0_; have HO_6 := n1_; have BK201 := n2_; have BK214 := n3_; have HB := n4_; clear n0_ n1_ n2_ n3_ n4_)); have hnb78 := NB201_214.out; have hnc78 := NB214_201.out; have hcz79_0 : w56.cell? ⟨gb201, 0, none⟩ = some (.int .u64 x202000_3) := (blk_cell BK201.out 0).trans rfl; have hcz79_1 : w56.cell? ⟨gb201, 1, none⟩ = some (.int .u64 x202001_3) := (blk_cell BK201.out 1).trans rfl; have hcz79_2 : w56.cell? ⟨gb201, 2, none⟩ = some (.int .u64 x202002_3) := (blk_cell BK201.out 2).trans rfl; have hcz79_3 : w56.cell? ⟨gb201, 3, none⟩ = some (.int .u64 x202003_3) := (blk_cell BK201.out 3).trans rfl; have hcz79_4 : w56.cell? ⟨gb201, 4, none⟩ = some (.int .u64 x202004_3) := (blk_cell BK201.out 4).trans rfl; have hcz79_5 : w56.cell? ⟨gb201, 5, none⟩ = some (.int .u64 x202005_3) := (blk_cell BK201.out 5).trans rfl; have hcz79_6 : w56.cell? ⟨gb201, 6, none⟩ = some (.int .u64 x202006_3) := (blk_cell BK201.out 6).trans rfl; have hcz79_7 : w56.cell? ⟨gb201, 7, none⟩ = some (.int .u64 x202007_3) := (blk_cell BK201.out 7).trans rfl; have hcz79_8 : w56.cell? ⟨gb201, 8, none⟩ = some (.int .u64 x202008_3) := (blk_cell BK201.out 8).trans rfl; have hcz79_9 : w56.cell? ⟨gb201, 9, none⟩ = some (.int .u64 x202009_3) := (blk_cell BK201.out 9).trans rfl; have hcz79_10 : w56.cell? ⟨gb201, 10, none⟩ = some (.int .u64 x202010_3) := (blk_cell BK201.out 10).trans rfl; have hcz79_11 : w56.cell? ⟨gb201, 11, none⟩ = some (.string x202011_3) := (blk_cell BK201.out 11).trans rfl; have hfz79_0 := blk_frozen BK201.out 0; have hfz79_1 := blk_frozen BK201.out 1; have hfz79_2 := blk_frozen BK201.out 2; have hfz79_3 := blk_frozen BK201.out 3; have hfz79_4 := blk_frozen BK201.out 4; have hfz79_5 := blk_frozen BK201.out 5; have hfz79_6 := blk_frozen BK201.out 6; have hfz79_7 := blk_frozen BK201.out 7; have hfz79_8 := blk_frozen BK201.out 8; have hfz79_9 := blk_frozen BK201.out 9; have hfz79_10 := blk_frozen BK201.out 10; have hfz79_11 := blk_frozen BK201.out 11))
                  refine bodyPost_ret (results_ct rfl _ _ gb201 26 #[.int .u64 0, .int .u64 0, .int .u64 0, .int .u64 0, .int .u64 0, .int .u64 0, .int .u64 0, .int .u64 0, .int .u64 0, .int .u64 0, .int .u64 0, .string (⟨#[]⟩ : ByteArray)] (0, 0) _ rfl (by (with_reducible repeat (first | refine blk_drewN ?_ _ | refine blk_drew ?_ | refine blk_alloc ?_ _)); refine blk_put (cs := #[.int .u64 0, .int .u64 0, .int .u64 0, .int .u64 0, .int .u64 0, .int .u64 0, .int .u64 0, .int .u64 0, .int .u64 0, .int .u64 0, .int .u64 0, .string x202011_3]) ?_ 11 _ rfl; (with_reducible repeat (first | refine blk_drewN ?_ _ | refine blk_drew ?_ | refine blk_alloc ?_ _)); refine blk_put (cs := #[.int .u64 0, .int .u64 0, .int .u64 0, .int .u64 0, .int .u64 0, .int .u64 0, .int .u64 0, .int .u64 0, .int .u64 0, .int .u64 0, .int .u64 x202010_3, .string x202011_3]) ?_ 10 _ rfl; (with_reducible repeat (first | refine blk_drewN ?_ _ | refine blk_drew ?_ | refine blk_alloc ?_ _)); refine blk_put (cs := #[.int .u64 0, .int .u64 0, .int .u64 0, .int .u64 0, .int .u64 0, .int .u64 0, .int .u64 0, .int .u64 0, .int .u64 0, .int .u64 x202009_3, .int .u64 x202010_3, .string x202011_3]) ?_ 9 _ rfl; (with_reducible repeat (first | refine blk_drewN ?_ _ | refine blk_drew ?_ | refine blk_alloc ?_ _)); refine blk_put (cs := #[.int .u64 0, .int .u64 0, .int .u64 0, .int .u64 0, .int .u64 0, .int .u64 0, .int .u64 0, .int .u64 0, .int .u64 x202008_3, .int .u64 x202009_3, .int .u64 x202010_3, .string x202011_3]) ?_ 8 _ rfl; (with_reducible repeat (first | refine blk_drewN ?_ _ | refine blk_drew ?_ | refine blk_alloc ?_ _)); refine blk_put (cs := #[.int .u64 0, .int .u64 0, .int .u64 0, .int .u64 0, .int .u64 0, .int .u64 0, .int .u64 0, .int .u64 x202007_3, .int .u64 x202008_3, .int .u64 x202009_3, .int .u64 x202010_3, .string x202011_3]) ?_ 7 _ rfl; (with_reducible repeat (first | refine blk_drewN ?_ _ | refine blk_drew ?_ | refine blk_alloc ?_ _)); refine blk_put (cs := #[.int .u64 0, .int .u64 0, .int .u64 0, .int .u64 0, .int .u64 0, .int .u64 0, .int .u64 x202006_3, .int .u64 x202007_3, .int .u64 x202008_3, .int .u64 x202009_3, .int .u64 x202010_3, .string x202011_3]) ?_ 6 _ rfl; (with_reducible repeat (first | refine blk_drewN ?_ _ | refine blk_drew ?_ | refine blk_alloc ?_ _)); refine blk_put (cs := #[.int .u64 0, .int .u64 0, .int .u64 0, .int .u64 0, .int .u64 0, .int .u64 x202005_3, .int .u64 x202006_3, .int .u64 x202007_3, .int .u64 x202008_3, .int .u64 x202009_3, .int .u64 x202010_3, .string x202011_3]) ?_ 5 _ rfl; (with_reducible repeat (first | refine blk_drewN ?_ _ | refine blk_drew ?_ | refine blk_alloc ?_ _)); refine blk_put (cs := #[.int .u64 0, .int .u64 0, .int .u64 0, .int .u64 0, .int .u64 x202004_3, .int .u64 x202005_3, .int .u64 x202006_3, .int .u64 x202007_3, .int .u64 x202008_3, .int .u64 x202009_3, .int .u64 x202010_3, .string x202011_3]) ?_ 4 _ rfl; (with_reducible repeat (first | refine blk_drewN ?_ _ | refine blk_drew ?_ | refine blk_alloc ?_ _)); refine blk_put (cs := #[.int .u64 0, .int .u64 0, .int .u64 0, .int .u64 x202003_3, .int .u64 x202004_3, .int .u64 x202005_3, .int .u64 x202006_3, .int .u64 x202007_3, .int .u64 x202008_3, .int .u64 x202009_3, .int .u64 x202010_3, .string x202011_3]) ?_ 3 _ rfl; (with_reducible repeat (first | refine blk_drewN ?_ _ | refine blk_drew ?_ | refine blk_alloc ?_ _)); refine blk_put (cs := #[.int .u64 0, .int .u64 0, .int .u64 x202002_3, .int .u64 x202003_3, .int .u64 x202004_3, .int .u64 x202005_3, .int .u64 x202006_3, .int .u64 x202007_3, .int .u64 x202008_3, .int .u64 x202009_3, .int .u64 x202010_3, .string x202011_3]) ?_ 2 _ rfl; (with_reducible repeat (first | refine blk_drewN ?_ _ | refine blk_drew ?_ | refine blk_alloc ?_ _)); refine blk_put (cs := #[.int .u64 0, .int .u64 x202001_3, .int .u64 x202002_3, .int .u64 x202003_3, .int .u64 x202004_3, .int .u64 x202005_3, .int .u64 x202006_3, .int .u64 x202007_3, .int .u64 x202008_3, .int .u64 x202009_3, .int .u64 x202010_3, .string x202011_3]) ?_ 1 _ rfl; (with_reducible repeat (first | refine blk_drewN ?_ _ | refine blk_drew ?_ | refine blk_alloc ?_ _)); refine blk_put (cs := #[.int .u64 x202000_3, .int .u64 x202001_3, .int .u64 x202002_3, .int .u64 x202003_3, .int .u64 x202004_3, .int .u64 x202005_3, .int .u64 x202006_3, .int .u64 x202007_3, .int .u64 x202008_3, .int .u64 x202009_3, .int .u64 x202010_3, .string x202011_3]) ?_ 0 _ rfl; (with_reducible repeat (first | refine blk_drewN ?_ _ | refine blk_drew ?_ | refine blk_alloc ?_ _)); exact BK201.out) Tryd.underlying26 rfl (by kernel_rfl)) rfl ?_
                  exact ⟨by first | rfl | (simp [errW_none, errW_some] <;> rfl) | (simp [*, errW_none, errW_some] <;> rfl), by repeat (first | (with_reducible first | exact HB.out | apply below_alloc | apply pw_below_drewN | apply below_drew1 | refine below_set ?_ GE201.out | refine below_set ?_ GE214.out) | exact HB.out)⟩
                ·replace c57 := Bool.eq_false_iff.mpr c57
                 subst c57
                 have H1 : (dominoref05_Get.j3 k3 (t220.extract ((rd t219 1) : Int).toNat t220.size) y228 t219 (t220.extract 0 ((rd t219 1) : Int).toNat) x215000_1 x215001_1 x215002_1 x215003_1 x215004_1 x215005_1 x215006_1 x215007_1 x215008_1 x215009_1 x215010_1 x215011_1) = some (r1, r2, r3, r4, r5, r6, r7, r8, r9, r10, r11, r12, r13) := by rw [if_neg (show ¬ (false = true) by decide)] at H; exact H
                 clear H
                 have H := H1
                 clear H1
                 have H' := Aside0.mk H
                 clear H
                 go_wp2
                 go_meet
                 case rel => exact ⟨_, (x202000_3), (x202001_3), (x202002_3), (x202003_3), (x202004_3), (x202005_3), (x202006_3), (x202007_3), (x202008_3), (x202009_3), (x202010_3), (x202011_3), (x215000_1), (x215001_1), (x215002_1), (x215003_1), (x215004_1), (x215005_1), (x215006_1), (x215007_1), (x215008_1), (x215009_1), (x215010_1), (x215011_1), H', ⟨by have := HK1.out; have := HJ22.out; have := HK3.out; first | omega | exact Nat.le_refl _⟩, ⟨by (with_reducible repeat (first | apply Kd.R_alloc | apply Kd.R_drewN | apply Kd.R_drew)); exact HO230.out⟩, ⟨by (with_reducible repeat (first | apply Kd.R_alloc | apply Kd.R_drewN | apply Kd.R_drew)); exact Kd.R_mono HO_6.out (fun _ hk => hk.2)⟩, ⟨by (with_reducible repeat (first | refine blk_drewN ?_ _ | refine blk_drew ?_ | refine blk_alloc ?_ _)); exact BK201.out⟩, ⟨by (with_reducible repeat (first | refine blk_drewN ?_ _ | refine blk_drew ?_ | refine blk_alloc ?_ _)); exact BK214.out⟩, ⟨by repeat (first | (with_reducible first | exact HB.out | apply below_alloc | apply pw_below_drewN | apply below_drew1 | refine below_set ?_ GE201.out | refine below_set ?_ GE214.out) | exact HB.out)⟩⟩
               case rest =>
                clear HC51
                try clear c2
                try clear p2
                try clear q2
                try clear hx2
                try clear qi2
                try clear c3
                try clear c4
                try clear c5
                try clear c6
                try clear p6
                try clear c7
                try clear c22
                try clear p22
                try clear q22
                try clear hx22
                try clear qi22
                try clear p23
                try clear q23
                try clear hx23
                try clear qi23
                try clear c27
                try clear c28
                try clear c31
                try clear c31b0
                try clear c32
                try clear c33
                try clear c34
                try clear c34b0
                try clear c34b1
                try clear c38
                try clear c43
                try clear c43b0
                try clear c43b1
                try clear c44
                try clear c45
                try clear c45b0
                try clear c45b1
                try clear c46
                try clear c46b0
                try clear c46b1
                try clear c47
                try clear c47b0
                try clear c47b1
                try clear c48
                try clear c48b0
                try clear c49
                try clear c49b0
                try clear c57
                try clear c59
                try clear c59b0
                try clear c59b1
                try clear c60
                try clear c60b0
                try clear c60b1
                try clear p64
                try clear c76
                try clear c78
                try clear hcz39_0
                try clear hcz39_1
                try clear hcz39_10
                try clear hcz39_11
                try clear hcz39_2
                try clear hcz39_3
                try clear hcz39_4
                try clear hcz39_5
                try clear hcz39_6
                try clear hcz39_7
                try clear hcz39_8
                try clear hcz39_9
                try clear hcz77_0
                try clear hcz77_1
                try clear hcz77_10
                try clear hcz77_11
                try clear hcz77_2
                try clear hcz77_3
                try clear hcz77_4
                try clear hcz77_5
                try clear hcz77_6
                try clear hcz77_7
                try clear hcz77_8
                try clear hcz77_9
                try clear hcz79_0
                try clear hcz79_1
                try clear hcz79_10
                try clear hcz79_11
                try clear hcz79_2
                try clear hcz79_3
                try clear hcz79_4
                try clear hcz79_5
                try clear hcz79_6
                try clear hcz79_7
                try clear hcz79_8
                try clear hcz79_9
                try clear hfz39_0
                try clear hfz39_1
                try clear hfz39_10
                try clear hfz39_11
                try clear hfz39_2
                try clear hfz39_3
                try clear hfz39_4
                try clear hfz39_5
                try clear hfz39_6
                try clear hfz39_7
                try clear hfz39_8
                try clear hfz39_9
                try clear hfz77_0
                try clear hfz77_1
                try clear hfz77_10
                try clear hfz77_11
                try clear hfz77_2
                try clear hfz77_3
                try clear hfz77_4
                try clear hfz77_5
                try clear hfz77_6
                try clear hfz77_7
                try clear hfz77_8
                try clear hfz77_9
                try clear hfz79_0
                try clear hfz79_1
                try clear hfz79_10
                try clear hfz79_11
                try clear hfz79_2
                try clear hfz79_3
                try clear hfz79_4
                try clear hfz79_5
                try clear hfz79_6
                try clear hfz79_7
                try clear hfz79_8
                try clear hfz79_9
                try clear hx225_0
                try clear hx226_0
                try clear hx227_0
                try clear hx231_0
                try clear hx232_0
                try clear hx233_0
                try clear hx239_0
                try clear p225
                try clear p226
                try clear p227
                try clear p231
                try clear p232
                try clear p233
                try clear p239
                try clear q225
                try clear q226
                try clear q227
                try clear q231
                try clear q232
                try clear q233
                try clear q239
                obtain ⟨kq, x202000_50, x202001_50, x202002_50, x202003_50, x202004_50, x202005_50, x202006_50, x202007_50, x202008_50, x202009_50, x202010_50, x202011_50, x215000_50, x215001_50, x215002_50, x215003_50, x215004_50, x215005_50, x215006_50, x215007_50, x215008_50, x215009_50, x215010_50, x215011_50, HA, HJ50, HO_5, HO_6, BK201, BK214, HB⟩ := hcut
                cases kq with
                | zero => exact absurd HA.out (by simp [dominoref05_Get.j3])
                | succ kj50 =>
                 have H := HA.out
                 clear HA
                 simp only [dominoref05_Get.j3] at H
                 by_cases c80 : 0 < (t219.length : Int)
                 ·rw [if_pos c80] at H
                  have c80b0 : decide (0 < (t219.length : Int)) = true := decide_eq_true c80
                  have c80b1 : decide (0 < t219.length) = true := decide_eq_true (by omega)
                  clear c80
                  by_cases c81 : (rd t219 0) = 2
                  ·rw [if_pos c81] at H
                   have c81b0 : ((rd t219 0) == 2) = true := beq_iff_eq.mpr c81
                   have c81b1 : ((rd t219 0) != 2) = false := bne_eq_false_iff_eq.mpr c81
                   clear c81
                   by_cases c82 : ((t220.extract 0 ((rd t219 1) : Int).toNat).size : Int) = 16
                   ·rw [if_pos c82] at H
                    have c82b0 : (((t220.extract 0 ((rd t219 1) : Int).toNat).size : Int) == 16) = true := beq_iff_eq.mpr c82
                    have c82b0m : ((((min ((rd t219 1) : Int).toNat t220.size : Nat)) : Int) == 16) = true := by have h_ := c82b0; simp only [ByteArray.size_extract, Nat.sub_zero] at h_; exact h_
                    have c82b1 : (((t220.extract 0 ((rd t219 1) : Int).toNat).size : Int) != 16) = false := bne_eq_false_iff_eq.mpr c82
                    have c82b1m : ((((min ((rd t219 1) : Int).toNat t220.size : Nat)) : Int) != 16) = false := by have h_ := c82b1; simp only [ByteArray.size_extract, Nat.sub_zero] at h_; exact h_
                    clear c82
                    have H' := Aside0.mk H
                    clear H
                    have p252 : 0 ≤ (0 : Int) := (by omega)
                    have q252 : 0 < (t219.length : Int) := of_decide_eq_true (by first | (with_reducible assumption) | assumption)
                    obtain ⟨ad252, e252, hx252_0⟩ := Kd.at_int (Kd.R_reads' HO_6.out).2.2 0 p252 q252
                    obtain rfl : ad227 = ad252 := (by injection e252)
                    have qi252 : (0 < t219.length) = True := eq_true (by omega)
                    (try rw [show ((0 : Int)).toNat = 0 from rfl] at hx252_0)
                    (try rw [Addr.add_zero'] at hx252_0)
                    replace p252 := eq_true p252
                    replace q252 := eq_true q252
                    have hnb83 := NB214_201.out
                    have hnc83 := NB201_214.out
                    have hcz84_0 : wc.cell? ⟨gb214, 0, none⟩ = some (.int .u64 x215000_50) := (blk_cell BK214.out 0).trans rfl
                    have hcz84_1 : wc.cell? ⟨gb214, 1, none⟩ = some (.int .u64 x215001_50) := (blk_cell BK214.out 1).trans rfl
                    have hcz84_2 : wc.cell? ⟨gb214, 2, none⟩ = some (.int .u64 x215002_50) := (blk_cell BK214.out 2).trans rfl
                    have hcz84_3 : wc.cell? ⟨gb214, 3, none⟩ = some (.int .u64 x215003_50) := (blk_cell BK214.out 3).trans rfl
                    have hcz84_4 : wc.cell? ⟨gb214, 4, none⟩ = some (.int .u64 x215004_50) := (blk_cell BK214.out 4).trans rfl
                    have hcz84_5 : wc.cell? ⟨gb214, 5, none⟩ = some (.int .u64 x215005_50) := (blk_cell BK214.out 5).trans rfl
                    have hcz84_6 : wc.cell? ⟨gb214, 6, none⟩ = some (.int .u64 x215006_50) := (blk_cell BK214.out 6).trans rfl
                    have hcz84_7 : wc.cell? ⟨gb214, 7, none⟩ = some (.int .u64 x215007_50) := (blk_cell BK214.out 7).trans rfl
                    have hcz84_8 : wc.cell? ⟨gb214, 8, none⟩ = some (.int .u64 x215008_50) := (blk_cell BK214.out 8).trans rfl
                    have hcz84_9 : wc.cell? ⟨gb214, 9, none⟩ = some (.int .u64 x215009_50) := (blk_cell BK214.out 9).trans rfl
                    have hcz84_10 : wc.cell? ⟨gb214, 10, none⟩ = some (.int .u64 x215010_50) := (blk_cell BK214.out 10).trans rfl
                    have hcz84_11 : wc.cell? ⟨gb214, 11, none⟩ = some (.string x215011_50) := (blk_cell BK214.out 11).trans rfl
                    have hfz84_0 := blk_frozen BK214.out 0
                    have hfz84_1 := blk_frozen BK214.out 1
                    have hfz84_2 := blk_frozen BK214.out 2
                    have hfz84_3 := blk_frozen BK214.out 3
                    have hfz84_4 := blk_frozen BK214.out 4
                    have hfz84_5 := blk_frozen BK214.out 5
                    have hfz84_6 := blk_frozen BK214.out 6
                    have hfz84_7 := blk_frozen BK214.out 7
                    have hfz84_8 := blk_frozen BK214.out 8
                    have hfz84_9 := blk_frozen BK214.out 9
                    have hfz84_10 := blk_frozen BK214.out 10
                    have hfz84_11 := blk_frozen BK214.out 11
                    go_wp2
                    go_roundg kj50
                    case measure => have := HK1.out; have := HJ22.out; have := HK3.out; have := HJ50.out; omega
                    case rel => exact ⟨((t220.extract ((rd t219 1) : Int).toNat t220.size)), (y228), (x202000_50), (x202001_50), (x202002_50), (x202003_50), (x202004_50), (x202005_50), (x202006_50), (x202007_50), (x202008_50), (x202009_50), (x202010_50), (x202011_50), (x215000_50), (x215001_50), (x215002_50), (x215003_50), (x215004_50), (x215005_50), (x215006_50), (x215007_50), (x215008_50), (x215009_50), (x215010_50), ((t220.extract 0 ((rd t219 1) : Int).toNat)), (by first | rfl | (simp; done) | (simp [*]; done)), H', ⟨by have := HK1.out; have := HJ22.out; have := HK3.out; have := HJ50.out; omega⟩, ⟨by (with_reducible repeat (first | apply Kd.R_alloc | apply Kd.R_drewN | apply Kd.R_drew)); exact Kd.R_mono (Kd.R_far (p := ⟨gb214, 11, none⟩) (Kd.R_types HO_5.out BK214.out (by decide)) (fun _ hk => hk.2) (.string (t220.extract 0 ((rd t219 1) : Int).toNat))) (fun _ hk => trivial)⟩, ⟨by (with_reducible repeat (first | refine blk_drewN ?_ _ | refine blk_drew ?_ | refine blk_alloc ?_ _)); refine blk_far ?_ NB201_214.out _; (with_reducible repeat (first | refine blk_drewN ?_ _ | refine blk_drew ?_ | refine blk_alloc ?_ _)); exact BK201.out⟩, ⟨by (with_reducible repeat (first | refine blk_drewN ?_ _ | refine blk_drew ?_ | refine blk_alloc ?_ _)); refine blk_put (cs := #[.int .u64 x215000_50, .int .u64 x215001_50, .int .u64 x215002_50, .int .u64 x215003_50, .int .u64 x215004_50, .int .u64 x215005_50, .int .u64 x215006_50, .int .u64 x215007_50, .int .u64 x215008_50, .int .u64 x215009_50, .int .u64 x215010_50, .string x215011_50]) ?_ 11 _ rfl; (with_reducible repeat (first | refine blk_drewN ?_ _ | refine blk_drew ?_ | refine blk_alloc ?_ _)); exact BK214.out⟩, ⟨by repeat (first | (with_reducible first | exact HB.out | apply below_alloc | apply pw_below_drewN | apply below_drew1 | refine below_set ?_ GE201.out | refine below_set ?_ GE214.out) | exact HB.out)⟩⟩
                   ·rw [if_neg c82] at H
                    have c82b0 : (((t220.extract 0 ((rd t219 1) : Int).toNat).size : Int) == 16) = false := beq_eq_false_iff_ne.mpr c82
                    have c82b0m : ((((min ((rd t219 1) : Int).toNat t220.size : Nat)) : Int) == 16) = false := by have h_ := c82b0; simp only [ByteArray.size_extract, Nat.sub_zero] at h_; exact h_
                    have c82b1 : (((t220.extract 0 ((rd t219 1) : Int).toNat).size : Int) != 16) = true := bne_iff_ne.mpr c82
                    have c82b1m : ((((min ((rd t219 1) : Int).toNat t220.size : Nat)) : Int) != 16) = true := by have h_ := c82b1; simp only [ByteArray.size_extract, Nat.sub_zero] at h_; exact h_
                    simp only [Option.some.injEq, Prod.mk.injEq] at H
                    obtain ⟨rfl, rfl, rfl, rfl, rfl, rfl, rfl, rfl, rfl, rfl, rfl, rfl, rfl⟩ := H
                    have p252 : 0 ≤ (0 : Int) := (by omega)
                    have q252 : 0 < (t219.length : Int) := of_decide_eq_true (by first | (with_reducible assumption) | assumption)
                    obtain ⟨ad252, e252, hx252_0⟩ := Kd.at_int (Kd.R_reads' HO_6.out).2.2 0 p252 q252
                    obtain rfl : ad227 = ad252 := (by injection e252)
                    have qi252 : (0 < t219.length) = True := eq_true (by omega)
                    (try rw [show ((0 : Int)).toNat = 0 from rfl] at hx252_0)
                    (try rw [Addr.add_zero'] at hx252_0)
                    replace p252 := eq_true p252
                    replace q252 := eq_true q252
                    have hnb85 := NB201_214.out
                    have hnc85 := NB214_201.out
                    have hcz86_0 : wc.cell? ⟨gb201, 0, none⟩ = some (.int .u64 x202000_50) := (blk_cell BK201.out 0).trans rfl
                    have hcz86_1 : wc.cell? ⟨gb201, 1, none⟩ = some (.int .u64 x202001_50) := (blk_cell BK201.out 1).trans rfl
                    have hcz86_2 : wc.cell? ⟨gb201, 2, none⟩ = some (.int .u64 x202002_50) := (blk_cell BK201.out 2).trans rfl
                    have hcz86_3 : wc.cell? ⟨gb201, 3, none⟩ = some (.int .u64 x202003_50) := (blk_cell BK201.out 3).trans rfl
                    have hcz86_4 : wc.cell? ⟨gb201, 4, none⟩ = some (.int .u64 x202004_50) := (blk_cell BK201.out 4).trans rfl
                    have hcz86_5 : wc.cell? ⟨gb201, 5, none⟩ = some (.int .u64 x202005_50) := (blk_cell BK201.out 5).trans rfl
                    have hcz86_6 : wc.cell? ⟨gb201, 6, none⟩ = some (.int .u64 x202006_50) := (blk_cell BK201.out 6).trans rfl
                    have hcz86_7 : wc.cell? ⟨gb201, 7, none⟩ = some (.int .u64 x202007_50) := (blk_cell BK201.out 7).trans rfl
                    have hcz86_8 : wc.cell? ⟨gb201, 8, none⟩ = some (.int .u64 x202008_50) := (blk_cell BK201.out 8).trans rfl
                    have hcz86_9 : wc.cell? ⟨gb201, 9, none⟩ = some (.int .u64 x202009_50) := (blk_cell BK201.out 9).trans rfl
                    have hcz86_10 : wc.cell? ⟨gb201, 10, none⟩ = some (.int .u64 x202010_50) := (blk_cell BK201.out 10).trans rfl
                    have hcz86_11 : wc.cell? ⟨gb201, 11, none⟩ = some (.string x202011_50) := (blk_cell BK201.out 11).trans rfl
                    have hfz86_0 := blk_frozen BK201.out 0
                    have hfz86_1 := blk_frozen BK201.out 1
                    have hfz86_2 := blk_frozen BK201.out 2
                    have hfz86_3 := blk_frozen BK201.out 3
                    have hfz86_4 := blk_frozen BK201.out 4
                    have hfz86_5 := blk_frozen BK201.out 5
                    have hfz86_6 := blk_frozen BK201.out 6
                    have hfz86_7 := blk_frozen BK201.out 7
                    have hfz86_8 := blk_frozen BK201.out 8
                    have hfz86_9 := blk_frozen BK201.out 9
                    have hfz86_10 := blk_frozen BK201.out 10
                    have hfz86_11 := blk_frozen BK201.out 11
                    go_wp2
                    refine bodyPost_ret (results_ct rfl _ _ gb201 26 #[.int .u64 0, .int .u64 0, .int .u64 0, .int .u64 0, .int .u64 0, .int .u64 0, .int .u64 0, .int .u64 0, .int .u64 0, .int .u64 0, .int .u64 0, .string (⟨#[]⟩ : ByteArray)] (0, 0) _ rfl (by (with_reducible repeat (first | refine blk_drewN ?_ _ | refine blk_drew ?_ | refine blk_alloc ?_ _)); refine blk_put (cs := #[.int .u64 0, .int .u64 0, .int .u64 0, .int .u64 0, .int .u64 0, .int .u64 0, .int .u64 0, .int .u64 0, .int .u64 0, .int .u64 0, .int .u64 0, .string x202011_50]) ?_ 11 _ rfl; (with_reducible repeat (first | refine blk_drewN ?_ _ | refine blk_drew ?_ | refine blk_alloc ?_ _)); refine blk_put (cs := #[.int .u64 0, .int .u64 0, .int .u64 0, .int .u64 0, .int .u64 0, .int .u64 0, .int .u64 0, .int .u64 0, .int .u64 0, .int .u64 0, .int .u64 x202010_50, .string x202011_50]) ?_ 10 _ rfl; (with_reducible repeat (first | refine blk_drewN ?_ _ | refine blk_drew ?_ | refine blk_alloc ?_ _)); refine blk_put (cs := #[.int .u64 0, .int .u64 0, .int .u64 0, .int .u64 0, .int .u64 0, .int .u64 0, .int .u64 0, .int .u64 0, .int .u64 0, .int .u64 x202009_50, .int .u64 x202010_50, .string x202011_50]) ?_ 9 _ rfl; (with_reducible repeat (first | refine blk_drewN ?_ _ | refine blk_drew ?_ | refine blk_alloc ?_ _)); refine blk_put (cs := #[.int .u64 0, .int .u64 0, .int .u64 0, .int .u64 0, .int .u64 0, .int .u64 0, .int .u64 0, .int .u64 0, .int .u64 x202008_50, .int .u64 x202009_50, .int .u64 x202010_50, .string x202011_50]) ?_ 8 _ rfl; (with_reducible repeat (first | refine blk_drewN ?_ _ | refine blk_drew ?_ | refine blk_alloc ?_ _)); refine blk_put (cs := #[.int .u64 0, .int .u64 0, .int .u64 0, .int .u64 0, .int .u64 0, .int .u64 0, .int .u64 0, .int .u64 x202007_50, .int .u64 x202008_50, .int .u64 x202009_50, .int .u64 x202010_50, .string x202011_50]) ?_ 7 _ rfl; (with_reducible repeat (first | refine blk_drewN ?_ _ | refine blk_drew ?_ | refine blk_alloc ?_ _)); refine blk_put (cs := #[.int .u64 0, .int .u64 0, .int .u64 0, .int .u64 0, .int .u64 0, .int .u64 0, .int .u64 x202006_50, .int .u64 x202007_50, .int .u64 x202008_50, .int .u64 x202009_50, .int .u64 x202010_50, .string x202011_50]) ?_ 6 _ rfl; (with_reducible repeat (first | refine blk_drewN ?_ _ | refine blk_drew ?_ | refine blk_alloc ?_ _)); refine blk_put (cs := #[.int .u64 0, .int .u64 0, .int .u64 0, .int .u64 0, .int .u64 0, .int .u64 x202005_50, .int .u64 x202006_50, .int .u64 x202007_50, .int .u64 x202008_50, .int .u64 x202009_50, .int .u64 x202010_50, .string x202011_50]) ?_ 5 _ rfl; (with_reducible repeat (first | refine blk_drewN ?_ _ | refine blk_drew ?_ | refine blk_alloc ?_ _)); refine blk_put (cs := #[.int .u64 0, .int .u64 0, .int .u64 0, .int .u64 0, .int .u64 x202004_50, .int .u64 x202005_50, .int .u64 x202006_50, .int .u64 x202007_50, .int .u64 x202008_50, .int .u64 x202009_50, .int .u64 x202010_50, .string x202011_50]) ?_ 4 _ rfl; (with_reducible repeat (first | refine blk_drewN ?_ _ | refine blk_drew ?_ | refine blk_alloc ?_ _)); refine blk_put (cs := #[.int .u64 0, .int .u64 0, .int .u64 0, .int .u64 x202003_50, .int .u64 x202004_50, .int .u64 x202005_50, .int .u64 x202006_50, .int .u64 x202007_50, .int .u64 x202008_50, .int .u64 x202009_50, .int .u64 x202010_50, .string x202011_50]) ?_ 3 _ rfl; (with_reducible repeat (first | refine blk_drewN ?_ _ | refine blk_drew ?_ | refine blk_alloc ?_ _)); refine blk_put (cs := #[.int .u64 0, .int .u64 0, .int .u64 x202002_50, .int .u64 x202003_50, .int .u64 x202004_50, .int .u64 x202005_50, .int .u64 x202006_50, .int .u64 x202007_50, .int .u64 x202008_50, .int .u64 x202009_50, .int .u64 x202010_50, .string x202011_50]) ?_ 2 _ rfl; (with_reducible repeat (first | refine blk_drewN ?_ _ | refine blk_drew ?_ | refine blk_alloc ?_ _)); refine blk_put (cs := #[.int .u64 0, .int .u64 x202001_50, .int .u64 x202002_50, .int .u64 x202003_50, .int .u64 x202004_50, .int .u64 x202005_50, .int .u64 x202006_50, .int .u64 x202007_50, .int .u64 x202008_50, .int .u64 x202009_50, .int .u64 x202010_50, .string x202011_50]) ?_ 1 _ rfl; (with_reducible repeat (first | refine blk_drewN ?_ _ | refine blk_drew ?_ | refine blk_alloc ?_ _)); refine blk_put (cs := #[.int .u64 x202000_50, .int .u64 x202001_50, .int .u64 x202002_50, .int .u64 x202003_50, .int .u64 x202004_50, .int .u64 x202005_50, .int .u64 x202006_50, .int .u64 x202007_50, .int .u64 x202008_50, .int .u64 x202009_50, .int .u64 x202010_50, .string x202011_50]) ?_ 0 _ rfl; (with_reducible repeat (first | refine blk_drewN ?_ _ | refine blk_drew ?_ | refine blk_alloc ?_ _)); exact BK201.out) Tryd.underlying26 rfl (by kernel_rfl)) rfl ?_
                    exact ⟨by first | rfl | (simp [errW_none, errW_some] <;> rfl) | (simp [*, errW_none, errW_some] <;> rfl), by repeat (first | (with_reducible first | exact HB.out | apply below_alloc | apply pw_below_drewN | apply below_drew1 | refine below_set ?_ GE201.out | refine below_set ?_ GE214.out) | exact HB.out)⟩
                  ·rw [if_neg c81] at H
                   have c81b0 : ((rd t219 0) == 2) = false := beq_eq_false_iff_ne.mpr c81
                   have c81b1 : ((rd t219 0) != 2) = true := bne_iff_ne.mpr c81
                   have H' := Aside0.mk H
                   clear H
                   have p252 : 0 ≤ (0 : Int) := (by omega)
                   have q252 : 0 < (t219.length : Int) := of_decide_eq_true (by first | (with_reducible assumption) | assumption)
                   obtain ⟨ad252, e252, hx252_0⟩ := Kd.at_int (Kd.R_reads' HO_6.out).2.2 0 p252 q252
                   obtain rfl : ad227 = ad252 := (by injection e252)
                   have qi252 : (0 < t219.length) = True := eq_true (by omega)
                   (try rw [show ((0 : Int)).toNat = 0 from rfl] at hx252_0)
                   (try rw [Addr.add_zero'] at hx252_0)
                   replace p252 := eq_true p252
                   replace q252 := eq_true q252
                   go_wp2
                   go_roundg kj50
                   case measure => have := HK1.out; have := HJ22.out; have := HK3.out; have := HJ50.out; omega
                   case rel => exact ⟨((t220.extract ((rd t219 1) : Int).toNat t220.size)), (y228), (x202000_50), (x202001_50), (x202002_50), (x202003_50), (x202004_50), (x202005_50), (x202006_50), (x202007_50), (x202008_50), (x202009_50), (x202010_50), (x202011_50), (x215000_50), (x215001_50), (x215002_50), (x215003_50), (x215004_50), (x215005_50), (x215006_50), (x215007_50), (x215008_50), (x215009_50), (x215010_50), (x215011_50), (by first | rfl | (simp; done) | (simp [*]; done)), H', ⟨by have := HK1.out; have := HJ22.out; have := HK3.out; have := HJ50.out; omega⟩, ⟨by (with_reducible repeat (first | apply Kd.R_alloc | apply Kd.R_drewN | apply Kd.R_drew)); exact Kd.R_mono HO_5.out (fun _ hk => trivial)⟩, ⟨by (with_reducible repeat (first | refine blk_drewN ?_ _ | refine blk_drew ?_ | refine blk_alloc ?_ _)); exact BK201.out⟩, ⟨by (with_reducible repeat (first | refine blk_drewN ?_ _ | refine blk_drew ?_ | refine blk_alloc ?_ _)); exact BK214.out⟩, ⟨by repeat (first | (with_reducible first | exact HB.out | apply below_alloc | apply pw_below_drewN | apply below_drew1 | refine below_set ?_ GE201.out | refine below_set ?_ GE214.out) | exact HB.out)⟩⟩
                 ·rw [if_neg c80] at H
                  exact absurd H (by simp)
              ·rw [if_neg c47] at H
               exact absurd H (by simp)
             ·rw [if_neg c46] at H
              exact absurd H (by simp)
            ·rw [if_neg c45] at H
             exact absurd H (by simp)
           ·rw [if_neg c44] at H
            exact absurd H (by simp)
          ·rw [if_neg c43] at H
           exact absurd H (by simp)

end Go.Proofs.YthbnedjcaflofaaDoor.PPax
