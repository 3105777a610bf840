-- printed for this claim by a program of the claim (wip/tools/pp.py over the kit's print)
import Derived.Test.YtpjohlcidmnikaaPRgxx0
import Derived.Test.YtpjohlcidmnikaaPRgxx3
import Derived.Test.YtpjohlcidmnikaaPRgxx4
import Derived.Test.YtpjohlcidmnikaaPRgxx5
import Derived.Test.YtpjohlcidmnikaaPRgxx6
import Derived.Test.YtpjohlcidmnikaaPRgxx8
import Derived.Test.YtpjohlcidmnikaaPRgxx9
namespace Go.Proofs.Ytpjohlcidmnikaa.PRgx
open Go.RowKit Go.Proofs.YtpjohlcidmnikaaW.PrintWords Go.Proofs.YtpjohlcidmnikaaW.PrintLast Go.Proofs.YtpjohlcidmnikaaW.PrintMore
attribute [local go_sem] max2_int min2_int max_two min_two max_three min_three max_four min_four   -- for this text's walks alone
set_option linter.unusedVariables false
set_option linter.unusedSimpArgs false

attribute [local go_sem] isSome_setCell_
/-! ### dominolaw03_RangesTells: function 7 -/
def dominolaw03_RangesTells.j0 : Nat → List (S34) → List (S34) → Int → Bool → Int → Int → Option (Bool)
 | 0, _, _, _, _, _, _ => none
 | k + 1, x0, x1, x3, x31, x356000, x356001 => if x31 = true then ((dominolaw03_shown.f k).bind fun t363 => (some t363)) else ((ranges_Of.f k x0).bind fun t365 => ((ranges_Of.f k x1).bind fun t368 => ((dominolaw03_its.f k x0).bind fun t371 => ((dominoref03_Of.f k t371).bind fun t374 => ((dominolaw03_its.f k x1).bind fun t377 => ((dominoref03_Of.f k t377).bind fun t380 => ((dominolaw03_its.f k t365).bind fun t383 => ((dominoref03_Same.f k t383 t374).bind fun t386 => (if t386 = true then ((ranges_May.f k t365).bind fun t387 => (if t387 = true then ((ranges_May.f k x0).bind fun t388 => ((dominolaw03_its.f k x0).bind fun t389 => ((dominoref03_May.f k t389).bind fun t392 => (if (t388 == t392) = true then ((ranges_Has.f t365 x3).bind fun t393 => ((dominoref03_Has.f k t374 x3).bind fun t394 => (if (t393 == t394) = true then ((ranges_Add.f k t365 x356000 x356001).bind fun t395 => ((dominolaw03_its.f k t395).bind fun t398 => ((dominoref03_Add.f k t374 x356000 x356001).bind fun t401 => ((dominoref03_Same.f k t398 t401).bind fun t404 => (if t404 = true then ((ranges_Cut.f k t365 x356000 x356001).bind fun t405 => ((dominolaw03_its.f k t405).bind fun t408 => ((dominoref03_Cut.f k t374 x356000 x356001).bind fun t411 => ((dominoref03_Same.f k t408 t411).bind fun t414 => (if t414 = true then ((ranges_Meet.f k t365 t368).bind fun t415 => ((dominolaw03_its.f k t415).bind fun t418 => ((dominoref03_Meet.f k t374 t380).bind fun t421 => ((dominoref03_Same.f k t418 t421).bind fun t424 => (if t424 = true then ((ranges_Gaps.f k t365 x356000 x356001).bind fun t425 => ((dominolaw03_its.f k t425).bind fun t428 => ((dominoref03_Gaps.f k t374 x356000 x356001).bind fun t431 => ((dominoref03_Same.f k t428 t431).bind fun t434 => (if t434 = true then ((ranges_Count.f k t365).bind fun t435 => ((dominoref03_Count.f k t374).bind fun t436 => (some (t435 == t436)))) else (none)))))) else (none)))))) else (none)))))) else (none)))))) else (none)))) else (none))))) else (none))) else (none))))))))))
def dominolaw03_RangesTells.f (k : Nat) (l0 : List (S34)) (l1 : List (S34)) (a2_0 : Int) (a2_1 : Int) (a3 : Int) : Option (Bool) := (dominolaw03_low.f k l0).bind fun t356 => (if t356 = true then ((dominolaw03_low.f k l1).bind fun t357 => (if t357 = true then ((dominolaw03_low.f k (([(⟨a2_0, a2_1⟩ : S34)] : List (S34)))).bind fun t361 => (if t361 = true then ((dominolaw03_shown.f k).bind fun t362 => (dominolaw03_RangesTells.j0 k l0 l1 a3 (!t362) a2_0 a2_1)) else (dominolaw03_RangesTells.j0 k l0 l1 a3 true a2_0 a2_1))) else (dominolaw03_RangesTells.j0 k l0 l1 a3 true a2_0 a2_1))) else (dominolaw03_RangesTells.j0 k l0 l1 a3 true a2_0 a2_1))
theorem dominolaw03_RangesTells.mono_l : ∀ k, (∀ y0 y1 y2 y3 y4 y5, LeO (dominolaw03_RangesTells.j0 k y0 y1 y2 y3 y4 y5) (dominolaw03_RangesTells.j0 (k + 1) y0 y1 y2 y3 y4 y5))
 | 0 => fun _ _ _ _ _ _ r h => by simp [dominolaw03_RangesTells.j0] at h
 | k + 1 => by
  have ih0 := dominolaw03_RangesTells.mono_l k
  ·intro y0 y1 y2 y3 y4 y5
   unfold dominolaw03_RangesTells.j0
   repeat' first
   | (with_reducible exact ih0 _ _ _ _ _ _)
   | (with_reducible exact dominolaw03_its.mono _ _)
   | (with_reducible exact dominolaw03_low.mono _ _)
   | (with_reducible exact dominolaw03_shown.mono _)
   | (with_reducible exact dominoref03_Add.mono _ _ _ _)
   | (with_reducible exact dominoref03_Count.mono _ _)
   | (with_reducible exact dominoref03_Cut.mono _ _ _ _)
   | (with_reducible exact dominoref03_Gaps.mono _ _ _ _)
   | (with_reducible exact dominoref03_Has.mono _ _ _)
   | (with_reducible exact dominoref03_May.mono _ _)
   | (with_reducible exact dominoref03_Meet.mono _ _ _)
   | (with_reducible exact dominoref03_Of.mono _ _)
   | (with_reducible exact dominoref03_Same.mono _ _ _)
   | (with_reducible exact ranges_Add.mono _ _ _ _)
   | (with_reducible exact ranges_Count.mono _ _)
   | (with_reducible exact ranges_Cut.mono _ _ _ _)
   | (with_reducible exact ranges_Gaps.mono _ _ _ _)
   | (with_reducible exact ranges_May.mono _ _)
   | (with_reducible exact ranges_Meet.mono _ _ _)
   | (with_reducible exact ranges_Of.mono _ _)
   | (with_reducible exact LeO.refl _)
   | (with_reducible exact LeO.none _)
   | (with_reducible refine LeO.ite ?_ ?_)
   | (with_reducible refine LeO.bind ?_ (fun _ => ?_))
   | exact ih0 _ _ _ _ _ _
   | exact dominolaw03_its.mono _ _
   | exact dominolaw03_low.mono _ _
   | exact dominolaw03_shown.mono _
   | exact dominoref03_Add.mono _ _ _ _
   | exact dominoref03_Count.mono _ _
   | exact dominoref03_Cut.mono _ _ _ _
   | exact dominoref03_Gaps.mono _ _ _ _
   | exact dominoref03_Has.mono _ _ _
   | exact dominoref03_May.mono _ _
   | exact dominoref03_Meet.mono _ _ _
   | exact dominoref03_Of.mono _ _
   | exact dominoref03_Same.mono _ _ _
   | exact ranges_Add.mono _ _ _ _
   | exact ranges_Count.mono _ _
   | exact ranges_Cut.mono _ _ _ _
   | exact ranges_Gaps.mono _ _ _ _
   | exact ranges_May.mono _ _
   | exact ranges_Meet.mono _ _ _
   | exact ranges_Of.mono _ _
   | exact LeO.none _
   | refine LeO.ite ?_ ?_
   | refine LeO.bind ?_ (fun _ => ?_)
theorem dominolaw03_RangesTells.mono : ∀ a0 a1 a2 a3 a4 k, LeO (dominolaw03_RangesTells.f k a0 a1 a2 a3 a4) (dominolaw03_RangesTells.f (k + 1) a0 a1 a2 a3 a4) := by
 intro a0 a1 a2 a3 a4 k
 have ih0 := dominolaw03_RangesTells.mono_l k
 unfold dominolaw03_RangesTells.f
 repeat' first
   | (with_reducible exact ih0 _ _ _ _ _ _)
   | (with_reducible exact dominolaw03_its.mono _ _)
   | (with_reducible exact dominolaw03_low.mono _ _)
   | (with_reducible exact dominolaw03_shown.mono _)
   | (with_reducible exact dominoref03_Add.mono _ _ _ _)
   | (with_reducible exact dominoref03_Count.mono _ _)
   | (with_reducible exact dominoref03_Cut.mono _ _ _ _)
   | (with_reducible exact dominoref03_Gaps.mono _ _ _ _)
   | (with_reducible exact dominoref03_Has.mono _ _ _)
   | (with_reducible exact dominoref03_May.mono _ _)
   | (with_reducible exact dominoref03_Meet.mono _ _ _)
   | (with_reducible exact dominoref03_Of.mono _ _)
   | (with_reducible exact dominoref03_Same.mono _ _ _)
   | (with_reducible exact ranges_Add.mono _ _ _ _)
   | (with_reducible exact ranges_Count.mono _ _)
   | (with_reducible exact ranges_Cut.mono _ _ _ _)
   | (with_reducible exact ranges_Gaps.mono _ _ _ _)
   | (with_reducible exact ranges_May.mono _ _)
   | (with_reducible exact ranges_Meet.mono _ _ _)
   | (with_reducible exact ranges_Of.mono _ _)
   | (with_reducible exact LeO.refl _)
   | (with_reducible exact LeO.none _)
   | (with_reducible refine LeO.ite ?_ ?_)
   | (with_reducible refine LeO.bind ?_ (fun _ => ?_))
   | exact ih0 _ _ _ _ _ _
   | exact dominolaw03_its.mono _ _
   | exact dominolaw03_low.mono _ _
   | exact dominolaw03_shown.mono _
   | exact dominoref03_Add.mono _ _ _ _
   | exact dominoref03_Count.mono _ _
   | exact dominoref03_Cut.mono _ _ _ _
   | exact dominoref03_Gaps.mono _ _ _ _
   | exact dominoref03_Has.mono _ _ _
   | exact dominoref03_May.mono _ _
   | exact dominoref03_Meet.mono _ _ _
   | exact dominoref03_Of.mono _ _
   | exact dominoref03_Same.mono _ _ _
   | exact ranges_Add.mono _ _ _ _
   | exact ranges_Count.mono _ _
   | exact ranges_Cut.mono _ _ _ _
   | exact ranges_Gaps.mono _ _ _ _
   | exact ranges_May.mono _ _
   | exact ranges_Meet.mono _ _ _
   | exact ranges_Of.mono _ _
   | exact LeO.none _
   | refine LeO.ite ?_ ?_
   | refine LeO.bind ?_ (fun _ => ?_)
def dominolaw03_RangesTells.T8 : Bool × List (List Nat × List Nat) := (true, [([], []), ([0], [0]), ([], []), ([1, 2, 1], [1, 2]), ([3, 3], [3]), ([4], [4]), ([5, 4, 4], [4, 5]), ([4, 6], [4, 6]), ([7, 6], [7]), ([8], [8]), ([9, 8, 8], [8, 9]), ([8], [8]), ([11, 10, 8], [8, 11]), ([12, 12, 8], [8, 12]), ([10, 13, 8], [8, 10, 13]), ([8, 14], [8, 14]), ([15, 13], [15]), ([16], [16]), ([16], [16]), ([17, 18, 16, 16], [16, 17, 18]), ([16], [16]), ([16], [16]), ([20, 21, 19, 16], [16, 20, 21]), ([19, 22, 16], [16, 19, 22]), ([16, 23], [16, 23]), ([24, 22], [24]), ([25], [25]), ([25], [25]), ([26, 27, 25, 25], [25, 26, 27]), ([28, 28, 25], [25, 28]), ([25], [25]), ([25], [25]), ([30, 31, 29, 25], [25, 30, 31]), ([29, 32, 32, 25], [25, 29, 32]), ([25, 33], [25, 33]), ([34, 33], [34]), ([35], [35]), ([35], [35]), ([36, 37, 35, 35], [35, 36, 37]), ([38, 38, 35], [35, 38]), ([35], [35]), ([35], [35]), ([40, 41, 39, 35], [35, 40, 41]), ([39, 42, 42, 35], [35, 39, 42]), ([35, 43], [35, 43]), ([44, 43], [44]), ([45], [45]), ([45], [45]), ([46, 47, 45, 45], [45, 46, 47]), ([48, 48, 45], [45, 48]), ([45], [45]), ([45], [45]), ([50, 51, 49, 45], [45, 50, 51]), ([49, 52, 52, 45], [45, 49, 52]), ([45, 53], [45, 53]), ([54, 53], [54]), ([55], [55]), ([55], [55]), ([56, 57, 55, 55], [55, 56, 57]), ([58, 58, 55], [55, 58]), ([55], [55]), ([55], [55]), ([60, 61, 59, 55], [55, 60, 61]), ([59, 62, 62, 55], [55, 59, 62]), ([55, 63], [55, 63]), ([64, 63], [64]), ([65], [65]), ([66, 65, 65], [65, 66]), ([65], [65]), ([68, 67, 65], [65, 68]), ([67, 69, 65], [65, 67, 69]), ([65, 70], [65, 70]), ([71, 69, 0, 1, 2, 3, 4, 5, 6, 7, 8, 9, 10, 11, 12, 13, 14, 15, 16, 17, 18, 19, 20, 21, 22, 23, 24, 25, 26, 27, 28, 29, 30, 31, 32, 33, 34, 35, 36, 37, 38, 39, 40, 41, 42, 43, 44, 45, 46, 47, 48, 49, 50, 51, 52, 53, 54, 55, 56, 57, 58, 59, 60, 61, 62, 63, 64, 65, 66, 67, 68, 69, 70, 71], [71])])
def dominolaw03_RangesTells.B8 : List Nat := [0, 1, 0, 7, 15, 31, 63, 127, 255, 511, 1023, 511, 4095, 8191, 16383, 32767, 65535, 131071, 131071, 524287, 131071, 131071, 4194303, 8388607, 16777215, 33554431, 67108863, 67108863, 268435455, 536870911, 67108863, 67108863, 4294967295, 8589934591, 17179869183, 34359738367, 68719476735, 68719476735, 274877906943, 549755813887, 68719476735, 68719476735, 4398046511103, 8796093022207, 17592186044415, 35184372088831, 70368744177663, 70368744177663, 281474976710655, 562949953421311, 70368744177663, 70368744177663, 4503599627370495, 9007199254740991, 18014398509481983, 36028797018963967, 72057594037927935, 72057594037927935, 288230376151711743, 576460752303423487, 72057594037927935, 72057594037927935, 4611686018427387903, 9223372036854775807, 18446744073709551615, 36893488147419103231, 73786976294838206463, 147573952589676412927, 73786976294838206463, 590295810358705651711, 1180591620717411303423, 2361183241434822606847, 4722366482869645213695]
theorem dominolaw03_RangesTells.tab8 : rtab .any (opsOf Try.f7 8) = dominolaw03_RangesTells.T8 := by kernel_rfl
theorem dominolaw03_RangesTells.bits8 : waitsOk dominolaw03_RangesTells.T8.2 dominolaw03_RangesTells.B8 = true := by kernel_rfl
set_option maxHeartbeats 8000000 in
set_option maxRecDepth 100000 in
theorem dominolaw03_RangesTells.calls (k : Nat) (A0 : Option Addr) (c0 : Nat) (l0 : List (S34)) (A1 : Option Addr) (c1 : Nat) (l1 : List (S34)) (a2_0 : Int) (a2_1 : Int) (a3 : Int) (r : Bool) (w : World) (hr0 : Kd.C k34 w A0 l0.length l0) (hc0 : l0.length ≤ c0) (hr1 : Kd.C k34 w A1 l1.length l1) (hc1 : l1.length ≤ c1) (h : dominolaw03_RangesTells.f k l0 l1 a2_0 a2_1 a3 = some r) :
  Calls Try.prog 7 #[.slice A0 l0.length c0, .slice A1 l1.length c1, .agg #[.int .u64 a2_0, .int .u64 a2_1], .int .u64 a3] w fun e w' => e = .returned (.bool r) ∧ Below w.heap.size w w' := by
 have hu34 := Try.underlying34
 have hu42 := Try.underlying42
 have HR0 := Aside0.mk hr0
 have HC0 := Aside0.mk hc0
 clear hr0 hc0
 have HR1 := Aside0.mk hr1
 have HC1 := Aside0.mk hc1
 clear hr1 hc1
 have HB := Aside0.mk (Below.refl w.heap.size w)
 have H : ((dominolaw03_low.f k l0).bind fun t356 => (if t356 = true then ((dominolaw03_low.f k l1).bind fun t357 => (if t357 = true then ((dominolaw03_low.f k (([(⟨a2_0, a2_1⟩ : S34)] : List (S34)))).bind fun t361 => (if t361 = true then ((dominolaw03_shown.f k).bind fun t362 => (dominolaw03_RangesTells.j0 k l0 l1 a3 (!t362) a2_0 a2_1)) else (dominolaw03_RangesTells.j0 k l0 l1 a3 true a2_0 a2_1))) else (dominolaw03_RangesTells.j0 k l0 l1 a3 true a2_0 a2_1))) else (dominolaw03_RangesTells.j0 k l0 l1 a3 true a2_0 a2_1))) = some r := h
 clear h
 have HC5 := Aside0.mk H
 clear H
 go_enter Try.func7, Try.ntmps7
 go_upto_region 1 with (first | ((with_reducible refine gate_dst (N := 6) rfl ?_); (try (refine gate_guard (by rfl) ?_; dsimp only)); refine box_event ?hg (N := 6) ?hd (cs := #[.int .u64 a2_0, .int .u64 a2_1]) (t := 34) ?hr ?_; (case hd => rfl); (case hg => rfl); (case hr => first | (go_simp; done) | (go_simp; rfl)); intro gb355 hg w6 hbox hb; have n0_ := Aside0.mk (below_step (by repeat (first | (with_reducible first | exact HB.out | apply below_alloc | apply pw_below_drewN | apply below_drew1) | exact HB.out)) hb); have n1_ := Aside0.mk (hbox); have n2_ := Aside0.mk ((by rw [hg]; exact (below_size (by repeat (first | (with_reducible first | exact HB.out | apply below_alloc | apply pw_below_drewN | apply below_drew1) | exact HB.out))) : w.heap.size ≤ gb355)); have n3_ := Aside0.mk ((by rw [hg]; exact (below_size (by repeat (first | (with_reducible first | exact HB.out | apply below_alloc | apply pw_below_drewN | apply below_drew1) | exact HB.out))) : w.heap.size ≤ gb355)); clear HB; have HB := n0_; have BK355 := n1_; have GW355 := n2_; have GE355 := n3_; clear n0_ n1_ n2_ n3_; clear hb hbox hg))
 (try simp only [Act.put, List.setIfInBounds_toArray, List.set_cons_zero, List.set_cons_succ])
 go_cut [31] (fun v31 wc => ∃ (kq : Nat) (x31_4 : Bool), v31 = .bool x31_4 ∧ Aside0 (dominolaw03_RangesTells.j0 kq l0 l1 a3 x31_4 a2_0 a2_1 = some r) ∧ Aside0 (kq ≤ k) ∧ Aside0 (wc.heap[gb355]? = some (.cells #[.int .u64 a2_0, .int .u64 a2_1] 34 (0, 0))) ∧ Aside0 (Below w.heap.size w wc))
 case first =>
  have H := HC5.out
  clear HC5
  replace H := Option.bind_eq_some_iff.mp H
  obtain ⟨t356, A70, H⟩ := H
  replace H : (if t356 = true then ((dominolaw03_low.f k l1).bind fun t357 => (if t357 = true then ((dominolaw03_low.f k (([(⟨a2_0, a2_1⟩ : S34)] : List (S34)))).bind fun t361 => (if t361 = true then ((dominolaw03_shown.f k).bind fun t362 => (dominolaw03_RangesTells.j0 k l0 l1 a3 (!t362) a2_0 a2_1)) else (dominolaw03_RangesTells.j0 k l0 l1 a3 true a2_0 a2_1))) else (dominolaw03_RangesTells.j0 k l0 l1 a3 true a2_0 a2_1))) else (dominolaw03_RangesTells.j0 k l0 l1 a3 true a2_0 a2_1)) = some r := H
  have A7 := Aside0.mk A70
  clear A70
  by_cases c8 : t356 = true
  ·subst c8
   have H1 : ((dominolaw03_low.f k l1).bind fun t357 => (if t357 = true then ((dominolaw03_low.f k (([(⟨a2_0, a2_1⟩ : S34)] : List (S34)))).bind fun t361 => (if t361 = true then ((dominolaw03_shown.f k).bind fun t362 => (dominolaw03_RangesTells.j0 k l0 l1 a3 (!t362) a2_0 a2_1)) else (dominolaw03_RangesTells.j0 k l0 l1 a3 true a2_0 a2_1))) else (dominolaw03_RangesTells.j0 k l0 l1 a3 true a2_0 a2_1))) = some r := by rw [if_pos rfl] at H; exact H
   clear H
   have H := H1
   clear H1
   replace H := Option.bind_eq_some_iff.mp H
   obtain ⟨t357, A90, H⟩ := H
   replace H : (if t357 = true then ((dominolaw03_low.f k (([(⟨a2_0, a2_1⟩ : S34)] : List (S34)))).bind fun t361 => (if t361 = true then ((dominolaw03_shown.f k).bind fun t362 => (dominolaw03_RangesTells.j0 k l0 l1 a3 (!t362) a2_0 a2_1)) else (dominolaw03_RangesTells.j0 k l0 l1 a3 true a2_0 a2_1))) else (dominolaw03_RangesTells.j0 k l0 l1 a3 true a2_0 a2_1)) = some r := H
   have A9 := Aside0.mk A90
   clear A90
   by_cases c10 : t357 = true
   ·subst c10
    have H1 : ((dominolaw03_low.f k (([(⟨a2_0, a2_1⟩ : S34)] : List (S34)))).bind fun t361 => (if t361 = true then ((dominolaw03_shown.f k).bind fun t362 => (dominolaw03_RangesTells.j0 k l0 l1 a3 (!t362) a2_0 a2_1)) else (dominolaw03_RangesTells.j0 k l0 l1 a3 true a2_0 a2_1))) = some r := by rw [if_pos rfl] at H; exact H
    clear H
    have H := H1
    clear H1
    obtain ⟨y358, hy358⟩ : ∃ y_ : List (S34), y_ = (([(⟨a2_0, a2_1⟩ : S34)] : List (S34))) := ⟨_, rfl⟩
    replace H : ((dominolaw03_low.f k y358).bind fun t361 => (if t361 = true then ((dominolaw03_shown.f k).bind fun t362 => (dominolaw03_RangesTells.j0 k l0 l1 a3 (!t362) a2_0 a2_1)) else (dominolaw03_RangesTells.j0 k l0 l1 a3 true a2_0 a2_1))) = some r := by first | (rw [hy358]; with_reducible exact H) | (have H2_ := (Option.bind_some _ _).symm.trans H; rw [hy358]; with_reducible exact H2_) | (have H2_ := (Option.bind_some _ _).symm.trans H; with_reducible exact H2_) | with_reducible exact H | (rw [hy358]; exact H) | exact H
    have Ny358 := Aside0.mk hy358
    clear hy358
    replace H := Option.bind_eq_some_iff.mp H
    obtain ⟨t361, A110, H⟩ := H
    replace H : (if t361 = true then ((dominolaw03_shown.f k).bind fun t362 => (dominolaw03_RangesTells.j0 k l0 l1 a3 (!t362) a2_0 a2_1)) else (dominolaw03_RangesTells.j0 k l0 l1 a3 true a2_0 a2_1)) = some r := H
    have A11 := Aside0.mk A110
    clear A110
    by_cases c12 : t361 = true
    ·subst c12
     have H1 : ((dominolaw03_shown.f k).bind fun t362 => (dominolaw03_RangesTells.j0 k l0 l1 a3 (!t362) a2_0 a2_1)) = some r := by rw [if_pos rfl] at H; exact H
     clear H
     have H := H1
     clear H1
     replace H := Option.bind_eq_some_iff.mp H
     obtain ⟨t362, A130, H⟩ := H
     replace H : (dominolaw03_RangesTells.j0 k l0 l1 a3 (!t362) a2_0 a2_1) = some r := H
     have A13 := Aside0.mk A130
     clear A130
     have H' := Aside0.mk H
     clear H
     go_wp2_with (first | ((with_reducible refine gate_callee (f := 14) rfl ?_); refine goesL_ (some 15) rfl rfl Try.func14 (by kernel_rfl) rfl #[.slice A0 l0.length c0] rfl (by (try simp only [List.map_toArray, List.map_cons, List.map_nil]); first | done | rfl | (simp only [List.length_drop, List.length_take]; rfl)) ?_; (with_reducible refine (dominolaw03_low.calls k _ _ l0 true _ ?side1 ?side2 A7.out).mono ?_); (case side1 => repeat (first | exact (Kd.C_below HR0.out HB.out) | (with_reducible refine Kd.C_alloc ?_ _) | (with_reducible refine Kd.C_drewN ?_ _) | (with_reducible refine Kd.C_drew ?_))); (case side2 => exact HC0.out); rintro e w' ⟨rfl, ⟨nd, rfl⟩⟩; refine ⟨_, rfl, ?_⟩) | (go_at_call 14; (with_reducible refine (dominolaw03_low.calls k _ _ l1 true _ ?side1 ?side2 A9.out).mono ?_); (case side1 => repeat (first | exact (Kd.C_below HR1.out (by repeat (first | (with_reducible first | exact HB.out | apply below_alloc | apply pw_below_drewN | apply below_drew1 | refine below_set ?_ GE355.out) | exact HB.out))) | (with_reducible refine Kd.C_alloc ?_ _) | (with_reducible refine Kd.C_drewN ?_ _) | (with_reducible refine Kd.C_drew ?_))); (case side2 => exact HC1.out); rintro e w' ⟨rfl, ⟨nd, rfl⟩⟩; have hcz14_0 : w6.cell? ⟨gb355, 0, none⟩ = some (.int .u64 a2_0) := (blk_cell BK355.out 0).trans rfl; have hcz14_1 : w6.cell? ⟨gb355, 1, none⟩ = some (.int .u64 a2_1) := (blk_cell BK355.out 1).trans rfl; have hfz14_0 := blk_frozen BK355.out 0; have hfz14_1 := blk_frozen BK355.out 1) | ((with_reducible refine gate_dst (N := 24) rfl ?_); (try (refine gate_guard (by rfl) ?_; dsimp only)); refine Kd.R_lit k34 _ 34 ?hg (N := 24) ?hd (xs := ([(⟨a2_0, a2_1⟩ : S34)] : List (S34))) (inner := [.int .u64 a2_0, .int .u64 a2_1]) (ok := fun _ => True) (okp := fun _ => True) ?hr ?hp (fun _ hk => hk) trivial (Below.refl _ _) (Nat.le_refl _) (by simp) ?_; (case hd => rfl); (case hg => rfl); (case hr => first | (go_simp; done) | (go_simp; rfl)); (case hp => exact (Reps.c2 (show Kd.M k34 _ _ _ (⟨a2_0, a2_1⟩ : S34) [.int .u64 a2_0, .int .u64 a2_1] from (k34_mkM _ _ _ (⟨a2_0, a2_1⟩ : S34) )) (Reps.none _ _))); intro v359 w15 ho16 hb hg_ hnew_; clear hg_ hnew_; (first | rw [← Ny358.out] at ho16 | (simp only [Int.reduceToNat] at ho16; rw [← Ny358.out] at ho16)); have n0_ := Aside0.mk (Kd.R_lower (Kd.R_newB ho16 (g := gb355) (o := .cells #[.int .u64 a2_0, .int .u64 a2_1] 34 (0, 0)) (by (with_reducible repeat (first | refine blk_drewN ?_ _ | refine blk_drew ?_ | refine blk_alloc ?_ _)); exact BK355.out)) (below_size (by repeat (first | (with_reducible first | exact HB.out | apply below_alloc | apply pw_below_drewN | apply below_drew1 | refine below_set ?_ GE355.out) | exact HB.out)))); have n1_ := Aside0.mk (blk_below (g := gb355) (o := .cells #[.int .u64 a2_0, .int .u64 a2_1] 34 (0, 0)) (by (with_reducible repeat (first | refine blk_drewN ?_ _ | refine blk_drew ?_ | refine blk_alloc ?_ _)); exact BK355.out) hb); have n2_ := Aside0.mk (below_step (by repeat (first | (with_reducible first | exact HB.out | apply below_alloc | apply pw_below_drewN | apply below_drew1 | refine below_set ?_ GE355.out) | exact HB.out)) hb); clear BK355; clear HB; have HO360 := n0_; have BK355 := n1_; have HB := n2_; clear n0_ n1_ n2_; clear hb ho16; obtain ⟨Ao17, co17, eo17⟩ := Kd.R_slice HO360.out; subst eo17) | (go_at_call 14; (with_reducible refine (dominolaw03_low.calls k _ _ y358 true _ ?side1 ?side2 A11.out).mono ?_); (case side1 => repeat (first | exact (Kd.R_reads' HO360.out).2.2 | (with_reducible refine Kd.C_alloc ?_ _) | (with_reducible refine Kd.C_drewN ?_ _) | (with_reducible refine Kd.C_drew ?_))); (case side2 => exact (Kd.R_reads' HO360.out).2.1); rintro e w' ⟨rfl, ⟨nd, rfl⟩⟩) | (go_at_call 10; (with_reducible refine (dominolaw03_shown.calls k  t362 _ A13.out).mono ?_); rintro e w18 ⟨rfl, hb⟩; have n0_ := Aside0.mk (Kd.R_below (by (with_reducible repeat (first | apply Kd.R_alloc | apply Kd.R_drewN | apply Kd.R_drew)); exact HO360.out) hb); have n1_ := Aside0.mk (blk_below (g := gb355) (o := .cells #[.int .u64 a2_0, .int .u64 a2_1] 34 (0, 0)) (by (with_reducible repeat (first | refine blk_drewN ?_ _ | refine blk_drew ?_ | refine blk_alloc ?_ _)); exact BK355.out) hb); have n2_ := Aside0.mk (below_step (by repeat (first | (with_reducible first | exact HB.out | apply below_alloc | apply pw_below_drewN | apply below_drew1 | refine below_set ?_ GE355.out) | exact HB.out)) hb); clear HO360; clear BK355; clear HB; have HO360 := n0_; have BK355 := n1_; have HB := n2_; clear n0_ n1_ n2_; (try clear hb); (try clear hb2); (try clear hk); (try clear hi)))
     go_meet
     case rel => exact ⟨_, (!t362), (by first | rfl | (simp; done) | (simp [*]; done)), H', ⟨by first | omega | exact Nat.le_refl _⟩, ⟨by (with_reducible repeat (first | refine blk_drewN ?_ _ | refine blk_drew ?_ | refine blk_alloc ?_ _)); exact BK355.out⟩, ⟨by repeat (first | (with_reducible first | exact HB.out | apply below_alloc | apply pw_below_drewN | apply below_drew1 | refine below_set ?_ GE355.out) | exact HB.out)⟩⟩
    ·replace c12 := Bool.eq_false_iff.mpr c12
     subst c12
     have H1 : (dominolaw03_RangesTells.j0 k l0 l1 a3 true a2_0 a2_1) = some r := by rw [if_neg (show ¬ (false = true) by decide)] at H; exact H
     clear H
     have H := H1
     clear H1
     have H' := Aside0.mk H
     clear H
     go_wp2_with (first | ((with_reducible refine gate_callee (f := 14) rfl ?_); refine goesL_ (some 15) rfl rfl Try.func14 (by kernel_rfl) rfl #[.slice A0 l0.length c0] rfl (by (try simp only [List.map_toArray, List.map_cons, List.map_nil]); first | done | rfl | (simp only [List.length_drop, List.length_take]; rfl)) ?_; (with_reducible refine (dominolaw03_low.calls k _ _ l0 true _ ?side1 ?side2 A7.out).mono ?_); (case side1 => repeat (first | exact (Kd.C_below HR0.out HB.out) | (with_reducible refine Kd.C_alloc ?_ _) | (with_reducible refine Kd.C_drewN ?_ _) | (with_reducible refine Kd.C_drew ?_))); (case side2 => exact HC0.out); rintro e w' ⟨rfl, ⟨nd, rfl⟩⟩; refine ⟨_, rfl, ?_⟩) | (go_at_call 14; (with_reducible refine (dominolaw03_low.calls k _ _ l1 true _ ?side1 ?side2 A9.out).mono ?_); (case side1 => repeat (first | exact (Kd.C_below HR1.out (by repeat (first | (with_reducible first | exact HB.out | apply below_alloc | apply pw_below_drewN | apply below_drew1 | refine below_set ?_ GE355.out) | exact HB.out))) | (with_reducible refine Kd.C_alloc ?_ _) | (with_reducible refine Kd.C_drewN ?_ _) | (with_reducible refine Kd.C_drew ?_))); (case side2 => exact HC1.out); rintro e w' ⟨rfl, ⟨nd, rfl⟩⟩; have hcz19_0 : w6.cell? ⟨gb355, 0, none⟩ = some (.int .u64 a2_0) := (blk_cell BK355.out 0).trans rfl; have hcz19_1 : w6.cell? ⟨gb355, 1, none⟩ = some (.int .u64 a2_1) := (blk_cell BK355.out 1).trans rfl; have hfz19_0 := blk_frozen BK355.out 0; have hfz19_1 := blk_frozen BK355.out 1) | ((with_reducible refine gate_dst (N := 24) rfl ?_); (try (refine gate_guard (by rfl) ?_; dsimp only)); refine Kd.R_lit k34 _ 34 ?hg (N := 24) ?hd (xs := ([(⟨a2_0, a2_1⟩ : S34)] : List (S34))) (inner := [.int .u64 a2_0, .int .u64 a2_1]) (ok := fun _ => True) (okp := fun _ => True) ?hr ?hp (fun _ hk => hk) trivial (Below.refl _ _) (Nat.le_refl _) (by simp) ?_; (case hd => rfl); (case hg => rfl); (case hr => first | (go_simp; done) | (go_simp; rfl)); (case hp => exact (Reps.c2 (show Kd.M k34 _ _ _ (⟨a2_0, a2_1⟩ : S34) [.int .u64 a2_0, .int .u64 a2_1] from (k34_mkM _ _ _ (⟨a2_0, a2_1⟩ : S34) )) (Reps.none _ _))); intro v359 w20 ho21 hb hg_ hnew_; clear hg_ hnew_; (first | rw [← Ny358.out] at ho21 | (simp only [Int.reduceToNat] at ho21; rw [← Ny358.out] at ho21)); have n0_ := Aside0.mk (Kd.R_lower (Kd.R_newB ho21 (g := gb355) (o := .cells #[.int .u64 a2_0, .int .u64 a2_1] 34 (0, 0)) (by (with_reducible repeat (first | refine blk_drewN ?_ _ | refine blk_drew ?_ | refine blk_alloc ?_ _)); exact BK355.out)) (below_size (by repeat (first | (with_reducible first | exact HB.out | apply below_alloc | apply pw_below_drewN | apply below_drew1 | refine below_set ?_ GE355.out) | exact HB.out)))); have n1_ := Aside0.mk (blk_below (g := gb355) (o := .cells #[.int .u64 a2_0, .int .u64 a2_1] 34 (0, 0)) (by (with_reducible repeat (first | refine blk_drewN ?_ _ | refine blk_drew ?_ | refine blk_alloc ?_ _)); exact BK355.out) hb); have n2_ := Aside0.mk (below_step (by repeat (first | (with_reducible first | exact HB.out | apply below_alloc | apply pw_below_drewN | apply below_drew1 | refine below_set ?_ GE355.out) | exact HB.out)) hb); clear BK355; clear HB; have HO360 := n0_; have BK355 := n1_; have HB := n2_; clear n0_ n1_ n2_; clear hb ho21; obtain ⟨Ao22, co22, eo22⟩ := Kd.R_slice HO360.out; subst eo22) | (go_at_call 14; (with_reducible refine (dominolaw03_low.calls k _ _ y358 false _ ?side1 ?side2 A11.out).mono ?_); (case side1 => repeat (first | exact (Kd.R_reads' HO360.out).2.2 | (with_reducible refine Kd.C_alloc ?_ _) | (with_reducible refine Kd.C_drewN ?_ _) | (with_reducible refine Kd.C_drew ?_))); (case side2 => exact (Kd.R_reads' HO360.out).2.1); rintro e w' ⟨rfl, ⟨nd, rfl⟩⟩))
     go_meet
     case rel => exact ⟨_, (true), (by first | rfl | (simp; done) | (simp [*]; done)), H', ⟨by first | omega | exact Nat.le_refl _⟩, ⟨by (with_reducible repeat (first | refine blk_drewN ?_ _ | refine blk_drew ?_ | refine blk_alloc ?_ _)); exact BK355.out⟩, ⟨by repeat (first | (with_reducible first | exact HB.out | apply below_alloc | apply pw_below_drewN | apply below_drew1 | refine below_set ?_ GE355.out) | exact HB.out)⟩⟩
   ·replace c10 := Bool.eq_false_iff.mpr c10
    subst c10
    have H1 : (dominolaw03_RangesTells.j0 k l0 l1 a3 true a2_0 a2_1) = some r := by rw [if_neg (show ¬ (false = true) by decide)] at H; exact H
    clear H
    have H := H1
    clear H1
    have H' := Aside0.mk H
    clear H
    go_wp2_with (first | ((with_reducible refine gate_callee (f := 14) rfl ?_); refine goesL_ (some 15) rfl rfl Try.func14 (by kernel_rfl) rfl #[.slice A0 l0.length c0] rfl (by (try simp only [List.map_toArray, List.map_cons, List.map_nil]); first | done | rfl | (simp only [List.length_drop, List.length_take]; rfl)) ?_; (with_reducible refine (dominolaw03_low.calls k _ _ l0 true _ ?side1 ?side2 A7.out).mono ?_); (case side1 => repeat (first | exact (Kd.C_below HR0.out HB.out) | (with_reducible refine Kd.C_alloc ?_ _) | (with_reducible refine Kd.C_drewN ?_ _) | (with_reducible refine Kd.C_drew ?_))); (case side2 => exact HC0.out); rintro e w' ⟨rfl, ⟨nd, rfl⟩⟩; refine ⟨_, rfl, ?_⟩) | (go_at_call 14; (with_reducible refine (dominolaw03_low.calls k _ _ l1 false _ ?side1 ?side2 A9.out).mono ?_); (case side1 => repeat (first | exact (Kd.C_below HR1.out (by repeat (first | (with_reducible first | exact HB.out | apply below_alloc | apply pw_below_drewN | apply below_drew1 | refine below_set ?_ GE355.out) | exact HB.out))) | (with_reducible refine Kd.C_alloc ?_ _) | (with_reducible refine Kd.C_drewN ?_ _) | (with_reducible refine Kd.C_drew ?_))); (case side2 => exact HC1.out); rintro e w' ⟨rfl, ⟨nd, rfl⟩⟩))
    go_meet
    case rel => exact ⟨_, (true), (by first | rfl | (simp; done) | (simp [*]; done)), H', ⟨by first | omega | exact Nat.le_refl _⟩, ⟨by (with_reducible repeat (first | refine blk_drewN ?_ _ | refine blk_drew ?_ | refine blk_alloc ?_ _)); exact BK355.out⟩, ⟨by repeat (first | (with_reducible first | exact HB.out | apply below_alloc | apply pw_below_drewN | apply below_drew1 | refine below_set ?_ GE355.out) | exact HB.out)⟩⟩
  ·replace c8 := Bool.eq_false_iff.mpr c8
   subst c8
   have H1 : (dominolaw03_RangesTells.j0 k l0 l1 a3 true a2_0 a2_1) = some r := by rw [if_neg (show ¬ (false = true) by decide)] at H; exact H
   clear H
   have H := H1
   clear H1
   have H' := Aside0.mk H
   clear H
   go_wp2_with (first | ((with_reducible refine gate_callee (f := 14) rfl ?_); refine goesL_ (some 15) rfl rfl Try.func14 (by kernel_rfl) rfl #[.slice A0 l0.length c0] rfl (by (try simp only [List.map_toArray, List.map_cons, List.map_nil]); first | done | rfl | (simp only [List.length_drop, List.length_take]; rfl)) ?_; (with_reducible refine (dominolaw03_low.calls k _ _ l0 false _ ?side1 ?side2 A7.out).mono ?_); (case side1 => repeat (first | exact (Kd.C_below HR0.out HB.out) | (with_reducible refine Kd.C_alloc ?_ _) | (with_reducible refine Kd.C_drewN ?_ _) | (with_reducible refine Kd.C_drew ?_))); (case side2 => exact HC0.out); rintro e w' ⟨rfl, ⟨nd, rfl⟩⟩; refine ⟨_, rfl, ?_⟩))
   go_meet
   case rel => exact ⟨_, (true), (by first | rfl | (simp; done) | (simp [*]; done)), H', ⟨by first | omega | exact Nat.le_refl _⟩, ⟨by (with_reducible repeat (first | refine blk_drewN ?_ _ | refine blk_drew ?_ | refine blk_alloc ?_ _)); exact BK355.out⟩, ⟨by repeat (first | (with_reducible first | exact HB.out | apply below_alloc | apply pw_below_drewN | apply below_drew1 | refine below_set ?_ GE355.out) | exact HB.out)⟩⟩
 case rest =>
  clear HC5
  try clear c1
  try clear c2
  try clear p2
  try clear c7
  try clear c8
  try clear c10
  try clear c12
  try clear c14
  try clear hcz14_0
  try clear hcz14_1
  try clear hcz19_0
  try clear hcz19_1
  try clear hfz14_0
  try clear hfz14_1
  try clear hfz19_0
  try clear hfz19_1
  obtain ⟨kq, x31_4, rfl, HA, HJ4, BK355, HB⟩ := hcut
  cases kq with
  | zero => exact absurd HA.out (by simp [dominolaw03_RangesTells.j0])
  | succ kj4 =>
   have H := HA.out
   clear HA
   simp only [dominolaw03_RangesTells.j0] at H
   by_cases c23 : x31_4 = true
   ·subst c23
    have H1 : ((dominolaw03_shown.f kj4).bind fun t363 => (some t363)) = some r := by rw [if_pos rfl] at H; exact H
    clear H
    have H := H1
    clear H1
    replace H := Option.bind_eq_some_iff.mp H
    obtain ⟨t363, A240, H⟩ := H
    replace H : (some t363) = some r := H
    have A24 := Aside0.mk A240
    clear A240
    obtain rfl := Option.some.inj H
    go_wp2_with (first | ((with_reducible refine gate_callee (f := 10) rfl ?_); refine goesL_ (some 32) rfl rfl Try.func10 (by kernel_rfl) rfl #[] rfl (by (try simp only [List.map_toArray, List.map_cons, List.map_nil]); first | done | rfl | (simp only [List.length_drop, List.length_take]; rfl)) ?_; (with_reducible refine (dominolaw03_shown.calls kj4  t363 _ A24.out).mono ?_); rintro e w25 ⟨rfl, hb⟩; refine ⟨_, rfl, ?_⟩; have n0_ := Aside0.mk (blk_below (g := gb355) (o := .cells #[.int .u64 a2_0, .int .u64 a2_1] 34 (0, 0)) (by (with_reducible repeat (first | refine blk_drewN ?_ _ | refine blk_drew ?_ | refine blk_alloc ?_ _)); exact BK355.out) hb); have n1_ := Aside0.mk (below_step (by repeat (first | (with_reducible first | exact HB.out | apply below_alloc | apply pw_below_drewN | apply below_drew1 | refine below_set ?_ GE355.out) | exact HB.out)) hb); clear BK355; clear HB; have BK355 := n0_; have HB := n1_; clear n0_ n1_; (try clear hb); (try clear hb2); (try clear hk); (try clear hi)))
    go_ret
    exact ⟨by first | rfl | (simp [errW_none, errW_some] <;> rfl) | (simp [*, errW_none, errW_some] <;> rfl), by repeat (first | (with_reducible first | exact HB.out | apply below_alloc | apply pw_below_drewN | apply below_drew1 | refine below_set ?_ GE355.out) | exact HB.out)⟩
   ·replace c23 := Bool.eq_false_iff.mpr c23
    subst c23
    have H1 : ((ranges_Of.f kj4 l0).bind fun t365 => ((ranges_Of.f kj4 l1).bind fun t368 => ((dominolaw03_its.f kj4 l0).bind fun t371 => ((dominoref03_Of.f kj4 t371).bind fun t374 => ((dominolaw03_its.f kj4 l1).bind fun t377 => ((dominoref03_Of.f kj4 t377).bind fun t380 => ((dominolaw03_its.f kj4 t365).bind fun t383 => ((dominoref03_Same.f kj4 t383 t374).bind fun t386 => (if t386 = true then ((ranges_May.f kj4 t365).bind fun t387 => (if t387 = true then ((ranges_May.f kj4 l0).bind fun t388 => ((dominolaw03_its.f kj4 l0).bind fun t389 => ((dominoref03_May.f kj4 t389).bind fun t392 => (if (t388 == t392) = true then ((ranges_Has.f t365 a3).bind fun t393 => ((dominoref03_Has.f kj4 t374 a3).bind fun t394 => (if (t393 == t394) = true then ((ranges_Add.f kj4 t365 a2_0 a2_1).bind fun t395 => ((dominolaw03_its.f kj4 t395).bind fun t398 => ((dominoref03_Add.f kj4 t374 a2_0 a2_1).bind fun t401 => ((dominoref03_Same.f kj4 t398 t401).bind fun t404 => (if t404 = true then ((ranges_Cut.f kj4 t365 a2_0 a2_1).bind fun t405 => ((dominolaw03_its.f kj4 t405).bind fun t408 => ((dominoref03_Cut.f kj4 t374 a2_0 a2_1).bind fun t411 => ((dominoref03_Same.f kj4 t408 t411).bind fun t414 => (if t414 = true then ((ranges_Meet.f kj4 t365 t368).bind fun t415 => ((dominolaw03_its.f kj4 t415).bind fun t418 => ((dominoref03_Meet.f kj4 t374 t380).bind fun t421 => ((dominoref03_Same.f kj4 t418 t421).bind fun t424 => (if t424 = true then ((ranges_Gaps.f kj4 t365 a2_0 a2_1).bind fun t425 => ((dominolaw03_its.f kj4 t425).bind fun t428 => ((dominoref03_Gaps.f kj4 t374 a2_0 a2_1).bind fun t431 => ((dominoref03_Same.f kj4 t428 t431).bind fun t434 => (if t434 = true then ((ranges_Count.f kj4 t365).bind fun t435 => ((dominoref03_Count.f kj4 t374).bind fun t436 => (some (t435 == t436)))) else (none)))))) else (none)))))) else (none)))))) else (none)))))) else (none)))) else (none))))) else (none))) else (none)))))))))) = some r := by rw [if_neg (show ¬ (false = true) by decide)] at H; exact H
    clear H
    have H := H1
    clear H1
    replace H := Option.bind_eq_some_iff.mp H
    obtain ⟨t365, A260, H⟩ := H
    replace H : ((ranges_Of.f kj4 l1).bind fun t368 => ((dominolaw03_its.f kj4 l0).bind fun t371 => ((dominoref03_Of.f kj4 t371).bind fun t374 => ((dominolaw03_its.f kj4 l1).bind fun t377 => ((dominoref03_Of.f kj4 t377).bind fun t380 => ((dominolaw03_its.f kj4 t365).bind fun t383 => ((dominoref03_Same.f kj4 t383 t374).bind fun t386 => (if t386 = true then ((ranges_May.f kj4 t365).bind fun t387 => (if t387 = true then ((ranges_May.f kj4 l0).bind fun t388 => ((dominolaw03_its.f kj4 l0).bind fun t389 => ((dominoref03_May.f kj4 t389).bind fun t392 => (if (t388 == t392) = true then ((ranges_Has.f t365 a3).bind fun t393 => ((dominoref03_Has.f kj4 t374 a3).bind fun t394 => (if (t393 == t394) = true then ((ranges_Add.f kj4 t365 a2_0 a2_1).bind fun t395 => ((dominolaw03_its.f kj4 t395).bind fun t398 => ((dominoref03_Add.f kj4 t374 a2_0 a2_1).bind fun t401 => ((dominoref03_Same.f kj4 t398 t401).bind fun t404 => (if t404 = true then ((ranges_Cut.f kj4 t365 a2_0 a2_1).bind fun t405 => ((dominolaw03_its.f kj4 t405).bind fun t408 => ((dominoref03_Cut.f kj4 t374 a2_0 a2_1).bind fun t411 => ((dominoref03_Same.f kj4 t408 t411).bind fun t414 => (if t414 = true then ((ranges_Meet.f kj4 t365 t368).bind fun t415 => ((dominolaw03_its.f kj4 t415).bind fun t418 => ((dominoref03_Meet.f kj4 t374 t380).bind fun t421 => ((dominoref03_Same.f kj4 t418 t421).bind fun t424 => (if t424 = true then ((ranges_Gaps.f kj4 t365 a2_0 a2_1).bind fun t425 => ((dominolaw03_its.f kj4 t425).bind fun t428 => ((dominoref03_Gaps.f kj4 t374 a2_0 a2_1).bind fun t431 => ((dominoref03_Same.f kj4 t428 t431).bind fun t434 => (if t434 = true then ((ranges_Count.f kj4 t365).bind fun t435 => ((dominoref03_Count.f kj4 t374).bind fun t436 => (some (t435 == t436)))) else (none)))))) else (none)))))) else (none)))))) else (none)))))) else (none)))) else (none))))) else (none))) else (none))))))))) = some r := H
    have A26 := Aside0.mk A260
    clear A260
    replace H := Option.bind_eq_some_iff.mp H
    obtain ⟨t368, A270, H⟩ := H
    replace H : ((dominolaw03_its.f kj4 l0).bind fun t371 => ((dominoref03_Of.f kj4 t371).bind fun t374 => ((dominolaw03_its.f kj4 l1).bind fun t377 => ((dominoref03_Of.f kj4 t377).bind fun t380 => ((dominolaw03_its.f kj4 t365).bind fun t383 => ((dominoref03_Same.f kj4 t383 t374).bind fun t386 => (if t386 = true then ((ranges_May.f kj4 t365).bind fun t387 => (if t387 = true then ((ranges_May.f kj4 l0).bind fun t388 => ((dominolaw03_its.f kj4 l0).bind fun t389 => ((dominoref03_May.f kj4 t389).bind fun t392 => (if (t388 == t392) = true then ((ranges_Has.f t365 a3).bind fun t393 => ((dominoref03_Has.f kj4 t374 a3).bind fun t394 => (if (t393 == t394) = true then ((ranges_Add.f kj4 t365 a2_0 a2_1).bind fun t395 => ((dominolaw03_its.f kj4 t395).bind fun t398 => ((dominoref03_Add.f kj4 t374 a2_0 a2_1).bind fun t401 => ((dominoref03_Same.f kj4 t398 t401).bind fun t404 => (if t404 = true then ((ranges_Cut.f kj4 t365 a2_0 a2_1).bind fun t405 => ((dominolaw03_its.f kj4 t405).bind fun t408 => ((dominoref03_Cut.f kj4 t374 a2_0 a2_1).bind fun t411 => ((dominoref03_Same.f kj4 t408 t411).bind fun t414 => (if t414 = true then ((ranges_Meet.f kj4 t365 t368).bind fun t415 => ((dominolaw03_its.f kj4 t415).bind fun t418 => ((dominoref03_Meet.f kj4 t374 t380).bind fun t421 => ((dominoref03_Same.f kj4 t418 t421).bind fun t424 => (if t424 = true then ((ranges_Gaps.f kj4 t365 a2_0 a2_1).bind fun t425 => ((dominolaw03_its.f kj4 t425).bind fun t428 => ((dominoref03_Gaps.f kj4 t374 a2_0 a2_1).bind fun t431 => ((dominoref03_Same.f kj4 t428 t431).bind fun t434 => (if t434 = true then ((ranges_Count.f kj4 t365).bind fun t435 => ((dominoref03_Count.f kj4 t374).bind fun t436 => (some (t435 == t436)))) else (none)))))) else (none)))))) else (none)))))) else (none)))))) else (none)))) else (none))))) else (none))) else (none)))))))) = some r := H
    have A27 := Aside0.mk A270
    clear A270
    replace H := Option.bind_eq_some_iff.mp H
    obtain ⟨t371, A280, H⟩ := H
    replace H : ((dominoref03_Of.f kj4 t371).bind fun t374 => ((dominolaw03_its.f kj4 l1).bind fun t377 => ((dominoref03_Of.f kj4 t377).bind fun t380 => ((dominolaw03_its.f kj4 t365).bind fun t383 => ((dominoref03_Same.f kj4 t383 t374).bind fun t386 => (if t386 = true then ((ranges_May.f kj4 t365).bind fun t387 => (if t387 = true then ((ranges_May.f kj4 l0).bind fun t388 => ((dominolaw03_its.f kj4 l0).bind fun t389 => ((dominoref03_May.f kj4 t389).bind fun t392 => (if (t388 == t392) = true then ((ranges_Has.f t365 a3).bind fun t393 => ((dominoref03_Has.f kj4 t374 a3).bind fun t394 => (if (t393 == t394) = true then ((ranges_Add.f kj4 t365 a2_0 a2_1).bind fun t395 => ((dominolaw03_its.f kj4 t395).bind fun t398 => ((dominoref03_Add.f kj4 t374 a2_0 a2_1).bind fun t401 => ((dominoref03_Same.f kj4 t398 t401).bind fun t404 => (if t404 = true then ((ranges_Cut.f kj4 t365 a2_0 a2_1).bind fun t405 => ((dominolaw03_its.f kj4 t405).bind fun t408 => ((dominoref03_Cut.f kj4 t374 a2_0 a2_1).bind fun t411 => ((dominoref03_Same.f kj4 t408 t411).bind fun t414 => (if t414 = true then ((ranges_Meet.f kj4 t365 t368).bind fun t415 => ((dominolaw03_its.f kj4 t415).bind fun t418 => ((dominoref03_Meet.f kj4 t374 t380).bind fun t421 => ((dominoref03_Same.f kj4 t418 t421).bind fun t424 => (if t424 = true then ((ranges_Gaps.f kj4 t365 a2_0 a2_1).bind fun t425 => ((dominolaw03_its.f kj4 t425).bind fun t428 => ((dominoref03_Gaps.f kj4 t374 a2_0 a2_1).bind fun t431 => ((dominoref03_Same.f kj4 t428 t431).bind fun t434 => (if t434 = true then ((ranges_Count.f kj4 t365).bind fun t435 => ((dominoref03_Count.f kj4 t374).bind fun t436 => (some (t435 == t436)))) else (none)))))) else (none)))))) else (none)))))) else (none)))))) else (none)))) else (none))))) else (none))) else (none))))))) = some r := H
    have A28 := Aside0.mk A280
    clear A280
    replace H := Option.bind_eq_some_iff.mp H
    obtain ⟨t374, A290, H⟩ := H
    replace H : ((dominolaw03_its.f kj4 l1).bind fun t377 => ((dominoref03_Of.f kj4 t377).bind fun t380 => ((dominolaw03_its.f kj4 t365).bind fun t383 => ((dominoref03_Same.f kj4 t383 t374).bind fun t386 => (if t386 = true then ((ranges_May.f kj4 t365).bind fun t387 => (if t387 = true then ((ranges_May.f kj4 l0).bind fun t388 => ((dominolaw03_its.f kj4 l0).bind fun t389 => ((dominoref03_May.f kj4 t389).bind fun t392 => (if (t388 == t392) = true then ((ranges_Has.f t365 a3).bind fun t393 => ((dominoref03_Has.f kj4 t374 a3).bind fun t394 => (if (t393 == t394) = true then ((ranges_Add.f kj4 t365 a2_0 a2_1).bind fun t395 => ((dominolaw03_its.f kj4 t395).bind fun t398 => ((dominoref03_Add.f kj4 t374 a2_0 a2_1).bind fun t401 => ((dominoref03_Same.f kj4 t398 t401).bind fun t404 => (if t404 = true then ((ranges_Cut.f kj4 t365 a2_0 a2_1).bind fun t405 => ((dominolaw03_its.f kj4 t405).bind fun t408 => ((dominoref03_Cut.f kj4 t374 a2_0 a2_1).bind fun t411 => ((dominoref03_Same.f kj4 t408 t411).bind fun t414 => (if t414 = true then ((ranges_Meet.f kj4 t365 t368).bind fun t415 => ((dominolaw03_its.f kj4 t415).bind fun t418 => ((dominoref03_Meet.f kj4 t374 t380).bind fun t421 => ((dominoref03_Same.f kj4 t418 t421).bind fun t424 => (if t424 = true then ((ranges_Gaps.f kj4 t365 a2_0 a2_1).bind fun t425 => ((dominolaw03_its.f kj4 t425).bind fun t428 => ((dominoref03_Gaps.f kj4 t374 a2_0 a2_1).bind fun t431 => ((dominoref03_Same.f kj4 t428 t431).bind fun t434 => (if t434 = true then ((ranges_Count.f kj4 t365).bind fun t435 => ((dominoref03_Count.f kj4 t374).bind fun t436 => (some (t435 == t436)))) else (none)))))) else (none)))))) else (none)))))) else (none)))))) else (none)))) else (none))))) else (none))) else (none)))))) = some r := H
    have A29 := Aside0.mk A290
    clear A290
    replace H := Option.bind_eq_some_iff.mp H
    obtain ⟨t377, A300, H⟩ := H
    replace H : ((dominoref03_Of.f kj4 t377).bind fun t380 => ((dominolaw03_its.f kj4 t365).bind fun t383 => ((dominoref03_Same.f kj4 t383 t374).bind fun t386 => (if t386 = true then ((ranges_May.f kj4 t365).bind fun t387 => (if t387 = true then ((ranges_May.f kj4 l0).bind fun t388 => ((dominolaw03_its.f kj4 l0).bind fun t389 => ((dominoref03_May.f kj4 t389).bind fun t392 => (if (t388 == t392) = true then ((ranges_Has.f t365 a3).bind fun t393 => ((dominoref03_Has.f kj4 t374 a3).bind fun t394 => (if (t393 == t394) = true then ((ranges_Add.f kj4 t365 a2_0 a2_1).bind fun t395 => ((dominolaw03_its.f kj4 t395).bind fun t398 => ((dominoref03_Add.f kj4 t374 a2_0 a2_1).bind fun t401 => ((dominoref03_Same.f kj4 t398 t401).bind fun t404 => (if t404 = true then ((ranges_Cut.f kj4 t365 a2_0 a2_1).bind fun t405 => ((dominolaw03_its.f kj4 t405).bind fun t408 => ((dominoref03_Cut.f kj4 t374 a2_0 a2_1).bind fun t411 => ((dominoref03_Same.f kj4 t408 t411).bind fun t414 => (if t414 = true then ((ranges_Meet.f kj4 t365 t368).bind fun t415 => ((dominolaw03_its.f kj4 t415).bind fun t418 => ((dominoref03_Meet.f kj4 t374 t380).bind fun t421 => ((dominoref03_Same.f kj4 t418 t421).bind fun t424 => (if t424 = true then ((ranges_Gaps.f kj4 t365 a2_0 a2_1).bind fun t425 => ((dominolaw03_its.f kj4 t425).bind fun t428 => ((dominoref03_Gaps.f kj4 t374 a2_0 a2_1).bind fun t431 => ((dominoref03_Same.f kj4 t428 t431).bind fun t434 => (if t434 = true then ((ranges_Count.f kj4 t365).bind fun t435 => ((dominoref03_Count.f kj4 t374).bind fun t436 => (some (t435 == t436)))) else (none)))))) else (none)))))) else (none)))))) else (none)))))) else (none)))) else (none))))) else (none))) else (none))))) = some r := H
    have A30 := Aside0.mk A300
    clear A300
    replace H := Option.bind_eq_some_iff.mp H
    obtain ⟨t380, A310, H⟩ := H
    replace H : ((dominolaw03_its.f kj4 t365).bind fun t383 => ((dominoref03_Same.f kj4 t383 t374).bind fun t386 => (if t386 = true then ((ranges_May.f kj4 t365).bind fun t387 => (if t387 = true then ((ranges_May.f kj4 l0).bind fun t388 => ((dominolaw03_its.f kj4 l0).bind fun t389 => ((dominoref03_May.f kj4 t389).bind fun t392 => (if (t388 == t392) = true then ((ranges_Has.f t365 a3).bind fun t393 => ((dominoref03_Has.f kj4 t374 a3).bind fun t394 => (if (t393 == t394) = true then ((ranges_Add.f kj4 t365 a2_0 a2_1).bind fun t395 => ((dominolaw03_its.f kj4 t395).bind fun t398 => ((dominoref03_Add.f kj4 t374 a2_0 a2_1).bind fun t401 => ((dominoref03_Same.f kj4 t398 t401).bind fun t404 => (if t404 = true then ((ranges_Cut.f kj4 t365 a2_0 a2_1).bind fun t405 => ((dominolaw03_its.f kj4 t405).bind fun t408 => ((dominoref03_Cut.f kj4 t374 a2_0 a2_1).bind fun t411 => ((dominoref03_Same.f kj4 t408 t411).bind fun t414 => (if t414 = true then ((ranges_Meet.f kj4 t365 t368).bind fun t415 => ((dominolaw03_its.f kj4 t415).bind fun t418 => ((dominoref03_Meet.f kj4 t374 t380).bind fun t421 => ((dominoref03_Same.f kj4 t418 t421).bind fun t424 => (if t424 = true then ((ranges_Gaps.f kj4 t365 a2_0 a2_1).bind fun t425 => ((dominolaw03_its.f kj4 t425).bind fun t428 => ((dominoref03_Gaps.f kj4 t374 a2_0 a2_1).bind fun t431 => ((dominoref03_Same.f kj4 t428 t431).bind fun t434 => (if t434 = true then ((ranges_Count.f kj4 t365).bind fun t435 => ((dominoref03_Count.f kj4 t374).bind fun t436 => (some (t435 == t436)))) else (none)))))) else (none)))))) else (none)))))) else (none)))))) else (none)))) else (none))))) else (none))) else (none)))) = some r := H
    have A31 := Aside0.mk A310
    clear A310
    replace H := Option.bind_eq_some_iff.mp H
    obtain ⟨t383, A320, H⟩ := H
    replace H : ((dominoref03_Same.f kj4 t383 t374).bind fun t386 => (if t386 = true then ((ranges_May.f kj4 t365).bind fun t387 => (if t387 = true then ((ranges_May.f kj4 l0).bind fun t388 => ((dominolaw03_its.f kj4 l0).bind fun t389 => ((dominoref03_May.f kj4 t389).bind fun t392 => (if (t388 == t392) = true then ((ranges_Has.f t365 a3).bind fun t393 => ((dominoref03_Has.f kj4 t374 a3).bind fun t394 => (if (t393 == t394) = true then ((ranges_Add.f kj4 t365 a2_0 a2_1).bind fun t395 => ((dominolaw03_its.f kj4 t395).bind fun t398 => ((dominoref03_Add.f kj4 t374 a2_0 a2_1).bind fun t401 => ((dominoref03_Same.f kj4 t398 t401).bind fun t404 => (if t404 = true then ((ranges_Cut.f kj4 t365 a2_0 a2_1).bind fun t405 => ((dominolaw03_its.f kj4 t405).bind fun t408 => ((dominoref03_Cut.f kj4 t374 a2_0 a2_1).bind fun t411 => ((dominoref03_Same.f kj4 t408 t411).bind fun t414 => (if t414 = true then ((ranges_Meet.f kj4 t365 t368).bind fun t415 => ((dominolaw03_its.f kj4 t415).bind fun t418 => ((dominoref03_Meet.f kj4 t374 t380).bind fun t421 => ((dominoref03_Same.f kj4 t418 t421).bind fun t424 => (if t424 = true then ((ranges_Gaps.f kj4 t365 a2_0 a2_1).bind fun t425 => ((dominolaw03_its.f kj4 t425).bind fun t428 => ((dominoref03_Gaps.f kj4 t374 a2_0 a2_1).bind fun t431 => ((dominoref03_Same.f kj4 t428 t431).bind fun t434 => (if t434 = true then ((ranges_Count.f kj4 t365).bind fun t435 => ((dominoref03_Count.f kj4 t374).bind fun t436 => (some (t435 == t436)))) else (none)))))) else (none)))))) else (none)))))) else (none)))))) else (none)))) else (none))))) else (none))) else (none))) = some r := H
    have A32 := Aside0.mk A320
    clear A320
    replace H := Option.bind_eq_some_iff.mp H
    obtain ⟨t386, A330, H⟩ := H
    replace H : (if t386 = true then ((ranges_May.f kj4 t365).bind fun t387 => (if t387 = true then ((ranges_May.f kj4 l0).bind fun t388 => ((dominolaw03_its.f kj4 l0).bind fun t389 => ((dominoref03_May.f kj4 t389).bind fun t392 => (if (t388 == t392) = true then ((ranges_Has.f t365 a3).bind fun t393 => ((dominoref03_Has.f kj4 t374 a3).bind fun t394 => (if (t393 == t394) = true then ((ranges_Add.f kj4 t365 a2_0 a2_1).bind fun t395 => ((dominolaw03_its.f kj4 t395).bind fun t398 => ((dominoref03_Add.f kj4 t374 a2_0 a2_1).bind fun t401 => ((dominoref03_Same.f kj4 t398 t401).bind fun t404 => (if t404 = true then ((ranges_Cut.f kj4 t365 a2_0 a2_1).bind fun t405 => ((dominolaw03_its.f kj4 t405).bind fun t408 => ((dominoref03_Cut.f kj4 t374 a2_0 a2_1).bind fun t411 => ((dominoref03_Same.f kj4 t408 t411).bind fun t414 => (if t414 = true then ((ranges_Meet.f kj4 t365 t368).bind fun t415 => ((dominolaw03_its.f kj4 t415).bind fun t418 => ((dominoref03_Meet.f kj4 t374 t380).bind fun t421 => ((dominoref03_Same.f kj4 t418 t421).bind fun t424 => (if t424 = true then ((ranges_Gaps.f kj4 t365 a2_0 a2_1).bind fun t425 => ((dominolaw03_its.f kj4 t425).bind fun t428 => ((dominoref03_Gaps.f kj4 t374 a2_0 a2_1).bind fun t431 => ((dominoref03_Same.f kj4 t428 t431).bind fun t434 => (if t434 = true then ((ranges_Count.f kj4 t365).bind fun t435 => ((dominoref03_Count.f kj4 t374).bind fun t436 => (some (t435 == t436)))) else (none)))))) else (none)))))) else (none)))))) else (none)))))) else (none)))) else (none))))) else (none))) else (none)) = some r := H
    have A33 := Aside0.mk A330
    clear A330
    by_cases c34 : t386 = true
    ·subst c34
     have H1 : ((ranges_May.f kj4 t365).bind fun t387 => (if t387 = true then ((ranges_May.f kj4 l0).bind fun t388 => ((dominolaw03_its.f kj4 l0).bind fun t389 => ((dominoref03_May.f kj4 t389).bind fun t392 => (if (t388 == t392) = true then ((ranges_Has.f t365 a3).bind fun t393 => ((dominoref03_Has.f kj4 t374 a3).bind fun t394 => (if (t393 == t394) = true then ((ranges_Add.f kj4 t365 a2_0 a2_1).bind fun t395 => ((dominolaw03_its.f kj4 t395).bind fun t398 => ((dominoref03_Add.f kj4 t374 a2_0 a2_1).bind fun t401 => ((dominoref03_Same.f kj4 t398 t401).bind fun t404 => (if t404 = true then ((ranges_Cut.f kj4 t365 a2_0 a2_1).bind fun t405 => ((dominolaw03_its.f kj4 t405).bind fun t408 => ((dominoref03_Cut.f kj4 t374 a2_0 a2_1).bind fun t411 => ((dominoref03_Same.f kj4 t408 t411).bind fun t414 => (if t414 = true then ((ranges_Meet.f kj4 t365 t368).bind fun t415 => ((dominolaw03_its.f kj4 t415).bind fun t418 => ((dominoref03_Meet.f kj4 t374 t380).bind fun t421 => ((dominoref03_Same.f kj4 t418 t421).bind fun t424 => (if t424 = true then ((ranges_Gaps.f kj4 t365 a2_0 a2_1).bind fun t425 => ((dominolaw03_its.f kj4 t425).bind fun t428 => ((dominoref03_Gaps.f kj4 t374 a2_0 a2_1).bind fun t431 => ((dominoref03_Same.f kj4 t428 t431).bind fun t434 => (if t434 = true then ((ranges_Count.f kj4 t365).bind fun t435 => ((dominoref03_Count.f kj4 t374).bind fun t436 => (some (t435 == t436)))) else (none)))))) else (none)))))) else (none)))))) else (none)))))) else (none)))) else (none))))) else (none))) = some r := by rw [if_pos rfl] at H; exact H
     clear H
     have H := H1
     clear H1
     replace H := Option.bind_eq_some_iff.mp H
     obtain ⟨t387, A350, H⟩ := H
     replace H : (if t387 = true then ((ranges_May.f kj4 l0).bind fun t388 => ((dominolaw03_its.f kj4 l0).bind fun t389 => ((dominoref03_May.f kj4 t389).bind fun t392 => (if (t388 == t392) = true then ((ranges_Has.f t365 a3).bind fun t393 => ((dominoref03_Has.f kj4 t374 a3).bind fun t394 => (if (t393 == t394) = true then ((ranges_Add.f kj4 t365 a2_0 a2_1).bind fun t395 => ((dominolaw03_its.f kj4 t395).bind fun t398 => ((dominoref03_Add.f kj4 t374 a2_0 a2_1).bind fun t401 => ((dominoref03_Same.f kj4 t398 t401).bind fun t404 => (if t404 = true then ((ranges_Cut.f kj4 t365 a2_0 a2_1).bind fun t405 => ((dominolaw03_its.f kj4 t405).bind fun t408 => ((dominoref03_Cut.f kj4 t374 a2_0 a2_1).bind fun t411 => ((dominoref03_Same.f kj4 t408 t411).bind fun t414 => (if t414 = true then ((ranges_Meet.f kj4 t365 t368).bind fun t415 => ((dominolaw03_its.f kj4 t415).bind fun t418 => ((dominoref03_Meet.f kj4 t374 t380).bind fun t421 => ((dominoref03_Same.f kj4 t418 t421).bind fun t424 => (if t424 = true then ((ranges_Gaps.f kj4 t365 a2_0 a2_1).bind fun t425 => ((dominolaw03_its.f kj4 t425).bind fun t428 => ((dominoref03_Gaps.f kj4 t374 a2_0 a2_1).bind fun t431 => ((dominoref03_Same.f kj4 t428 t431).bind fun t434 => (if t434 = true then ((ranges_Count.f kj4 t365).bind fun t435 => ((dominoref03_Count.f kj4 t374).bind fun t436 => (some (t435 == t436)))) else (none)))))) else (none)))))) else (none)))))) else (none)))))) else (none)))) else (none))))) else (none)) = some r := H
     have A35 := Aside0.mk A350
     clear A350
     by_cases c36 : t387 = true
     ·subst c36
      have H1 : ((ranges_May.f kj4 l0).bind fun t388 => ((dominolaw03_its.f kj4 l0).bind fun t389 => ((dominoref03_May.f kj4 t389).bind fun t392 => (if (t388 == t392) = true then ((ranges_Has.f t365 a3).bind fun t393 => ((dominoref03_Has.f kj4 t374 a3).bind fun t394 => (if (t393 == t394) = true then ((ranges_Add.f kj4 t365 a2_0 a2_1).bind fun t395 => ((dominolaw03_its.f kj4 t395).bind fun t398 => ((dominoref03_Add.f kj4 t374 a2_0 a2_1).bind fun t401 => ((dominoref03_Same.f kj4 t398 t401).bind fun t404 => (if t404 = true then ((ranges_Cut.f kj4 t365 a2_0 a2_1).bind fun t405 => ((dominolaw03_its.f kj4 t405).bind fun t408 => ((dominoref03_Cut.f kj4 t374 a2_0 a2_1).bind fun t411 => ((dominoref03_Same.f kj4 t408 t411).bind fun t414 => (if t414 = true then ((ranges_Meet.f kj4 t365 t368).bind fun t415 => ((dominolaw03_its.f kj4 t415).bind fun t418 => ((dominoref03_Meet.f kj4 t374 t380).bind fun t421 => ((dominoref03_Same.f kj4 t418 t421).bind fun t424 => (if t424 = true then ((ranges_Gaps.f kj4 t365 a2_0 a2_1).bind fun t425 => ((dominolaw03_its.f kj4 t425).bind fun t428 => ((dominoref03_Gaps.f kj4 t374 a2_0 a2_1).bind fun t431 => ((dominoref03_Same.f kj4 t428 t431).bind fun t434 => (if t434 = true then ((ranges_Count.f kj4 t365).bind fun t435 => ((dominoref03_Count.f kj4 t374).bind fun t436 => (some (t435 == t436)))) else (none)))))) else (none)))))) else (none)))))) else (none)))))) else (none)))) else (none))))) = some r := by rw [if_pos rfl] at H; exact H
      clear H
      have H := H1
      clear H1
      replace H := Option.bind_eq_some_iff.mp H
      obtain ⟨t388, A370, H⟩ := H
      replace H : ((dominolaw03_its.f kj4 l0).bind fun t389 => ((dominoref03_May.f kj4 t389).bind fun t392 => (if (t388 == t392) = true then ((ranges_Has.f t365 a3).bind fun t393 => ((dominoref03_Has.f kj4 t374 a3).bind fun t394 => (if (t393 == t394) = true then ((ranges_Add.f kj4 t365 a2_0 a2_1).bind fun t395 => ((dominolaw03_its.f kj4 t395).bind fun t398 => ((dominoref03_Add.f kj4 t374 a2_0 a2_1).bind fun t401 => ((dominoref03_Same.f kj4 t398 t401).bind fun t404 => (if t404 = true then ((ranges_Cut.f kj4 t365 a2_0 a2_1).bind fun t405 => ((dominolaw03_its.f kj4 t405).bind fun t408 => ((dominoref03_Cut.f kj4 t374 a2_0 a2_1).bind fun t411 => ((dominoref03_Same.f kj4 t408 t411).bind fun t414 => (if t414 = true then ((ranges_Meet.f kj4 t365 t368).bind fun t415 => ((dominolaw03_its.f kj4 t415).bind fun t418 => ((dominoref03_Meet.f kj4 t374 t380).bind fun t421 => ((dominoref03_Same.f kj4 t418 t421).bind fun t424 => (if t424 = true then ((ranges_Gaps.f kj4 t365 a2_0 a2_1).bind fun t425 => ((dominolaw03_its.f kj4 t425).bind fun t428 => ((dominoref03_Gaps.f kj4 t374 a2_0 a2_1).bind fun t431 => ((dominoref03_Same.f kj4 t428 t431).bind fun t434 => (if t434 = true then ((ranges_Count.f kj4 t365).bind fun t435 => ((dominoref03_Count.f kj4 t374).bind fun t436 => (some (t435 == t436)))) else (none)))))) else (none)))))) else (none)))))) else (none)))))) else (none)))) else (none)))) = some r := H
      have A37 := Aside0.mk A370
      clear A370
      replace H := Option.bind_eq_some_iff.mp H
      obtain ⟨t389, A380, H⟩ := H
      replace H : ((dominoref03_May.f kj4 t389).bind fun t392 => (if (t388 == t392) = true then ((ranges_Has.f t365 a3).bind fun t393 => ((dominoref03_Has.f kj4 t374 a3).bind fun t394 => (if (t393 == t394) = true then ((ranges_Add.f kj4 t365 a2_0 a2_1).bind fun t395 => ((dominolaw03_its.f kj4 t395).bind fun t398 => ((dominoref03_Add.f kj4 t374 a2_0 a2_1).bind fun t401 => ((dominoref03_Same.f kj4 t398 t401).bind fun t404 => (if t404 = true then ((ranges_Cut.f kj4 t365 a2_0 a2_1).bind fun t405 => ((dominolaw03_its.f kj4 t405).bind fun t408 => ((dominoref03_Cut.f kj4 t374 a2_0 a2_1).bind fun t411 => ((dominoref03_Same.f kj4 t408 t411).bind fun t414 => (if t414 = true then ((ranges_Meet.f kj4 t365 t368).bind fun t415 => ((dominolaw03_its.f kj4 t415).bind fun t418 => ((dominoref03_Meet.f kj4 t374 t380).bind fun t421 => ((dominoref03_Same.f kj4 t418 t421).bind fun t424 => (if t424 = true then ((ranges_Gaps.f kj4 t365 a2_0 a2_1).bind fun t425 => ((dominolaw03_its.f kj4 t425).bind fun t428 => ((dominoref03_Gaps.f kj4 t374 a2_0 a2_1).bind fun t431 => ((dominoref03_Same.f kj4 t428 t431).bind fun t434 => (if t434 = true then ((ranges_Count.f kj4 t365).bind fun t435 => ((dominoref03_Count.f kj4 t374).bind fun t436 => (some (t435 == t436)))) else (none)))))) else (none)))))) else (none)))))) else (none)))))) else (none)))) else (none))) = some r := H
      have A38 := Aside0.mk A380
      clear A380
      replace H := Option.bind_eq_some_iff.mp H
      obtain ⟨t392, A390, H⟩ := H
      replace H : (if (t388 == t392) = true then ((ranges_Has.f t365 a3).bind fun t393 => ((dominoref03_Has.f kj4 t374 a3).bind fun t394 => (if (t393 == t394) = true then ((ranges_Add.f kj4 t365 a2_0 a2_1).bind fun t395 => ((dominolaw03_its.f kj4 t395).bind fun t398 => ((dominoref03_Add.f kj4 t374 a2_0 a2_1).bind fun t401 => ((dominoref03_Same.f kj4 t398 t401).bind fun t404 => (if t404 = true then ((ranges_Cut.f kj4 t365 a2_0 a2_1).bind fun t405 => ((dominolaw03_its.f kj4 t405).bind fun t408 => ((dominoref03_Cut.f kj4 t374 a2_0 a2_1).bind fun t411 => ((dominoref03_Same.f kj4 t408 t411).bind fun t414 => (if t414 = true then ((ranges_Meet.f kj4 t365 t368).bind fun t415 => ((dominolaw03_its.f kj4 t415).bind fun t418 => ((dominoref03_Meet.f kj4 t374 t380).bind fun t421 => ((dominoref03_Same.f kj4 t418 t421).bind fun t424 => (if t424 = true then ((ranges_Gaps.f kj4 t365 a2_0 a2_1).bind fun t425 => ((dominolaw03_its.f kj4 t425).bind fun t428 => ((dominoref03_Gaps.f kj4 t374 a2_0 a2_1).bind fun t431 => ((dominoref03_Same.f kj4 t428 t431).bind fun t434 => (if t434 = true then ((ranges_Count.f kj4 t365).bind fun t435 => ((dominoref03_Count.f kj4 t374).bind fun t436 => (some (t435 == t436)))) else (none)))))) else (none)))))) else (none)))))) else (none)))))) else (none)))) else (none)) = some r := H
      have A39 := Aside0.mk A390
      clear A390
      by_cases c40 : (t388 == t392) = true
      ·rw [if_pos c40] at H
       have c40b0 : (t388 == t392) = true := c40
       (try (have c40b1 : decide (t388 = t392) = true := by simpa using c40))
       (try (have c40b2 : (t388 == t392) = true := by simpa using c40))
       clear c40
       replace H := Option.bind_eq_some_iff.mp H
       obtain ⟨t393, A410, H⟩ := H
       replace H : ((dominoref03_Has.f kj4 t374 a3).bind fun t394 => (if (t393 == t394) = true then ((ranges_Add.f kj4 t365 a2_0 a2_1).bind fun t395 => ((dominolaw03_its.f kj4 t395).bind fun t398 => ((dominoref03_Add.f kj4 t374 a2_0 a2_1).bind fun t401 => ((dominoref03_Same.f kj4 t398 t401).bind fun t404 => (if t404 = true then ((ranges_Cut.f kj4 t365 a2_0 a2_1).bind fun t405 => ((dominolaw03_its.f kj4 t405).bind fun t408 => ((dominoref03_Cut.f kj4 t374 a2_0 a2_1).bind fun t411 => ((dominoref03_Same.f kj4 t408 t411).bind fun t414 => (if t414 = true then ((ranges_Meet.f kj4 t365 t368).bind fun t415 => ((dominolaw03_its.f kj4 t415).bind fun t418 => ((dominoref03_Meet.f kj4 t374 t380).bind fun t421 => ((dominoref03_Same.f kj4 t418 t421).bind fun t424 => (if t424 = true then ((ranges_Gaps.f kj4 t365 a2_0 a2_1).bind fun t425 => ((dominolaw03_its.f kj4 t425).bind fun t428 => ((dominoref03_Gaps.f kj4 t374 a2_0 a2_1).bind fun t431 => ((dominoref03_Same.f kj4 t428 t431).bind fun t434 => (if t434 = true then ((ranges_Count.f kj4 t365).bind fun t435 => ((dominoref03_Count.f kj4 t374).bind fun t436 => (some (t435 == t436)))) else (none)))))) else (none)))))) else (none)))))) else (none)))))) else (none))) = some r := H
       have A41 := Aside0.mk A410
       clear A410
       replace H := Option.bind_eq_some_iff.mp H
       obtain ⟨t394, A420, H⟩ := H
       replace H : (if (t393 == t394) = true then ((ranges_Add.f kj4 t365 a2_0 a2_1).bind fun t395 => ((dominolaw03_its.f kj4 t395).bind fun t398 => ((dominoref03_Add.f kj4 t374 a2_0 a2_1).bind fun t401 => ((dominoref03_Same.f kj4 t398 t401).bind fun t404 => (if t404 = true then ((ranges_Cut.f kj4 t365 a2_0 a2_1).bind fun t405 => ((dominolaw03_its.f kj4 t405).bind fun t408 => ((dominoref03_Cut.f kj4 t374 a2_0 a2_1).bind fun t411 => ((dominoref03_Same.f kj4 t408 t411).bind fun t414 => (if t414 = true then ((ranges_Meet.f kj4 t365 t368).bind fun t415 => ((dominolaw03_its.f kj4 t415).bind fun t418 => ((dominoref03_Meet.f kj4 t374 t380).bind fun t421 => ((dominoref03_Same.f kj4 t418 t421).bind fun t424 => (if t424 = true then ((ranges_Gaps.f kj4 t365 a2_0 a2_1).bind fun t425 => ((dominolaw03_its.f kj4 t425).bind fun t428 => ((dominoref03_Gaps.f kj4 t374 a2_0 a2_1).bind fun t431 => ((dominoref03_Same.f kj4 t428 t431).bind fun t434 => (if t434 = true then ((ranges_Count.f kj4 t365).bind fun t435 => ((dominoref03_Count.f kj4 t374).bind fun t436 => (some (t435 == t436)))) else (none)))))) else (none)))))) else (none)))))) else (none)))))) else (none)) = some r := H
       have A42 := Aside0.mk A420
       clear A420
       by_cases c43 : (t393 == t394) = true
       ·rw [if_pos c43] at H
        have c43b0 : (t393 == t394) = true := c43
        (try (have c43b1 : decide (t393 = t394) = true := by simpa using c43))
        (try (have c43b2 : (t393 == t394) = true := by simpa using c43))
        clear c43
        replace H := Option.bind_eq_some_iff.mp H
        obtain ⟨t395, A440, H⟩ := H
        replace H : ((dominolaw03_its.f kj4 t395).bind fun t398 => ((dominoref03_Add.f kj4 t374 a2_0 a2_1).bind fun t401 => ((dominoref03_Same.f kj4 t398 t401).bind fun t404 => (if t404 = true then ((ranges_Cut.f kj4 t365 a2_0 a2_1).bind fun t405 => ((dominolaw03_its.f kj4 t405).bind fun t408 => ((dominoref03_Cut.f kj4 t374 a2_0 a2_1).bind fun t411 => ((dominoref03_Same.f kj4 t408 t411).bind fun t414 => (if t414 = true then ((ranges_Meet.f kj4 t365 t368).bind fun t415 => ((dominolaw03_its.f kj4 t415).bind fun t418 => ((dominoref03_Meet.f kj4 t374 t380).bind fun t421 => ((dominoref03_Same.f kj4 t418 t421).bind fun t424 => (if t424 = true then ((ranges_Gaps.f kj4 t365 a2_0 a2_1).bind fun t425 => ((dominolaw03_its.f kj4 t425).bind fun t428 => ((dominoref03_Gaps.f kj4 t374 a2_0 a2_1).bind fun t431 => ((dominoref03_Same.f kj4 t428 t431).bind fun t434 => (if t434 = true then ((ranges_Count.f kj4 t365).bind fun t435 => ((dominoref03_Count.f kj4 t374).bind fun t436 => (some (t435 == t436)))) else (none)))))) else (none)))))) else (none)))))) else (none))))) = some r := H
        have A44 := Aside0.mk A440
        clear A440
        replace H := Option.bind_eq_some_iff.mp H
        obtain ⟨t398, A450, H⟩ := H
        replace H : ((dominoref03_Add.f kj4 t374 a2_0 a2_1).bind fun t401 => ((dominoref03_Same.f kj4 t398 t401).bind fun t404 => (if t404 = true then ((ranges_Cut.f kj4 t365 a2_0 a2_1).bind fun t405 => ((dominolaw03_its.f kj4 t405).bind fun t408 => ((dominoref03_Cut.f kj4 t374 a2_0 a2_1).bind fun t411 => ((dominoref03_Same.f kj4 t408 t411).bind fun t414 => (if t414 = true then ((ranges_Meet.f kj4 t365 t368).bind fun t415 => ((dominolaw03_its.f kj4 t415).bind fun t418 => ((dominoref03_Meet.f kj4 t374 t380).bind fun t421 => ((dominoref03_Same.f kj4 t418 t421).bind fun t424 => (if t424 = true then ((ranges_Gaps.f kj4 t365 a2_0 a2_1).bind fun t425 => ((dominolaw03_its.f kj4 t425).bind fun t428 => ((dominoref03_Gaps.f kj4 t374 a2_0 a2_1).bind fun t431 => ((dominoref03_Same.f kj4 t428 t431).bind fun t434 => (if t434 = true then ((ranges_Count.f kj4 t365).bind fun t435 => ((dominoref03_Count.f kj4 t374).bind fun t436 => (some (t435 == t436)))) else (none)))))) else (none)))))) else (none)))))) else (none)))) = some r := H
        have A45 := Aside0.mk A450
        clear A450
        replace H := Option.bind_eq_some_iff.mp H
        obtain ⟨t401, A460, H⟩ := H
        replace H : ((dominoref03_Same.f kj4 t398 t401).bind fun t404 => (if t404 = true then ((ranges_Cut.f kj4 t365 a2_0 a2_1).bind fun t405 => ((dominolaw03_its.f kj4 t405).bind fun t408 => ((dominoref03_Cut.f kj4 t374 a2_0 a2_1).bind fun t411 => ((dominoref03_Same.f kj4 t408 t411).bind fun t414 => (if t414 = true then ((ranges_Meet.f kj4 t365 t368).bind fun t415 => ((dominolaw03_its.f kj4 t415).bind fun t418 => ((dominoref03_Meet.f kj4 t374 t380).bind fun t421 => ((dominoref03_Same.f kj4 t418 t421).bind fun t424 => (if t424 = true then ((ranges_Gaps.f kj4 t365 a2_0 a2_1).bind fun t425 => ((dominolaw03_its.f kj4 t425).bind fun t428 => ((dominoref03_Gaps.f kj4 t374 a2_0 a2_1).bind fun t431 => ((dominoref03_Same.f kj4 t428 t431).bind fun t434 => (if t434 = true then ((ranges_Count.f kj4 t365).bind fun t435 => ((dominoref03_Count.f kj4 t374).bind fun t436 => (some (t435 == t436)))) else (none)))))) else (none)))))) else (none)))))) else (none))) = some r := H
        have A46 := Aside0.mk A460
        clear A460
        replace H := Option.bind_eq_some_iff.mp H
        obtain ⟨t404, A470, H⟩ := H
        replace H : (if t404 = true then ((ranges_Cut.f kj4 t365 a2_0 a2_1).bind fun t405 => ((dominolaw03_its.f kj4 t405).bind fun t408 => ((dominoref03_Cut.f kj4 t374 a2_0 a2_1).bind fun t411 => ((dominoref03_Same.f kj4 t408 t411).bind fun t414 => (if t414 = true then ((ranges_Meet.f kj4 t365 t368).bind fun t415 => ((dominolaw03_its.f kj4 t415).bind fun t418 => ((dominoref03_Meet.f kj4 t374 t380).bind fun t421 => ((dominoref03_Same.f kj4 t418 t421).bind fun t424 => (if t424 = true then ((ranges_Gaps.f kj4 t365 a2_0 a2_1).bind fun t425 => ((dominolaw03_its.f kj4 t425).bind fun t428 => ((dominoref03_Gaps.f kj4 t374 a2_0 a2_1).bind fun t431 => ((dominoref03_Same.f kj4 t428 t431).bind fun t434 => (if t434 = true then ((ranges_Count.f kj4 t365).bind fun t435 => ((dominoref03_Count.f kj4 t374).bind fun t436 => (some (t435 == t436)))) else (none)))))) else (none)))))) else (none)))))) else (none)) = some r := H
        have A47 := Aside0.mk A470
        clear A470
        by_cases c48 : t404 = true
        ·subst c48
         have H1 : ((ranges_Cut.f kj4 t365 a2_0 a2_1).bind fun t405 => ((dominolaw03_its.f kj4 t405).bind fun t408 => ((dominoref03_Cut.f kj4 t374 a2_0 a2_1).bind fun t411 => ((dominoref03_Same.f kj4 t408 t411).bind fun t414 => (if t414 = true then ((ranges_Meet.f kj4 t365 t368).bind fun t415 => ((dominolaw03_its.f kj4 t415).bind fun t418 => ((dominoref03_Meet.f kj4 t374 t380).bind fun t421 => ((dominoref03_Same.f kj4 t418 t421).bind fun t424 => (if t424 = true then ((ranges_Gaps.f kj4 t365 a2_0 a2_1).bind fun t425 => ((dominolaw03_its.f kj4 t425).bind fun t428 => ((dominoref03_Gaps.f kj4 t374 a2_0 a2_1).bind fun t431 => ((dominoref03_Same.f kj4 t428 t431).bind fun t434 => (if t434 = true then ((ranges_Count.f kj4 t365).bind fun t435 => ((dominoref03_Count.f kj4 t374).bind fun t436 => (some (t435 == t436)))) else (none)))))) else (none)))))) else (none)))))) = some r := by rw [if_pos rfl] at H; exact H
         clear H
         have H := H1
         clear H1
         replace H := Option.bind_eq_some_iff.mp H
         obtain ⟨t405, A490, H⟩ := H
         replace H : ((dominolaw03_its.f kj4 t405).bind fun t408 => ((dominoref03_Cut.f kj4 t374 a2_0 a2_1).bind fun t411 => ((dominoref03_Same.f kj4 t408 t411).bind fun t414 => (if t414 = true then ((ranges_Meet.f kj4 t365 t368).bind fun t415 => ((dominolaw03_its.f kj4 t415).bind fun t418 => ((dominoref03_Meet.f kj4 t374 t380).bind fun t421 => ((dominoref03_Same.f kj4 t418 t421).bind fun t424 => (if t424 = true then ((ranges_Gaps.f kj4 t365 a2_0 a2_1).bind fun t425 => ((dominolaw03_its.f kj4 t425).bind fun t428 => ((dominoref03_Gaps.f kj4 t374 a2_0 a2_1).bind fun t431 => ((dominoref03_Same.f kj4 t428 t431).bind fun t434 => (if t434 = true then ((ranges_Count.f kj4 t365).bind fun t435 => ((dominoref03_Count.f kj4 t374).bind fun t436 => (some (t435 == t436)))) else (none)))))) else (none)))))) else (none))))) = some r := H
         have A49 := Aside0.mk A490
         clear A490
         replace H := Option.bind_eq_some_iff.mp H
         obtain ⟨t408, A500, H⟩ := H
         replace H : ((dominoref03_Cut.f kj4 t374 a2_0 a2_1).bind fun t411 => ((dominoref03_Same.f kj4 t408 t411).bind fun t414 => (if t414 = true then ((ranges_Meet.f kj4 t365 t368).bind fun t415 => ((dominolaw03_its.f kj4 t415).bind fun t418 => ((dominoref03_Meet.f kj4 t374 t380).bind fun t421 => ((dominoref03_Same.f kj4 t418 t421).bind fun t424 => (if t424 = true then ((ranges_Gaps.f kj4 t365 a2_0 a2_1).bind fun t425 => ((dominolaw03_its.f kj4 t425).bind fun t428 => ((dominoref03_Gaps.f kj4 t374 a2_0 a2_1).bind fun t431 => ((dominoref03_Same.f kj4 t428 t431).bind fun t434 => (if t434 = true then ((ranges_Count.f kj4 t365).bind fun t435 => ((dominoref03_Count.f kj4 t374).bind fun t436 => (some (t435 == t436)))) else (none)))))) else (none)))))) else (none)))) = some r := H
         have A50 := Aside0.mk A500
         clear A500
         replace H := Option.bind_eq_some_iff.mp H
         obtain ⟨t411, A510, H⟩ := H
         replace H : ((dominoref03_Same.f kj4 t408 t411).bind fun t414 => (if t414 = true then ((ranges_Meet.f kj4 t365 t368).bind fun t415 => ((dominolaw03_its.f kj4 t415).bind fun t418 => ((dominoref03_Meet.f kj4 t374 t380).bind fun t421 => ((dominoref03_Same.f kj4 t418 t421).bind fun t424 => (if t424 = true then ((ranges_Gaps.f kj4 t365 a2_0 a2_1).bind fun t425 => ((dominolaw03_its.f kj4 t425).bind fun t428 => ((dominoref03_Gaps.f kj4 t374 a2_0 a2_1).bind fun t431 => ((dominoref03_Same.f kj4 t428 t431).bind fun t434 => (if t434 = true then ((ranges_Count.f kj4 t365).bind fun t435 => ((dominoref03_Count.f kj4 t374).bind fun t436 => (some (t435 == t436)))) else (none)))))) else (none)))))) else (none))) = some r := H
         have A51 := Aside0.mk A510
         clear A510
         replace H := Option.bind_eq_some_iff.mp H
         obtain ⟨t414, A520, H⟩ := H
         replace H : (if t414 = true then ((ranges_Meet.f kj4 t365 t368).bind fun t415 => ((dominolaw03_its.f kj4 t415).bind fun t418 => ((dominoref03_Meet.f kj4 t374 t380).bind fun t421 => ((dominoref03_Same.f kj4 t418 t421).bind fun t424 => (if t424 = true then ((ranges_Gaps.f kj4 t365 a2_0 a2_1).bind fun t425 => ((dominolaw03_its.f kj4 t425).bind fun t428 => ((dominoref03_Gaps.f kj4 t374 a2_0 a2_1).bind fun t431 => ((dominoref03_Same.f kj4 t428 t431).bind fun t434 => (if t434 = true then ((ranges_Count.f kj4 t365).bind fun t435 => ((dominoref03_Count.f kj4 t374).bind fun t436 => (some (t435 == t436)))) else (none)))))) else (none)))))) else (none)) = some r := H
         have A52 := Aside0.mk A520
         clear A520
         by_cases c53 : t414 = true
         ·subst c53
          have H1 : ((ranges_Meet.f kj4 t365 t368).bind fun t415 => ((dominolaw03_its.f kj4 t415).bind fun t418 => ((dominoref03_Meet.f kj4 t374 t380).bind fun t421 => ((dominoref03_Same.f kj4 t418 t421).bind fun t424 => (if t424 = true then ((ranges_Gaps.f kj4 t365 a2_0 a2_1).bind fun t425 => ((dominolaw03_its.f kj4 t425).bind fun t428 => ((dominoref03_Gaps.f kj4 t374 a2_0 a2_1).bind fun t431 => ((dominoref03_Same.f kj4 t428 t431).bind fun t434 => (if t434 = true then ((ranges_Count.f kj4 t365).bind fun t435 => ((dominoref03_Count.f kj4 t374).bind fun t436 => (some (t435 == t436)))) else (none)))))) else (none)))))) = some r := by rw [if_pos rfl] at H; exact H
          clear H
          have H := H1
          clear H1
          replace H := Option.bind_eq_some_iff.mp H
          obtain ⟨t415, A540, H⟩ := H
          replace H : ((dominolaw03_its.f kj4 t415).bind fun t418 => ((dominoref03_Meet.f kj4 t374 t380).bind fun t421 => ((dominoref03_Same.f kj4 t418 t421).bind fun t424 => (if t424 = true then ((ranges_Gaps.f kj4 t365 a2_0 a2_1).bind fun t425 => ((dominolaw03_its.f kj4 t425).bind fun t428 => ((dominoref03_Gaps.f kj4 t374 a2_0 a2_1).bind fun t431 => ((dominoref03_Same.f kj4 t428 t431).bind fun t434 => (if t434 = true then ((ranges_Count.f kj4 t365).bind fun t435 => ((dominoref03_Count.f kj4 t374).bind fun t436 => (some (t435 == t436)))) else (none)))))) else (none))))) = some r := H
          have A54 := Aside0.mk A540
          clear A540
          replace H := Option.bind_eq_some_iff.mp H
          obtain ⟨t418, A550, H⟩ := H
          replace H : ((dominoref03_Meet.f kj4 t374 t380).bind fun t421 => ((dominoref03_Same.f kj4 t418 t421).bind fun t424 => (if t424 = true then ((ranges_Gaps.f kj4 t365 a2_0 a2_1).bind fun t425 => ((dominolaw03_its.f kj4 t425).bind fun t428 => ((dominoref03_Gaps.f kj4 t374 a2_0 a2_1).bind fun t431 => ((dominoref03_Same.f kj4 t428 t431).bind fun t434 => (if t434 = true then ((ranges_Count.f kj4 t365).bind fun t435 => ((dominoref03_Count.f kj4 t374).bind fun t436 => (some (t435 == t436)))) else (none)))))) else (none)))) = some r := H
          have A55 := Aside0.mk A550
          clear A550
          replace H := Option.bind_eq_some_iff.mp H
          obtain ⟨t421, A560, H⟩ := H
          replace H : ((dominoref03_Same.f kj4 t418 t421).bind fun t424 => (if t424 = true then ((ranges_Gaps.f kj4 t365 a2_0 a2_1).bind fun t425 => ((dominolaw03_its.f kj4 t425).bind fun t428 => ((dominoref03_Gaps.f kj4 t374 a2_0 a2_1).bind fun t431 => ((dominoref03_Same.f kj4 t428 t431).bind fun t434 => (if t434 = true then ((ranges_Count.f kj4 t365).bind fun t435 => ((dominoref03_Count.f kj4 t374).bind fun t436 => (some (t435 == t436)))) else (none)))))) else (none))) = some r := H
          have A56 := Aside0.mk A560
          clear A560
          replace H := Option.bind_eq_some_iff.mp H
          obtain ⟨t424, A570, H⟩ := H
          replace H : (if t424 = true then ((ranges_Gaps.f kj4 t365 a2_0 a2_1).bind fun t425 => ((dominolaw03_its.f kj4 t425).bind fun t428 => ((dominoref03_Gaps.f kj4 t374 a2_0 a2_1).bind fun t431 => ((dominoref03_Same.f kj4 t428 t431).bind fun t434 => (if t434 = true then ((ranges_Count.f kj4 t365).bind fun t435 => ((dominoref03_Count.f kj4 t374).bind fun t436 => (some (t435 == t436)))) else (none)))))) else (none)) = some r := H
          have A57 := Aside0.mk A570
          clear A570
          by_cases c58 : t424 = true
          ·subst c58
           have H1 : ((ranges_Gaps.f kj4 t365 a2_0 a2_1).bind fun t425 => ((dominolaw03_its.f kj4 t425).bind fun t428 => ((dominoref03_Gaps.f kj4 t374 a2_0 a2_1).bind fun t431 => ((dominoref03_Same.f kj4 t428 t431).bind fun t434 => (if t434 = true then ((ranges_Count.f kj4 t365).bind fun t435 => ((dominoref03_Count.f kj4 t374).bind fun t436 => (some (t435 == t436)))) else (none)))))) = some r := by rw [if_pos rfl] at H; exact H
           clear H
           have H := H1
           clear H1
           replace H := Option.bind_eq_some_iff.mp H
           obtain ⟨t425, A590, H⟩ := H
           replace H : ((dominolaw03_its.f kj4 t425).bind fun t428 => ((dominoref03_Gaps.f kj4 t374 a2_0 a2_1).bind fun t431 => ((dominoref03_Same.f kj4 t428 t431).bind fun t434 => (if t434 = true then ((ranges_Count.f kj4 t365).bind fun t435 => ((dominoref03_Count.f kj4 t374).bind fun t436 => (some (t435 == t436)))) else (none))))) = some r := H
           have A59 := Aside0.mk A590
           clear A590
           replace H := Option.bind_eq_some_iff.mp H
           obtain ⟨t428, A600, H⟩ := H
           replace H : ((dominoref03_Gaps.f kj4 t374 a2_0 a2_1).bind fun t431 => ((dominoref03_Same.f kj4 t428 t431).bind fun t434 => (if t434 = true then ((ranges_Count.f kj4 t365).bind fun t435 => ((dominoref03_Count.f kj4 t374).bind fun t436 => (some (t435 == t436)))) else (none)))) = some r := H
           have A60 := Aside0.mk A600
           clear A600
           replace H := Option.bind_eq_some_iff.mp H
           obtain ⟨t431, A610, H⟩ := H
           replace H : ((dominoref03_Same.f kj4 t428 t431).bind fun t434 => (if t434 = true then ((ranges_Count.f kj4 t365).bind fun t435 => ((dominoref03_Count.f kj4 t374).bind fun t436 => (some (t435 == t436)))) else (none))) = some r := H
           have A61 := Aside0.mk A610
           clear A610
           replace H := Option.bind_eq_some_iff.mp H
           obtain ⟨t434, A620, H⟩ := H
           replace H : (if t434 = true then ((ranges_Count.f kj4 t365).bind fun t435 => ((dominoref03_Count.f kj4 t374).bind fun t436 => (some (t435 == t436)))) else (none)) = some r := H
           have A62 := Aside0.mk A620
           clear A620
           by_cases c63 : t434 = true
           ·subst c63
            have H1 : ((ranges_Count.f kj4 t365).bind fun t435 => ((dominoref03_Count.f kj4 t374).bind fun t436 => (some (t435 == t436)))) = some r := by rw [if_pos rfl] at H; exact H
            clear H
            have H := H1
            clear H1
            replace H := Option.bind_eq_some_iff.mp H
            obtain ⟨t435, A640, H⟩ := H
            replace H : ((dominoref03_Count.f kj4 t374).bind fun t436 => (some (t435 == t436))) = some r := H
            have A64 := Aside0.mk A640
            clear A640
            replace H := Option.bind_eq_some_iff.mp H
            obtain ⟨t436, A650, H⟩ := H
            replace H : (some (t435 == t436)) = some r := H
            have A65 := Aside0.mk A650
            clear A650
            obtain rfl := Option.some.inj H
            have hcz66_0 : wc.cell? ⟨gb355, 0, none⟩ = some (.int .u64 a2_0) := (blk_cell BK355.out 0).trans rfl
            have hcz66_1 : wc.cell? ⟨gb355, 1, none⟩ = some (.int .u64 a2_1) := (blk_cell BK355.out 1).trans rfl
            have hfz66_0 := blk_frozen BK355.out 0
            have hfz66_1 := blk_frozen BK355.out 1
            try go_wp2_with (first | ((with_reducible refine gate_dst (N := 9) rfl ?_); (try (refine gate_guard (by rfl) ?_; dsimp only)); refine box_event ?hg (N := 9) ?hd (cs := #[.int .u64 0, .int .u64 0]) (t := 42) ?hr ?_; (case hd => rfl); (case hg => rfl); (case hr => first | (go_simp; done) | (go_simp; rfl)); intro gb364 hg w67 hbox hb; have n0_ := Aside0.mk (blk_below (g := gb355) (o := .cells #[.int .u64 a2_0, .int .u64 a2_1] 34 (0, 0)) (by (with_reducible repeat (first | refine blk_drewN ?_ _ | refine blk_drew ?_ | refine blk_alloc ?_ _)); exact BK355.out) hb); have n1_ := Aside0.mk (below_step (by repeat (first | (with_reducible first | exact HB.out | apply below_alloc | apply pw_below_drewN | apply below_drew1 | refine below_set ?_ GE355.out) | exact HB.out)) hb); have n2_ := Aside0.mk (hbox); have n3_ := Aside0.mk ((by rw [hg]; exact (below_size (by repeat (first | (with_reducible first | exact HB.out | apply below_alloc | apply pw_below_drewN | apply below_drew1 | refine below_set ?_ GE355.out) | exact HB.out))) : w.heap.size ≤ gb364)); have n4_ := Aside0.mk ((by rw [hg]; exact (below_size (by repeat (first | (with_reducible first | exact HB.out | apply below_alloc | apply pw_below_drewN | apply below_drew1 | refine below_set ?_ GE355.out) | exact HB.out))) : w.heap.size ≤ gb364)); have n5_ := Aside0.mk ((by rw [hg]; exact Nat.ne_of_lt (blk_lt (g := gb355) (o := .cells #[.int .u64 a2_0, .int .u64 a2_1] 34 (0, 0)) (by (with_reducible repeat (first | refine blk_drewN ?_ _ | refine blk_drew ?_ | refine blk_alloc ?_ _)); exact BK355.out)) : gb355 ≠ gb364)); have n6_ := Aside0.mk ((by rw [hg]; exact Nat.ne_of_gt (blk_lt (g := gb355) (o := .cells #[.int .u64 a2_0, .int .u64 a2_1] 34 (0, 0)) (by (with_reducible repeat (first | refine blk_drewN ?_ _ | refine blk_drew ?_ | refine blk_alloc ?_ _)); exact BK355.out)) : gb364 ≠ gb355)); clear BK355; clear HB; have BK355 := n0_; have HB := n1_; have BK364 := n2_; have GW364 := n3_; have GE364 := n4_; have NB355_364 := n5_; have NB364_355 := n6_; clear n0_ n1_ n2_ n3_ n4_ n5_ n6_; clear hb hbox hg; have hnb68 := NB364_355.out; have hnc68 := NB355_364.out; have hcz69_0 : w67.cell? ⟨gb364, 0, none⟩ = some (.int .u64 0) := (blk_cell BK364.out 0).trans rfl; have hcz69_1 : w67.cell? ⟨gb364, 1, none⟩ = some (.int .u64 0) := (blk_cell BK364.out 1).trans rfl; have hfz69_0 := blk_frozen BK364.out 0; have hfz69_1 := blk_frozen BK364.out 1) | ((with_reducible refine gate_callee (f := 15) rfl ?_); refine goesL_ (some 35) rfl rfl Try.func15 (by kernel_rfl) rfl #[.slice A0 l0.length c0] rfl (by (try simp only [List.map_toArray, List.map_cons, List.map_nil]); first | done | rfl | (simp only [List.length_drop, List.length_take]; rfl)) ?_; (with_reducible refine (ranges_Of.calls kj4 _ _ l0 t365 _ ?side1 ?side2 A26.out).mono ?_); (case side1 => exact Kd.C_below HR0.out (by repeat (first | (with_reducible first | exact HB.out | apply below_alloc | apply pw_below_drewN | apply below_drew1 | refine below_set ?_ GE355.out | refine below_set ?_ GE364.out) | exact HB.out))); (case side2 => exact HC0.out); rintro e w70 ⟨v366, rfl, ho0, hb⟩; refine ⟨_, rfl, ?_⟩; have n0_ := Aside0.mk (Kd.R_lower (Kd.R_newB ho0 (g := gb355) (o := .cells #[.int .u64 a2_0, .int .u64 a2_1] 34 (0, 0)) (by (with_reducible repeat (first | refine blk_drewN ?_ _ | refine blk_drew ?_ | refine blk_alloc ?_ _)); refine blk_far ?_ NB355_364.out _; (with_reducible repeat (first | refine blk_drewN ?_ _ | refine blk_drew ?_ | refine blk_alloc ?_ _)); refine blk_far ?_ NB355_364.out _; (with_reducible repeat (first | refine blk_drewN ?_ _ | refine blk_drew ?_ | refine blk_alloc ?_ _)); exact BK355.out)) (below_size (by repeat (first | (with_reducible first | exact HB.out | apply below_alloc | apply pw_below_drewN | apply below_drew1 | refine below_set ?_ GE355.out | refine below_set ?_ GE364.out) | exact HB.out)))); have n1_ := Aside0.mk (blk_below (g := gb355) (o := .cells #[.int .u64 a2_0, .int .u64 a2_1] 34 (0, 0)) (by (with_reducible repeat (first | refine blk_drewN ?_ _ | refine blk_drew ?_ | refine blk_alloc ?_ _)); refine blk_far ?_ NB355_364.out _; (with_reducible repeat (first | refine blk_drewN ?_ _ | refine blk_drew ?_ | refine blk_alloc ?_ _)); refine blk_far ?_ NB355_364.out _; (with_reducible repeat (first | refine blk_drewN ?_ _ | refine blk_drew ?_ | refine blk_alloc ?_ _)); exact BK355.out) hb); have n2_ := Aside0.mk (blk_below (g := gb364) (o := .cells #[.int .u64 a2_0, .int .u64 a2_1] 42 (0, 0)) (by (with_reducible repeat (first | refine blk_drewN ?_ _ | refine blk_drew ?_ | refine blk_alloc ?_ _)); refine blk_put (cs := #[.int .u64 a2_0, .int .u64 0]) ?_ 1 _ rfl; (with_reducible repeat (first | refine blk_drewN ?_ _ | refine blk_drew ?_ | refine blk_alloc ?_ _)); refine blk_put (cs := #[.int .u64 0, .int .u64 0]) ?_ 0 _ rfl; (with_reducible repeat (first | refine blk_drewN ?_ _ | refine blk_drew ?_ | refine blk_alloc ?_ _)); exact BK364.out) hb); have n3_ := Aside0.mk (below_step (by repeat (first | (with_reducible first | exact HB.out | apply below_alloc | apply pw_below_drewN | apply below_drew1 | refine below_set ?_ GE355.out | refine below_set ?_ GE364.out) | exact HB.out)) hb); clear BK355; clear BK364; clear HB; have HO367 := n0_; have BK355 := n1_; have BK364 := n2_; have HB := n3_; clear n0_ n1_ n2_ n3_; (try clear hb); (try clear hb2); (try clear hk); (try clear hi); (try clear ho0)) | ((with_reducible refine gate_callee (f := 15) rfl ?_); refine goesL_ (some 37) rfl rfl Try.func15 (by kernel_rfl) rfl #[.slice A1 l1.length c1] rfl (by (try simp only [List.map_toArray, List.map_cons, List.map_nil]); first | done | rfl | (simp only [List.length_drop, List.length_take]; rfl)) ?_; (with_reducible refine (ranges_Of.calls kj4 _ _ l1 t368 _ ?side1 ?side2 A27.out).mono ?_); (case side1 => repeat (first | exact (Kd.C_below HR1.out HB.out) | (with_reducible refine Kd.C_alloc ?_ _) | (with_reducible refine Kd.C_drewN ?_ _) | (with_reducible refine Kd.C_drew ?_))); (case side2 => exact HC1.out); rintro e w71 ⟨v369, rfl, ho0, hb⟩; refine ⟨_, rfl, ?_⟩; have n0_ := Aside0.mk (Kd.R_elder' (by (with_reducible repeat (first | apply Kd.R_alloc | apply Kd.R_drewN | apply Kd.R_drew)); exact HO367.out) (Kd.R_base ho0) hb); have n1_ := Aside0.mk (Kd.R_lower (Kd.R_newB (Kd.R_new' ho0 (Kd.R_lt (by (with_reducible repeat (first | apply Kd.R_alloc | apply Kd.R_drewN | apply Kd.R_drew)); exact HO367.out))) (g := gb355) (o := .cells #[.int .u64 a2_0, .int .u64 a2_1] 34 (0, 0)) (by (with_reducible repeat (first | refine blk_drewN ?_ _ | refine blk_drew ?_ | refine blk_alloc ?_ _)); exact BK355.out)) (below_size (by repeat (first | (with_reducible first | exact HB.out | apply below_alloc | apply pw_below_drewN | apply below_drew1 | refine below_set ?_ GE355.out | refine below_set ?_ GE364.out) | exact HB.out)))); have n2_ := Aside0.mk (blk_below (g := gb355) (o := .cells #[.int .u64 a2_0, .int .u64 a2_1] 34 (0, 0)) (by (with_reducible repeat (first | refine blk_drewN ?_ _ | refine blk_drew ?_ | refine blk_alloc ?_ _)); exact BK355.out) hb); have n3_ := Aside0.mk (blk_below (g := gb364) (o := .cells #[.int .u64 a2_0, .int .u64 a2_1] 42 (0, 0)) (by (with_reducible repeat (first | refine blk_drewN ?_ _ | refine blk_drew ?_ | refine blk_alloc ?_ _)); exact BK364.out) hb); have n4_ := Aside0.mk (below_step (by repeat (first | (with_reducible first | exact HB.out | apply below_alloc | apply pw_below_drewN | apply below_drew1 | refine below_set ?_ GE355.out | refine below_set ?_ GE364.out) | exact HB.out)) hb); clear HO367; clear BK355; clear BK364; clear HB; have HO367 := n0_; have HO370 := n1_; have BK355 := n2_; have BK364 := n3_; have HB := n4_; clear n0_ n1_ n2_ n3_ n4_; (try clear hb); (try clear hb2); (try clear hk); (try clear hi); (try clear ho0)) | ((with_reducible refine gate_callee (f := 13) rfl ?_); refine goesL_ (some 39) rfl rfl Try.func13 (by kernel_rfl) rfl #[.slice A0 l0.length c0] rfl (by (try simp only [List.map_toArray, List.map_cons, List.map_nil]); first | done | rfl | (simp only [List.length_drop, List.length_take]; rfl)) ?_; (with_reducible refine (dominolaw03_its.calls kj4 _ _ l0 t371 _ ?side1 ?side2 A28.out).mono ?_); (case side1 => repeat (first | exact (Kd.C_below HR0.out HB.out) | (with_reducible refine Kd.C_alloc ?_ _) | (with_reducible refine Kd.C_drewN ?_ _) | (with_reducible refine Kd.C_drew ?_))); (case side2 => exact HC0.out); rintro e w72 ⟨v372, rfl, ho0, hb⟩; refine ⟨_, rfl, ?_⟩; have n0_ := Aside0.mk (Kd.R_below (by (with_reducible repeat (first | apply Kd.R_alloc | apply Kd.R_drewN | apply Kd.R_drew)); exact HO367.out) hb); have n1_ := Aside0.mk (Kd.R_below (by (with_reducible repeat (first | apply Kd.R_alloc | apply Kd.R_drewN | apply Kd.R_drew)); exact HO370.out) hb); have n2_ := Aside0.mk (Kd.R_lower (Kd.R_newB ho0 (g := gb364) (o := .cells #[.int .u64 a2_0, .int .u64 a2_1] 42 (0, 0)) (by (with_reducible repeat (first | refine blk_drewN ?_ _ | refine blk_drew ?_ | refine blk_alloc ?_ _)); exact BK364.out)) (below_size (by repeat (first | (with_reducible first | exact HB.out | apply below_alloc | apply pw_below_drewN | apply below_drew1 | refine below_set ?_ GE355.out | refine below_set ?_ GE364.out) | exact HB.out)))); have n3_ := Aside0.mk (blk_below (g := gb355) (o := .cells #[.int .u64 a2_0, .int .u64 a2_1] 34 (0, 0)) (by (with_reducible repeat (first | refine blk_drewN ?_ _ | refine blk_drew ?_ | refine blk_alloc ?_ _)); exact BK355.out) hb); have n4_ := Aside0.mk (blk_below (g := gb364) (o := .cells #[.int .u64 a2_0, .int .u64 a2_1] 42 (0, 0)) (by (with_reducible repeat (first | refine blk_drewN ?_ _ | refine blk_drew ?_ | refine blk_alloc ?_ _)); exact BK364.out) hb); have n5_ := Aside0.mk (below_step (by repeat (first | (with_reducible first | exact HB.out | apply below_alloc | apply pw_below_drewN | apply below_drew1 | refine below_set ?_ GE355.out | refine below_set ?_ GE364.out) | exact HB.out)) hb); clear HO367; clear HO370; clear BK355; clear BK364; clear HB; have HO367 := n0_; have HO370 := n1_; have HO373 := n2_; have BK355 := n3_; have BK364 := n4_; have HB := n5_; clear n0_ n1_ n2_ n3_ n4_ n5_; (try clear hb); (try clear hb2); (try clear hk); (try clear hi); (try clear ho0); obtain ⟨Ao73, co73, eo73⟩ := Kd.R_slice HO373.out; subst eo73) | ((with_reducible refine gate_callee (f := 22) rfl ?_); refine goesL_ (some 40) rfl rfl Try.func22 (by kernel_rfl) rfl #[.slice Ao73 t371.length co73] rfl (by (try simp only [List.map_toArray, List.map_cons, List.map_nil]); first | done | rfl | (simp only [List.length_drop, List.length_take]; rfl)) ?_; (with_reducible refine (dominoref03_Of.calls kj4 _ _ t371 t374 _ ?side1 ?side2 A29.out).mono ?_); (case side1 => repeat (first | exact (Kd.R_reads' HO373.out).2.2 | (with_reducible refine Kd.C_alloc ?_ _) | (with_reducible refine Kd.C_drewN ?_ _) | (with_reducible refine Kd.C_drew ?_))); (case side2 => exact (Kd.R_reads' HO373.out).2.1); rintro e w74 ⟨v375, rfl, ho0, hb⟩; refine ⟨_, rfl, ?_⟩; have n0_ := Aside0.mk (Kd.R_below (by (with_reducible repeat (first | apply Kd.R_alloc | apply Kd.R_drewN | apply Kd.R_drew)); exact HO367.out) hb); have n1_ := Aside0.mk (Kd.R_below (by (with_reducible repeat (first | apply Kd.R_alloc | apply Kd.R_drewN | apply Kd.R_drew)); exact HO370.out) hb); have n2_ := Aside0.mk (Kd.R_elder' (by (with_reducible repeat (first | apply Kd.R_alloc | apply Kd.R_drewN | apply Kd.R_drew)); exact HO373.out) (Kd.R_base ho0) hb); have n3_ := Aside0.mk (Kd.R_lower (Kd.R_newB (Kd.R_new' ho0 (Kd.R_lt (by (with_reducible repeat (first | apply Kd.R_alloc | apply Kd.R_drewN | apply Kd.R_drew)); exact HO373.out))) (g := gb364) (o := .cells #[.int .u64 a2_0, .int .u64 a2_1] 42 (0, 0)) (by (with_reducible repeat (first | refine blk_drewN ?_ _ | refine blk_drew ?_ | refine blk_alloc ?_ _)); exact BK364.out)) (below_size (by repeat (first | (with_reducible first | exact HB.out | apply below_alloc | apply pw_below_drewN | apply below_drew1 | refine below_set ?_ GE355.out | refine below_set ?_ GE364.out) | exact HB.out)))); have n4_ := Aside0.mk (blk_below (g := gb355) (o := .cells #[.int .u64 a2_0, .int .u64 a2_1] 34 (0, 0)) (by (with_reducible repeat (first | refine blk_drewN ?_ _ | refine blk_drew ?_ | refine blk_alloc ?_ _)); exact BK355.out) hb); have n5_ := Aside0.mk (blk_below (g := gb364) (o := .cells #[.int .u64 a2_0, .int .u64 a2_1] 42 (0, 0)) (by (with_reducible repeat (first | refine blk_drewN ?_ _ | refine blk_drew ?_ | refine blk_alloc ?_ _)); exact BK364.out) hb); have n6_ := Aside0.mk (below_step (by repeat (first | (with_reducible first | exact HB.out | apply below_alloc | apply pw_below_drewN | apply below_drew1 | refine below_set ?_ GE355.out | refine below_set ?_ GE364.out) | exact HB.out)) hb); clear HO367; clear HO370; clear HO373; clear BK355; clear BK364; clear HB; have HO367 := n0_; have HO370 := n1_; have HO373 := n2_; have HO376 := n3_; have BK355 := n4_; have BK364 := n5_; have HB := n6_; clear n0_ n1_ n2_ n3_ n4_ n5_ n6_; (try clear hb); (try clear hb2); (try clear hk); (try clear hi); (try clear ho0)) | ((with_reducible refine gate_callee (f := 13) rfl ?_); refine goesL_ (some 42) rfl rfl Try.func13 (by kernel_rfl) rfl #[.slice A1 l1.length c1] rfl (by (try simp only [List.map_toArray, List.map_cons, List.map_nil]); first | done | rfl | (simp only [List.length_drop, List.length_take]; rfl)) ?_; (with_reducible refine (dominolaw03_its.calls kj4 _ _ l1 t377 _ ?side1 ?side2 A30.out).mono ?_); (case side1 => repeat (first | exact (Kd.C_below HR1.out HB.out) | (with_reducible refine Kd.C_alloc ?_ _) | (with_reducible refine Kd.C_drewN ?_ _) | (with_reducible refine Kd.C_drew ?_))); (case side2 => exact HC1.out); rintro e w75 ⟨v378, rfl, ho0, hb⟩; refine ⟨_, rfl, ?_⟩; have n0_ := Aside0.mk (Kd.R_below (by (with_reducible repeat (first | apply Kd.R_alloc | apply Kd.R_drewN | apply Kd.R_drew)); exact HO367.out) hb); have n1_ := Aside0.mk (Kd.R_below (by (with_reducible repeat (first | apply Kd.R_alloc | apply Kd.R_drewN | apply Kd.R_drew)); exact HO370.out) hb); have n2_ := Aside0.mk (Kd.R_elder' (by (with_reducible repeat (first | apply Kd.R_alloc | apply Kd.R_drewN | apply Kd.R_drew)); exact HO373.out) (Kd.R_base ho0) hb); have n3_ := Aside0.mk (Kd.R_elder' (by (with_reducible repeat (first | apply Kd.R_alloc | apply Kd.R_drewN | apply Kd.R_drew)); exact HO376.out) (Kd.R_base ho0) hb); have n4_ := Aside0.mk (Kd.R_lower (Kd.R_newB (Kd.R_new' (Kd.R_new' ho0 (Kd.R_lt (by (with_reducible repeat (first | apply Kd.R_alloc | apply Kd.R_drewN | apply Kd.R_drew)); exact HO373.out))) (Kd.R_lt (by (with_reducible repeat (first | apply Kd.R_alloc | apply Kd.R_drewN | apply Kd.R_drew)); exact HO376.out))) (g := gb364) (o := .cells #[.int .u64 a2_0, .int .u64 a2_1] 42 (0, 0)) (by (with_reducible repeat (first | refine blk_drewN ?_ _ | refine blk_drew ?_ | refine blk_alloc ?_ _)); exact BK364.out)) (below_size (by repeat (first | (with_reducible first | exact HB.out | apply below_alloc | apply pw_below_drewN | apply below_drew1 | refine below_set ?_ GE355.out | refine below_set ?_ GE364.out) | exact HB.out)))); have n5_ := Aside0.mk (blk_below (g := gb355) (o := .cells #[.int .u64 a2_0, .int .u64 a2_1] 34 (0, 0)) (by (with_reducible repeat (first | refine blk_drewN ?_ _ | refine blk_drew ?_ | refine blk_alloc ?_ _)); exact BK355.out) hb); have n6_ := Aside0.mk (blk_below (g := gb364) (o := .cells #[.int .u64 a2_0, .int .u64 a2_1] 42 (0, 0)) (by (with_reducible repeat (first | refine blk_drewN ?_ _ | refine blk_drew ?_ | refine blk_alloc ?_ _)); exact BK364.out) hb); have n7_ := Aside0.mk (below_step (by repeat (first | (with_reducible first | exact HB.out | apply below_alloc | apply pw_below_drewN | apply below_drew1 | refine below_set ?_ GE355.out | refine below_set ?_ GE364.out) | exact HB.out)) hb); clear HO367; clear HO370; clear HO373; clear HO376; clear BK355; clear BK364; clear HB; have HO367 := n0_; have HO370 := n1_; have HO373 := n2_; have HO376 := n3_; have HO379 := n4_; have BK355 := n5_; have BK364 := n6_; have HB := n7_; clear n0_ n1_ n2_ n3_ n4_ n5_ n6_ n7_; (try clear hb); (try clear hb2); (try clear hk); (try clear hi); (try clear ho0); obtain ⟨Ao76, co76, eo76⟩ := Kd.R_slice HO379.out; subst eo76) | ((with_reducible refine gate_callee (f := 22) rfl ?_); refine goesL_ (some 43) rfl rfl Try.func22 (by kernel_rfl) rfl #[.slice Ao76 t377.length co76] rfl (by (try simp only [List.map_toArray, List.map_cons, List.map_nil]); first | done | rfl | (simp only [List.length_drop, List.length_take]; rfl)) ?_; (with_reducible refine (dominoref03_Of.calls kj4 _ _ t377 t380 _ ?side1 ?side2 A31.out).mono ?_); (case side1 => repeat (first | exact (Kd.R_reads' HO379.out).2.2 | (with_reducible refine Kd.C_alloc ?_ _) | (with_reducible refine Kd.C_drewN ?_ _) | (with_reducible refine Kd.C_drew ?_))); (case side2 => exact (Kd.R_reads' HO379.out).2.1); rintro e w77 ⟨v381, rfl, ho0, hb⟩; refine ⟨_, rfl, ?_⟩; have n0_ := Aside0.mk (Kd.R_below (by (with_reducible repeat (first | apply Kd.R_alloc | apply Kd.R_drewN | apply Kd.R_drew)); exact HO367.out) hb); have n1_ := Aside0.mk (Kd.R_below (by (with_reducible repeat (first | apply Kd.R_alloc | apply Kd.R_drewN | apply Kd.R_drew)); exact HO370.out) hb); have n2_ := Aside0.mk (Kd.R_elder' (by (with_reducible repeat (first | apply Kd.R_alloc | apply Kd.R_drewN | apply Kd.R_drew)); exact HO373.out) (Kd.R_base ho0) hb); have n3_ := Aside0.mk (Kd.R_elder' (by (with_reducible repeat (first | apply Kd.R_alloc | apply Kd.R_drewN | apply Kd.R_drew)); exact HO376.out) (Kd.R_base ho0) hb); have n4_ := Aside0.mk (Kd.R_elder' (by (with_reducible repeat (first | apply Kd.R_alloc | apply Kd.R_drewN | apply Kd.R_drew)); exact HO379.out) (Kd.R_base ho0) hb); have n5_ := Aside0.mk (Kd.R_lower (Kd.R_newB (Kd.R_new' (Kd.R_new' (Kd.R_new' ho0 (Kd.R_lt (by (with_reducible repeat (first | apply Kd.R_alloc | apply Kd.R_drewN | apply Kd.R_drew)); exact HO373.out))) (Kd.R_lt (by (with_reducible repeat (first | apply Kd.R_alloc | apply Kd.R_drewN | apply Kd.R_drew)); exact HO376.out))) (Kd.R_lt (by (with_reducible repeat (first | apply Kd.R_alloc | apply Kd.R_drewN | apply Kd.R_drew)); exact HO379.out))) (g := gb364) (o := .cells #[.int .u64 a2_0, .int .u64 a2_1] 42 (0, 0)) (by (with_reducible repeat (first | refine blk_drewN ?_ _ | refine blk_drew ?_ | refine blk_alloc ?_ _)); exact BK364.out)) (below_size (by repeat (first | (with_reducible first | exact HB.out | apply below_alloc | apply pw_below_drewN | apply below_drew1 | refine below_set ?_ GE355.out | refine below_set ?_ GE364.out) | exact HB.out)))); have n6_ := Aside0.mk (blk_below (g := gb355) (o := .cells #[.int .u64 a2_0, .int .u64 a2_1] 34 (0, 0)) (by (with_reducible repeat (first | refine blk_drewN ?_ _ | refine blk_drew ?_ | refine blk_alloc ?_ _)); exact BK355.out) hb); have n7_ := Aside0.mk (blk_below (g := gb364) (o := .cells #[.int .u64 a2_0, .int .u64 a2_1] 42 (0, 0)) (by (with_reducible repeat (first | refine blk_drewN ?_ _ | refine blk_drew ?_ | refine blk_alloc ?_ _)); exact BK364.out) hb); have n8_ := Aside0.mk (below_step (by repeat (first | (with_reducible first | exact HB.out | apply below_alloc | apply pw_below_drewN | apply below_drew1 | refine below_set ?_ GE355.out | refine below_set ?_ GE364.out) | exact HB.out)) hb); clear HO367; clear HO370; clear HO373; clear HO376; clear HO379; clear BK355; clear BK364; clear HB; have HO367 := n0_; have HO370 := n1_; have HO373 := n2_; have HO376 := n3_; have HO379 := n4_; have HO382 := n5_; have BK355 := n6_; have BK364 := n7_; have HB := n8_; clear n0_ n1_ n2_ n3_ n4_ n5_ n6_ n7_ n8_; (try clear hb); (try clear hb2); (try clear hk); (try clear hi); (try clear ho0)))
            have n0_ := Aside0.mk (Kd.R_drew HO367.out)
            have n1_ := Aside0.mk (Kd.R_drew HO370.out)
            have n2_ := Aside0.mk (Kd.R_drew HO373.out)
            have n3_ := Aside0.mk (Kd.R_drew HO376.out)
            have n4_ := Aside0.mk (Kd.R_drew HO379.out)
            have n5_ := Aside0.mk (Kd.R_drew HO382.out)
            have n6_ := Aside0.mk (blk_drew BK355.out)
            have n7_ := Aside0.mk (blk_drew BK364.out)
            have n8_ := Aside0.mk (below_drew1 HB.out)
            clear HO367
            clear HO370
            clear HO373
            clear HO376
            clear HO379
            clear HO382
            clear BK355
            clear BK364
            clear HB
            have HO367 := n0_
            have HO370 := n1_
            have HO373 := n2_
            have HO376 := n3_
            have HO379 := n4_
            have HO382 := n5_
            have BK355 := n6_
            have BK364 := n7_
            have HB := n8_
            clear n0_ n1_ n2_ n3_ n4_ n5_ n6_ n7_ n8_
            obtain ⟨Ao79, co79, eo79⟩ := Kd.R_slice HO367.out
            (first | subst eo79 | (injection eo79 with f1_ f2_ f3_; have f4_ := f1_.symm; have f5_ := f3_.symm; clear f1_ f2_ f3_; subst f4_; subst f5_))
            refine start_ (n := 73) (S := fun w' => w'.cell? ⟨gb355, 0, none⟩ = some (.int .u64 a2_0) ∧ w'.cell? ⟨gb355, 1, none⟩ = some (.int .u64 a2_1) ∧ w'.cell? ⟨gb364, 0, none⟩ = some (.int .u64 a2_0) ∧ w'.cell? ⟨gb364, 1, none⟩ = some (.int .u64 a2_1)) (ds := []) #[false,false,false,false,false,false,false,false,false,false,false,false,false,false,false,false,false,false,false,false,false,false,false,false,false,false,false,false,false,false,false,false,false,false,false,false,false,false,false,false,false,false,false,false,false,false,false,false,false,false,false,false,false,false,false,false,false,false,false,false,false,false,false,false,false,false,false,false,false,false,false,false,false] (by kernel_rfl) rfl rfl ⟨(blk_cell BK355.out 0).trans rfl, (blk_cell BK355.out 1).trans rfl, (blk_cell BK364.out 0).trans rfl, (blk_cell BK364.out 1).trans rfl⟩ (fun hHeld => ?_); refine with_tabW dominolaw03_RangesTells.tab8 dominolaw03_RangesTells.bits8 (fun HT_ HW_ => ?_)
            generalize w77.drew = w78 at HO367 HO370 HO373 HO376 HO379 HO382 BK355 BK364 HB hHeld ⊢
            refine pure_ (i := 0) (N := some 44) (v := ?_) (a' := ?_) #[true,false,false,false,false,false,false,false,false,false,false,false,false,false,false,false,false,false,false,false,false,false,false,false,false,false,false,false,false,false,false,false,false,false,false,false,false,false,false,false,false,false,false,false,false,false,false,false,false,false,false,false,false,false,false,false,false,false,false,false,false,false,false,false,false,false,false,false,false,false,false,false,false] rfl rfl (any_of HT_.out (by kernel_rfl)) (fun _ _ _ h => h) (Or.inl ⟨by rfl, ?_⟩) ?_ ?_
            rotate_left;(intro w';go_simp;with_reducible rfl);rotate_left;(simp only [Act.put, List.setIfInBounds_toArray, List.set_cons_zero, List.set_cons_succ, i64_w, i32_w];rfl)
            refine pure_ (i := 2) (N := some 46) (v := ?_) (a' := ?_) #[true,false,true,false,false,false,false,false,false,false,false,false,false,false,false,false,false,false,false,false,false,false,false,false,false,false,false,false,false,false,false,false,false,false,false,false,false,false,false,false,false,false,false,false,false,false,false,false,false,false,false,false,false,false,false,false,false,false,false,false,false,false,false,false,false,false,false,false,false,false,false,false,false] rfl rfl (any_of HT_.out (by kernel_rfl)) (fun _ _ _ h => h) (Or.inl ⟨by rfl, ?_⟩) ?_ ?_
            rotate_left;(intro w';go_simp;with_reducible rfl);rotate_left;(simp only [Act.put, List.setIfInBounds_toArray, List.set_cons_zero, List.set_cons_succ, i64_w, i32_w];rfl)
            refine one_ (i := 1) (N := some 45) #[true,true,true,false,false,false,false,false,false,false,false,false,false,false,false,false,false,false,false,false,false,false,false,false,false,false,false,false,false,false,false,false,false,false,false,false,false,false,false,false,false,false,false,false,false,false,false,false,false,false,false,false,false,false,false,false,false,false,false,false,false,false,false,false,false,false,false,false,false,false,false,false,false] rfl rfl (one_of HT_.out (by kernel_rfl)) (by decide) (fun K hK => ?_)
            refine goes_ Try.func13 (by kernel_rfl) rfl #[.slice Ao79 t365.length co79] (by rfl) rfl rfl (by (try simp only [List.map_toArray, List.map_cons, List.map_nil]); first | done | rfl | (simp only [List.length_drop, List.length_take]; rfl)) ?_
            with_reducible refine (dominolaw03_its.calls kj4 _ _ t365 t383 _ ?side1 ?side2 A32.out).mono ?_
            (case side1 => repeat (first | exact (Kd.R_reads' HO367.out).2.2 | (with_reducible refine Kd.C_alloc ?_ _) | (with_reducible refine Kd.C_drewN ?_ _) | (with_reducible refine Kd.C_drew ?_)))
            (case side2 => exact (Kd.R_reads' HO367.out).2.1)
            rintro e w80 ⟨v384, rfl, ho0, hb⟩
            refine ⟨_, rfl, ?_⟩
            have n0_ := Aside0.mk (Kd.R_below (by (with_reducible repeat (first | apply Kd.R_alloc | apply Kd.R_drewN | apply Kd.R_drew)); exact HO367.out) hb)
            have n1_ := Aside0.mk (Kd.R_below (by (with_reducible repeat (first | apply Kd.R_alloc | apply Kd.R_drewN | apply Kd.R_drew)); exact HO370.out) hb)
            have n2_ := Aside0.mk (Kd.R_elder' (by (with_reducible repeat (first | apply Kd.R_alloc | apply Kd.R_drewN | apply Kd.R_drew)); exact HO373.out) (Kd.R_base ho0) hb)
            have n3_ := Aside0.mk (Kd.R_elder' (by (with_reducible repeat (first | apply Kd.R_alloc | apply Kd.R_drewN | apply Kd.R_drew)); exact HO376.out) (Kd.R_base ho0) hb)
            have n4_ := Aside0.mk (Kd.R_elder' (by (with_reducible repeat (first | apply Kd.R_alloc | apply Kd.R_drewN | apply Kd.R_drew)); exact HO379.out) (Kd.R_base ho0) hb)
            have n5_ := Aside0.mk (Kd.R_elder' (by (with_reducible repeat (first | apply Kd.R_alloc | apply Kd.R_drewN | apply Kd.R_drew)); exact HO382.out) (Kd.R_base ho0) hb)
            have n6_ := Aside0.mk (Kd.R_lower (Kd.R_newB (Kd.R_new' (Kd.R_new' (Kd.R_new' (Kd.R_new' ho0 (Kd.R_lt (by (with_reducible repeat (first | apply Kd.R_alloc | apply Kd.R_drewN | apply Kd.R_drew)); exact HO373.out))) (Kd.R_lt (by (with_reducible repeat (first | apply Kd.R_alloc | apply Kd.R_drewN | apply Kd.R_drew)); exact HO376.out))) (Kd.R_lt (by (with_reducible repeat (first | apply Kd.R_alloc | apply Kd.R_drewN | apply Kd.R_drew)); exact HO379.out))) (Kd.R_lt (by (with_reducible repeat (first | apply Kd.R_alloc | apply Kd.R_drewN | apply Kd.R_drew)); exact HO382.out))) (g := gb364) (o := .cells #[.int .u64 a2_0, .int .u64 a2_1] 42 (0, 0)) (by (with_reducible repeat (first | refine blk_drewN ?_ _ | refine blk_drew ?_ | refine blk_alloc ?_ _)); exact BK364.out)) (below_size (by repeat (first | (with_reducible first | exact HB.out | apply below_alloc | apply pw_below_drewN | apply below_drew1 | refine below_set ?_ GE355.out | refine below_set ?_ GE364.out) | exact HB.out))))
            have n7_ := Aside0.mk (blk_below (g := gb355) (o := .cells #[.int .u64 a2_0, .int .u64 a2_1] 34 (0, 0)) (by (with_reducible repeat (first | refine blk_drewN ?_ _ | refine blk_drew ?_ | refine blk_alloc ?_ _)); exact BK355.out) hb)
            have n8_ := Aside0.mk (blk_below (g := gb364) (o := .cells #[.int .u64 a2_0, .int .u64 a2_1] 42 (0, 0)) (by (with_reducible repeat (first | refine blk_drewN ?_ _ | refine blk_drew ?_ | refine blk_alloc ?_ _)); exact BK364.out) hb)
            have n9_ := Aside0.mk (below_step (by repeat (first | (with_reducible first | exact HB.out | apply below_alloc | apply pw_below_drewN | apply below_drew1 | refine below_set ?_ GE355.out | refine below_set ?_ GE364.out) | exact HB.out)) hb)
            clear HO367
            clear HO370
            clear HO373
            clear HO376
            clear HO379
            clear HO382
            clear BK355
            clear BK364
            clear HB
            have HO367 := n0_
            have HO370 := n1_
            have HO373 := n2_
            have HO376 := n3_
            have HO379 := n4_
            have HO382 := n5_
            have HO385 := n6_
            have BK355 := n7_
            have BK364 := n8_
            have HB := n9_
            clear n0_ n1_ n2_ n3_ n4_ n5_ n6_ n7_ n8_ n9_
            (try clear hb)
            (try clear hb2)
            (try clear hk)
            (try clear hi)
            (try clear ho0)
            obtain ⟨Ao81, co81, eo81⟩ := Kd.R_slice HO385.out
            (first | subst eo81 | (injection eo81 with f1_ f2_ f3_; have f4_ := f1_.symm; have f5_ := f3_.symm; clear f1_ f2_ f3_; subst f4_; subst f5_))
            obtain ⟨Ao82, co82, eo82⟩ := Kd.R_slice HO376.out
            (first | subst eo82 | (injection eo82 with f1_ f2_ f3_; have f4_ := f1_.symm; have f5_ := f3_.symm; clear f1_ f2_ f3_; subst f4_; subst f5_))
            refine hK.out _ _ ⟨(blk_cell BK355.out 0).trans rfl, (blk_cell BK355.out 1).trans rfl, (blk_cell BK364.out 0).trans rfl, (blk_cell BK364.out 1).trans rfl⟩ (fun hHeld => ?_)
            clear hK K
            refine norm_ (a' := ?_) ?_ ?_
            rotate_left
            ·show Act.put _ (some 45) _ = _
             simp only [Act.put, List.setIfInBounds_toArray, List.set_cons_zero, List.set_cons_succ, i64_w, i32_w]
             rfl
            refine one_ (i := 3) (N := some 47) #[true,true,true,true,false,false,false,false,false,false,false,false,false,false,false,false,false,false,false,false,false,false,false,false,false,false,false,false,false,false,false,false,false,false,false,false,false,false,false,false,false,false,false,false,false,false,false,false,false,false,false,false,false,false,false,false,false,false,false,false,false,false,false,false,false,false,false,false,false,false,false,false,false] rfl rfl (one_of HT_.out (by kernel_rfl)) (by decide) (fun K hK => ?_)
            refine goes_ Try.func16 (by kernel_rfl) rfl #[.slice Ao81 t383.length co81, .slice Ao82 t374.length co82] (by rfl) rfl rfl (by (try simp only [List.map_toArray, List.map_cons, List.map_nil]); first | done | rfl | (simp only [List.length_drop, List.length_take]; rfl)) ?_
            with_reducible refine (dominoref03_Same.calls kj4 _ _ t383 _ _ t374 true _ ?side1 ?side2 ?side3 ?side4 A33.out).mono ?_
            (case side1 => repeat (first | exact (Kd.R_reads' HO385.out).2.2 | (with_reducible refine Kd.C_alloc ?_ _) | (with_reducible refine Kd.C_drewN ?_ _) | (with_reducible refine Kd.C_drew ?_)))
            (case side2 => exact (Kd.R_reads' HO385.out).2.1)
            (case side3 => repeat (first | exact (Kd.R_reads' HO376.out).2.2 | (with_reducible refine Kd.C_alloc ?_ _) | (with_reducible refine Kd.C_drewN ?_ _) | (with_reducible refine Kd.C_drew ?_)))
            (case side4 => exact (Kd.R_reads' HO376.out).2.1)
            rintro e w' ⟨rfl, ⟨nd, rfl⟩⟩
            refine ⟨_, rfl, ?_⟩
            refine hK.out _ _ ⟨(blk_cell BK355.out 0).trans rfl, (blk_cell BK355.out 1).trans rfl, (blk_cell BK364.out 0).trans rfl, (blk_cell BK364.out 1).trans rfl⟩ (fun hHeld => ?_)
            clear hK K
            refine norm_ (a' := ?_) ?_ ?_
            rotate_left
            ·show Act.put _ (some 47) _ = _
             simp only [Act.put, List.setIfInBounds_toArray, List.set_cons_zero, List.set_cons_succ, i64_w, i32_w]
             rfl
            refine pure_ (i := 4) (N := some 48) (v := ?_) (a' := ?_) #[true,true,true,true,true,false,false,false,false,false,false,false,false,false,false,false,false,false,false,false,false,false,false,false,false,false,false,false,false,false,false,false,false,false,false,false,false,false,false,false,false,false,false,false,false,false,false,false,false,false,false,false,false,false,false,false,false,false,false,false,false,false,false,false,false,false,false,false,false,false,false,false,false] rfl rfl (any_of HT_.out (by kernel_rfl)) (fun _ _ _ h => h) (Or.inl ⟨by rfl, ?_⟩) ?_ ?_
            rotate_left;(intro w';go_simp;with_reducible rfl);rotate_left;(simp only [Act.put, List.setIfInBounds_toArray, List.set_cons_zero, List.set_cons_succ, i64_w, i32_w];rfl)
            refine pure_ (i := 5) (N := some 49) (v := ?_) (a' := ?_) #[true,true,true,true,true,true,false,false,false,false,false,false,false,false,false,false,false,false,false,false,false,false,false,false,false,false,false,false,false,false,false,false,false,false,false,false,false,false,false,false,false,false,false,false,false,false,false,false,false,false,false,false,false,false,false,false,false,false,false,false,false,false,false,false,false,false,false,false,false,false,false,false,false] rfl rfl (any_of HT_.out (by kernel_rfl)) (fun _ _ _ h => h) (Or.inl ⟨by rfl, ?_⟩) ?_ ?_
            rotate_left;(intro w';go_simp;with_reducible rfl);rotate_left;(simp only [Act.put, List.setIfInBounds_toArray, List.set_cons_zero, List.set_cons_succ, i64_w, i32_w];rfl)
            refine one_ (i := 6) (N := some 50) #[true,true,true,true,true,true,true,false,false,false,false,false,false,false,false,false,false,false,false,false,false,false,false,false,false,false,false,false,false,false,false,false,false,false,false,false,false,false,false,false,false,false,false,false,false,false,false,false,false,false,false,false,false,false,false,false,false,false,false,false,false,false,false,false,false,false,false,false,false,false,false,false,false] rfl rfl (one_of HT_.out (by kernel_rfl)) (by decide) (fun K hK => ?_)
            refine goes_ Try.func11 (by kernel_rfl) rfl #[.slice Ao79 t365.length co79] (by rfl) rfl rfl (by (try simp only [List.map_toArray, List.map_cons, List.map_nil]); first | done | rfl | (simp only [List.length_drop, List.length_take]; rfl)) ?_
            with_reducible refine (ranges_May.calls kj4 _ _ t365 true _ ?side1 ?side2 A35.out).mono ?_
            (case side1 => repeat (first | exact (Kd.R_reads' HO367.out).2.2 | (with_reducible refine Kd.C_alloc ?_ _) | (with_reducible refine Kd.C_drewN ?_ _) | (with_reducible refine Kd.C_drew ?_)))
            (case side2 => exact (Kd.R_reads' HO367.out).2.1)
            rintro e w83 ⟨rfl, hb⟩
            refine ⟨_, rfl, ?_⟩
            have n0_ := Aside0.mk (Kd.R_below (by (with_reducible repeat (first | apply Kd.R_alloc | apply Kd.R_drewN | apply Kd.R_drew)); exact HO367.out) hb)
            have n1_ := Aside0.mk (Kd.R_below (by (with_reducible repeat (first | apply Kd.R_alloc | apply Kd.R_drewN | apply Kd.R_drew)); exact HO370.out) hb)
            have n2_ := Aside0.mk (Kd.R_below (by (with_reducible repeat (first | apply Kd.R_alloc | apply Kd.R_drewN | apply Kd.R_drew)); exact HO373.out) hb)
            have n3_ := Aside0.mk (Kd.R_below (by (with_reducible repeat (first | apply Kd.R_alloc | apply Kd.R_drewN | apply Kd.R_drew)); exact HO376.out) hb)
            have n4_ := Aside0.mk (Kd.R_below (by (with_reducible repeat (first | apply Kd.R_alloc | apply Kd.R_drewN | apply Kd.R_drew)); exact HO379.out) hb)
            have n5_ := Aside0.mk (Kd.R_below (by (with_reducible repeat (first | apply Kd.R_alloc | apply Kd.R_drewN | apply Kd.R_drew)); exact HO382.out) hb)
            have n6_ := Aside0.mk (Kd.R_below (by (with_reducible repeat (first | apply Kd.R_alloc | apply Kd.R_drewN | apply Kd.R_drew)); exact HO385.out) hb)
            have n7_ := Aside0.mk (blk_below (g := gb355) (o := .cells #[.int .u64 a2_0, .int .u64 a2_1] 34 (0, 0)) (by (with_reducible repeat (first | refine blk_drewN ?_ _ | refine blk_drew ?_ | refine blk_alloc ?_ _)); exact BK355.out) hb)
            have n8_ := Aside0.mk (blk_below (g := gb364) (o := .cells #[.int .u64 a2_0, .int .u64 a2_1] 42 (0, 0)) (by (with_reducible repeat (first | refine blk_drewN ?_ _ | refine blk_drew ?_ | refine blk_alloc ?_ _)); exact BK364.out) hb)
            have n9_ := Aside0.mk (below_step (by repeat (first | (with_reducible first | exact HB.out | apply below_alloc | apply pw_below_drewN | apply below_drew1 | refine below_set ?_ GE355.out | refine below_set ?_ GE364.out) | exact HB.out)) hb)
            clear HO367
            clear HO370
            clear HO373
            clear HO376
            clear HO379
            clear HO382
            clear HO385
            clear BK355
            clear BK364
            clear HB
            have HO367 := n0_
            have HO370 := n1_
            have HO373 := n2_
            have HO376 := n3_
            have HO379 := n4_
            have HO382 := n5_
            have HO385 := n6_
            have BK355 := n7_
            have BK364 := n8_
            have HB := n9_
            clear n0_ n1_ n2_ n3_ n4_ n5_ n6_ n7_ n8_ n9_
            (try clear hb)
            (try clear hb2)
            (try clear hk)
            (try clear hi)
            refine hK.out _ _ ⟨(blk_cell BK355.out 0).trans rfl, (blk_cell BK355.out 1).trans rfl, (blk_cell BK364.out 0).trans rfl, (blk_cell BK364.out 1).trans rfl⟩ (fun hHeld => ?_)
            clear hK K
            refine norm_ (a' := ?_) ?_ ?_
            rotate_left
            ·show Act.put _ (some 50) _ = _
             simp only [Act.put, List.setIfInBounds_toArray, List.set_cons_zero, List.set_cons_succ, i64_w, i32_w]
             rfl
            refine pure_ (i := 7) (N := some 51) (v := ?_) (a' := ?_) #[true,true,true,true,true,true,true,true,false,false,false,false,false,false,false,false,false,false,false,false,false,false,false,false,false,false,false,false,false,false,false,false,false,false,false,false,false,false,false,false,false,false,false,false,false,false,false,false,false,false,false,false,false,false,false,false,false,false,false,false,false,false,false,false,false,false,false,false,false,false,false,false,false] rfl rfl (any_of HT_.out (by kernel_rfl)) (fun _ _ _ h => h) (Or.inl ⟨by rfl, ?_⟩) ?_ ?_
            rotate_left;(intro w';go_simp;with_reducible rfl);rotate_left;(simp only [Act.put, List.setIfInBounds_toArray, List.set_cons_zero, List.set_cons_succ, i64_w, i32_w];rfl)
            refine pure_ (i := 8) (N := some 52) (v := ?_) (a' := ?_) #[true,true,true,true,true,true,true,true,true,false,false,false,false,false,false,false,false,false,false,false,false,false,false,false,false,false,false,false,false,false,false,false,false,false,false,false,false,false,false,false,false,false,false,false,false,false,false,false,false,false,false,false,false,false,false,false,false,false,false,false,false,false,false,false,false,false,false,false,false,false,false,false,false] rfl rfl (any_of HT_.out (by kernel_rfl)) (fun _ _ _ h => h) (Or.inl ⟨by rfl, ?_⟩) ?_ ?_
            rotate_left;(intro w';go_simp;with_reducible rfl);rotate_left;(simp only [Act.put, List.setIfInBounds_toArray, List.set_cons_zero, List.set_cons_succ, i64_w, i32_w];rfl)
            refine pure_ (i := 9) (N := some 53) (v := ?_) (a' := ?_) #[true,true,true,true,true,true,true,true,true,true,false,false,false,false,false,false,false,false,false,false,false,false,false,false,false,false,false,false,false,false,false,false,false,false,false,false,false,false,false,false,false,false,false,false,false,false,false,false,false,false,false,false,false,false,false,false,false,false,false,false,false,false,false,false,false,false,false,false,false,false,false,false,false] rfl rfl (any_of HT_.out (by kernel_rfl)) (fun _ _ _ h => h) (Or.inl ⟨by rfl, ?_⟩) ?_ ?_
            rotate_left;(intro w';go_simp;with_reducible rfl);rotate_left;(simp only [Act.put, List.setIfInBounds_toArray, List.set_cons_zero, List.set_cons_succ, i64_w, i32_w];rfl)
            refine pure_ (i := 11) (N := some 55) (v := ?_) (a' := ?_) #[true,true,true,true,true,true,true,true,true,true,false,true,false,false,false,false,false,false,false,false,false,false,false,false,false,false,false,false,false,false,false,false,false,false,false,false,false,false,false,false,false,false,false,false,false,false,false,false,false,false,false,false,false,false,false,false,false,false,false,false,false,false,false,false,false,false,false,false,false,false,false,false,false] rfl rfl (any_of HT_.out (by kernel_rfl)) (fun _ _ _ h => h) (Or.inl ⟨by rfl, ?_⟩) ?_ ?_
            rotate_left;(intro w';go_simp;with_reducible rfl);rotate_left;(simp only [Act.put, List.setIfInBounds_toArray, List.set_cons_zero, List.set_cons_succ, i64_w, i32_w];rfl)
            refine one_ (i := 10) (N := some 54) #[true,true,true,true,true,true,true,true,true,true,true,true,false,false,false,false,false,false,false,false,false,false,false,false,false,false,false,false,false,false,false,false,false,false,false,false,false,false,false,false,false,false,false,false,false,false,false,false,false,false,false,false,false,false,false,false,false,false,false,false,false,false,false,false,false,false,false,false,false,false,false,false,false] rfl rfl (one_of HT_.out (by kernel_rfl)) (by decide) (fun K hK => ?_)
            refine goes_ Try.func11 (by kernel_rfl) rfl #[.slice A0 l0.length c0] (by rfl) rfl rfl (by (try simp only [List.map_toArray, List.map_cons, List.map_nil]); first | done | rfl | (simp only [List.length_drop, List.length_take]; rfl)) ?_
            with_reducible refine (ranges_May.calls kj4 _ _ l0 t388 _ ?side1 ?side2 A37.out).mono ?_
            (case side1 => repeat (first | exact (Kd.C_below HR0.out HB.out) | (with_reducible refine Kd.C_alloc ?_ _) | (with_reducible refine Kd.C_drewN ?_ _) | (with_reducible refine Kd.C_drew ?_)))
            (case side2 => exact HC0.out)
            rintro e w84 ⟨rfl, hb⟩
            refine ⟨_, rfl, ?_⟩
            have n0_ := Aside0.mk (Kd.R_below (by (with_reducible repeat (first | apply Kd.R_alloc | apply Kd.R_drewN | apply Kd.R_drew)); exact HO367.out) hb)
            have n1_ := Aside0.mk (Kd.R_below (by (with_reducible repeat (first | apply Kd.R_alloc | apply Kd.R_drewN | apply Kd.R_drew)); exact HO370.out) hb)
            have n2_ := Aside0.mk (Kd.R_below (by (with_reducible repeat (first | apply Kd.R_alloc | apply Kd.R_drewN | apply Kd.R_drew)); exact HO373.out) hb)
            have n3_ := Aside0.mk (Kd.R_below (by (with_reducible repeat (first | apply Kd.R_alloc | apply Kd.R_drewN | apply Kd.R_drew)); exact HO376.out) hb)
            have n4_ := Aside0.mk (Kd.R_below (by (with_reducible repeat (first | apply Kd.R_alloc | apply Kd.R_drewN | apply Kd.R_drew)); exact HO379.out) hb)
            have n5_ := Aside0.mk (Kd.R_below (by (with_reducible repeat (first | apply Kd.R_alloc | apply Kd.R_drewN | apply Kd.R_drew)); exact HO382.out) hb)
            have n6_ := Aside0.mk (Kd.R_below (by (with_reducible repeat (first | apply Kd.R_alloc | apply Kd.R_drewN | apply Kd.R_drew)); exact HO385.out) hb)
            have n7_ := Aside0.mk (blk_below (g := gb355) (o := .cells #[.int .u64 a2_0, .int .u64 a2_1] 34 (0, 0)) (by (with_reducible repeat (first | refine blk_drewN ?_ _ | refine blk_drew ?_ | refine blk_alloc ?_ _)); exact BK355.out) hb)
            have n8_ := Aside0.mk (blk_below (g := gb364) (o := .cells #[.int .u64 a2_0, .int .u64 a2_1] 42 (0, 0)) (by (with_reducible repeat (first | refine blk_drewN ?_ _ | refine blk_drew ?_ | refine blk_alloc ?_ _)); exact BK364.out) hb)
            have n9_ := Aside0.mk (below_step (by repeat (first | (with_reducible first | exact HB.out | apply below_alloc | apply pw_below_drewN | apply below_drew1 | refine below_set ?_ GE355.out | refine below_set ?_ GE364.out) | exact HB.out)) hb)
            clear HO367
            clear HO370
            clear HO373
            clear HO376
            clear HO379
            clear HO382
            clear HO385
            clear BK355
            clear BK364
            clear HB
            have HO367 := n0_
            have HO370 := n1_
            have HO373 := n2_
            have HO376 := n3_
            have HO379 := n4_
            have HO382 := n5_
            have HO385 := n6_
            have BK355 := n7_
            have BK364 := n8_
            have HB := n9_
            clear n0_ n1_ n2_ n3_ n4_ n5_ n6_ n7_ n8_ n9_
            (try clear hb)
            (try clear hb2)
            (try clear hk)
            (try clear hi)
            refine hK.out _ _ ⟨(blk_cell BK355.out 0).trans rfl, (blk_cell BK355.out 1).trans rfl, (blk_cell BK364.out 0).trans rfl, (blk_cell BK364.out 1).trans rfl⟩ (fun hHeld => ?_)
            clear hK K
            refine norm_ (a' := ?_) ?_ ?_
            rotate_left
            ·show Act.put _ (some 54) _ = _
             simp only [Act.put, List.setIfInBounds_toArray, List.set_cons_zero, List.set_cons_succ, i64_w, i32_w]
             rfl
            refine one_ (i := 12) (N := some 56) #[true,true,true,true,true,true,true,true,true,true,true,true,true,false,false,false,false,false,false,false,false,false,false,false,false,false,false,false,false,false,false,false,false,false,false,false,false,false,false,false,false,false,false,false,false,false,false,false,false,false,false,false,false,false,false,false,false,false,false,false,false,false,false,false,false,false,false,false,false,false,false,false,false] rfl rfl (one_of HT_.out (by kernel_rfl)) (by decide) (fun K hK => ?_)
            refine goes_ Try.func13 (by kernel_rfl) rfl #[.slice A0 l0.length c0] (by rfl) rfl rfl (by (try simp only [List.map_toArray, List.map_cons, List.map_nil]); first | done | rfl | (simp only [List.length_drop, List.length_take]; rfl)) ?_
            with_reducible refine (dominolaw03_its.calls kj4 _ _ l0 t389 _ ?side1 ?side2 A38.out).mono ?_
            (case side1 => repeat (first | exact (Kd.C_below HR0.out HB.out) | (with_reducible refine Kd.C_alloc ?_ _) | (with_reducible refine Kd.C_drewN ?_ _) | (with_reducible refine Kd.C_drew ?_)))
            (case side2 => exact HC0.out)
            rintro e w85 ⟨v390, rfl, ho0, hb⟩
            refine ⟨_, rfl, ?_⟩
            have n0_ := Aside0.mk (Kd.R_below (by (with_reducible repeat (first | apply Kd.R_alloc | apply Kd.R_drewN | apply Kd.R_drew)); exact HO367.out) hb)
            have n1_ := Aside0.mk (Kd.R_below (by (with_reducible repeat (first | apply Kd.R_alloc | apply Kd.R_drewN | apply Kd.R_drew)); exact HO370.out) hb)
            have n2_ := Aside0.mk (Kd.R_elder' (by (with_reducible repeat (first | apply Kd.R_alloc | apply Kd.R_drewN | apply Kd.R_drew)); exact HO373.out) (Kd.R_base ho0) hb)
            have n3_ := Aside0.mk (Kd.R_elder' (by (with_reducible repeat (first | apply Kd.R_alloc | apply Kd.R_drewN | apply Kd.R_drew)); exact HO376.out) (Kd.R_base ho0) hb)
            have n4_ := Aside0.mk (Kd.R_elder' (by (with_reducible repeat (first | apply Kd.R_alloc | apply Kd.R_drewN | apply Kd.R_drew)); exact HO379.out) (Kd.R_base ho0) hb)
            have n5_ := Aside0.mk (Kd.R_elder' (by (with_reducible repeat (first | apply Kd.R_alloc | apply Kd.R_drewN | apply Kd.R_drew)); exact HO382.out) (Kd.R_base ho0) hb)
            have n6_ := Aside0.mk (Kd.R_elder' (by (with_reducible repeat (first | apply Kd.R_alloc | apply Kd.R_drewN | apply Kd.R_drew)); exact HO385.out) (Kd.R_base ho0) hb)
            have n7_ := Aside0.mk (Kd.R_lower (Kd.R_newB (Kd.R_new' (Kd.R_new' (Kd.R_new' (Kd.R_new' (Kd.R_new' ho0 (Kd.R_lt (by (with_reducible repeat (first | apply Kd.R_alloc | apply Kd.R_drewN | apply Kd.R_drew)); exact HO373.out))) (Kd.R_lt (by (with_reducible repeat (first | apply Kd.R_alloc | apply Kd.R_drewN | apply Kd.R_drew)); exact HO376.out))) (Kd.R_lt (by (with_reducible repeat (first | apply Kd.R_alloc | apply Kd.R_drewN | apply Kd.R_drew)); exact HO379.out))) (Kd.R_lt (by (with_reducible repeat (first | apply Kd.R_alloc | apply Kd.R_drewN | apply Kd.R_drew)); exact HO382.out))) (Kd.R_lt (by (with_reducible repeat (first | apply Kd.R_alloc | apply Kd.R_drewN | apply Kd.R_drew)); exact HO385.out))) (g := gb364) (o := .cells #[.int .u64 a2_0, .int .u64 a2_1] 42 (0, 0)) (by (with_reducible repeat (first | refine blk_drewN ?_ _ | refine blk_drew ?_ | refine blk_alloc ?_ _)); exact BK364.out)) (below_size (by repeat (first | (with_reducible first | exact HB.out | apply below_alloc | apply pw_below_drewN | apply below_drew1 | refine below_set ?_ GE355.out | refine below_set ?_ GE364.out) | exact HB.out))))
            have n8_ := Aside0.mk (blk_below (g := gb355) (o := .cells #[.int .u64 a2_0, .int .u64 a2_1] 34 (0, 0)) (by (with_reducible repeat (first | refine blk_drewN ?_ _ | refine blk_drew ?_ | refine blk_alloc ?_ _)); exact BK355.out) hb)
            have n9_ := Aside0.mk (blk_below (g := gb364) (o := .cells #[.int .u64 a2_0, .int .u64 a2_1] 42 (0, 0)) (by (with_reducible repeat (first | refine blk_drewN ?_ _ | refine blk_drew ?_ | refine blk_alloc ?_ _)); exact BK364.out) hb)
            have n10_ := Aside0.mk (below_step (by repeat (first | (with_reducible first | exact HB.out | apply below_alloc | apply pw_below_drewN | apply below_drew1 | refine below_set ?_ GE355.out | refine below_set ?_ GE364.out) | exact HB.out)) hb)
            clear HO367
            clear HO370
            clear HO373
            clear HO376
            clear HO379
            clear HO382
            clear HO385
            clear BK355
            clear BK364
            clear HB
            have HO367 := n0_
            have HO370 := n1_
            have HO373 := n2_
            have HO376 := n3_
            have HO379 := n4_
            have HO382 := n5_
            have HO385 := n6_
            have HO391 := n7_
            have BK355 := n8_
            have BK364 := n9_
            have HB := n10_
            clear n0_ n1_ n2_ n3_ n4_ n5_ n6_ n7_ n8_ n9_ n10_
            (try clear hb)
            (try clear hb2)
            (try clear hk)
            (try clear hi)
            (try clear ho0)
            obtain ⟨Ao86, co86, eo86⟩ := Kd.R_slice HO391.out
            (first | subst eo86 | (injection eo86 with f1_ f2_ f3_; have f4_ := f1_.symm; have f5_ := f3_.symm; clear f1_ f2_ f3_; subst f4_; subst f5_))
            refine hK.out _ _ ⟨(blk_cell BK355.out 0).trans rfl, (blk_cell BK355.out 1).trans rfl, (blk_cell BK364.out 0).trans rfl, (blk_cell BK364.out 1).trans rfl⟩ (fun hHeld => ?_)
            clear hK K
            refine norm_ (a' := ?_) ?_ ?_
            rotate_left
            ·show Act.put _ (some 56) _ = _
             simp only [Act.put, List.setIfInBounds_toArray, List.set_cons_zero, List.set_cons_succ, i64_w, i32_w]
             rfl
            refine one_ (i := 13) (N := some 57) #[true,true,true,true,true,true,true,true,true,true,true,true,true,true,false,false,false,false,false,false,false,false,false,false,false,false,false,false,false,false,false,false,false,false,false,false,false,false,false,false,false,false,false,false,false,false,false,false,false,false,false,false,false,false,false,false,false,false,false,false,false,false,false,false,false,false,false,false,false,false,false,false,false] rfl rfl (one_of HT_.out (by kernel_rfl)) (by decide) (fun K hK => ?_)
            refine goes_ Try.func12 (by kernel_rfl) rfl #[.slice Ao86 t389.length co86] (by rfl) rfl rfl (by (try simp only [List.map_toArray, List.map_cons, List.map_nil]); first | done | rfl | (simp only [List.length_drop, List.length_take]; rfl)) ?_
            with_reducible refine (dominoref03_May.calls kj4 _ _ t389 t392 _ ?side1 ?side2 A39.out).mono ?_
            (case side1 => repeat (first | exact (Kd.R_reads' HO391.out).2.2 | (with_reducible refine Kd.C_alloc ?_ _) | (with_reducible refine Kd.C_drewN ?_ _) | (with_reducible refine Kd.C_drew ?_)))
            (case side2 => exact (Kd.R_reads' HO391.out).2.1)
            rintro e w' ⟨rfl, ⟨nd, rfl⟩⟩
            refine ⟨_, rfl, ?_⟩
            refine hK.out _ _ ⟨(blk_cell BK355.out 0).trans rfl, (blk_cell BK355.out 1).trans rfl, (blk_cell BK364.out 0).trans rfl, (blk_cell BK364.out 1).trans rfl⟩ (fun hHeld => ?_)
            clear hK K
            refine norm_ (a' := ?_) ?_ ?_
            rotate_left
            ·show Act.put _ (some 57) _ = _
             simp only [Act.put, List.setIfInBounds_toArray, List.set_cons_zero, List.set_cons_succ, i64_w, i32_w]
             rfl
            refine pure_ (i := 14) (N := some 58) (v := ?_) (a' := ?_) #[true,true,true,true,true,true,true,true,true,true,true,true,true,true,true,false,false,false,false,false,false,false,false,false,false,false,false,false,false,false,false,false,false,false,false,false,false,false,false,false,false,false,false,false,false,false,false,false,false,false,false,false,false,false,false,false,false,false,false,false,false,false,false,false,false,false,false,false,false,false,false,false,false] rfl rfl (any_of HT_.out (by kernel_rfl)) (fun _ _ _ h => h) (Or.inl ⟨by rfl, ?_⟩) ?_ ?_
            rotate_left;(intro w';go_simp;with_reducible rfl);rotate_left;(simp only [Act.put, List.setIfInBounds_toArray, List.set_cons_zero, List.set_cons_succ, i64_w, i32_w];rfl)
            refine pure_ (i := 15) (N := some 59) (v := ?_) (a' := ?_) #[true,true,true,true,true,true,true,true,true,true,true,true,true,true,true,true,false,false,false,false,false,false,false,false,false,false,false,false,false,false,false,false,false,false,false,false,false,false,false,false,false,false,false,false,false,false,false,false,false,false,false,false,false,false,false,false,false,false,false,false,false,false,false,false,false,false,false,false,false,false,false,false,false] rfl rfl (any_of HT_.out (by kernel_rfl)) (fun _ _ _ h => h) (Or.inl ⟨by rfl, ?_⟩) ?_ ?_
            rotate_left;(intro w';go_simp;with_reducible rfl);rotate_left;(simp only [Act.put, List.setIfInBounds_toArray, List.set_cons_zero, List.set_cons_succ, i64_w, i32_w];rfl)
            refine pure_ (i := 16) (N := some 60) (v := ?_) (a' := ?_) #[true,true,true,true,true,true,true,true,true,true,true,true,true,true,true,true,true,false,false,false,false,false,false,false,false,false,false,false,false,false,false,false,false,false,false,false,false,false,false,false,false,false,false,false,false,false,false,false,false,false,false,false,false,false,false,false,false,false,false,false,false,false,false,false,false,false,false,false,false,false,false,false,false] rfl rfl (any_of HT_.out (by kernel_rfl)) (fun _ _ _ h => h) (Or.inl ⟨by rfl, ?_⟩) ?_ ?_
            rotate_left;(intro w';go_simp;with_reducible rfl);rotate_left;(simp only [Act.put, List.setIfInBounds_toArray, List.set_cons_zero, List.set_cons_succ, i64_w, i32_w];rfl)
            refine pure_ (i := 17) (N := some 61) (v := ?_) (a' := ?_) #[true,true,true,true,true,true,true,true,true,true,true,true,true,true,true,true,true,true,false,false,false,false,false,false,false,false,false,false,false,false,false,false,false,false,false,false,false,false,false,false,false,false,false,false,false,false,false,false,false,false,false,false,false,false,false,false,false,false,false,false,false,false,false,false,false,false,false,false,false,false,false,false,false] rfl rfl (any_of HT_.out (by kernel_rfl)) (fun _ _ _ h => h) (Or.inl ⟨by rfl, ?_⟩) ?_ ?_
            rotate_left;(intro w';go_simp;with_reducible rfl);rotate_left;(simp only [Act.put, List.setIfInBounds_toArray, List.set_cons_zero, List.set_cons_succ, i64_w, i32_w];rfl)
            refine pure_ (i := 18) (N := some 62) (v := ?_) (a' := ?_) #[true,true,true,true,true,true,true,true,true,true,true,true,true,true,true,true,true,true,true,false,false,false,false,false,false,false,false,false,false,false,false,false,false,false,false,false,false,false,false,false,false,false,false,false,false,false,false,false,false,false,false,false,false,false,false,false,false,false,false,false,false,false,false,false,false,false,false,false,false,false,false,false,false] rfl rfl (any_of HT_.out (by kernel_rfl)) (fun _ _ _ h => h) (Or.inl ⟨by rfl, ?_⟩) ?_ ?_
            rotate_left;(intro w';go_simp;with_reducible rfl);rotate_left;(simp only [Act.put, List.setIfInBounds_toArray, List.set_cons_zero, List.set_cons_succ, i64_w, i32_w];rfl)
            refine pure_ (i := 20) (N := some 64) (v := ?_) (a' := ?_) #[true,true,true,true,true,true,true,true,true,true,true,true,true,true,true,true,true,true,true,false,true,false,false,false,false,false,false,false,false,false,false,false,false,false,false,false,false,false,false,false,false,false,false,false,false,false,false,false,false,false,false,false,false,false,false,false,false,false,false,false,false,false,false,false,false,false,false,false,false,false,false,false,false] rfl rfl (any_of HT_.out (by kernel_rfl)) (fun _ _ _ h => h) (Or.inl ⟨by rfl, ?_⟩) ?_ ?_
            rotate_left;(intro w';go_simp;with_reducible rfl);rotate_left;(simp only [Act.put, List.setIfInBounds_toArray, List.set_cons_zero, List.set_cons_succ, i64_w, i32_w];rfl)
            refine pure_ (i := 21) (N := some 65) (v := ?_) (a' := ?_) #[true,true,true,true,true,true,true,true,true,true,true,true,true,true,true,true,true,true,true,false,true,true,false,false,false,false,false,false,false,false,false,false,false,false,false,false,false,false,false,false,false,false,false,false,false,false,false,false,false,false,false,false,false,false,false,false,false,false,false,false,false,false,false,false,false,false,false,false,false,false,false,false,false] rfl rfl (any_of HT_.out (by kernel_rfl)) (fun _ _ _ h => h) (Or.inl ⟨by rfl, ?_⟩) ?_ ?_
            rotate_left;(intro w';go_simp;with_reducible rfl);rotate_left;(simp only [Act.put, List.setIfInBounds_toArray, List.set_cons_zero, List.set_cons_succ, i64_w, i32_w];rfl)
            refine one_ (i := 19) (N := some 63) #[true,true,true,true,true,true,true,true,true,true,true,true,true,true,true,true,true,true,true,true,true,true,false,false,false,false,false,false,false,false,false,false,false,false,false,false,false,false,false,false,false,false,false,false,false,false,false,false,false,false,false,false,false,false,false,false,false,false,false,false,false,false,false,false,false,false,false,false,false,false,false,false,false] rfl rfl (one_of HT_.out (by kernel_rfl)) (by decide) (fun K hK => ?_)
            refine goes_ Try.func19 (by kernel_rfl) rfl #[.slice Ao79 t365.length co79, .int .u64 a3] (by rfl) rfl rfl (by (try simp only [List.map_toArray, List.map_cons, List.map_nil]); first | done | rfl | (simp only [List.length_drop, List.length_take]; rfl)) ?_
            with_reducible refine (ranges_Has.calls _ _ t365 a3 t393 _ ?side1 ?side2 A41.out).mono ?_
            (case side1 => repeat (first | exact (Kd.R_reads' HO367.out).2.2 | (with_reducible refine Kd.C_alloc ?_ _) | (with_reducible refine Kd.C_drewN ?_ _) | (with_reducible refine Kd.C_drew ?_)))
            (case side2 => exact (Kd.R_reads' HO367.out).2.1)
            rintro e w87 ⟨rfl, hb⟩
            refine ⟨_, rfl, ?_⟩
            have n0_ := Aside0.mk (Kd.R_below (by (with_reducible repeat (first | apply Kd.R_alloc | apply Kd.R_drewN | apply Kd.R_drew)); exact HO367.out) hb)
            have n1_ := Aside0.mk (Kd.R_below (by (with_reducible repeat (first | apply Kd.R_alloc | apply Kd.R_drewN | apply Kd.R_drew)); exact HO370.out) hb)
            have n2_ := Aside0.mk (Kd.R_below (by (with_reducible repeat (first | apply Kd.R_alloc | apply Kd.R_drewN | apply Kd.R_drew)); exact HO373.out) hb)
            have n3_ := Aside0.mk (Kd.R_below (by (with_reducible repeat (first | apply Kd.R_alloc | apply Kd.R_drewN | apply Kd.R_drew)); exact HO376.out) hb)
            have n4_ := Aside0.mk (Kd.R_below (by (with_reducible repeat (first | apply Kd.R_alloc | apply Kd.R_drewN | apply Kd.R_drew)); exact HO379.out) hb)
            have n5_ := Aside0.mk (Kd.R_below (by (with_reducible repeat (first | apply Kd.R_alloc | apply Kd.R_drewN | apply Kd.R_drew)); exact HO382.out) hb)
            have n6_ := Aside0.mk (Kd.R_below (by (with_reducible repeat (first | apply Kd.R_alloc | apply Kd.R_drewN | apply Kd.R_drew)); exact HO385.out) hb)
            have n7_ := Aside0.mk (Kd.R_below (by (with_reducible repeat (first | apply Kd.R_alloc | apply Kd.R_drewN | apply Kd.R_drew)); exact HO391.out) hb)
            have n8_ := Aside0.mk (blk_below (g := gb355) (o := .cells #[.int .u64 a2_0, .int .u64 a2_1] 34 (0, 0)) (by (with_reducible repeat (first | refine blk_drewN ?_ _ | refine blk_drew ?_ | refine blk_alloc ?_ _)); exact BK355.out) hb)
            have n9_ := Aside0.mk (blk_below (g := gb364) (o := .cells #[.int .u64 a2_0, .int .u64 a2_1] 42 (0, 0)) (by (with_reducible repeat (first | refine blk_drewN ?_ _ | refine blk_drew ?_ | refine blk_alloc ?_ _)); exact BK364.out) hb)
            have n10_ := Aside0.mk (below_step (by repeat (first | (with_reducible first | exact HB.out | apply below_alloc | apply pw_below_drewN | apply below_drew1 | refine below_set ?_ GE355.out | refine below_set ?_ GE364.out) | exact HB.out)) hb)
            clear HO367
            clear HO370
            clear HO373
            clear HO376
            clear HO379
            clear HO382
            clear HO385
            clear HO391
            clear BK355
            clear BK364
            clear HB
            have HO367 := n0_
            have HO370 := n1_
            have HO373 := n2_
            have HO376 := n3_
            have HO379 := n4_
            have HO382 := n5_
            have HO385 := n6_
            have HO391 := n7_
            have BK355 := n8_
            have BK364 := n9_
            have HB := n10_
            clear n0_ n1_ n2_ n3_ n4_ n5_ n6_ n7_ n8_ n9_ n10_
            (try clear hb)
            (try clear hb2)
            (try clear hk)
            (try clear hi)
            refine hK.out _ _ ⟨(blk_cell BK355.out 0).trans rfl, (blk_cell BK355.out 1).trans rfl, (blk_cell BK364.out 0).trans rfl, (blk_cell BK364.out 1).trans rfl⟩ (fun hHeld => ?_)
            clear hK K
            refine norm_ (a' := ?_) ?_ ?_
            rotate_left
            ·show Act.put _ (some 63) _ = _
             simp only [Act.put, List.setIfInBounds_toArray, List.set_cons_zero, List.set_cons_succ, i64_w, i32_w]
             rfl
            refine one_ (i := 22) (N := some 66) #[true,true,true,true,true,true,true,true,true,true,true,true,true,true,true,true,true,true,true,true,true,true,true,false,false,false,false,false,false,false,false,false,false,false,false,false,false,false,false,false,false,false,false,false,false,false,false,false,false,false,false,false,false,false,false,false,false,false,false,false,false,false,false,false,false,false,false,false,false,false,false,false,false] rfl rfl (one_of HT_.out (by kernel_rfl)) (by decide) (fun K hK => ?_)
            refine goes_ Try.func23 (by kernel_rfl) rfl #[.slice Ao82 t374.length co82, .int .u64 a3] (by rfl) rfl rfl (by (try simp only [List.map_toArray, List.map_cons, List.map_nil]); first | done | rfl | (simp only [List.length_drop, List.length_take]; rfl)) ?_
            with_reducible refine (dominoref03_Has.calls kj4 _ _ t374 a3 t394 _ ?side1 ?side2 A42.out).mono ?_
            (case side1 => repeat (first | exact (Kd.R_reads' HO376.out).2.2 | (with_reducible refine Kd.C_alloc ?_ _) | (with_reducible refine Kd.C_drewN ?_ _) | (with_reducible refine Kd.C_drew ?_)))
            (case side2 => exact (Kd.R_reads' HO376.out).2.1)
            rintro e w' ⟨rfl, ⟨nd, rfl⟩⟩
            refine ⟨_, rfl, ?_⟩
            refine hK.out _ _ ⟨(blk_cell BK355.out 0).trans rfl, (blk_cell BK355.out 1).trans rfl, (blk_cell BK364.out 0).trans rfl, (blk_cell BK364.out 1).trans rfl⟩ (fun hHeld => ?_)
            clear hK K
            refine norm_ (a' := ?_) ?_ ?_
            rotate_left
            ·show Act.put _ (some 66) _ = _
             simp only [Act.put, List.setIfInBounds_toArray, List.set_cons_zero, List.set_cons_succ, i64_w, i32_w]
             rfl
            refine pure_ (i := 23) (N := some 67) (v := ?_) (a' := ?_) #[true,true,true,true,true,true,true,true,true,true,true,true,true,true,true,true,true,true,true,true,true,true,true,true,false,false,false,false,false,false,false,false,false,false,false,false,false,false,false,false,false,false,false,false,false,false,false,false,false,false,false,false,false,false,false,false,false,false,false,false,false,false,false,false,false,false,false,false,false,false,false,false,false] rfl rfl (any_of HT_.out (by kernel_rfl)) (fun _ _ _ h => h) (Or.inl ⟨by rfl, ?_⟩) ?_ ?_
            rotate_left;(intro w';go_simp;with_reducible rfl);rotate_left;(simp only [Act.put, List.setIfInBounds_toArray, List.set_cons_zero, List.set_cons_succ, i64_w, i32_w];rfl)
            refine pure_ (i := 24) (N := some 68) (v := ?_) (a' := ?_) #[true,true,true,true,true,true,true,true,true,true,true,true,true,true,true,true,true,true,true,true,true,true,true,true,true,false,false,false,false,false,false,false,false,false,false,false,false,false,false,false,false,false,false,false,false,false,false,false,false,false,false,false,false,false,false,false,false,false,false,false,false,false,false,false,false,false,false,false,false,false,false,false,false] rfl rfl (any_of HT_.out (by kernel_rfl)) (fun _ _ _ h => h) (Or.inl ⟨by rfl, ?_⟩) ?_ ?_
            rotate_left;(intro w';go_simp;with_reducible rfl);rotate_left;(simp only [Act.put, List.setIfInBounds_toArray, List.set_cons_zero, List.set_cons_succ, i64_w, i32_w];rfl)
            refine pure_ (i := 25) (N := some 69) (v := ?_) (a' := ?_) #[true,true,true,true,true,true,true,true,true,true,true,true,true,true,true,true,true,true,true,true,true,true,true,true,true,true,false,false,false,false,false,false,false,false,false,false,false,false,false,false,false,false,false,false,false,false,false,false,false,false,false,false,false,false,false,false,false,false,false,false,false,false,false,false,false,false,false,false,false,false,false,false,false] rfl rfl (any_of HT_.out (by kernel_rfl)) (fun _ _ _ h => h) (Or.inl ⟨by rfl, ?_⟩) ?_ ?_
            rotate_left;(intro w';go_simp;with_reducible rfl);rotate_left;(simp only [Act.put, List.setIfInBounds_toArray, List.set_cons_zero, List.set_cons_succ, i64_w, i32_w];rfl)
            refine pure_ (i := 26) (N := some 70) (v := ?_) (a' := ?_) #[true,true,true,true,true,true,true,true,true,true,true,true,true,true,true,true,true,true,true,true,true,true,true,true,true,true,true,false,false,false,false,false,false,false,false,false,false,false,false,false,false,false,false,false,false,false,false,false,false,false,false,false,false,false,false,false,false,false,false,false,false,false,false,false,false,false,false,false,false,false,false,false,false] rfl rfl (any_of HT_.out (by kernel_rfl)) (fun _ _ _ h => h) (Or.inl ⟨by rfl, ?_⟩) ?_ ?_
            rotate_left;(intro w';go_simp;with_reducible rfl);rotate_left;(simp only [Act.put, List.setIfInBounds_toArray, List.set_cons_zero, List.set_cons_succ, i64_w, i32_w];rfl)
            refine pure_ (i := 30) (N := some 74) (v := ?_) (a' := ?_) #[true,true,true,true,true,true,true,true,true,true,true,true,true,true,true,true,true,true,true,true,true,true,true,true,true,true,true,false,false,false,true,false,false,false,false,false,false,false,false,false,false,false,false,false,false,false,false,false,false,false,false,false,false,false,false,false,false,false,false,false,false,false,false,false,false,false,false,false,false,false,false,false,false] rfl rfl (any_of HT_.out (by kernel_rfl)) (fun _ _ _ h => h) (Or.inl ⟨by rfl, ?_⟩) ?_ ?_
            rotate_left;(intro w';go_simp;with_reducible rfl);rotate_left;(simp only [Act.put, List.setIfInBounds_toArray, List.set_cons_zero, List.set_cons_succ, i64_w, i32_w];rfl)
            refine take_ (i := 27) (N := some 71) (v := ?_) (a' := ?_) #[true,true,true,true,true,true,true,true,true,true,true,true,true,true,true,true,true,true,true,true,true,true,true,true,true,true,true,true,false,false,true,false,false,false,false,false,false,false,false,false,false,false,false,false,false,false,false,false,false,false,false,false,false,false,false,false,false,false,false,false,false,false,false,false,false,false,false,false,false,false,false,false,false] rfl rfl (take_ofW HT_.out HW_.out (by kernel_rfl)) (fun _ _ _ h => h) (Or.inl ⟨by rfl, ?_⟩) hHeld ?_ ?_
            rotate_left
            ·rintro w' ⟨s0, s1, s2, s3⟩
             go_simp
             with_reducible rfl
            rotate_left
            ·simp only [Act.put, List.setIfInBounds_toArray, List.set_cons_zero, List.set_cons_succ, i64_w, i32_w]
             rfl
            refine take_ (i := 31) (N := some 75) (v := ?_) (a' := ?_) #[true,true,true,true,true,true,true,true,true,true,true,true,true,true,true,true,true,true,true,true,true,true,true,true,true,true,true,true,false,false,true,true,false,false,false,false,false,false,false,false,false,false,false,false,false,false,false,false,false,false,false,false,false,false,false,false,false,false,false,false,false,false,false,false,false,false,false,false,false,false,false,false,false] rfl rfl (take_ofW HT_.out HW_.out (by kernel_rfl)) (fun _ _ _ h => h) (Or.inl ⟨by rfl, ?_⟩) hHeld ?_ ?_
            rotate_left
            ·rintro w' ⟨s0, s1, s2, s3⟩
             go_simp
             with_reducible rfl
            rotate_left
            ·simp only [Act.put, List.setIfInBounds_toArray, List.set_cons_zero, List.set_cons_succ, i64_w, i32_w]
             rfl
            refine one_ (i := 28) (N := some 72) #[true,true,true,true,true,true,true,true,true,true,true,true,true,true,true,true,true,true,true,true,true,true,true,true,true,true,true,true,true,false,true,true,false,false,false,false,false,false,false,false,false,false,false,false,false,false,false,false,false,false,false,false,false,false,false,false,false,false,false,false,false,false,false,false,false,false,false,false,false,false,false,false,false] rfl rfl (one_of HT_.out (by kernel_rfl)) (by decide) (fun K hK => ?_)
            refine goes_ Try.func17 (by kernel_rfl) rfl #[.slice Ao79 t365.length co79, .agg #[.int .u64 a2_0, .int .u64 a2_1]] (by rfl) rfl rfl (by (try simp only [List.map_toArray, List.map_cons, List.map_nil]); first | done | rfl | (simp only [List.length_drop, List.length_take]; rfl)) ?_
            with_reducible refine (ranges_Add.calls kj4 _ _ t365 a2_0 a2_1 t395 _ ?side1 ?side2 A44.out).mono ?_
            (case side1 => repeat (first | exact (Kd.R_reads' HO367.out).2.2 | (with_reducible refine Kd.C_alloc ?_ _) | (with_reducible refine Kd.C_drewN ?_ _) | (with_reducible refine Kd.C_drew ?_)))
            (case side2 => exact (Kd.R_reads' HO367.out).2.1)
            rintro e w88 ⟨v396, rfl, ho0, hb⟩
            refine ⟨_, rfl, ?_⟩
            have n0_ := Aside0.mk (Kd.R_elder' (by (with_reducible repeat (first | apply Kd.R_alloc | apply Kd.R_drewN | apply Kd.R_drew)); exact HO367.out) (Kd.R_base ho0) hb)
            have n1_ := Aside0.mk (Kd.R_elder' (by (with_reducible repeat (first | apply Kd.R_alloc | apply Kd.R_drewN | apply Kd.R_drew)); exact HO370.out) (Kd.R_base ho0) hb)
            have n2_ := Aside0.mk (Kd.R_below (by (with_reducible repeat (first | apply Kd.R_alloc | apply Kd.R_drewN | apply Kd.R_drew)); exact HO373.out) hb)
            have n3_ := Aside0.mk (Kd.R_below (by (with_reducible repeat (first | apply Kd.R_alloc | apply Kd.R_drewN | apply Kd.R_drew)); exact HO376.out) hb)
            have n4_ := Aside0.mk (Kd.R_below (by (with_reducible repeat (first | apply Kd.R_alloc | apply Kd.R_drewN | apply Kd.R_drew)); exact HO379.out) hb)
            have n5_ := Aside0.mk (Kd.R_below (by (with_reducible repeat (first | apply Kd.R_alloc | apply Kd.R_drewN | apply Kd.R_drew)); exact HO382.out) hb)
            have n6_ := Aside0.mk (Kd.R_below (by (with_reducible repeat (first | apply Kd.R_alloc | apply Kd.R_drewN | apply Kd.R_drew)); exact HO385.out) hb)
            have n7_ := Aside0.mk (Kd.R_below (by (with_reducible repeat (first | apply Kd.R_alloc | apply Kd.R_drewN | apply Kd.R_drew)); exact HO391.out) hb)
            have n8_ := Aside0.mk (Kd.R_lower (Kd.R_newB (Kd.R_new' (Kd.R_new' ho0 (Kd.R_lt (by (with_reducible repeat (first | apply Kd.R_alloc | apply Kd.R_drewN | apply Kd.R_drew)); exact HO367.out))) (Kd.R_lt (by (with_reducible repeat (first | apply Kd.R_alloc | apply Kd.R_drewN | apply Kd.R_drew)); exact HO370.out))) (g := gb355) (o := .cells #[.int .u64 a2_0, .int .u64 a2_1] 34 (0, 0)) (by (with_reducible repeat (first | refine blk_drewN ?_ _ | refine blk_drew ?_ | refine blk_alloc ?_ _)); exact BK355.out)) (below_size (by repeat (first | (with_reducible first | exact HB.out | apply below_alloc | apply pw_below_drewN | apply below_drew1 | refine below_set ?_ GE355.out | refine below_set ?_ GE364.out) | exact HB.out))))
            have n9_ := Aside0.mk (blk_below (g := gb355) (o := .cells #[.int .u64 a2_0, .int .u64 a2_1] 34 (0, 0)) (by (with_reducible repeat (first | refine blk_drewN ?_ _ | refine blk_drew ?_ | refine blk_alloc ?_ _)); exact BK355.out) hb)
            have n10_ := Aside0.mk (blk_below (g := gb364) (o := .cells #[.int .u64 a2_0, .int .u64 a2_1] 42 (0, 0)) (by (with_reducible repeat (first | refine blk_drewN ?_ _ | refine blk_drew ?_ | refine blk_alloc ?_ _)); exact BK364.out) hb)
            have n11_ := Aside0.mk (below_step (by repeat (first | (with_reducible first | exact HB.out | apply below_alloc | apply pw_below_drewN | apply below_drew1 | refine below_set ?_ GE355.out | refine below_set ?_ GE364.out) | exact HB.out)) hb)
            clear HO367
            clear HO370
            clear HO373
            clear HO376
            clear HO379
            clear HO382
            clear HO385
            clear HO391
            clear BK355
            clear BK364
            clear HB
            have HO367 := n0_
            have HO370 := n1_
            have HO373 := n2_
            have HO376 := n3_
            have HO379 := n4_
            have HO382 := n5_
            have HO385 := n6_
            have HO391 := n7_
            have HO397 := n8_
            have BK355 := n9_
            have BK364 := n10_
            have HB := n11_
            clear n0_ n1_ n2_ n3_ n4_ n5_ n6_ n7_ n8_ n9_ n10_ n11_
            (try clear hb)
            (try clear hb2)
            (try clear hk)
            (try clear hi)
            (try clear ho0)
            obtain ⟨Ao89, co89, eo89⟩ := Kd.R_slice HO397.out
            (first | subst eo89 | (injection eo89 with f1_ f2_ f3_; have f4_ := f1_.symm; have f5_ := f3_.symm; clear f1_ f2_ f3_; subst f4_; subst f5_))
            refine hK.out _ _ ⟨(blk_cell BK355.out 0).trans rfl, (blk_cell BK355.out 1).trans rfl, (blk_cell BK364.out 0).trans rfl, (blk_cell BK364.out 1).trans rfl⟩ (fun hHeld => ?_)
            clear hK K
            refine norm_ (a' := ?_) ?_ ?_
            rotate_left
            ·show Act.put _ (some 72) _ = _
             simp only [Act.put, List.setIfInBounds_toArray, List.set_cons_zero, List.set_cons_succ, i64_w, i32_w]
             rfl
            refine one_ (i := 29) (N := some 73) #[true,true,true,true,true,true,true,true,true,true,true,true,true,true,true,true,true,true,true,true,true,true,true,true,true,true,true,true,true,true,true,true,false,false,false,false,false,false,false,false,false,false,false,false,false,false,false,false,false,false,false,false,false,false,false,false,false,false,false,false,false,false,false,false,false,false,false,false,false,false,false,false,false] rfl rfl (one_of HT_.out (by kernel_rfl)) (by decide) (fun K hK => ?_)
            refine goes_ Try.func13 (by kernel_rfl) rfl #[.slice Ao89 t395.length co89] (by rfl) rfl rfl (by (try simp only [List.map_toArray, List.map_cons, List.map_nil]); first | done | rfl | (simp only [List.length_drop, List.length_take]; rfl)) ?_
            with_reducible refine (dominolaw03_its.calls kj4 _ _ t395 t398 _ ?side1 ?side2 A45.out).mono ?_
            (case side1 => repeat (first | exact (Kd.R_reads' HO397.out).2.2 | (with_reducible refine Kd.C_alloc ?_ _) | (with_reducible refine Kd.C_drewN ?_ _) | (with_reducible refine Kd.C_drew ?_)))
            (case side2 => exact (Kd.R_reads' HO397.out).2.1)
            rintro e w90 ⟨v399, rfl, ho0, hb⟩
            refine ⟨_, rfl, ?_⟩
            have n0_ := Aside0.mk (Kd.R_below (by (with_reducible repeat (first | apply Kd.R_alloc | apply Kd.R_drewN | apply Kd.R_drew)); exact HO367.out) hb)
            have n1_ := Aside0.mk (Kd.R_below (by (with_reducible repeat (first | apply Kd.R_alloc | apply Kd.R_drewN | apply Kd.R_drew)); exact HO370.out) hb)
            have n2_ := Aside0.mk (Kd.R_elder' (by (with_reducible repeat (first | apply Kd.R_alloc | apply Kd.R_drewN | apply Kd.R_drew)); exact HO373.out) (Kd.R_base ho0) hb)
            have n3_ := Aside0.mk (Kd.R_elder' (by (with_reducible repeat (first | apply Kd.R_alloc | apply Kd.R_drewN | apply Kd.R_drew)); exact HO376.out) (Kd.R_base ho0) hb)
            have n4_ := Aside0.mk (Kd.R_elder' (by (with_reducible repeat (first | apply Kd.R_alloc | apply Kd.R_drewN | apply Kd.R_drew)); exact HO379.out) (Kd.R_base ho0) hb)
            have n5_ := Aside0.mk (Kd.R_elder' (by (with_reducible repeat (first | apply Kd.R_alloc | apply Kd.R_drewN | apply Kd.R_drew)); exact HO382.out) (Kd.R_base ho0) hb)
            have n6_ := Aside0.mk (Kd.R_elder' (by (with_reducible repeat (first | apply Kd.R_alloc | apply Kd.R_drewN | apply Kd.R_drew)); exact HO385.out) (Kd.R_base ho0) hb)
            have n7_ := Aside0.mk (Kd.R_elder' (by (with_reducible repeat (first | apply Kd.R_alloc | apply Kd.R_drewN | apply Kd.R_drew)); exact HO391.out) (Kd.R_base ho0) hb)
            have n8_ := Aside0.mk (Kd.R_below (by (with_reducible repeat (first | apply Kd.R_alloc | apply Kd.R_drewN | apply Kd.R_drew)); exact HO397.out) hb)
            have n9_ := Aside0.mk (Kd.R_lower (Kd.R_newB (Kd.R_new' (Kd.R_new' (Kd.R_new' (Kd.R_new' (Kd.R_new' (Kd.R_new' ho0 (Kd.R_lt (by (with_reducible repeat (first | apply Kd.R_alloc | apply Kd.R_drewN | apply Kd.R_drew)); exact HO373.out))) (Kd.R_lt (by (with_reducible repeat (first | apply Kd.R_alloc | apply Kd.R_drewN | apply Kd.R_drew)); exact HO376.out))) (Kd.R_lt (by (with_reducible repeat (first | apply Kd.R_alloc | apply Kd.R_drewN | apply Kd.R_drew)); exact HO379.out))) (Kd.R_lt (by (with_reducible repeat (first | apply Kd.R_alloc | apply Kd.R_drewN | apply Kd.R_drew)); exact HO382.out))) (Kd.R_lt (by (with_reducible repeat (first | apply Kd.R_alloc | apply Kd.R_drewN | apply Kd.R_drew)); exact HO385.out))) (Kd.R_lt (by (with_reducible repeat (first | apply Kd.R_alloc | apply Kd.R_drewN | apply Kd.R_drew)); exact HO391.out))) (g := gb364) (o := .cells #[.int .u64 a2_0, .int .u64 a2_1] 42 (0, 0)) (by (with_reducible repeat (first | refine blk_drewN ?_ _ | refine blk_drew ?_ | refine blk_alloc ?_ _)); exact BK364.out)) (below_size (by repeat (first | (with_reducible first | exact HB.out | apply below_alloc | apply pw_below_drewN | apply below_drew1 | refine below_set ?_ GE355.out | refine below_set ?_ GE364.out) | exact HB.out))))
            have n10_ := Aside0.mk (blk_below (g := gb355) (o := .cells #[.int .u64 a2_0, .int .u64 a2_1] 34 (0, 0)) (by (with_reducible repeat (first | refine blk_drewN ?_ _ | refine blk_drew ?_ | refine blk_alloc ?_ _)); exact BK355.out) hb)
            have n11_ := Aside0.mk (blk_below (g := gb364) (o := .cells #[.int .u64 a2_0, .int .u64 a2_1] 42 (0, 0)) (by (with_reducible repeat (first | refine blk_drewN ?_ _ | refine blk_drew ?_ | refine blk_alloc ?_ _)); exact BK364.out) hb)
            have n12_ := Aside0.mk (below_step (by repeat (first | (with_reducible first | exact HB.out | apply below_alloc | apply pw_below_drewN | apply below_drew1 | refine below_set ?_ GE355.out | refine below_set ?_ GE364.out) | exact HB.out)) hb)
            clear HO367
            clear HO370
            clear HO373
            clear HO376
            clear HO379
            clear HO382
            clear HO385
            clear HO391
            clear HO397
            clear BK355
            clear BK364
            clear HB
            have HO367 := n0_
            have HO370 := n1_
            have HO373 := n2_
            have HO376 := n3_
            have HO379 := n4_
            have HO382 := n5_
            have HO385 := n6_
            have HO391 := n7_
            have HO397 := n8_
            have HO400 := n9_
            have BK355 := n10_
            have BK364 := n11_
            have HB := n12_
            clear n0_ n1_ n2_ n3_ n4_ n5_ n6_ n7_ n8_ n9_ n10_ n11_ n12_
            (try clear hb)
            (try clear hb2)
            (try clear hk)
            (try clear hi)
            (try clear ho0)
            refine hK.out _ _ ⟨(blk_cell BK355.out 0).trans rfl, (blk_cell BK355.out 1).trans rfl, (blk_cell BK364.out 0).trans rfl, (blk_cell BK364.out 1).trans rfl⟩ (fun hHeld => ?_)
            clear hK K
            refine norm_ (a' := ?_) ?_ ?_
            rotate_left
            ·show Act.put _ (some 73) _ = _
             simp only [Act.put, List.setIfInBounds_toArray, List.set_cons_zero, List.set_cons_succ, i64_w, i32_w]
             rfl
            refine one_ (i := 32) (N := some 76) #[true,true,true,true,true,true,true,true,true,true,true,true,true,true,true,true,true,true,true,true,true,true,true,true,true,true,true,true,true,true,true,true,true,false,false,false,false,false,false,false,false,false,false,false,false,false,false,false,false,false,false,false,false,false,false,false,false,false,false,false,false,false,false,false,false,false,false,false,false,false,false,false,false] rfl rfl (one_of HT_.out (by kernel_rfl)) (by decide) (fun K hK => ?_)
            refine goes_ Try.func24 (by kernel_rfl) rfl #[.slice Ao82 t374.length co82, .agg #[.int .u64 a2_0, .int .u64 a2_1]] (by rfl) rfl rfl (by (try simp only [List.map_toArray, List.map_cons, List.map_nil]); first | done | rfl | (simp only [List.length_drop, List.length_take]; rfl)) ?_
            with_reducible refine (dominoref03_Add.calls kj4 _ _ t374 a2_0 a2_1 t401 _ ?side1 ?side2 A46.out).mono ?_
            (case side1 => repeat (first | exact (Kd.R_reads' HO376.out).2.2 | (with_reducible refine Kd.C_alloc ?_ _) | (with_reducible refine Kd.C_drewN ?_ _) | (with_reducible refine Kd.C_drew ?_)))
            (case side2 => exact (Kd.R_reads' HO376.out).2.1)
            rintro e w91 ⟨v402, rfl, ho0, hb⟩
            refine ⟨_, rfl, ?_⟩
            have n0_ := Aside0.mk (Kd.R_below (by (with_reducible repeat (first | apply Kd.R_alloc | apply Kd.R_drewN | apply Kd.R_drew)); exact HO367.out) hb)
            have n1_ := Aside0.mk (Kd.R_below (by (with_reducible repeat (first | apply Kd.R_alloc | apply Kd.R_drewN | apply Kd.R_drew)); exact HO370.out) hb)
            have n2_ := Aside0.mk (Kd.R_elder' (by (with_reducible repeat (first | apply Kd.R_alloc | apply Kd.R_drewN | apply Kd.R_drew)); exact HO373.out) (Kd.R_base ho0) hb)
            have n3_ := Aside0.mk (Kd.R_elder' (by (with_reducible repeat (first | apply Kd.R_alloc | apply Kd.R_drewN | apply Kd.R_drew)); exact HO376.out) (Kd.R_base ho0) hb)
            have n4_ := Aside0.mk (Kd.R_elder' (by (with_reducible repeat (first | apply Kd.R_alloc | apply Kd.R_drewN | apply Kd.R_drew)); exact HO379.out) (Kd.R_base ho0) hb)
            have n5_ := Aside0.mk (Kd.R_elder' (by (with_reducible repeat (first | apply Kd.R_alloc | apply Kd.R_drewN | apply Kd.R_drew)); exact HO382.out) (Kd.R_base ho0) hb)
            have n6_ := Aside0.mk (Kd.R_elder' (by (with_reducible repeat (first | apply Kd.R_alloc | apply Kd.R_drewN | apply Kd.R_drew)); exact HO385.out) (Kd.R_base ho0) hb)
            have n7_ := Aside0.mk (Kd.R_elder' (by (with_reducible repeat (first | apply Kd.R_alloc | apply Kd.R_drewN | apply Kd.R_drew)); exact HO391.out) (Kd.R_base ho0) hb)
            have n8_ := Aside0.mk (Kd.R_below (by (with_reducible repeat (first | apply Kd.R_alloc | apply Kd.R_drewN | apply Kd.R_drew)); exact HO397.out) hb)
            have n9_ := Aside0.mk (Kd.R_elder' (by (with_reducible repeat (first | apply Kd.R_alloc | apply Kd.R_drewN | apply Kd.R_drew)); exact HO400.out) (Kd.R_base ho0) hb)
            have n10_ := Aside0.mk (Kd.R_lower (Kd.R_newB (Kd.R_new' (Kd.R_new' (Kd.R_new' (Kd.R_new' (Kd.R_new' (Kd.R_new' (Kd.R_new' ho0 (Kd.R_lt (by (with_reducible repeat (first | apply Kd.R_alloc | apply Kd.R_drewN | apply Kd.R_drew)); exact HO373.out))) (Kd.R_lt (by (with_reducible repeat (first | apply Kd.R_alloc | apply Kd.R_drewN | apply Kd.R_drew)); exact HO376.out))) (Kd.R_lt (by (with_reducible repeat (first | apply Kd.R_alloc | apply Kd.R_drewN | apply Kd.R_drew)); exact HO379.out))) (Kd.R_lt (by (with_reducible repeat (first | apply Kd.R_alloc | apply Kd.R_drewN | apply Kd.R_drew)); exact HO382.out))) (Kd.R_lt (by (with_reducible repeat (first | apply Kd.R_alloc | apply Kd.R_drewN | apply Kd.R_drew)); exact HO385.out))) (Kd.R_lt (by (with_reducible repeat (first | apply Kd.R_alloc | apply Kd.R_drewN | apply Kd.R_drew)); exact HO391.out))) (Kd.R_lt (by (with_reducible repeat (first | apply Kd.R_alloc | apply Kd.R_drewN | apply Kd.R_drew)); exact HO400.out))) (g := gb364) (o := .cells #[.int .u64 a2_0, .int .u64 a2_1] 42 (0, 0)) (by (with_reducible repeat (first | refine blk_drewN ?_ _ | refine blk_drew ?_ | refine blk_alloc ?_ _)); exact BK364.out)) (below_size (by repeat (first | (with_reducible first | exact HB.out | apply below_alloc | apply pw_below_drewN | apply below_drew1 | refine below_set ?_ GE355.out | refine below_set ?_ GE364.out) | exact HB.out))))
            have n11_ := Aside0.mk (blk_below (g := gb355) (o := .cells #[.int .u64 a2_0, .int .u64 a2_1] 34 (0, 0)) (by (with_reducible repeat (first | refine blk_drewN ?_ _ | refine blk_drew ?_ | refine blk_alloc ?_ _)); exact BK355.out) hb)
            have n12_ := Aside0.mk (blk_below (g := gb364) (o := .cells #[.int .u64 a2_0, .int .u64 a2_1] 42 (0, 0)) (by (with_reducible repeat (first | refine blk_drewN ?_ _ | refine blk_drew ?_ | refine blk_alloc ?_ _)); exact BK364.out) hb)
            have n13_ := Aside0.mk (below_step (by repeat (first | (with_reducible first | exact HB.out | apply below_alloc | apply pw_below_drewN | apply below_drew1 | refine below_set ?_ GE355.out | refine below_set ?_ GE364.out) | exact HB.out)) hb)
            clear HO367
            clear HO370
            clear HO373
            clear HO376
            clear HO379
            clear HO382
            clear HO385
            clear HO391
            clear HO397
            clear HO400
            clear BK355
            clear BK364
            clear HB
            have HO367 := n0_
            have HO370 := n1_
            have HO373 := n2_
            have HO376 := n3_
            have HO379 := n4_
            have HO382 := n5_
            have HO385 := n6_
            have HO391 := n7_
            have HO397 := n8_
            have HO400 := n9_
            have HO403 := n10_
            have BK355 := n11_
            have BK364 := n12_
            have HB := n13_
            clear n0_ n1_ n2_ n3_ n4_ n5_ n6_ n7_ n8_ n9_ n10_ n11_ n12_ n13_
            (try clear hb)
            (try clear hb2)
            (try clear hk)
            (try clear hi)
            (try clear ho0)
            obtain ⟨Ao92, co92, eo92⟩ := Kd.R_slice HO400.out
            (first | subst eo92 | (injection eo92 with f1_ f2_ f3_; have f4_ := f1_.symm; have f5_ := f3_.symm; clear f1_ f2_ f3_; subst f4_; subst f5_))
            obtain ⟨Ao93, co93, eo93⟩ := Kd.R_slice HO403.out
            (first | subst eo93 | (injection eo93 with f1_ f2_ f3_; have f4_ := f1_.symm; have f5_ := f3_.symm; clear f1_ f2_ f3_; subst f4_; subst f5_))
            refine hK.out _ _ ⟨(blk_cell BK355.out 0).trans rfl, (blk_cell BK355.out 1).trans rfl, (blk_cell BK364.out 0).trans rfl, (blk_cell BK364.out 1).trans rfl⟩ (fun hHeld => ?_)
            clear hK K
            refine norm_ (a' := ?_) ?_ ?_
            rotate_left
            ·show Act.put _ (some 76) _ = _
             simp only [Act.put, List.setIfInBounds_toArray, List.set_cons_zero, List.set_cons_succ, i64_w, i32_w]
             rfl
            refine one_ (i := 33) (N := some 77) #[true,true,true,true,true,true,true,true,true,true,true,true,true,true,true,true,true,true,true,true,true,true,true,true,true,true,true,true,true,true,true,true,true,true,false,false,false,false,false,false,false,false,false,false,false,false,false,false,false,false,false,false,false,false,false,false,false,false,false,false,false,false,false,false,false,false,false,false,false,false,false,false,false] rfl rfl (one_of HT_.out (by kernel_rfl)) (by decide) (fun K hK => ?_)
            refine goes_ Try.func16 (by kernel_rfl) rfl #[.slice Ao92 t398.length co92, .slice Ao93 t401.length co93] (by rfl) rfl rfl (by (try simp only [List.map_toArray, List.map_cons, List.map_nil]); first | done | rfl | (simp only [List.length_drop, List.length_take]; rfl)) ?_
            with_reducible refine (dominoref03_Same.calls kj4 _ _ t398 _ _ t401 true _ ?side1 ?side2 ?side3 ?side4 A47.out).mono ?_
            (case side1 => repeat (first | exact (Kd.R_reads' HO400.out).2.2 | (with_reducible refine Kd.C_alloc ?_ _) | (with_reducible refine Kd.C_drewN ?_ _) | (with_reducible refine Kd.C_drew ?_)))
            (case side2 => exact (Kd.R_reads' HO400.out).2.1)
            (case side3 => repeat (first | exact (Kd.R_reads' HO403.out).2.2 | (with_reducible refine Kd.C_alloc ?_ _) | (with_reducible refine Kd.C_drewN ?_ _) | (with_reducible refine Kd.C_drew ?_)))
            (case side4 => exact (Kd.R_reads' HO403.out).2.1)
            rintro e w' ⟨rfl, ⟨nd, rfl⟩⟩
            refine ⟨_, rfl, ?_⟩
            refine hK.out _ _ ⟨(blk_cell BK355.out 0).trans rfl, (blk_cell BK355.out 1).trans rfl, (blk_cell BK364.out 0).trans rfl, (blk_cell BK364.out 1).trans rfl⟩ (fun hHeld => ?_)
            clear hK K
            refine norm_ (a' := ?_) ?_ ?_
            rotate_left
            ·show Act.put _ (some 77) _ = _
             simp only [Act.put, List.setIfInBounds_toArray, List.set_cons_zero, List.set_cons_succ, i64_w, i32_w]
             rfl
            refine pure_ (i := 34) (N := some 78) (v := ?_) (a' := ?_) #[true,true,true,true,true,true,true,true,true,true,true,true,true,true,true,true,true,true,true,true,true,true,true,true,true,true,true,true,true,true,true,true,true,true,true,false,false,false,false,false,false,false,false,false,false,false,false,false,false,false,false,false,false,false,false,false,false,false,false,false,false,false,false,false,false,false,false,false,false,false,false,false,false] rfl rfl (any_of HT_.out (by kernel_rfl)) (fun _ _ _ h => h) (Or.inl ⟨by rfl, ?_⟩) ?_ ?_
            rotate_left;(intro w';go_simp;with_reducible rfl);rotate_left;(simp only [Act.put, List.setIfInBounds_toArray, List.set_cons_zero, List.set_cons_succ, i64_w, i32_w];rfl)
            refine pure_ (i := 35) (N := some 79) (v := ?_) (a' := ?_) #[true,true,true,true,true,true,true,true,true,true,true,true,true,true,true,true,true,true,true,true,true,true,true,true,true,true,true,true,true,true,true,true,true,true,true,true,false,false,false,false,false,false,false,false,false,false,false,false,false,false,false,false,false,false,false,false,false,false,false,false,false,false,false,false,false,false,false,false,false,false,false,false,false] rfl rfl (any_of HT_.out (by kernel_rfl)) (fun _ _ _ h => h) (Or.inl ⟨by rfl, ?_⟩) ?_ ?_
            rotate_left;(intro w';go_simp;with_reducible rfl);rotate_left;(simp only [Act.put, List.setIfInBounds_toArray, List.set_cons_zero, List.set_cons_succ, i64_w, i32_w];rfl)
            refine pure_ (i := 36) (N := some 80) (v := ?_) (a' := ?_) #[true,true,true,true,true,true,true,true,true,true,true,true,true,true,true,true,true,true,true,true,true,true,true,true,true,true,true,true,true,true,true,true,true,true,true,true,true,false,false,false,false,false,false,false,false,false,false,false,false,false,false,false,false,false,false,false,false,false,false,false,false,false,false,false,false,false,false,false,false,false,false,false,false] rfl rfl (any_of HT_.out (by kernel_rfl)) (fun _ _ _ h => h) (Or.inl ⟨by rfl, ?_⟩) ?_ ?_
            rotate_left;(intro w';go_simp;with_reducible rfl);rotate_left;(simp only [Act.put, List.setIfInBounds_toArray, List.set_cons_zero, List.set_cons_succ, i64_w, i32_w];rfl)
            refine pure_ (i := 40) (N := some 84) (v := ?_) (a' := ?_) #[true,true,true,true,true,true,true,true,true,true,true,true,true,true,true,true,true,true,true,true,true,true,true,true,true,true,true,true,true,true,true,true,true,true,true,true,true,false,false,false,true,false,false,false,false,false,false,false,false,false,false,false,false,false,false,false,false,false,false,false,false,false,false,false,false,false,false,false,false,false,false,false,false] rfl rfl (any_of HT_.out (by kernel_rfl)) (fun _ _ _ h => h) (Or.inl ⟨by rfl, ?_⟩) ?_ ?_
            rotate_left;(intro w';go_simp;with_reducible rfl);rotate_left;(simp only [Act.put, List.setIfInBounds_toArray, List.set_cons_zero, List.set_cons_succ, i64_w, i32_w];rfl)
            refine take_ (i := 37) (N := some 81) (v := ?_) (a' := ?_) #[true,true,true,true,true,true,true,true,true,true,true,true,true,true,true,true,true,true,true,true,true,true,true,true,true,true,true,true,true,true,true,true,true,true,true,true,true,true,false,false,true,false,false,false,false,false,false,false,false,false,false,false,false,false,false,false,false,false,false,false,false,false,false,false,false,false,false,false,false,false,false,false,false] rfl rfl (take_ofW HT_.out HW_.out (by kernel_rfl)) (fun _ _ _ h => h) (Or.inl ⟨by rfl, ?_⟩) hHeld ?_ ?_
            rotate_left
            ·rintro w' ⟨s0, s1, s2, s3⟩
             go_simp
             with_reducible rfl
            rotate_left
            ·simp only [Act.put, List.setIfInBounds_toArray, List.set_cons_zero, List.set_cons_succ, i64_w, i32_w]
             rfl
            refine take_ (i := 41) (N := some 85) (v := ?_) (a' := ?_) #[true,true,true,true,true,true,true,true,true,true,true,true,true,true,true,true,true,true,true,true,true,true,true,true,true,true,true,true,true,true,true,true,true,true,true,true,true,true,false,false,true,true,false,false,false,false,false,false,false,false,false,false,false,false,false,false,false,false,false,false,false,false,false,false,false,false,false,false,false,false,false,false,false] rfl rfl (take_ofW HT_.out HW_.out (by kernel_rfl)) (fun _ _ _ h => h) (Or.inl ⟨by rfl, ?_⟩) hHeld ?_ ?_
            rotate_left
            ·rintro w' ⟨s0, s1, s2, s3⟩
             go_simp
             with_reducible rfl
            rotate_left
            ·simp only [Act.put, List.setIfInBounds_toArray, List.set_cons_zero, List.set_cons_succ, i64_w, i32_w]
             rfl
            refine one_ (i := 38) (N := some 82) #[true,true,true,true,true,true,true,true,true,true,true,true,true,true,true,true,true,true,true,true,true,true,true,true,true,true,true,true,true,true,true,true,true,true,true,true,true,true,true,false,true,true,false,false,false,false,false,false,false,false,false,false,false,false,false,false,false,false,false,false,false,false,false,false,false,false,false,false,false,false,false,false,false] rfl rfl (one_of HT_.out (by kernel_rfl)) (by decide) (fun K hK => ?_)
            refine goes_ Try.func18 (by kernel_rfl) rfl #[.slice Ao79 t365.length co79, .agg #[.int .u64 a2_0, .int .u64 a2_1]] (by rfl) rfl rfl (by (try simp only [List.map_toArray, List.map_cons, List.map_nil]); first | done | rfl | (simp only [List.length_drop, List.length_take]; rfl)) ?_
            with_reducible refine (ranges_Cut.calls kj4 _ _ t365 a2_0 a2_1 t405 _ ?side1 ?side2 A49.out).mono ?_
            (case side1 => repeat (first | exact (Kd.R_reads' HO367.out).2.2 | (with_reducible refine Kd.C_alloc ?_ _) | (with_reducible refine Kd.C_drewN ?_ _) | (with_reducible refine Kd.C_drew ?_)))
            (case side2 => exact (Kd.R_reads' HO367.out).2.1)
            rintro e w94 ⟨v406, rfl, ho0, hb⟩
            refine ⟨_, rfl, ?_⟩
            have n0_ := Aside0.mk (Kd.R_elder' (by (with_reducible repeat (first | apply Kd.R_alloc | apply Kd.R_drewN | apply Kd.R_drew)); exact HO367.out) (Kd.R_base ho0) hb)
            have n1_ := Aside0.mk (Kd.R_elder' (by (with_reducible repeat (first | apply Kd.R_alloc | apply Kd.R_drewN | apply Kd.R_drew)); exact HO370.out) (Kd.R_base ho0) hb)
            have n2_ := Aside0.mk (Kd.R_below (by (with_reducible repeat (first | apply Kd.R_alloc | apply Kd.R_drewN | apply Kd.R_drew)); exact HO373.out) hb)
            have n3_ := Aside0.mk (Kd.R_below (by (with_reducible repeat (first | apply Kd.R_alloc | apply Kd.R_drewN | apply Kd.R_drew)); exact HO376.out) hb)
            have n4_ := Aside0.mk (Kd.R_below (by (with_reducible repeat (first | apply Kd.R_alloc | apply Kd.R_drewN | apply Kd.R_drew)); exact HO379.out) hb)
            have n5_ := Aside0.mk (Kd.R_below (by (with_reducible repeat (first | apply Kd.R_alloc | apply Kd.R_drewN | apply Kd.R_drew)); exact HO382.out) hb)
            have n6_ := Aside0.mk (Kd.R_below (by (with_reducible repeat (first | apply Kd.R_alloc | apply Kd.R_drewN | apply Kd.R_drew)); exact HO385.out) hb)
            have n7_ := Aside0.mk (Kd.R_below (by (with_reducible repeat (first | apply Kd.R_alloc | apply Kd.R_drewN | apply Kd.R_drew)); exact HO391.out) hb)
            have n8_ := Aside0.mk (Kd.R_elder' (by (with_reducible repeat (first | apply Kd.R_alloc | apply Kd.R_drewN | apply Kd.R_drew)); exact HO397.out) (Kd.R_base ho0) hb)
            have n9_ := Aside0.mk (Kd.R_below (by (with_reducible repeat (first | apply Kd.R_alloc | apply Kd.R_drewN | apply Kd.R_drew)); exact HO400.out) hb)
            have n10_ := Aside0.mk (Kd.R_below (by (with_reducible repeat (first | apply Kd.R_alloc | apply Kd.R_drewN | apply Kd.R_drew)); exact HO403.out) hb)
            have n11_ := Aside0.mk (Kd.R_lower (Kd.R_newB (Kd.R_new' (Kd.R_new' (Kd.R_new' ho0 (Kd.R_lt (by (with_reducible repeat (first | apply Kd.R_alloc | apply Kd.R_drewN | apply Kd.R_drew)); exact HO367.out))) (Kd.R_lt (by (with_reducible repeat (first | apply Kd.R_alloc | apply Kd.R_drewN | apply Kd.R_drew)); exact HO370.out))) (Kd.R_lt (by (with_reducible repeat (first | apply Kd.R_alloc | apply Kd.R_drewN | apply Kd.R_drew)); exact HO397.out))) (g := gb355) (o := .cells #[.int .u64 a2_0, .int .u64 a2_1] 34 (0, 0)) (by (with_reducible repeat (first | refine blk_drewN ?_ _ | refine blk_drew ?_ | refine blk_alloc ?_ _)); exact BK355.out)) (below_size (by repeat (first | (with_reducible first | exact HB.out | apply below_alloc | apply pw_below_drewN | apply below_drew1 | refine below_set ?_ GE355.out | refine below_set ?_ GE364.out) | exact HB.out))))
            have n12_ := Aside0.mk (blk_below (g := gb355) (o := .cells #[.int .u64 a2_0, .int .u64 a2_1] 34 (0, 0)) (by (with_reducible repeat (first | refine blk_drewN ?_ _ | refine blk_drew ?_ | refine blk_alloc ?_ _)); exact BK355.out) hb)
            have n13_ := Aside0.mk (blk_below (g := gb364) (o := .cells #[.int .u64 a2_0, .int .u64 a2_1] 42 (0, 0)) (by (with_reducible repeat (first | refine blk_drewN ?_ _ | refine blk_drew ?_ | refine blk_alloc ?_ _)); exact BK364.out) hb)
            have n14_ := Aside0.mk (below_step (by repeat (first | (with_reducible first | exact HB.out | apply below_alloc | apply pw_below_drewN | apply below_drew1 | refine below_set ?_ GE355.out | refine below_set ?_ GE364.out) | exact HB.out)) hb)
            clear HO367
            clear HO370
            clear HO373
            clear HO376
            clear HO379
            clear HO382
            clear HO385
            clear HO391
            clear HO397
            clear HO400
            clear HO403
            clear BK355
            clear BK364
            clear HB
            have HO367 := n0_
            have HO370 := n1_
            have HO373 := n2_
            have HO376 := n3_
            have HO379 := n4_
            have HO382 := n5_
            have HO385 := n6_
            have HO391 := n7_
            have HO397 := n8_
            have HO400 := n9_
            have HO403 := n10_
            have HO407 := n11_
            have BK355 := n12_
            have BK364 := n13_
            have HB := n14_
            clear n0_ n1_ n2_ n3_ n4_ n5_ n6_ n7_ n8_ n9_ n10_ n11_ n12_ n13_ n14_
            (try clear hb)
            (try clear hb2)
            (try clear hk)
            (try clear hi)
            (try clear ho0)
            obtain ⟨Ao95, co95, eo95⟩ := Kd.R_slice HO407.out
            (first | subst eo95 | (injection eo95 with f1_ f2_ f3_; have f4_ := f1_.symm; have f5_ := f3_.symm; clear f1_ f2_ f3_; subst f4_; subst f5_))
            refine hK.out _ _ ⟨(blk_cell BK355.out 0).trans rfl, (blk_cell BK355.out 1).trans rfl, (blk_cell BK364.out 0).trans rfl, (blk_cell BK364.out 1).trans rfl⟩ (fun hHeld => ?_)
            clear hK K
            refine norm_ (a' := ?_) ?_ ?_
            rotate_left
            ·show Act.put _ (some 82) _ = _
             simp only [Act.put, List.setIfInBounds_toArray, List.set_cons_zero, List.set_cons_succ, i64_w, i32_w]
             rfl
            refine one_ (i := 39) (N := some 83) #[true,true,true,true,true,true,true,true,true,true,true,true,true,true,true,true,true,true,true,true,true,true,true,true,true,true,true,true,true,true,true,true,true,true,true,true,true,true,true,true,true,true,false,false,false,false,false,false,false,false,false,false,false,false,false,false,false,false,false,false,false,false,false,false,false,false,false,false,false,false,false,false,false] rfl rfl (one_of HT_.out (by kernel_rfl)) (by decide) (fun K hK => ?_)
            refine goes_ Try.func13 (by kernel_rfl) rfl #[.slice Ao95 t405.length co95] (by rfl) rfl rfl (by (try simp only [List.map_toArray, List.map_cons, List.map_nil]); first | done | rfl | (simp only [List.length_drop, List.length_take]; rfl)) ?_
            with_reducible refine (dominolaw03_its.calls kj4 _ _ t405 t408 _ ?side1 ?side2 A50.out).mono ?_
            (case side1 => repeat (first | exact (Kd.R_reads' HO407.out).2.2 | (with_reducible refine Kd.C_alloc ?_ _) | (with_reducible refine Kd.C_drewN ?_ _) | (with_reducible refine Kd.C_drew ?_)))
            (case side2 => exact (Kd.R_reads' HO407.out).2.1)
            rintro e w96 ⟨v409, rfl, ho0, hb⟩
            refine ⟨_, rfl, ?_⟩
            have n0_ := Aside0.mk (Kd.R_below (by (with_reducible repeat (first | apply Kd.R_alloc | apply Kd.R_drewN | apply Kd.R_drew)); exact HO367.out) hb)
            have n1_ := Aside0.mk (Kd.R_below (by (with_reducible repeat (first | apply Kd.R_alloc | apply Kd.R_drewN | apply Kd.R_drew)); exact HO370.out) hb)
            have n2_ := Aside0.mk (Kd.R_elder' (by (with_reducible repeat (first | apply Kd.R_alloc | apply Kd.R_drewN | apply Kd.R_drew)); exact HO373.out) (Kd.R_base ho0) hb)
            have n3_ := Aside0.mk (Kd.R_elder' (by (with_reducible repeat (first | apply Kd.R_alloc | apply Kd.R_drewN | apply Kd.R_drew)); exact HO376.out) (Kd.R_base ho0) hb)
            have n4_ := Aside0.mk (Kd.R_elder' (by (with_reducible repeat (first | apply Kd.R_alloc | apply Kd.R_drewN | apply Kd.R_drew)); exact HO379.out) (Kd.R_base ho0) hb)
            have n5_ := Aside0.mk (Kd.R_elder' (by (with_reducible repeat (first | apply Kd.R_alloc | apply Kd.R_drewN | apply Kd.R_drew)); exact HO382.out) (Kd.R_base ho0) hb)
            have n6_ := Aside0.mk (Kd.R_elder' (by (with_reducible repeat (first | apply Kd.R_alloc | apply Kd.R_drewN | apply Kd.R_drew)); exact HO385.out) (Kd.R_base ho0) hb)
            have n7_ := Aside0.mk (Kd.R_elder' (by (with_reducible repeat (first | apply Kd.R_alloc | apply Kd.R_drewN | apply Kd.R_drew)); exact HO391.out) (Kd.R_base ho0) hb)
            have n8_ := Aside0.mk (Kd.R_below (by (with_reducible repeat (first | apply Kd.R_alloc | apply Kd.R_drewN | apply Kd.R_drew)); exact HO397.out) hb)
            have n9_ := Aside0.mk (Kd.R_elder' (by (with_reducible repeat (first | apply Kd.R_alloc | apply Kd.R_drewN | apply Kd.R_drew)); exact HO400.out) (Kd.R_base ho0) hb)
            have n10_ := Aside0.mk (Kd.R_elder' (by (with_reducible repeat (first | apply Kd.R_alloc | apply Kd.R_drewN | apply Kd.R_drew)); exact HO403.out) (Kd.R_base ho0) hb)
            have n11_ := Aside0.mk (Kd.R_below (by (with_reducible repeat (first | apply Kd.R_alloc | apply Kd.R_drewN | apply Kd.R_drew)); exact HO407.out) hb)
            have n12_ := Aside0.mk (Kd.R_lower (Kd.R_newB (Kd.R_new' (Kd.R_new' (Kd.R_new' (Kd.R_new' (Kd.R_new' (Kd.R_new' (Kd.R_new' (Kd.R_new' ho0 (Kd.R_lt (by (with_reducible repeat (first | apply Kd.R_alloc | apply Kd.R_drewN | apply Kd.R_drew)); exact HO373.out))) (Kd.R_lt (by (with_reducible repeat (first | apply Kd.R_alloc | apply Kd.R_drewN | apply Kd.R_drew)); exact HO376.out))) (Kd.R_lt (by (with_reducible repeat (first | apply Kd.R_alloc | apply Kd.R_drewN | apply Kd.R_drew)); exact HO379.out))) (Kd.R_lt (by (with_reducible repeat (first | apply Kd.R_alloc | apply Kd.R_drewN | apply Kd.R_drew)); exact HO382.out))) (Kd.R_lt (by (with_reducible repeat (first | apply Kd.R_alloc | apply Kd.R_drewN | apply Kd.R_drew)); exact HO385.out))) (Kd.R_lt (by (with_reducible repeat (first | apply Kd.R_alloc | apply Kd.R_drewN | apply Kd.R_drew)); exact HO391.out))) (Kd.R_lt (by (with_reducible repeat (first | apply Kd.R_alloc | apply Kd.R_drewN | apply Kd.R_drew)); exact HO400.out))) (Kd.R_lt (by (with_reducible repeat (first | apply Kd.R_alloc | apply Kd.R_drewN | apply Kd.R_drew)); exact HO403.out))) (g := gb364) (o := .cells #[.int .u64 a2_0, .int .u64 a2_1] 42 (0, 0)) (by (with_reducible repeat (first | refine blk_drewN ?_ _ | refine blk_drew ?_ | refine blk_alloc ?_ _)); exact BK364.out)) (below_size (by repeat (first | (with_reducible first | exact HB.out | apply below_alloc | apply pw_below_drewN | apply below_drew1 | refine below_set ?_ GE355.out | refine below_set ?_ GE364.out) | exact HB.out))))
            have n13_ := Aside0.mk (blk_below (g := gb355) (o := .cells #[.int .u64 a2_0, .int .u64 a2_1] 34 (0, 0)) (by (with_reducible repeat (first | refine blk_drewN ?_ _ | refine blk_drew ?_ | refine blk_alloc ?_ _)); exact BK355.out) hb)
            have n14_ := Aside0.mk (blk_below (g := gb364) (o := .cells #[.int .u64 a2_0, .int .u64 a2_1] 42 (0, 0)) (by (with_reducible repeat (first | refine blk_drewN ?_ _ | refine blk_drew ?_ | refine blk_alloc ?_ _)); exact BK364.out) hb)
            have n15_ := Aside0.mk (below_step (by repeat (first | (with_reducible first | exact HB.out | apply below_alloc | apply pw_below_drewN | apply below_drew1 | refine below_set ?_ GE355.out | refine below_set ?_ GE364.out) | exact HB.out)) hb)
            clear HO367
            clear HO370
            clear HO373
            clear HO376
            clear HO379
            clear HO382
            clear HO385
            clear HO391
            clear HO397
            clear HO400
            clear HO403
            clear HO407
            clear BK355
            clear BK364
            clear HB
            have HO367 := n0_
            have HO370 := n1_
            have HO373 := n2_
            have HO376 := n3_
            have HO379 := n4_
            have HO382 := n5_
            have HO385 := n6_
            have HO391 := n7_
            have HO397 := n8_
            have HO400 := n9_
            have HO403 := n10_
            have HO407 := n11_
            have HO410 := n12_
            have BK355 := n13_
            have BK364 := n14_
            have HB := n15_
            clear n0_ n1_ n2_ n3_ n4_ n5_ n6_ n7_ n8_ n9_ n10_ n11_ n12_ n13_ n14_ n15_
            (try clear hb)
            (try clear hb2)
            (try clear hk)
            (try clear hi)
            (try clear ho0)
            refine hK.out _ _ ⟨(blk_cell BK355.out 0).trans rfl, (blk_cell BK355.out 1).trans rfl, (blk_cell BK364.out 0).trans rfl, (blk_cell BK364.out 1).trans rfl⟩ (fun hHeld => ?_)
            clear hK K
            refine norm_ (a' := ?_) ?_ ?_
            rotate_left
            ·show Act.put _ (some 83) _ = _
             simp only [Act.put, List.setIfInBounds_toArray, List.set_cons_zero, List.set_cons_succ, i64_w, i32_w]
             rfl
            refine one_ (i := 42) (N := some 86) #[true,true,true,true,true,true,true,true,true,true,true,true,true,true,true,true,true,true,true,true,true,true,true,true,true,true,true,true,true,true,true,true,true,true,true,true,true,true,true,true,true,true,true,false,false,false,false,false,false,false,false,false,false,false,false,false,false,false,false,false,false,false,false,false,false,false,false,false,false,false,false,false,false] rfl rfl (one_of HT_.out (by kernel_rfl)) (by decide) (fun K hK => ?_)
            refine goes_ Try.func25 (by kernel_rfl) rfl #[.slice Ao82 t374.length co82, .agg #[.int .u64 a2_0, .int .u64 a2_1]] (by rfl) rfl rfl (by (try simp only [List.map_toArray, List.map_cons, List.map_nil]); first | done | rfl | (simp only [List.length_drop, List.length_take]; rfl)) ?_
            with_reducible refine (dominoref03_Cut.calls kj4 _ _ t374 a2_0 a2_1 t411 _ ?side1 ?side2 A51.out).mono ?_
            (case side1 => repeat (first | exact (Kd.R_reads' HO376.out).2.2 | (with_reducible refine Kd.C_alloc ?_ _) | (with_reducible refine Kd.C_drewN ?_ _) | (with_reducible refine Kd.C_drew ?_)))
            (case side2 => exact (Kd.R_reads' HO376.out).2.1)
            rintro e w97 ⟨v412, rfl, ho0, hb⟩
            refine ⟨_, rfl, ?_⟩
            have n0_ := Aside0.mk (Kd.R_below (by (with_reducible repeat (first | apply Kd.R_alloc | apply Kd.R_drewN | apply Kd.R_drew)); exact HO367.out) hb)
            have n1_ := Aside0.mk (Kd.R_below (by (with_reducible repeat (first | apply Kd.R_alloc | apply Kd.R_drewN | apply Kd.R_drew)); exact HO370.out) hb)
            have n2_ := Aside0.mk (Kd.R_elder' (by (with_reducible repeat (first | apply Kd.R_alloc | apply Kd.R_drewN | apply Kd.R_drew)); exact HO373.out) (Kd.R_base ho0) hb)
            have n3_ := Aside0.mk (Kd.R_elder' (by (with_reducible repeat (first | apply Kd.R_alloc | apply Kd.R_drewN | apply Kd.R_drew)); exact HO376.out) (Kd.R_base ho0) hb)
            have n4_ := Aside0.mk (Kd.R_elder' (by (with_reducible repeat (first | apply Kd.R_alloc | apply Kd.R_drewN | apply Kd.R_drew)); exact HO379.out) (Kd.R_base ho0) hb)
            have n5_ := Aside0.mk (Kd.R_elder' (by (with_reducible repeat (first | apply Kd.R_alloc | apply Kd.R_drewN | apply Kd.R_drew)); exact HO382.out) (Kd.R_base ho0) hb)
            have n6_ := Aside0.mk (Kd.R_elder' (by (with_reducible repeat (first | apply Kd.R_alloc | apply Kd.R_drewN | apply Kd.R_drew)); exact HO385.out) (Kd.R_base ho0) hb)
            have n7_ := Aside0.mk (Kd.R_elder' (by (with_reducible repeat (first | apply Kd.R_alloc | apply Kd.R_drewN | apply Kd.R_drew)); exact HO391.out) (Kd.R_base ho0) hb)
            have n8_ := Aside0.mk (Kd.R_below (by (with_reducible repeat (first | apply Kd.R_alloc | apply Kd.R_drewN | apply Kd.R_drew)); exact HO397.out) hb)
            have n9_ := Aside0.mk (Kd.R_elder' (by (with_reducible repeat (first | apply Kd.R_alloc | apply Kd.R_drewN | apply Kd.R_drew)); exact HO400.out) (Kd.R_base ho0) hb)
            have n10_ := Aside0.mk (Kd.R_elder' (by (with_reducible repeat (first | apply Kd.R_alloc | apply Kd.R_drewN | apply Kd.R_drew)); exact HO403.out) (Kd.R_base ho0) hb)
            have n11_ := Aside0.mk (Kd.R_below (by (with_reducible repeat (first | apply Kd.R_alloc | apply Kd.R_drewN | apply Kd.R_drew)); exact HO407.out) hb)
            have n12_ := Aside0.mk (Kd.R_elder' (by (with_reducible repeat (first | apply Kd.R_alloc | apply Kd.R_drewN | apply Kd.R_drew)); exact HO410.out) (Kd.R_base ho0) hb)
            have n13_ := Aside0.mk (Kd.R_lower (Kd.R_newB (Kd.R_new' (Kd.R_new' (Kd.R_new' (Kd.R_new' (Kd.R_new' (Kd.R_new' (Kd.R_new' (Kd.R_new' (Kd.R_new' ho0 (Kd.R_lt (by (with_reducible repeat (first | apply Kd.R_alloc | apply Kd.R_drewN | apply Kd.R_drew)); exact HO373.out))) (Kd.R_lt (by (with_reducible repeat (first | apply Kd.R_alloc | apply Kd.R_drewN | apply Kd.R_drew)); exact HO376.out))) (Kd.R_lt (by (with_reducible repeat (first | apply Kd.R_alloc | apply Kd.R_drewN | apply Kd.R_drew)); exact HO379.out))) (Kd.R_lt (by (with_reducible repeat (first | apply Kd.R_alloc | apply Kd.R_drewN | apply Kd.R_drew)); exact HO382.out))) (Kd.R_lt (by (with_reducible repeat (first | apply Kd.R_alloc | apply Kd.R_drewN | apply Kd.R_drew)); exact HO385.out))) (Kd.R_lt (by (with_reducible repeat (first | apply Kd.R_alloc | apply Kd.R_drewN | apply Kd.R_drew)); exact HO391.out))) (Kd.R_lt (by (with_reducible repeat (first | apply Kd.R_alloc | apply Kd.R_drewN | apply Kd.R_drew)); exact HO400.out))) (Kd.R_lt (by (with_reducible repeat (first | apply Kd.R_alloc | apply Kd.R_drewN | apply Kd.R_drew)); exact HO403.out))) (Kd.R_lt (by (with_reducible repeat (first | apply Kd.R_alloc | apply Kd.R_drewN | apply Kd.R_drew)); exact HO410.out))) (g := gb364) (o := .cells #[.int .u64 a2_0, .int .u64 a2_1] 42 (0, 0)) (by (with_reducible repeat (first | refine blk_drewN ?_ _ | refine blk_drew ?_ | refine blk_alloc ?_ _)); exact BK364.out)) (below_size (by repeat (first | (with_reducible first | exact HB.out | apply below_alloc | apply pw_below_drewN | apply below_drew1 | refine below_set ?_ GE355.out | refine below_set ?_ GE364.out) | exact HB.out))))
            have n14_ := Aside0.mk (blk_below (g := gb355) (o := .cells #[.int .u64 a2_0, .int .u64 a2_1] 34 (0, 0)) (by (with_reducible repeat (first | refine blk_drewN ?_ _ | refine blk_drew ?_ | refine blk_alloc ?_ _)); exact BK355.out) hb)
            have n15_ := Aside0.mk (blk_below (g := gb364) (o := .cells #[.int .u64 a2_0, .int .u64 a2_1] 42 (0, 0)) (by (with_reducible repeat (first | refine blk_drewN ?_ _ | refine blk_drew ?_ | refine blk_alloc ?_ _)); exact BK364.out) hb)
            have n16_ := Aside0.mk (below_step (by repeat (first | (with_reducible first | exact HB.out | apply below_alloc | apply pw_below_drewN | apply below_drew1 | refine below_set ?_ GE355.out | refine below_set ?_ GE364.out) | exact HB.out)) hb)
            clear HO367
            clear HO370
            clear HO373
            clear HO376
            clear HO379
            clear HO382
            clear HO385
            clear HO391
            clear HO397
            clear HO400
            clear HO403
            clear HO407
            clear HO410
            clear BK355
            clear BK364
            clear HB
            have HO367 := n0_
            have HO370 := n1_
            have HO373 := n2_
            have HO376 := n3_
            have HO379 := n4_
            have HO382 := n5_
            have HO385 := n6_
            have HO391 := n7_
            have HO397 := n8_
            have HO400 := n9_
            have HO403 := n10_
            have HO407 := n11_
            have HO410 := n12_
            have HO413 := n13_
            have BK355 := n14_
            have BK364 := n15_
            have HB := n16_
            clear n0_ n1_ n2_ n3_ n4_ n5_ n6_ n7_ n8_ n9_ n10_ n11_ n12_ n13_ n14_ n15_ n16_
            (try clear hb)
            (try clear hb2)
            (try clear hk)
            (try clear hi)
            (try clear ho0)
            obtain ⟨Ao98, co98, eo98⟩ := Kd.R_slice HO410.out
            (first | subst eo98 | (injection eo98 with f1_ f2_ f3_; have f4_ := f1_.symm; have f5_ := f3_.symm; clear f1_ f2_ f3_; subst f4_; subst f5_))
            obtain ⟨Ao99, co99, eo99⟩ := Kd.R_slice HO413.out
            (first | subst eo99 | (injection eo99 with f1_ f2_ f3_; have f4_ := f1_.symm; have f5_ := f3_.symm; clear f1_ f2_ f3_; subst f4_; subst f5_))
            refine hK.out _ _ ⟨(blk_cell BK355.out 0).trans rfl, (blk_cell BK355.out 1).trans rfl, (blk_cell BK364.out 0).trans rfl, (blk_cell BK364.out 1).trans rfl⟩ (fun hHeld => ?_)
            clear hK K
            refine norm_ (a' := ?_) ?_ ?_
            rotate_left
            ·show Act.put _ (some 86) _ = _
             simp only [Act.put, List.setIfInBounds_toArray, List.set_cons_zero, List.set_cons_succ, i64_w, i32_w]
             rfl
            refine one_ (i := 43) (N := some 87) #[true,true,true,true,true,true,true,true,true,true,true,true,true,true,true,true,true,true,true,true,true,true,true,true,true,true,true,true,true,true,true,true,true,true,true,true,true,true,true,true,true,true,true,true,false,false,false,false,false,false,false,false,false,false,false,false,false,false,false,false,false,false,false,false,false,false,false,false,false,false,false,false,false] rfl rfl (one_of HT_.out (by kernel_rfl)) (by decide) (fun K hK => ?_)
            refine goes_ Try.func16 (by kernel_rfl) rfl #[.slice Ao98 t408.length co98, .slice Ao99 t411.length co99] (by rfl) rfl rfl (by (try simp only [List.map_toArray, List.map_cons, List.map_nil]); first | done | rfl | (simp only [List.length_drop, List.length_take]; rfl)) ?_
            with_reducible refine (dominoref03_Same.calls kj4 _ _ t408 _ _ t411 true _ ?side1 ?side2 ?side3 ?side4 A52.out).mono ?_
            (case side1 => repeat (first | exact (Kd.R_reads' HO410.out).2.2 | (with_reducible refine Kd.C_alloc ?_ _) | (with_reducible refine Kd.C_drewN ?_ _) | (with_reducible refine Kd.C_drew ?_)))
            (case side2 => exact (Kd.R_reads' HO410.out).2.1)
            (case side3 => repeat (first | exact (Kd.R_reads' HO413.out).2.2 | (with_reducible refine Kd.C_alloc ?_ _) | (with_reducible refine Kd.C_drewN ?_ _) | (with_reducible refine Kd.C_drew ?_)))
            (case side4 => exact (Kd.R_reads' HO413.out).2.1)
            rintro e w' ⟨rfl, ⟨nd, rfl⟩⟩
            refine ⟨_, rfl, ?_⟩
            obtain ⟨Ao100, co100, eo100⟩ := Kd.R_slice HO370.out
            (first | subst eo100 | (injection eo100 with f1_ f2_ f3_; have f4_ := f1_.symm; have f5_ := f3_.symm; clear f1_ f2_ f3_; subst f4_; subst f5_))
            refine hK.out _ _ ⟨(blk_cell BK355.out 0).trans rfl, (blk_cell BK355.out 1).trans rfl, (blk_cell BK364.out 0).trans rfl, (blk_cell BK364.out 1).trans rfl⟩ (fun hHeld => ?_)
            clear hK K
            refine norm_ (a' := ?_) ?_ ?_
            rotate_left
            ·show Act.put _ (some 87) _ = _
             simp only [Act.put, List.setIfInBounds_toArray, List.set_cons_zero, List.set_cons_succ, i64_w, i32_w]
             rfl
            refine pure_ (i := 44) (N := some 88) (v := ?_) (a' := ?_) #[true,true,true,true,true,true,true,true,true,true,true,true,true,true,true,true,true,true,true,true,true,true,true,true,true,true,true,true,true,true,true,true,true,true,true,true,true,true,true,true,true,true,true,true,true,false,false,false,false,false,false,false,false,false,false,false,false,false,false,false,false,false,false,false,false,false,false,false,false,false,false,false,false] rfl rfl (any_of HT_.out (by kernel_rfl)) (fun _ _ _ h => h) (Or.inl ⟨by rfl, ?_⟩) ?_ ?_
            rotate_left;(intro w';go_simp;with_reducible rfl);rotate_left;(simp only [Act.put, List.setIfInBounds_toArray, List.set_cons_zero, List.set_cons_succ, i64_w, i32_w];rfl)
            refine pure_ (i := 45) (N := some 89) (v := ?_) (a' := ?_) #[true,true,true,true,true,true,true,true,true,true,true,true,true,true,true,true,true,true,true,true,true,true,true,true,true,true,true,true,true,true,true,true,true,true,true,true,true,true,true,true,true,true,true,true,true,true,false,false,false,false,false,false,false,false,false,false,false,false,false,false,false,false,false,false,false,false,false,false,false,false,false,false,false] rfl rfl (any_of HT_.out (by kernel_rfl)) (fun _ _ _ h => h) (Or.inl ⟨by rfl, ?_⟩) ?_ ?_
            rotate_left;(intro w';go_simp;with_reducible rfl);rotate_left;(simp only [Act.put, List.setIfInBounds_toArray, List.set_cons_zero, List.set_cons_succ, i64_w, i32_w];rfl)
            refine pure_ (i := 46) (N := some 90) (v := ?_) (a' := ?_) #[true,true,true,true,true,true,true,true,true,true,true,true,true,true,true,true,true,true,true,true,true,true,true,true,true,true,true,true,true,true,true,true,true,true,true,true,true,true,true,true,true,true,true,true,true,true,true,false,false,false,false,false,false,false,false,false,false,false,false,false,false,false,false,false,false,false,false,false,false,false,false,false,false] rfl rfl (any_of HT_.out (by kernel_rfl)) (fun _ _ _ h => h) (Or.inl ⟨by rfl, ?_⟩) ?_ ?_
            rotate_left;(intro w';go_simp;with_reducible rfl);rotate_left;(simp only [Act.put, List.setIfInBounds_toArray, List.set_cons_zero, List.set_cons_succ, i64_w, i32_w];rfl)
            refine pure_ (i := 47) (N := some 91) (v := ?_) (a' := ?_) #[true,true,true,true,true,true,true,true,true,true,true,true,true,true,true,true,true,true,true,true,true,true,true,true,true,true,true,true,true,true,true,true,true,true,true,true,true,true,true,true,true,true,true,true,true,true,true,true,false,false,false,false,false,false,false,false,false,false,false,false,false,false,false,false,false,false,false,false,false,false,false,false,false] rfl rfl (any_of HT_.out (by kernel_rfl)) (fun _ _ _ h => h) (Or.inl ⟨by rfl, ?_⟩) ?_ ?_
            rotate_left;(intro w';go_simp;with_reducible rfl);rotate_left;(simp only [Act.put, List.setIfInBounds_toArray, List.set_cons_zero, List.set_cons_succ, i64_w, i32_w];rfl)
            refine pure_ (i := 50) (N := some 94) (v := ?_) (a' := ?_) #[true,true,true,true,true,true,true,true,true,true,true,true,true,true,true,true,true,true,true,true,true,true,true,true,true,true,true,true,true,true,true,true,true,true,true,true,true,true,true,true,true,true,true,true,true,true,true,true,false,false,true,false,false,false,false,false,false,false,false,false,false,false,false,false,false,false,false,false,false,false,false,false,false] rfl rfl (any_of HT_.out (by kernel_rfl)) (fun _ _ _ h => h) (Or.inl ⟨by rfl, ?_⟩) ?_ ?_
            rotate_left;(intro w';go_simp;with_reducible rfl);rotate_left;(simp only [Act.put, List.setIfInBounds_toArray, List.set_cons_zero, List.set_cons_succ, i64_w, i32_w];rfl)
            refine pure_ (i := 51) (N := some 95) (v := ?_) (a' := ?_) #[true,true,true,true,true,true,true,true,true,true,true,true,true,true,true,true,true,true,true,true,true,true,true,true,true,true,true,true,true,true,true,true,true,true,true,true,true,true,true,true,true,true,true,true,true,true,true,true,false,false,true,true,false,false,false,false,false,false,false,false,false,false,false,false,false,false,false,false,false,false,false,false,false] rfl rfl (any_of HT_.out (by kernel_rfl)) (fun _ _ _ h => h) (Or.inl ⟨by rfl, ?_⟩) ?_ ?_
            rotate_left;(intro w';go_simp;with_reducible rfl);rotate_left;(simp only [Act.put, List.setIfInBounds_toArray, List.set_cons_zero, List.set_cons_succ, i64_w, i32_w];rfl)
            refine one_ (i := 48) (N := some 92) #[true,true,true,true,true,true,true,true,true,true,true,true,true,true,true,true,true,true,true,true,true,true,true,true,true,true,true,true,true,true,true,true,true,true,true,true,true,true,true,true,true,true,true,true,true,true,true,true,true,false,true,true,false,false,false,false,false,false,false,false,false,false,false,false,false,false,false,false,false,false,false,false,false] rfl rfl (one_of HT_.out (by kernel_rfl)) (by decide) (fun K hK => ?_)
            refine goes_ Try.func21 (by kernel_rfl) rfl #[.slice Ao79 t365.length co79, .slice Ao100 t368.length co100] (by rfl) rfl rfl (by (try simp only [List.map_toArray, List.map_cons, List.map_nil]); first | done | rfl | (simp only [List.length_drop, List.length_take]; rfl)) ?_
            with_reducible refine (ranges_Meet.calls kj4 _ _ t365 _ _ t368 t415 _ ?side1 ?side2 ?side3 ?side4 A54.out).mono ?_
            (case side1 => repeat (first | exact (Kd.R_reads' HO367.out).2.2 | (with_reducible refine Kd.C_alloc ?_ _) | (with_reducible refine Kd.C_drewN ?_ _) | (with_reducible refine Kd.C_drew ?_)))
            (case side2 => exact (Kd.R_reads' HO367.out).2.1)
            (case side3 => repeat (first | exact (Kd.R_reads' HO370.out).2.2 | (with_reducible refine Kd.C_alloc ?_ _) | (with_reducible refine Kd.C_drewN ?_ _) | (with_reducible refine Kd.C_drew ?_)))
            (case side4 => exact (Kd.R_reads' HO370.out).2.1)
            rintro e w101 ⟨v416, rfl, ho0, hb⟩
            refine ⟨_, rfl, ?_⟩
            have n0_ := Aside0.mk (Kd.R_elder' (by (with_reducible repeat (first | apply Kd.R_alloc | apply Kd.R_drewN | apply Kd.R_drew)); exact HO367.out) (Kd.R_base ho0) hb)
            have n1_ := Aside0.mk (Kd.R_elder' (by (with_reducible repeat (first | apply Kd.R_alloc | apply Kd.R_drewN | apply Kd.R_drew)); exact HO370.out) (Kd.R_base ho0) hb)
            have n2_ := Aside0.mk (Kd.R_below (by (with_reducible repeat (first | apply Kd.R_alloc | apply Kd.R_drewN | apply Kd.R_drew)); exact HO373.out) hb)
            have n3_ := Aside0.mk (Kd.R_below (by (with_reducible repeat (first | apply Kd.R_alloc | apply Kd.R_drewN | apply Kd.R_drew)); exact HO376.out) hb)
            have n4_ := Aside0.mk (Kd.R_below (by (with_reducible repeat (first | apply Kd.R_alloc | apply Kd.R_drewN | apply Kd.R_drew)); exact HO379.out) hb)
            have n5_ := Aside0.mk (Kd.R_below (by (with_reducible repeat (first | apply Kd.R_alloc | apply Kd.R_drewN | apply Kd.R_drew)); exact HO382.out) hb)
            have n6_ := Aside0.mk (Kd.R_below (by (with_reducible repeat (first | apply Kd.R_alloc | apply Kd.R_drewN | apply Kd.R_drew)); exact HO385.out) hb)
            have n7_ := Aside0.mk (Kd.R_below (by (with_reducible repeat (first | apply Kd.R_alloc | apply Kd.R_drewN | apply Kd.R_drew)); exact HO391.out) hb)
            have n8_ := Aside0.mk (Kd.R_elder' (by (with_reducible repeat (first | apply Kd.R_alloc | apply Kd.R_drewN | apply Kd.R_drew)); exact HO397.out) (Kd.R_base ho0) hb)
            have n9_ := Aside0.mk (Kd.R_below (by (with_reducible repeat (first | apply Kd.R_alloc | apply Kd.R_drewN | apply Kd.R_drew)); exact HO400.out) hb)
            have n10_ := Aside0.mk (Kd.R_below (by (with_reducible repeat (first | apply Kd.R_alloc | apply Kd.R_drewN | apply Kd.R_drew)); exact HO403.out) hb)
            have n11_ := Aside0.mk (Kd.R_elder' (by (with_reducible repeat (first | apply Kd.R_alloc | apply Kd.R_drewN | apply Kd.R_drew)); exact HO407.out) (Kd.R_base ho0) hb)
            have n12_ := Aside0.mk (Kd.R_below (by (with_reducible repeat (first | apply Kd.R_alloc | apply Kd.R_drewN | apply Kd.R_drew)); exact HO410.out) hb)
            have n13_ := Aside0.mk (Kd.R_below (by (with_reducible repeat (first | apply Kd.R_alloc | apply Kd.R_drewN | apply Kd.R_drew)); exact HO413.out) hb)
            have n14_ := Aside0.mk (Kd.R_lower (Kd.R_newB (Kd.R_new' (Kd.R_new' (Kd.R_new' (Kd.R_new' ho0 (Kd.R_lt (by (with_reducible repeat (first | apply Kd.R_alloc | apply Kd.R_drewN | apply Kd.R_drew)); exact HO367.out))) (Kd.R_lt (by (with_reducible repeat (first | apply Kd.R_alloc | apply Kd.R_drewN | apply Kd.R_drew)); exact HO370.out))) (Kd.R_lt (by (with_reducible repeat (first | apply Kd.R_alloc | apply Kd.R_drewN | apply Kd.R_drew)); exact HO397.out))) (Kd.R_lt (by (with_reducible repeat (first | apply Kd.R_alloc | apply Kd.R_drewN | apply Kd.R_drew)); exact HO407.out))) (g := gb355) (o := .cells #[.int .u64 a2_0, .int .u64 a2_1] 34 (0, 0)) (by (with_reducible repeat (first | refine blk_drewN ?_ _ | refine blk_drew ?_ | refine blk_alloc ?_ _)); exact BK355.out)) (below_size (by repeat (first | (with_reducible first | exact HB.out | apply below_alloc | apply pw_below_drewN | apply below_drew1 | refine below_set ?_ GE355.out | refine below_set ?_ GE364.out) | exact HB.out))))
            have n15_ := Aside0.mk (blk_below (g := gb355) (o := .cells #[.int .u64 a2_0, .int .u64 a2_1] 34 (0, 0)) (by (with_reducible repeat (first | refine blk_drewN ?_ _ | refine blk_drew ?_ | refine blk_alloc ?_ _)); exact BK355.out) hb)
            have n16_ := Aside0.mk (blk_below (g := gb364) (o := .cells #[.int .u64 a2_0, .int .u64 a2_1] 42 (0, 0)) (by (with_reducible repeat (first | refine blk_drewN ?_ _ | refine blk_drew ?_ | refine blk_alloc ?_ _)); exact BK364.out) hb)
            have n17_ := Aside0.mk (below_step (by repeat (first | (with_reducible first | exact HB.out | apply below_alloc | apply pw_below_drewN | apply below_drew1 | refine below_set ?_ GE355.out | refine below_set ?_ GE364.out) | exact HB.out)) hb)
            clear HO367
            clear HO370
            clear HO373
            clear HO376
            clear HO379
            clear HO382
            clear HO385
            clear HO391
            clear HO397
            clear HO400
            clear HO403
            clear HO407
            clear HO410
            clear HO413
            clear BK355
            clear BK364
            clear HB
            have HO367 := n0_
            have HO370 := n1_
            have HO373 := n2_
            have HO376 := n3_
            have HO379 := n4_
            have HO382 := n5_
            have HO385 := n6_
            have HO391 := n7_
            have HO397 := n8_
            have HO400 := n9_
            have HO403 := n10_
            have HO407 := n11_
            have HO410 := n12_
            have HO413 := n13_
            have HO417 := n14_
            have BK355 := n15_
            have BK364 := n16_
            have HB := n17_
            clear n0_ n1_ n2_ n3_ n4_ n5_ n6_ n7_ n8_ n9_ n10_ n11_ n12_ n13_ n14_ n15_ n16_ n17_
            (try clear hb)
            (try clear hb2)
            (try clear hk)
            (try clear hi)
            (try clear ho0)
            obtain ⟨Ao102, co102, eo102⟩ := Kd.R_slice HO417.out
            (first | subst eo102 | (injection eo102 with f1_ f2_ f3_; have f4_ := f1_.symm; have f5_ := f3_.symm; clear f1_ f2_ f3_; subst f4_; subst f5_))
            refine hK.out _ _ ⟨(blk_cell BK355.out 0).trans rfl, (blk_cell BK355.out 1).trans rfl, (blk_cell BK364.out 0).trans rfl, (blk_cell BK364.out 1).trans rfl⟩ (fun hHeld => ?_)
            clear hK K
            refine norm_ (a' := ?_) ?_ ?_
            rotate_left
            ·show Act.put _ (some 92) _ = _
             simp only [Act.put, List.setIfInBounds_toArray, List.set_cons_zero, List.set_cons_succ, i64_w, i32_w]
             rfl
            refine one_ (i := 49) (N := some 93) #[true,true,true,true,true,true,true,true,true,true,true,true,true,true,true,true,true,true,true,true,true,true,true,true,true,true,true,true,true,true,true,true,true,true,true,true,true,true,true,true,true,true,true,true,true,true,true,true,true,true,true,true,false,false,false,false,false,false,false,false,false,false,false,false,false,false,false,false,false,false,false,false,false] rfl rfl (one_of HT_.out (by kernel_rfl)) (by decide) (fun K hK => ?_)
            refine goes_ Try.func13 (by kernel_rfl) rfl #[.slice Ao102 t415.length co102] (by rfl) rfl rfl (by (try simp only [List.map_toArray, List.map_cons, List.map_nil]); first | done | rfl | (simp only [List.length_drop, List.length_take]; rfl)) ?_
            with_reducible refine (dominolaw03_its.calls kj4 _ _ t415 t418 _ ?side1 ?side2 A55.out).mono ?_
            (case side1 => repeat (first | exact (Kd.R_reads' HO417.out).2.2 | (with_reducible refine Kd.C_alloc ?_ _) | (with_reducible refine Kd.C_drewN ?_ _) | (with_reducible refine Kd.C_drew ?_)))
            (case side2 => exact (Kd.R_reads' HO417.out).2.1)
            rintro e w103 ⟨v419, rfl, ho0, hb⟩
            refine ⟨_, rfl, ?_⟩
            have n0_ := Aside0.mk (Kd.R_below (by (with_reducible repeat (first | apply Kd.R_alloc | apply Kd.R_drewN | apply Kd.R_drew)); exact HO367.out) hb)
            have n1_ := Aside0.mk (Kd.R_below (by (with_reducible repeat (first | apply Kd.R_alloc | apply Kd.R_drewN | apply Kd.R_drew)); exact HO370.out) hb)
            have n2_ := Aside0.mk (Kd.R_elder' (by (with_reducible repeat (first | apply Kd.R_alloc | apply Kd.R_drewN | apply Kd.R_drew)); exact HO373.out) (Kd.R_base ho0) hb)
            have n3_ := Aside0.mk (Kd.R_elder' (by (with_reducible repeat (first | apply Kd.R_alloc | apply Kd.R_drewN | apply Kd.R_drew)); exact HO376.out) (Kd.R_base ho0) hb)
            have n4_ := Aside0.mk (Kd.R_elder' (by (with_reducible repeat (first | apply Kd.R_alloc | apply Kd.R_drewN | apply Kd.R_drew)); exact HO379.out) (Kd.R_base ho0) hb)
            have n5_ := Aside0.mk (Kd.R_elder' (by (with_reducible repeat (first | apply Kd.R_alloc | apply Kd.R_drewN | apply Kd.R_drew)); exact HO382.out) (Kd.R_base ho0) hb)
            have n6_ := Aside0.mk (Kd.R_elder' (by (with_reducible repeat (first | apply Kd.R_alloc | apply Kd.R_drewN | apply Kd.R_drew)); exact HO385.out) (Kd.R_base ho0) hb)
            have n7_ := Aside0.mk (Kd.R_elder' (by (with_reducible repeat (first | apply Kd.R_alloc | apply Kd.R_drewN | apply Kd.R_drew)); exact HO391.out) (Kd.R_base ho0) hb)
            have n8_ := Aside0.mk (Kd.R_below (by (with_reducible repeat (first | apply Kd.R_alloc | apply Kd.R_drewN | apply Kd.R_drew)); exact HO397.out) hb)
            have n9_ := Aside0.mk (Kd.R_elder' (by (with_reducible repeat (first | apply Kd.R_alloc | apply Kd.R_drewN | apply Kd.R_drew)); exact HO400.out) (Kd.R_base ho0) hb)
            have n10_ := Aside0.mk (Kd.R_elder' (by (with_reducible repeat (first | apply Kd.R_alloc | apply Kd.R_drewN | apply Kd.R_drew)); exact HO403.out) (Kd.R_base ho0) hb)
            have n11_ := Aside0.mk (Kd.R_below (by (with_reducible repeat (first | apply Kd.R_alloc | apply Kd.R_drewN | apply Kd.R_drew)); exact HO407.out) hb)
            have n12_ := Aside0.mk (Kd.R_elder' (by (with_reducible repeat (first | apply Kd.R_alloc | apply Kd.R_drewN | apply Kd.R_drew)); exact HO410.out) (Kd.R_base ho0) hb)
            have n13_ := Aside0.mk (Kd.R_elder' (by (with_reducible repeat (first | apply Kd.R_alloc | apply Kd.R_drewN | apply Kd.R_drew)); exact HO413.out) (Kd.R_base ho0) hb)
            have n14_ := Aside0.mk (Kd.R_below (by (with_reducible repeat (first | apply Kd.R_alloc | apply Kd.R_drewN | apply Kd.R_drew)); exact HO417.out) hb)
            have n15_ := Aside0.mk (Kd.R_lower (Kd.R_newB (Kd.R_new' (Kd.R_new' (Kd.R_new' (Kd.R_new' (Kd.R_new' (Kd.R_new' (Kd.R_new' (Kd.R_new' (Kd.R_new' (Kd.R_new' ho0 (Kd.R_lt (by (with_reducible repeat (first | apply Kd.R_alloc | apply Kd.R_drewN | apply Kd.R_drew)); exact HO373.out))) (Kd.R_lt (by (with_reducible repeat (first | apply Kd.R_alloc | apply Kd.R_drewN | apply Kd.R_drew)); exact HO376.out))) (Kd.R_lt (by (with_reducible repeat (first | apply Kd.R_alloc | apply Kd.R_drewN | apply Kd.R_drew)); exact HO379.out))) (Kd.R_lt (by (with_reducible repeat (first | apply Kd.R_alloc | apply Kd.R_drewN | apply Kd.R_drew)); exact HO382.out))) (Kd.R_lt (by (with_reducible repeat (first | apply Kd.R_alloc | apply Kd.R_drewN | apply Kd.R_drew)); exact HO385.out))) (Kd.R_lt (by (with_reducible repeat (first | apply Kd.R_alloc | apply Kd.R_drewN | apply Kd.R_drew)); exact HO391.out))) (Kd.R_lt (by (with_reducible repeat (first | apply Kd.R_alloc | apply Kd.R_drewN | apply Kd.R_drew)); exact HO400.out))) (Kd.R_lt (by (with_reducible repeat (first | apply Kd.R_alloc | apply Kd.R_drewN | apply Kd.R_drew)); exact HO403.out))) (Kd.R_lt (by (with_reducible repeat (first | apply Kd.R_alloc | apply Kd.R_drewN | apply Kd.R_drew)); exact HO410.out))) (Kd.R_lt (by (with_reducible repeat (first | apply Kd.R_alloc | apply Kd.R_drewN | apply Kd.R_drew)); exact HO413.out))) (g := gb364) (o := .cells #[.int .u64 a2_0, .int .u64 a2_1] 42 (0, 0)) (by (with_reducible repeat (first | refine blk_drewN ?_ _ | refine blk_drew ?_ | refine blk_alloc ?_ _)); exact BK364.out)) (below_size (by repeat (first | (with_reducible first | exact HB.out | apply below_alloc | apply pw_below_drewN | apply below_drew1 | refine below_set ?_ GE355.out | refine below_set ?_ GE364.out) | exact HB.out))))
            have n16_ := Aside0.mk (blk_below (g := gb355) (o := .cells #[.int .u64 a2_0, .int .u64 a2_1] 34 (0, 0)) (by (with_reducible repeat (first | refine blk_drewN ?_ _ | refine blk_drew ?_ | refine blk_alloc ?_ _)); exact BK355.out) hb)
            have n17_ := Aside0.mk (blk_below (g := gb364) (o := .cells #[.int .u64 a2_0, .int .u64 a2_1] 42 (0, 0)) (by (with_reducible repeat (first | refine blk_drewN ?_ _ | refine blk_drew ?_ | refine blk_alloc ?_ _)); exact BK364.out) hb)
            have n18_ := Aside0.mk (below_step (by repeat (first | (with_reducible first | exact HB.out | apply below_alloc | apply pw_below_drewN | apply below_drew1 | refine below_set ?_ GE355.out | refine below_set ?_ GE364.out) | exact HB.out)) hb)
            clear HO367
            clear HO370
            clear HO373
            clear HO376
            clear HO379
            clear HO382
            clear HO385
            clear HO391
            clear HO397
            clear HO400
            clear HO403
            clear HO407
            clear HO410
            clear HO413
            clear HO417
            clear BK355
            clear BK364
            clear HB
            have HO367 := n0_
            have HO370 := n1_
            have HO373 := n2_
            have HO376 := n3_
            have HO379 := n4_
            have HO382 := n5_
            have HO385 := n6_
            have HO391 := n7_
            have HO397 := n8_
            have HO400 := n9_
            have HO403 := n10_
            have HO407 := n11_
            have HO410 := n12_
            have HO413 := n13_
            have HO417 := n14_
            have HO420 := n15_
            have BK355 := n16_
            have BK364 := n17_
            have HB := n18_
            clear n0_ n1_ n2_ n3_ n4_ n5_ n6_ n7_ n8_ n9_ n10_ n11_ n12_ n13_ n14_ n15_ n16_ n17_ n18_
            (try clear hb)
            (try clear hb2)
            (try clear hk)
            (try clear hi)
            (try clear ho0)
            obtain ⟨Ao104, co104, eo104⟩ := Kd.R_slice HO382.out
            (first | subst eo104 | (injection eo104 with f1_ f2_ f3_; have f4_ := f1_.symm; have f5_ := f3_.symm; clear f1_ f2_ f3_; subst f4_; subst f5_))
            refine hK.out _ _ ⟨(blk_cell BK355.out 0).trans rfl, (blk_cell BK355.out 1).trans rfl, (blk_cell BK364.out 0).trans rfl, (blk_cell BK364.out 1).trans rfl⟩ (fun hHeld => ?_)
            clear hK K
            refine norm_ (a' := ?_) ?_ ?_
            rotate_left
            ·show Act.put _ (some 93) _ = _
             simp only [Act.put, List.setIfInBounds_toArray, List.set_cons_zero, List.set_cons_succ, i64_w, i32_w]
             rfl
            refine one_ (i := 52) (N := some 96) #[true,true,true,true,true,true,true,true,true,true,true,true,true,true,true,true,true,true,true,true,true,true,true,true,true,true,true,true,true,true,true,true,true,true,true,true,true,true,true,true,true,true,true,true,true,true,true,true,true,true,true,true,true,false,false,false,false,false,false,false,false,false,false,false,false,false,false,false,false,false,false,false,false] rfl rfl (one_of HT_.out (by kernel_rfl)) (by decide) (fun K hK => ?_)
            refine goes_ Try.func26 (by kernel_rfl) rfl #[.slice Ao82 t374.length co82, .slice Ao104 t380.length co104] (by rfl) rfl rfl (by (try simp only [List.map_toArray, List.map_cons, List.map_nil]); first | done | rfl | (simp only [List.length_drop, List.length_take]; rfl)) ?_
            with_reducible refine (dominoref03_Meet.calls kj4 _ _ t374 _ _ t380 t421 _ ?side1 ?side2 ?side3 ?side4 A56.out).mono ?_
            (case side1 => repeat (first | exact (Kd.R_reads' HO376.out).2.2 | (with_reducible refine Kd.C_alloc ?_ _) | (with_reducible refine Kd.C_drewN ?_ _) | (with_reducible refine Kd.C_drew ?_)))
            (case side2 => exact (Kd.R_reads' HO376.out).2.1)
            (case side3 => repeat (first | exact (Kd.R_reads' HO382.out).2.2 | (with_reducible refine Kd.C_alloc ?_ _) | (with_reducible refine Kd.C_drewN ?_ _) | (with_reducible refine Kd.C_drew ?_)))
            (case side4 => exact (Kd.R_reads' HO382.out).2.1)
            rintro e w105 ⟨v422, rfl, ho0, hb⟩
            refine ⟨_, rfl, ?_⟩
            have n0_ := Aside0.mk (Kd.R_below (by (with_reducible repeat (first | apply Kd.R_alloc | apply Kd.R_drewN | apply Kd.R_drew)); exact HO367.out) hb)
            have n1_ := Aside0.mk (Kd.R_below (by (with_reducible repeat (first | apply Kd.R_alloc | apply Kd.R_drewN | apply Kd.R_drew)); exact HO370.out) hb)
            have n2_ := Aside0.mk (Kd.R_elder' (by (with_reducible repeat (first | apply Kd.R_alloc | apply Kd.R_drewN | apply Kd.R_drew)); exact HO373.out) (Kd.R_base ho0) hb)
            have n3_ := Aside0.mk (Kd.R_elder' (by (with_reducible repeat (first | apply Kd.R_alloc | apply Kd.R_drewN | apply Kd.R_drew)); exact HO376.out) (Kd.R_base ho0) hb)
            have n4_ := Aside0.mk (Kd.R_elder' (by (with_reducible repeat (first | apply Kd.R_alloc | apply Kd.R_drewN | apply Kd.R_drew)); exact HO379.out) (Kd.R_base ho0) hb)
            have n5_ := Aside0.mk (Kd.R_elder' (by (with_reducible repeat (first | apply Kd.R_alloc | apply Kd.R_drewN | apply Kd.R_drew)); exact HO382.out) (Kd.R_base ho0) hb)
            have n6_ := Aside0.mk (Kd.R_elder' (by (with_reducible repeat (first | apply Kd.R_alloc | apply Kd.R_drewN | apply Kd.R_drew)); exact HO385.out) (Kd.R_base ho0) hb)
            have n7_ := Aside0.mk (Kd.R_elder' (by (with_reducible repeat (first | apply Kd.R_alloc | apply Kd.R_drewN | apply Kd.R_drew)); exact HO391.out) (Kd.R_base ho0) hb)
            have n8_ := Aside0.mk (Kd.R_below (by (with_reducible repeat (first | apply Kd.R_alloc | apply Kd.R_drewN | apply Kd.R_drew)); exact HO397.out) hb)
            have n9_ := Aside0.mk (Kd.R_elder' (by (with_reducible repeat (first | apply Kd.R_alloc | apply Kd.R_drewN | apply Kd.R_drew)); exact HO400.out) (Kd.R_base ho0) hb)
            have n10_ := Aside0.mk (Kd.R_elder' (by (with_reducible repeat (first | apply Kd.R_alloc | apply Kd.R_drewN | apply Kd.R_drew)); exact HO403.out) (Kd.R_base ho0) hb)
            have n11_ := Aside0.mk (Kd.R_below (by (with_reducible repeat (first | apply Kd.R_alloc | apply Kd.R_drewN | apply Kd.R_drew)); exact HO407.out) hb)
            have n12_ := Aside0.mk (Kd.R_elder' (by (with_reducible repeat (first | apply Kd.R_alloc | apply Kd.R_drewN | apply Kd.R_drew)); exact HO410.out) (Kd.R_base ho0) hb)
            have n13_ := Aside0.mk (Kd.R_elder' (by (with_reducible repeat (first | apply Kd.R_alloc | apply Kd.R_drewN | apply Kd.R_drew)); exact HO413.out) (Kd.R_base ho0) hb)
            have n14_ := Aside0.mk (Kd.R_below (by (with_reducible repeat (first | apply Kd.R_alloc | apply Kd.R_drewN | apply Kd.R_drew)); exact HO417.out) hb)
            have n15_ := Aside0.mk (Kd.R_elder' (by (with_reducible repeat (first | apply Kd.R_alloc | apply Kd.R_drewN | apply Kd.R_drew)); exact HO420.out) (Kd.R_base ho0) hb)
            have n16_ := Aside0.mk (Kd.R_lower (Kd.R_newB (Kd.R_new' (Kd.R_new' (Kd.R_new' (Kd.R_new' (Kd.R_new' (Kd.R_new' (Kd.R_new' (Kd.R_new' (Kd.R_new' (Kd.R_new' (Kd.R_new' ho0 (Kd.R_lt (by (with_reducible repeat (first | apply Kd.R_alloc | apply Kd.R_drewN | apply Kd.R_drew)); exact HO373.out))) (Kd.R_lt (by (with_reducible repeat (first | apply Kd.R_alloc | apply Kd.R_drewN | apply Kd.R_drew)); exact HO376.out))) (Kd.R_lt (by (with_reducible repeat (first | apply Kd.R_alloc | apply Kd.R_drewN | apply Kd.R_drew)); exact HO379.out))) (Kd.R_lt (by (with_reducible repeat (first | apply Kd.R_alloc | apply Kd.R_drewN | apply Kd.R_drew)); exact HO382.out))) (Kd.R_lt (by (with_reducible repeat (first | apply Kd.R_alloc | apply Kd.R_drewN | apply Kd.R_drew)); exact HO385.out))) (Kd.R_lt (by (with_reducible repeat (first | apply Kd.R_alloc | apply Kd.R_drewN | apply Kd.R_drew)); exact HO391.out))) (Kd.R_lt (by (with_reducible repeat (first | apply Kd.R_alloc | apply Kd.R_drewN | apply Kd.R_drew)); exact HO400.out))) (Kd.R_lt (by (with_reducible repeat (first | apply Kd.R_alloc | apply Kd.R_drewN | apply Kd.R_drew)); exact HO403.out))) (Kd.R_lt (by (with_reducible repeat (first | apply Kd.R_alloc | apply Kd.R_drewN | apply Kd.R_drew)); exact HO410.out))) (Kd.R_lt (by (with_reducible repeat (first | apply Kd.R_alloc | apply Kd.R_drewN | apply Kd.R_drew)); exact HO413.out))) (Kd.R_lt (by (with_reducible repeat (first | apply Kd.R_alloc | apply Kd.R_drewN | apply Kd.R_drew)); exact HO420.out))) (g := gb364) (o := .cells #[.int .u64 a2_0, .int .u64 a2_1] 42 (0, 0)) (by (with_reducible repeat (first | refine blk_drewN ?_ _ | refine blk_drew ?_ | refine blk_alloc ?_ _)); exact BK364.out)) (below_size (by repeat (first | (with_reducible first | exact HB.out | apply below_alloc | apply pw_below_drewN | apply below_drew1 | refine below_set ?_ GE355.out | refine below_set ?_ GE364.out) | exact HB.out))))
            have n17_ := Aside0.mk (blk_below (g := gb355) (o := .cells #[.int .u64 a2_0, .int .u64 a2_1] 34 (0, 0)) (by (with_reducible repeat (first | refine blk_drewN ?_ _ | refine blk_drew ?_ | refine blk_alloc ?_ _)); exact BK355.out) hb)
            have n18_ := Aside0.mk (blk_below (g := gb364) (o := .cells #[.int .u64 a2_0, .int .u64 a2_1] 42 (0, 0)) (by (with_reducible repeat (first | refine blk_drewN ?_ _ | refine blk_drew ?_ | refine blk_alloc ?_ _)); exact BK364.out) hb)
            have n19_ := Aside0.mk (below_step (by repeat (first | (with_reducible first | exact HB.out | apply below_alloc | apply pw_below_drewN | apply below_drew1 | refine below_set ?_ GE355.out | refine below_set ?_ GE364.out) | exact HB.out)) hb)
            clear HO367
            clear HO370
            clear HO373
            clear HO376
            clear HO379
            clear HO382
            clear HO385
            clear HO391
            clear HO397
            clear HO400
            clear HO403
            clear HO407
            clear HO410
            clear HO413
            clear HO417
            clear HO420
            clear BK355
            clear BK364
            clear HB
            have HO367 := n0_
            have HO370 := n1_
            have HO373 := n2_
            have HO376 := n3_
            have HO379 := n4_
            have HO382 := n5_
            have HO385 := n6_
            have HO391 := n7_
            have HO397 := n8_
            have HO400 := n9_
            have HO403 := n10_
            have HO407 := n11_
            have HO410 := n12_
            have HO413 := n13_
            have HO417 := n14_
            have HO420 := n15_
            have HO423 := n16_
            have BK355 := n17_
            have BK364 := n18_
            have HB := n19_
            clear n0_ n1_ n2_ n3_ n4_ n5_ n6_ n7_ n8_ n9_ n10_ n11_ n12_ n13_ n14_ n15_ n16_ n17_ n18_ n19_
            (try clear hb)
            (try clear hb2)
            (try clear hk)
            (try clear hi)
            (try clear ho0)
            obtain ⟨Ao106, co106, eo106⟩ := Kd.R_slice HO420.out
            (first | subst eo106 | (injection eo106 with f1_ f2_ f3_; have f4_ := f1_.symm; have f5_ := f3_.symm; clear f1_ f2_ f3_; subst f4_; subst f5_))
            obtain ⟨Ao107, co107, eo107⟩ := Kd.R_slice HO423.out
            (first | subst eo107 | (injection eo107 with f1_ f2_ f3_; have f4_ := f1_.symm; have f5_ := f3_.symm; clear f1_ f2_ f3_; subst f4_; subst f5_))
            refine hK.out _ _ ⟨(blk_cell BK355.out 0).trans rfl, (blk_cell BK355.out 1).trans rfl, (blk_cell BK364.out 0).trans rfl, (blk_cell BK364.out 1).trans rfl⟩ (fun hHeld => ?_)
            clear hK K
            refine norm_ (a' := ?_) ?_ ?_
            rotate_left
            ·show Act.put _ (some 96) _ = _
             simp only [Act.put, List.setIfInBounds_toArray, List.set_cons_zero, List.set_cons_succ, i64_w, i32_w]
             rfl
            refine one_ (i := 53) (N := some 97) #[true,true,true,true,true,true,true,true,true,true,true,true,true,true,true,true,true,true,true,true,true,true,true,true,true,true,true,true,true,true,true,true,true,true,true,true,true,true,true,true,true,true,true,true,true,true,true,true,true,true,true,true,true,true,false,false,false,false,false,false,false,false,false,false,false,false,false,false,false,false,false,false,false] rfl rfl (one_of HT_.out (by kernel_rfl)) (by decide) (fun K hK => ?_)
            refine goes_ Try.func16 (by kernel_rfl) rfl #[.slice Ao106 t418.length co106, .slice Ao107 t421.length co107] (by rfl) rfl rfl (by (try simp only [List.map_toArray, List.map_cons, List.map_nil]); first | done | rfl | (simp only [List.length_drop, List.length_take]; rfl)) ?_
            with_reducible refine (dominoref03_Same.calls kj4 _ _ t418 _ _ t421 true _ ?side1 ?side2 ?side3 ?side4 A57.out).mono ?_
            (case side1 => repeat (first | exact (Kd.R_reads' HO420.out).2.2 | (with_reducible refine Kd.C_alloc ?_ _) | (with_reducible refine Kd.C_drewN ?_ _) | (with_reducible refine Kd.C_drew ?_)))
            (case side2 => exact (Kd.R_reads' HO420.out).2.1)
            (case side3 => repeat (first | exact (Kd.R_reads' HO423.out).2.2 | (with_reducible refine Kd.C_alloc ?_ _) | (with_reducible refine Kd.C_drewN ?_ _) | (with_reducible refine Kd.C_drew ?_)))
            (case side4 => exact (Kd.R_reads' HO423.out).2.1)
            rintro e w' ⟨rfl, ⟨nd, rfl⟩⟩
            refine ⟨_, rfl, ?_⟩
            refine hK.out _ _ ⟨(blk_cell BK355.out 0).trans rfl, (blk_cell BK355.out 1).trans rfl, (blk_cell BK364.out 0).trans rfl, (blk_cell BK364.out 1).trans rfl⟩ (fun hHeld => ?_)
            clear hK K
            refine norm_ (a' := ?_) ?_ ?_
            rotate_left
            ·show Act.put _ (some 97) _ = _
             simp only [Act.put, List.setIfInBounds_toArray, List.set_cons_zero, List.set_cons_succ, i64_w, i32_w]
             rfl
            refine pure_ (i := 54) (N := some 98) (v := ?_) (a' := ?_) #[true,true,true,true,true,true,true,true,true,true,true,true,true,true,true,true,true,true,true,true,true,true,true,true,true,true,true,true,true,true,true,true,true,true,true,true,true,true,true,true,true,true,true,true,true,true,true,true,true,true,true,true,true,true,true,false,false,false,false,false,false,false,false,false,false,false,false,false,false,false,false,false,false] rfl rfl (any_of HT_.out (by kernel_rfl)) (fun _ _ _ h => h) (Or.inl ⟨by rfl, ?_⟩) ?_ ?_
            rotate_left;(intro w';go_simp;with_reducible rfl);rotate_left;(simp only [Act.put, List.setIfInBounds_toArray, List.set_cons_zero, List.set_cons_succ, i64_w, i32_w];rfl)
            refine pure_ (i := 55) (N := some 99) (v := ?_) (a' := ?_) #[true,true,true,true,true,true,true,true,true,true,true,true,true,true,true,true,true,true,true,true,true,true,true,true,true,true,true,true,true,true,true,true,true,true,true,true,true,true,true,true,true,true,true,true,true,true,true,true,true,true,true,true,true,true,true,true,false,false,false,false,false,false,false,false,false,false,false,false,false,false,false,false,false] rfl rfl (any_of HT_.out (by kernel_rfl)) (fun _ _ _ h => h) (Or.inl ⟨by rfl, ?_⟩) ?_ ?_
            rotate_left;(intro w';go_simp;with_reducible rfl);rotate_left;(simp only [Act.put, List.setIfInBounds_toArray, List.set_cons_zero, List.set_cons_succ, i64_w, i32_w];rfl)
            refine pure_ (i := 56) (N := some 100) (v := ?_) (a' := ?_) #[true,true,true,true,true,true,true,true,true,true,true,true,true,true,true,true,true,true,true,true,true,true,true,true,true,true,true,true,true,true,true,true,true,true,true,true,true,true,true,true,true,true,true,true,true,true,true,true,true,true,true,true,true,true,true,true,true,false,false,false,false,false,false,false,false,false,false,false,false,false,false,false,false] rfl rfl (any_of HT_.out (by kernel_rfl)) (fun _ _ _ h => h) (Or.inl ⟨by rfl, ?_⟩) ?_ ?_
            rotate_left;(intro w';go_simp;with_reducible rfl);rotate_left;(simp only [Act.put, List.setIfInBounds_toArray, List.set_cons_zero, List.set_cons_succ, i64_w, i32_w];rfl)
            refine pure_ (i := 60) (N := some 104) (v := ?_) (a' := ?_) #[true,true,true,true,true,true,true,true,true,true,true,true,true,true,true,true,true,true,true,true,true,true,true,true,true,true,true,true,true,true,true,true,true,true,true,true,true,true,true,true,true,true,true,true,true,true,true,true,true,true,true,true,true,true,true,true,true,false,false,false,true,false,false,false,false,false,false,false,false,false,false,false,false] rfl rfl (any_of HT_.out (by kernel_rfl)) (fun _ _ _ h => h) (Or.inl ⟨by rfl, ?_⟩) ?_ ?_
            rotate_left;(intro w';go_simp;with_reducible rfl);rotate_left;(simp only [Act.put, List.setIfInBounds_toArray, List.set_cons_zero, List.set_cons_succ, i64_w, i32_w];rfl)
            refine take_ (i := 57) (N := some 101) (v := ?_) (a' := ?_) #[true,true,true,true,true,true,true,true,true,true,true,true,true,true,true,true,true,true,true,true,true,true,true,true,true,true,true,true,true,true,true,true,true,true,true,true,true,true,true,true,true,true,true,true,true,true,true,true,true,true,true,true,true,true,true,true,true,true,false,false,true,false,false,false,false,false,false,false,false,false,false,false,false] rfl rfl (take_ofW HT_.out HW_.out (by kernel_rfl)) (fun _ _ _ h => h) (Or.inl ⟨by rfl, ?_⟩) hHeld ?_ ?_
            rotate_left
            ·rintro w' ⟨s0, s1, s2, s3⟩
             go_simp
             with_reducible rfl
            rotate_left
            ·simp only [Act.put, List.setIfInBounds_toArray, List.set_cons_zero, List.set_cons_succ, i64_w, i32_w]
             rfl
            refine take_ (i := 61) (N := some 105) (v := ?_) (a' := ?_) #[true,true,true,true,true,true,true,true,true,true,true,true,true,true,true,true,true,true,true,true,true,true,true,true,true,true,true,true,true,true,true,true,true,true,true,true,true,true,true,true,true,true,true,true,true,true,true,true,true,true,true,true,true,true,true,true,true,true,false,false,true,true,false,false,false,false,false,false,false,false,false,false,false] rfl rfl (take_ofW HT_.out HW_.out (by kernel_rfl)) (fun _ _ _ h => h) (Or.inl ⟨by rfl, ?_⟩) hHeld ?_ ?_
            rotate_left
            ·rintro w' ⟨s0, s1, s2, s3⟩
             go_simp
             with_reducible rfl
            rotate_left
            ·simp only [Act.put, List.setIfInBounds_toArray, List.set_cons_zero, List.set_cons_succ, i64_w, i32_w]
             rfl
            refine one_ (i := 58) (N := some 102) #[true,true,true,true,true,true,true,true,true,true,true,true,true,true,true,true,true,true,true,true,true,true,true,true,true,true,true,true,true,true,true,true,true,true,true,true,true,true,true,true,true,true,true,true,true,true,true,true,true,true,true,true,true,true,true,true,true,true,true,false,true,true,false,false,false,false,false,false,false,false,false,false,false] rfl rfl (one_of HT_.out (by kernel_rfl)) (by decide) (fun K hK => ?_)
            refine goes_ Try.func20 (by kernel_rfl) rfl #[.slice Ao79 t365.length co79, .agg #[.int .u64 a2_0, .int .u64 a2_1]] (by rfl) rfl rfl (by (try simp only [List.map_toArray, List.map_cons, List.map_nil]); first | done | rfl | (simp only [List.length_drop, List.length_take]; rfl)) ?_
            with_reducible refine (ranges_Gaps.calls kj4 _ _ t365 a2_0 a2_1 t425 _ ?side1 ?side2 A59.out).mono ?_
            (case side1 => repeat (first | exact (Kd.R_reads' HO367.out).2.2 | (with_reducible refine Kd.C_alloc ?_ _) | (with_reducible refine Kd.C_drewN ?_ _) | (with_reducible refine Kd.C_drew ?_)))
            (case side2 => exact (Kd.R_reads' HO367.out).2.1)
            rintro e w108 ⟨v426, rfl, ho0, hb⟩
            refine ⟨_, rfl, ?_⟩
            have n0_ := Aside0.mk (Kd.R_elder' (by (with_reducible repeat (first | apply Kd.R_alloc | apply Kd.R_drewN | apply Kd.R_drew)); exact HO367.out) (Kd.R_base ho0) hb)
            have n1_ := Aside0.mk (Kd.R_elder' (by (with_reducible repeat (first | apply Kd.R_alloc | apply Kd.R_drewN | apply Kd.R_drew)); exact HO370.out) (Kd.R_base ho0) hb)
            have n2_ := Aside0.mk (Kd.R_below (by (with_reducible repeat (first | apply Kd.R_alloc | apply Kd.R_drewN | apply Kd.R_drew)); exact HO373.out) hb)
            have n3_ := Aside0.mk (Kd.R_below (by (with_reducible repeat (first | apply Kd.R_alloc | apply Kd.R_drewN | apply Kd.R_drew)); exact HO376.out) hb)
            have n4_ := Aside0.mk (Kd.R_below (by (with_reducible repeat (first | apply Kd.R_alloc | apply Kd.R_drewN | apply Kd.R_drew)); exact HO379.out) hb)
            have n5_ := Aside0.mk (Kd.R_below (by (with_reducible repeat (first | apply Kd.R_alloc | apply Kd.R_drewN | apply Kd.R_drew)); exact HO382.out) hb)
            have n6_ := Aside0.mk (Kd.R_below (by (with_reducible repeat (first | apply Kd.R_alloc | apply Kd.R_drewN | apply Kd.R_drew)); exact HO385.out) hb)
            have n7_ := Aside0.mk (Kd.R_below (by (with_reducible repeat (first | apply Kd.R_alloc | apply Kd.R_drewN | apply Kd.R_drew)); exact HO391.out) hb)
            have n8_ := Aside0.mk (Kd.R_elder' (by (with_reducible repeat (first | apply Kd.R_alloc | apply Kd.R_drewN | apply Kd.R_drew)); exact HO397.out) (Kd.R_base ho0) hb)
            have n9_ := Aside0.mk (Kd.R_below (by (with_reducible repeat (first | apply Kd.R_alloc | apply Kd.R_drewN | apply Kd.R_drew)); exact HO400.out) hb)
            have n10_ := Aside0.mk (Kd.R_below (by (with_reducible repeat (first | apply Kd.R_alloc | apply Kd.R_drewN | apply Kd.R_drew)); exact HO403.out) hb)
            have n11_ := Aside0.mk (Kd.R_elder' (by (with_reducible repeat (first | apply Kd.R_alloc | apply Kd.R_drewN | apply Kd.R_drew)); exact HO407.out) (Kd.R_base ho0) hb)
            have n12_ := Aside0.mk (Kd.R_below (by (with_reducible repeat (first | apply Kd.R_alloc | apply Kd.R_drewN | apply Kd.R_drew)); exact HO410.out) hb)
            have n13_ := Aside0.mk (Kd.R_below (by (with_reducible repeat (first | apply Kd.R_alloc | apply Kd.R_drewN | apply Kd.R_drew)); exact HO413.out) hb)
            have n14_ := Aside0.mk (Kd.R_elder' (by (with_reducible repeat (first | apply Kd.R_alloc | apply Kd.R_drewN | apply Kd.R_drew)); exact HO417.out) (Kd.R_base ho0) hb)
            have n15_ := Aside0.mk (Kd.R_below (by (with_reducible repeat (first | apply Kd.R_alloc | apply Kd.R_drewN | apply Kd.R_drew)); exact HO420.out) hb)
            have n16_ := Aside0.mk (Kd.R_below (by (with_reducible repeat (first | apply Kd.R_alloc | apply Kd.R_drewN | apply Kd.R_drew)); exact HO423.out) hb)
            have n17_ := Aside0.mk (Kd.R_lower (Kd.R_newB (Kd.R_new' (Kd.R_new' (Kd.R_new' (Kd.R_new' (Kd.R_new' ho0 (Kd.R_lt (by (with_reducible repeat (first | apply Kd.R_alloc | apply Kd.R_drewN | apply Kd.R_drew)); exact HO367.out))) (Kd.R_lt (by (with_reducible repeat (first | apply Kd.R_alloc | apply Kd.R_drewN | apply Kd.R_drew)); exact HO370.out))) (Kd.R_lt (by (with_reducible repeat (first | apply Kd.R_alloc | apply Kd.R_drewN | apply Kd.R_drew)); exact HO397.out))) (Kd.R_lt (by (with_reducible repeat (first | apply Kd.R_alloc | apply Kd.R_drewN | apply Kd.R_drew)); exact HO407.out))) (Kd.R_lt (by (with_reducible repeat (first | apply Kd.R_alloc | apply Kd.R_drewN | apply Kd.R_drew)); exact HO417.out))) (g := gb355) (o := .cells #[.int .u64 a2_0, .int .u64 a2_1] 34 (0, 0)) (by (with_reducible repeat (first | refine blk_drewN ?_ _ | refine blk_drew ?_ | refine blk_alloc ?_ _)); exact BK355.out)) (below_size (by repeat (first | (with_reducible first | exact HB.out | apply below_alloc | apply pw_below_drewN | apply below_drew1 | refine below_set ?_ GE355.out | refine below_set ?_ GE364.out) | exact HB.out))))
            have n18_ := Aside0.mk (blk_below (g := gb355) (o := .cells #[.int .u64 a2_0, .int .u64 a2_1] 34 (0, 0)) (by (with_reducible repeat (first | refine blk_drewN ?_ _ | refine blk_drew ?_ | refine blk_alloc ?_ _)); exact BK355.out) hb)
            have n19_ := Aside0.mk (blk_below (g := gb364) (o := .cells #[.int .u64 a2_0, .int .u64 a2_1] 42 (0, 0)) (by (with_reducible repeat (first | refine blk_drewN ?_ _ | refine blk_drew ?_ | refine blk_alloc ?_ _)); exact BK364.out) hb)
            have n20_ := Aside0.mk (below_step (by repeat (first | (with_reducible first | exact HB.out | apply below_alloc | apply pw_below_drewN | apply below_drew1 | refine below_set ?_ GE355.out | refine below_set ?_ GE364.out) | exact HB.out)) hb)
            clear HO367
            clear HO370
            clear HO373
            clear HO376
            clear HO379
            clear HO382
            clear HO385
            clear HO391
            clear HO397
            clear HO400
            clear HO403
            clear HO407
            clear HO410
            clear HO413
            clear HO417
            clear HO420
            clear HO423
            clear BK355
            clear BK364
            clear HB
            have HO367 := n0_
            have HO370 := n1_
            have HO373 := n2_
            have HO376 := n3_
            have HO379 := n4_
            have HO382 := n5_
            have HO385 := n6_
            have HO391 := n7_
            have HO397 := n8_
            have HO400 := n9_
            have HO403 := n10_
            have HO407 := n11_
            have HO410 := n12_
            have HO413 := n13_
            have HO417 := n14_
            have HO420 := n15_
            have HO423 := n16_
            have HO427 := n17_
            have BK355 := n18_
            have BK364 := n19_
            have HB := n20_
            clear n0_ n1_ n2_ n3_ n4_ n5_ n6_ n7_ n8_ n9_ n10_ n11_ n12_ n13_ n14_ n15_ n16_ n17_ n18_ n19_ n20_
            (try clear hb)
            (try clear hb2)
            (try clear hk)
            (try clear hi)
            (try clear ho0)
            obtain ⟨Ao109, co109, eo109⟩ := Kd.R_slice HO427.out
            (first | subst eo109 | (injection eo109 with f1_ f2_ f3_; have f4_ := f1_.symm; have f5_ := f3_.symm; clear f1_ f2_ f3_; subst f4_; subst f5_))
            refine hK.out _ _ ⟨(blk_cell BK355.out 0).trans rfl, (blk_cell BK355.out 1).trans rfl, (blk_cell BK364.out 0).trans rfl, (blk_cell BK364.out 1).trans rfl⟩ (fun hHeld => ?_)
            clear hK K
            refine norm_ (a' := ?_) ?_ ?_
            rotate_left
            ·show Act.put _ (some 102) _ = _
             simp only [Act.put, List.setIfInBounds_toArray, List.set_cons_zero, List.set_cons_succ, i64_w, i32_w]
             rfl
            refine one_ (i := 59) (N := some 103) #[true,true,true,true,true,true,true,true,true,true,true,true,true,true,true,true,true,true,true,true,true,true,true,true,true,true,true,true,true,true,true,true,true,true,true,true,true,true,true,true,true,true,true,true,true,true,true,true,true,true,true,true,true,true,true,true,true,true,true,true,true,true,false,false,false,false,false,false,false,false,false,false,false] rfl rfl (one_of HT_.out (by kernel_rfl)) (by decide) (fun K hK => ?_)
            refine goes_ Try.func13 (by kernel_rfl) rfl #[.slice Ao109 t425.length co109] (by rfl) rfl rfl (by (try simp only [List.map_toArray, List.map_cons, List.map_nil]); first | done | rfl | (simp only [List.length_drop, List.length_take]; rfl)) ?_
            with_reducible refine (dominolaw03_its.calls kj4 _ _ t425 t428 _ ?side1 ?side2 A60.out).mono ?_
            (case side1 => repeat (first | exact (Kd.R_reads' HO427.out).2.2 | (with_reducible refine Kd.C_alloc ?_ _) | (with_reducible refine Kd.C_drewN ?_ _) | (with_reducible refine Kd.C_drew ?_)))
            (case side2 => exact (Kd.R_reads' HO427.out).2.1)
            rintro e w110 ⟨v429, rfl, ho0, hb⟩
            refine ⟨_, rfl, ?_⟩
            have n0_ := Aside0.mk (Kd.R_below (by (with_reducible repeat (first | apply Kd.R_alloc | apply Kd.R_drewN | apply Kd.R_drew)); exact HO367.out) hb)
            have n1_ := Aside0.mk (Kd.R_below (by (with_reducible repeat (first | apply Kd.R_alloc | apply Kd.R_drewN | apply Kd.R_drew)); exact HO370.out) hb)
            have n2_ := Aside0.mk (Kd.R_elder' (by (with_reducible repeat (first | apply Kd.R_alloc | apply Kd.R_drewN | apply Kd.R_drew)); exact HO373.out) (Kd.R_base ho0) hb)
            have n3_ := Aside0.mk (Kd.R_elder' (by (with_reducible repeat (first | apply Kd.R_alloc | apply Kd.R_drewN | apply Kd.R_drew)); exact HO376.out) (Kd.R_base ho0) hb)
            have n4_ := Aside0.mk (Kd.R_elder' (by (with_reducible repeat (first | apply Kd.R_alloc | apply Kd.R_drewN | apply Kd.R_drew)); exact HO379.out) (Kd.R_base ho0) hb)
            have n5_ := Aside0.mk (Kd.R_elder' (by (with_reducible repeat (first | apply Kd.R_alloc | apply Kd.R_drewN | apply Kd.R_drew)); exact HO382.out) (Kd.R_base ho0) hb)
            have n6_ := Aside0.mk (Kd.R_elder' (by (with_reducible repeat (first | apply Kd.R_alloc | apply Kd.R_drewN | apply Kd.R_drew)); exact HO385.out) (Kd.R_base ho0) hb)
            have n7_ := Aside0.mk (Kd.R_elder' (by (with_reducible repeat (first | apply Kd.R_alloc | apply Kd.R_drewN | apply Kd.R_drew)); exact HO391.out) (Kd.R_base ho0) hb)
            have n8_ := Aside0.mk (Kd.R_below (by (with_reducible repeat (first | apply Kd.R_alloc | apply Kd.R_drewN | apply Kd.R_drew)); exact HO397.out) hb)
            have n9_ := Aside0.mk (Kd.R_elder' (by (with_reducible repeat (first | apply Kd.R_alloc | apply Kd.R_drewN | apply Kd.R_drew)); exact HO400.out) (Kd.R_base ho0) hb)
            have n10_ := Aside0.mk (Kd.R_elder' (by (with_reducible repeat (first | apply Kd.R_alloc | apply Kd.R_drewN | apply Kd.R_drew)); exact HO403.out) (Kd.R_base ho0) hb)
            have n11_ := Aside0.mk (Kd.R_below (by (with_reducible repeat (first | apply Kd.R_alloc | apply Kd.R_drewN | apply Kd.R_drew)); exact HO407.out) hb)
            have n12_ := Aside0.mk (Kd.R_elder' (by (with_reducible repeat (first | apply Kd.R_alloc | apply Kd.R_drewN | apply Kd.R_drew)); exact HO410.out) (Kd.R_base ho0) hb)
            have n13_ := Aside0.mk (Kd.R_elder' (by (with_reducible repeat (first | apply Kd.R_alloc | apply Kd.R_drewN | apply Kd.R_drew)); exact HO413.out) (Kd.R_base ho0) hb)
            have n14_ := Aside0.mk (Kd.R_below (by (with_reducible repeat (first | apply Kd.R_alloc | apply Kd.R_drewN | apply Kd.R_drew)); exact HO417.out) hb)
            have n15_ := Aside0.mk (Kd.R_elder' (by (with_reducible repeat (first | apply Kd.R_alloc | apply Kd.R_drewN | apply Kd.R_drew)); exact HO420.out) (Kd.R_base ho0) hb)
            have n16_ := Aside0.mk (Kd.R_elder' (by (with_reducible repeat (first | apply Kd.R_alloc | apply Kd.R_drewN | apply Kd.R_drew)); exact HO423.out) (Kd.R_base ho0) hb)
            have n17_ := Aside0.mk (Kd.R_below (by (with_reducible repeat (first | apply Kd.R_alloc | apply Kd.R_drewN | apply Kd.R_drew)); exact HO427.out) hb)
            have n18_ := Aside0.mk (Kd.R_lower (Kd.R_newB (Kd.R_new' (Kd.R_new' (Kd.R_new' (Kd.R_new' (Kd.R_new' (Kd.R_new' (Kd.R_new' (Kd.R_new' (Kd.R_new' (Kd.R_new' (Kd.R_new' (Kd.R_new' ho0 (Kd.R_lt (by (with_reducible repeat (first | apply Kd.R_alloc | apply Kd.R_drewN | apply Kd.R_drew)); exact HO373.out))) (Kd.R_lt (by (with_reducible repeat (first | apply Kd.R_alloc | apply Kd.R_drewN | apply Kd.R_drew)); exact HO376.out))) (Kd.R_lt (by (with_reducible repeat (first | apply Kd.R_alloc | apply Kd.R_drewN | apply Kd.R_drew)); exact HO379.out))) (Kd.R_lt (by (with_reducible repeat (first | apply Kd.R_alloc | apply Kd.R_drewN | apply Kd.R_drew)); exact HO382.out))) (Kd.R_lt (by (with_reducible repeat (first | apply Kd.R_alloc | apply Kd.R_drewN | apply Kd.R_drew)); exact HO385.out))) (Kd.R_lt (by (with_reducible repeat (first | apply Kd.R_alloc | apply Kd.R_drewN | apply Kd.R_drew)); exact HO391.out))) (Kd.R_lt (by (with_reducible repeat (first | apply Kd.R_alloc | apply Kd.R_drewN | apply Kd.R_drew)); exact HO400.out))) (Kd.R_lt (by (with_reducible repeat (first | apply Kd.R_alloc | apply Kd.R_drewN | apply Kd.R_drew)); exact HO403.out))) (Kd.R_lt (by (with_reducible repeat (first | apply Kd.R_alloc | apply Kd.R_drewN | apply Kd.R_drew)); exact HO410.out))) (Kd.R_lt (by (with_reducible repeat (first | apply Kd.R_alloc | apply Kd.R_drewN | apply Kd.R_drew)); exact HO413.out))) (Kd.R_lt (by (with_reducible repeat (first | apply Kd.R_alloc | apply Kd.R_drewN | apply Kd.R_drew)); exact HO420.out))) (Kd.R_lt (by (with_reducible repeat (first | apply Kd.R_alloc | apply Kd.R_drewN | apply Kd.R_drew)); exact HO423.out))) (g := gb364) (o := .cells #[.int .u64 a2_0, .int .u64 a2_1] 42 (0, 0)) (by (with_reducible repeat (first | refine blk_drewN ?_ _ | refine blk_drew ?_ | refine blk_alloc ?_ _)); exact BK364.out)) (below_size (by repeat (first | (with_reducible first | exact HB.out | apply below_alloc | apply pw_below_drewN | apply below_drew1 | refine below_set ?_ GE355.out | refine below_set ?_ GE364.out) | exact HB.out))))
            have n19_ := Aside0.mk (blk_below (g := gb355) (o := .cells #[.int .u64 a2_0, .int .u64 a2_1] 34 (0, 0)) (by (with_reducible repeat (first | refine blk_drewN ?_ _ | refine blk_drew ?_ | refine blk_alloc ?_ _)); exact BK355.out) hb)
            have n20_ := Aside0.mk (blk_below (g := gb364) (o := .cells #[.int .u64 a2_0, .int .u64 a2_1] 42 (0, 0)) (by (with_reducible repeat (first | refine blk_drewN ?_ _ | refine blk_drew ?_ | refine blk_alloc ?_ _)); exact BK364.out) hb)
            have n21_ := Aside0.mk (below_step (by repeat (first | (with_reducible first | exact HB.out | apply below_alloc | apply pw_below_drewN | apply below_drew1 | refine below_set ?_ GE355.out | refine below_set ?_ GE364.out) | exact HB.out)) hb)
            clear HO367
            clear HO370
            clear HO373
            clear HO376
            clear HO379
            clear HO382
            clear HO385
            clear HO391
            clear HO397
            clear HO400
            clear HO403
            clear HO407
            clear HO410
            clear HO413
            clear HO417
            clear HO420
            clear HO423
            clear HO427
            clear BK355
            clear BK364
            clear HB
            have HO367 := n0_
            have HO370 := n1_
            have HO373 := n2_
            have HO376 := n3_
            have HO379 := n4_
            have HO382 := n5_
            have HO385 := n6_
            have HO391 := n7_
            have HO397 := n8_
            have HO400 := n9_
            have HO403 := n10_
            have HO407 := n11_
            have HO410 := n12_
            have HO413 := n13_
            have HO417 := n14_
            have HO420 := n15_
            have HO423 := n16_
            have HO427 := n17_
            have HO430 := n18_
            have BK355 := n19_
            have BK364 := n20_
            have HB := n21_
            clear n0_ n1_ n2_ n3_ n4_ n5_ n6_ n7_ n8_ n9_ n10_ n11_ n12_ n13_ n14_ n15_ n16_ n17_ n18_ n19_ n20_ n21_
            (try clear hb)
            (try clear hb2)
            (try clear hk)
            (try clear hi)
            (try clear ho0)
            refine hK.out _ _ ⟨(blk_cell BK355.out 0).trans rfl, (blk_cell BK355.out 1).trans rfl, (blk_cell BK364.out 0).trans rfl, (blk_cell BK364.out 1).trans rfl⟩ (fun hHeld => ?_)
            clear hK K
            refine norm_ (a' := ?_) ?_ ?_
            rotate_left
            ·show Act.put _ (some 103) _ = _
             simp only [Act.put, List.setIfInBounds_toArray, List.set_cons_zero, List.set_cons_succ, i64_w, i32_w]
             rfl
            refine one_ (i := 62) (N := some 106) #[true,true,true,true,true,true,true,true,true,true,true,true,true,true,true,true,true,true,true,true,true,true,true,true,true,true,true,true,true,true,true,true,true,true,true,true,true,true,true,true,true,true,true,true,true,true,true,true,true,true,true,true,true,true,true,true,true,true,true,true,true,true,true,false,false,false,false,false,false,false,false,false,false] rfl rfl (one_of HT_.out (by kernel_rfl)) (by decide) (fun K hK => ?_)
            refine goes_ Try.func27 (by kernel_rfl) rfl #[.slice Ao82 t374.length co82, .agg #[.int .u64 a2_0, .int .u64 a2_1]] (by rfl) rfl rfl (by (try simp only [List.map_toArray, List.map_cons, List.map_nil]); first | done | rfl | (simp only [List.length_drop, List.length_take]; rfl)) ?_
            with_reducible refine (dominoref03_Gaps.calls kj4 _ _ t374 a2_0 a2_1 t431 _ ?side1 ?side2 A61.out).mono ?_
            (case side1 => repeat (first | exact (Kd.R_reads' HO376.out).2.2 | (with_reducible refine Kd.C_alloc ?_ _) | (with_reducible refine Kd.C_drewN ?_ _) | (with_reducible refine Kd.C_drew ?_)))
            (case side2 => exact (Kd.R_reads' HO376.out).2.1)
            rintro e w111 ⟨v432, rfl, ho0, hb⟩
            refine ⟨_, rfl, ?_⟩
            have n0_ := Aside0.mk (Kd.R_below (by (with_reducible repeat (first | apply Kd.R_alloc | apply Kd.R_drewN | apply Kd.R_drew)); exact HO367.out) hb)
            have n1_ := Aside0.mk (Kd.R_below (by (with_reducible repeat (first | apply Kd.R_alloc | apply Kd.R_drewN | apply Kd.R_drew)); exact HO370.out) hb)
            have n2_ := Aside0.mk (Kd.R_elder' (by (with_reducible repeat (first | apply Kd.R_alloc | apply Kd.R_drewN | apply Kd.R_drew)); exact HO373.out) (Kd.R_base ho0) hb)
            have n3_ := Aside0.mk (Kd.R_elder' (by (with_reducible repeat (first | apply Kd.R_alloc | apply Kd.R_drewN | apply Kd.R_drew)); exact HO376.out) (Kd.R_base ho0) hb)
            have n4_ := Aside0.mk (Kd.R_elder' (by (with_reducible repeat (first | apply Kd.R_alloc | apply Kd.R_drewN | apply Kd.R_drew)); exact HO379.out) (Kd.R_base ho0) hb)
            have n5_ := Aside0.mk (Kd.R_elder' (by (with_reducible repeat (first | apply Kd.R_alloc | apply Kd.R_drewN | apply Kd.R_drew)); exact HO382.out) (Kd.R_base ho0) hb)
            have n6_ := Aside0.mk (Kd.R_elder' (by (with_reducible repeat (first | apply Kd.R_alloc | apply Kd.R_drewN | apply Kd.R_drew)); exact HO385.out) (Kd.R_base ho0) hb)
            have n7_ := Aside0.mk (Kd.R_elder' (by (with_reducible repeat (first | apply Kd.R_alloc | apply Kd.R_drewN | apply Kd.R_drew)); exact HO391.out) (Kd.R_base ho0) hb)
            have n8_ := Aside0.mk (Kd.R_below (by (with_reducible repeat (first | apply Kd.R_alloc | apply Kd.R_drewN | apply Kd.R_drew)); exact HO397.out) hb)
            have n9_ := Aside0.mk (Kd.R_elder' (by (with_reducible repeat (first | apply Kd.R_alloc | apply Kd.R_drewN | apply Kd.R_drew)); exact HO400.out) (Kd.R_base ho0) hb)
            have n10_ := Aside0.mk (Kd.R_elder' (by (with_reducible repeat (first | apply Kd.R_alloc | apply Kd.R_drewN | apply Kd.R_drew)); exact HO403.out) (Kd.R_base ho0) hb)
            have n11_ := Aside0.mk (Kd.R_below (by (with_reducible repeat (first | apply Kd.R_alloc | apply Kd.R_drewN | apply Kd.R_drew)); exact HO407.out) hb)
            have n12_ := Aside0.mk (Kd.R_elder' (by (with_reducible repeat (first | apply Kd.R_alloc | apply Kd.R_drewN | apply Kd.R_drew)); exact HO410.out) (Kd.R_base ho0) hb)
            have n13_ := Aside0.mk (Kd.R_elder' (by (with_reducible repeat (first | apply Kd.R_alloc | apply Kd.R_drewN | apply Kd.R_drew)); exact HO413.out) (Kd.R_base ho0) hb)
            have n14_ := Aside0.mk (Kd.R_below (by (with_reducible repeat (first | apply Kd.R_alloc | apply Kd.R_drewN | apply Kd.R_drew)); exact HO417.out) hb)
            have n15_ := Aside0.mk (Kd.R_elder' (by (with_reducible repeat (first | apply Kd.R_alloc | apply Kd.R_drewN | apply Kd.R_drew)); exact HO420.out) (Kd.R_base ho0) hb)
            have n16_ := Aside0.mk (Kd.R_elder' (by (with_reducible repeat (first | apply Kd.R_alloc | apply Kd.R_drewN | apply Kd.R_drew)); exact HO423.out) (Kd.R_base ho0) hb)
            have n17_ := Aside0.mk (Kd.R_below (by (with_reducible repeat (first | apply Kd.R_alloc | apply Kd.R_drewN | apply Kd.R_drew)); exact HO427.out) hb)
            have n18_ := Aside0.mk (Kd.R_elder' (by (with_reducible repeat (first | apply Kd.R_alloc | apply Kd.R_drewN | apply Kd.R_drew)); exact HO430.out) (Kd.R_base ho0) hb)
            have n19_ := Aside0.mk (Kd.R_lower (Kd.R_newB (Kd.R_new' (Kd.R_new' (Kd.R_new' (Kd.R_new' (Kd.R_new' (Kd.R_new' (Kd.R_new' (Kd.R_new' (Kd.R_new' (Kd.R_new' (Kd.R_new' (Kd.R_new' (Kd.R_new' ho0 (Kd.R_lt (by (with_reducible repeat (first | apply Kd.R_alloc | apply Kd.R_drewN | apply Kd.R_drew)); exact HO373.out))) (Kd.R_lt (by (with_reducible repeat (first | apply Kd.R_alloc | apply Kd.R_drewN | apply Kd.R_drew)); exact HO376.out))) (Kd.R_lt (by (with_reducible repeat (first | apply Kd.R_alloc | apply Kd.R_drewN | apply Kd.R_drew)); exact HO379.out))) (Kd.R_lt (by (with_reducible repeat (first | apply Kd.R_alloc | apply Kd.R_drewN | apply Kd.R_drew)); exact HO382.out))) (Kd.R_lt (by (with_reducible repeat (first | apply Kd.R_alloc | apply Kd.R_drewN | apply Kd.R_drew)); exact HO385.out))) (Kd.R_lt (by (with_reducible repeat (first | apply Kd.R_alloc | apply Kd.R_drewN | apply Kd.R_drew)); exact HO391.out))) (Kd.R_lt (by (with_reducible repeat (first | apply Kd.R_alloc | apply Kd.R_drewN | apply Kd.R_drew)); exact HO400.out))) (Kd.R_lt (by (with_reducible repeat (first | apply Kd.R_alloc | apply Kd.R_drewN | apply Kd.R_drew)); exact HO403.out))) (Kd.R_lt (by (with_reducible repeat (first | apply Kd.R_alloc | apply Kd.R_drewN | apply Kd.R_drew)); exact HO410.out))) (Kd.R_lt (by (with_reducible repeat (first | apply Kd.R_alloc | apply Kd.R_drewN | apply Kd.R_drew)); exact HO413.out))) (Kd.R_lt (by (with_reducible repeat (first | apply Kd.R_alloc | apply Kd.R_drewN | apply Kd.R_drew)); exact HO420.out))) (Kd.R_lt (by (with_reducible repeat (first | apply Kd.R_alloc | apply Kd.R_drewN | apply Kd.R_drew)); exact HO423.out))) (Kd.R_lt (by (with_reducible repeat (first | apply Kd.R_alloc | apply Kd.R_drewN | apply Kd.R_drew)); exact HO430.out))) (g := gb364) (o := .cells #[.int .u64 a2_0, .int .u64 a2_1] 42 (0, 0)) (by (with_reducible repeat (first | refine blk_drewN ?_ _ | refine blk_drew ?_ | refine blk_alloc ?_ _)); exact BK364.out)) (below_size (by repeat (first | (with_reducible first | exact HB.out | apply below_alloc | apply pw_below_drewN | apply below_drew1 | refine below_set ?_ GE355.out | refine below_set ?_ GE364.out) | exact HB.out))))
            have n20_ := Aside0.mk (blk_below (g := gb355) (o := .cells #[.int .u64 a2_0, .int .u64 a2_1] 34 (0, 0)) (by (with_reducible repeat (first | refine blk_drewN ?_ _ | refine blk_drew ?_ | refine blk_alloc ?_ _)); exact BK355.out) hb)
            have n21_ := Aside0.mk (blk_below (g := gb364) (o := .cells #[.int .u64 a2_0, .int .u64 a2_1] 42 (0, 0)) (by (with_reducible repeat (first | refine blk_drewN ?_ _ | refine blk_drew ?_ | refine blk_alloc ?_ _)); exact BK364.out) hb)
            have n22_ := Aside0.mk (below_step (by repeat (first | (with_reducible first | exact HB.out | apply below_alloc | apply pw_below_drewN | apply below_drew1 | refine below_set ?_ GE355.out | refine below_set ?_ GE364.out) | exact HB.out)) hb)
            clear HO367
            clear HO370
            clear HO373
            clear HO376
            clear HO379
            clear HO382
            clear HO385
            clear HO391
            clear HO397
            clear HO400
            clear HO403
            clear HO407
            clear HO410
            clear HO413
            clear HO417
            clear HO420
            clear HO423
            clear HO427
            clear HO430
            clear BK355
            clear BK364
            clear HB
            have HO367 := n0_
            have HO370 := n1_
            have HO373 := n2_
            have HO376 := n3_
            have HO379 := n4_
            have HO382 := n5_
            have HO385 := n6_
            have HO391 := n7_
            have HO397 := n8_
            have HO400 := n9_
            have HO403 := n10_
            have HO407 := n11_
            have HO410 := n12_
            have HO413 := n13_
            have HO417 := n14_
            have HO420 := n15_
            have HO423 := n16_
            have HO427 := n17_
            have HO430 := n18_
            have HO433 := n19_
            have BK355 := n20_
            have BK364 := n21_
            have HB := n22_
            clear n0_ n1_ n2_ n3_ n4_ n5_ n6_ n7_ n8_ n9_ n10_ n11_ n12_ n13_ n14_ n15_ n16_ n17_ n18_ n19_ n20_ n21_ n22_
            (try clear hb)
            (try clear hb2)
            (try clear hk)
            (try clear hi)
            (try clear ho0)
            obtain ⟨Ao112, co112, eo112⟩ := Kd.R_slice HO430.out
            (first | subst eo112 | (injection eo112 with f1_ f2_ f3_; have f4_ := f1_.symm; have f5_ := f3_.symm; clear f1_ f2_ f3_; subst f4_; subst f5_))
            obtain ⟨Ao113, co113, eo113⟩ := Kd.R_slice HO433.out
            (first | subst eo113 | (injection eo113 with f1_ f2_ f3_; have f4_ := f1_.symm; have f5_ := f3_.symm; clear f1_ f2_ f3_; subst f4_; subst f5_))
            refine hK.out _ _ ⟨(blk_cell BK355.out 0).trans rfl, (blk_cell BK355.out 1).trans rfl, (blk_cell BK364.out 0).trans rfl, (blk_cell BK364.out 1).trans rfl⟩ (fun hHeld => ?_)
            clear hK K
            refine norm_ (a' := ?_) ?_ ?_
            rotate_left
            ·show Act.put _ (some 106) _ = _
             simp only [Act.put, List.setIfInBounds_toArray, List.set_cons_zero, List.set_cons_succ, i64_w, i32_w]
             rfl
            refine one_ (i := 63) (N := some 107) #[true,true,true,true,true,true,true,true,true,true,true,true,true,true,true,true,true,true,true,true,true,true,true,true,true,true,true,true,true,true,true,true,true,true,true,true,true,true,true,true,true,true,true,true,true,true,true,true,true,true,true,true,true,true,true,true,true,true,true,true,true,true,true,true,false,false,false,false,false,false,false,false,false] rfl rfl (one_of HT_.out (by kernel_rfl)) (by decide) (fun K hK => ?_)
            refine goes_ Try.func16 (by kernel_rfl) rfl #[.slice Ao112 t428.length co112, .slice Ao113 t431.length co113] (by rfl) rfl rfl (by (try simp only [List.map_toArray, List.map_cons, List.map_nil]); first | done | rfl | (simp only [List.length_drop, List.length_take]; rfl)) ?_
            with_reducible refine (dominoref03_Same.calls kj4 _ _ t428 _ _ t431 true _ ?side1 ?side2 ?side3 ?side4 A62.out).mono ?_
            (case side1 => repeat (first | exact (Kd.R_reads' HO430.out).2.2 | (with_reducible refine Kd.C_alloc ?_ _) | (with_reducible refine Kd.C_drewN ?_ _) | (with_reducible refine Kd.C_drew ?_)))
            (case side2 => exact (Kd.R_reads' HO430.out).2.1)
            (case side3 => repeat (first | exact (Kd.R_reads' HO433.out).2.2 | (with_reducible refine Kd.C_alloc ?_ _) | (with_reducible refine Kd.C_drewN ?_ _) | (with_reducible refine Kd.C_drew ?_)))
            (case side4 => exact (Kd.R_reads' HO433.out).2.1)
            rintro e w' ⟨rfl, ⟨nd, rfl⟩⟩
            refine ⟨_, rfl, ?_⟩
            refine hK.out _ _ ⟨(blk_cell BK355.out 0).trans rfl, (blk_cell BK355.out 1).trans rfl, (blk_cell BK364.out 0).trans rfl, (blk_cell BK364.out 1).trans rfl⟩ (fun hHeld => ?_)
            clear hK K
            refine norm_ (a' := ?_) ?_ ?_
            rotate_left
            ·show Act.put _ (some 107) _ = _
             simp only [Act.put, List.setIfInBounds_toArray, List.set_cons_zero, List.set_cons_succ, i64_w, i32_w]
             rfl
            refine pure_ (i := 64) (N := some 108) (v := ?_) (a' := ?_) #[true,true,true,true,true,true,true,true,true,true,true,true,true,true,true,true,true,true,true,true,true,true,true,true,true,true,true,true,true,true,true,true,true,true,true,true,true,true,true,true,true,true,true,true,true,true,true,true,true,true,true,true,true,true,true,true,true,true,true,true,true,true,true,true,true,false,false,false,false,false,false,false,false] rfl rfl (any_of HT_.out (by kernel_rfl)) (fun _ _ _ h => h) (Or.inl ⟨by rfl, ?_⟩) ?_ ?_
            rotate_left;(intro w';go_simp;with_reducible rfl);rotate_left;(simp only [Act.put, List.setIfInBounds_toArray, List.set_cons_zero, List.set_cons_succ, i64_w, i32_w];rfl)
            refine pure_ (i := 65) (N := some 109) (v := ?_) (a' := ?_) #[true,true,true,true,true,true,true,true,true,true,true,true,true,true,true,true,true,true,true,true,true,true,true,true,true,true,true,true,true,true,true,true,true,true,true,true,true,true,true,true,true,true,true,true,true,true,true,true,true,true,true,true,true,true,true,true,true,true,true,true,true,true,true,true,true,true,false,false,false,false,false,false,false] rfl rfl (any_of HT_.out (by kernel_rfl)) (fun _ _ _ h => h) (Or.inl ⟨by rfl, ?_⟩) ?_ ?_
            rotate_left;(intro w';go_simp;with_reducible rfl);rotate_left;(simp only [Act.put, List.setIfInBounds_toArray, List.set_cons_zero, List.set_cons_succ, i64_w, i32_w];rfl)
            refine pure_ (i := 66) (N := some 110) (v := ?_) (a' := ?_) #[true,true,true,true,true,true,true,true,true,true,true,true,true,true,true,true,true,true,true,true,true,true,true,true,true,true,true,true,true,true,true,true,true,true,true,true,true,true,true,true,true,true,true,true,true,true,true,true,true,true,true,true,true,true,true,true,true,true,true,true,true,true,true,true,true,true,true,false,false,false,false,false,false] rfl rfl (any_of HT_.out (by kernel_rfl)) (fun _ _ _ h => h) (Or.inl ⟨by rfl, ?_⟩) ?_ ?_
            rotate_left;(intro w';go_simp;with_reducible rfl);rotate_left;(simp only [Act.put, List.setIfInBounds_toArray, List.set_cons_zero, List.set_cons_succ, i64_w, i32_w];rfl)
            refine pure_ (i := 68) (N := some 112) (v := ?_) (a' := ?_) #[true,true,true,true,true,true,true,true,true,true,true,true,true,true,true,true,true,true,true,true,true,true,true,true,true,true,true,true,true,true,true,true,true,true,true,true,true,true,true,true,true,true,true,true,true,true,true,true,true,true,true,true,true,true,true,true,true,true,true,true,true,true,true,true,true,true,true,false,true,false,false,false,false] rfl rfl (any_of HT_.out (by kernel_rfl)) (fun _ _ _ h => h) (Or.inl ⟨by rfl, ?_⟩) ?_ ?_
            rotate_left;(intro w';go_simp;with_reducible rfl);rotate_left;(simp only [Act.put, List.setIfInBounds_toArray, List.set_cons_zero, List.set_cons_succ, i64_w, i32_w];rfl)
            refine one_ (i := 67) (N := some 111) #[true,true,true,true,true,true,true,true,true,true,true,true,true,true,true,true,true,true,true,true,true,true,true,true,true,true,true,true,true,true,true,true,true,true,true,true,true,true,true,true,true,true,true,true,true,true,true,true,true,true,true,true,true,true,true,true,true,true,true,true,true,true,true,true,true,true,true,true,true,false,false,false,false] rfl rfl (one_of HT_.out (by kernel_rfl)) (by decide) (fun K hK => ?_)
            refine goes_ Try.func28 (by kernel_rfl) rfl #[.slice Ao79 t365.length co79] (by rfl) rfl rfl (by (try simp only [List.map_toArray, List.map_cons, List.map_nil]); first | done | rfl | (simp only [List.length_drop, List.length_take]; rfl)) ?_
            with_reducible refine (ranges_Count.calls kj4 _ _ t365 t435 _ ?side1 ?side2 A64.out).mono ?_
            (case side1 => repeat (first | exact (Kd.R_reads' HO367.out).2.2 | (with_reducible refine Kd.C_alloc ?_ _) | (with_reducible refine Kd.C_drewN ?_ _) | (with_reducible refine Kd.C_drew ?_)))
            (case side2 => exact (Kd.R_reads' HO367.out).2.1)
            rintro e w114 ⟨rfl, hb⟩
            refine ⟨_, rfl, ?_⟩
            have n0_ := Aside0.mk (Kd.R_below (by (with_reducible repeat (first | apply Kd.R_alloc | apply Kd.R_drewN | apply Kd.R_drew)); exact HO367.out) hb)
            have n1_ := Aside0.mk (Kd.R_below (by (with_reducible repeat (first | apply Kd.R_alloc | apply Kd.R_drewN | apply Kd.R_drew)); exact HO370.out) hb)
            have n2_ := Aside0.mk (Kd.R_below (by (with_reducible repeat (first | apply Kd.R_alloc | apply Kd.R_drewN | apply Kd.R_drew)); exact HO373.out) hb)
            have n3_ := Aside0.mk (Kd.R_below (by (with_reducible repeat (first | apply Kd.R_alloc | apply Kd.R_drewN | apply Kd.R_drew)); exact HO376.out) hb)
            have n4_ := Aside0.mk (Kd.R_below (by (with_reducible repeat (first | apply Kd.R_alloc | apply Kd.R_drewN | apply Kd.R_drew)); exact HO379.out) hb)
            have n5_ := Aside0.mk (Kd.R_below (by (with_reducible repeat (first | apply Kd.R_alloc | apply Kd.R_drewN | apply Kd.R_drew)); exact HO382.out) hb)
            have n6_ := Aside0.mk (Kd.R_below (by (with_reducible repeat (first | apply Kd.R_alloc | apply Kd.R_drewN | apply Kd.R_drew)); exact HO385.out) hb)
            have n7_ := Aside0.mk (Kd.R_below (by (with_reducible repeat (first | apply Kd.R_alloc | apply Kd.R_drewN | apply Kd.R_drew)); exact HO391.out) hb)
            have n8_ := Aside0.mk (Kd.R_below (by (with_reducible repeat (first | apply Kd.R_alloc | apply Kd.R_drewN | apply Kd.R_drew)); exact HO397.out) hb)
            have n9_ := Aside0.mk (Kd.R_below (by (with_reducible repeat (first | apply Kd.R_alloc | apply Kd.R_drewN | apply Kd.R_drew)); exact HO400.out) hb)
            have n10_ := Aside0.mk (Kd.R_below (by (with_reducible repeat (first | apply Kd.R_alloc | apply Kd.R_drewN | apply Kd.R_drew)); exact HO403.out) hb)
            have n11_ := Aside0.mk (Kd.R_below (by (with_reducible repeat (first | apply Kd.R_alloc | apply Kd.R_drewN | apply Kd.R_drew)); exact HO407.out) hb)
            have n12_ := Aside0.mk (Kd.R_below (by (with_reducible repeat (first | apply Kd.R_alloc | apply Kd.R_drewN | apply Kd.R_drew)); exact HO410.out) hb)
            have n13_ := Aside0.mk (Kd.R_below (by (with_reducible repeat (first | apply Kd.R_alloc | apply Kd.R_drewN | apply Kd.R_drew)); exact HO413.out) hb)
            have n14_ := Aside0.mk (Kd.R_below (by (with_reducible repeat (first | apply Kd.R_alloc | apply Kd.R_drewN | apply Kd.R_drew)); exact HO417.out) hb)
            have n15_ := Aside0.mk (Kd.R_below (by (with_reducible repeat (first | apply Kd.R_alloc | apply Kd.R_drewN | apply Kd.R_drew)); exact HO420.out) hb)
            have n16_ := Aside0.mk (Kd.R_below (by (with_reducible repeat (first | apply Kd.R_alloc | apply Kd.R_drewN | apply Kd.R_drew)); exact HO423.out) hb)
            have n17_ := Aside0.mk (Kd.R_below (by (with_reducible repeat (first | apply Kd.R_alloc | apply Kd.R_drewN | apply Kd.R_drew)); exact HO427.out) hb)
            have n18_ := Aside0.mk (Kd.R_below (by (with_reducible repeat (first | apply Kd.R_alloc | apply Kd.R_drewN | apply Kd.R_drew)); exact HO430.out) hb)
            have n19_ := Aside0.mk (Kd.R_below (by (with_reducible repeat (first | apply Kd.R_alloc | apply Kd.R_drewN | apply Kd.R_drew)); exact HO433.out) hb)
            have n20_ := Aside0.mk (blk_below (g := gb355) (o := .cells #[.int .u64 a2_0, .int .u64 a2_1] 34 (0, 0)) (by (with_reducible repeat (first | refine blk_drewN ?_ _ | refine blk_drew ?_ | refine blk_alloc ?_ _)); exact BK355.out) hb)
            have n21_ := Aside0.mk (blk_below (g := gb364) (o := .cells #[.int .u64 a2_0, .int .u64 a2_1] 42 (0, 0)) (by (with_reducible repeat (first | refine blk_drewN ?_ _ | refine blk_drew ?_ | refine blk_alloc ?_ _)); exact BK364.out) hb)
            have n22_ := Aside0.mk (below_step (by repeat (first | (with_reducible first | exact HB.out | apply below_alloc | apply pw_below_drewN | apply below_drew1 | refine below_set ?_ GE355.out | refine below_set ?_ GE364.out) | exact HB.out)) hb)
            clear HO367
            clear HO370
            clear HO373
            clear HO376
            clear HO379
            clear HO382
            clear HO385
            clear HO391
            clear HO397
            clear HO400
            clear HO403
            clear HO407
            clear HO410
            clear HO413
            clear HO417
            clear HO420
            clear HO423
            clear HO427
            clear HO430
            clear HO433
            clear BK355
            clear BK364
            clear HB
            have HO367 := n0_
            have HO370 := n1_
            have HO373 := n2_
            have HO376 := n3_
            have HO379 := n4_
            have HO382 := n5_
            have HO385 := n6_
            have HO391 := n7_
            have HO397 := n8_
            have HO400 := n9_
            have HO403 := n10_
            have HO407 := n11_
            have HO410 := n12_
            have HO413 := n13_
            have HO417 := n14_
            have HO420 := n15_
            have HO423 := n16_
            have HO427 := n17_
            have HO430 := n18_
            have HO433 := n19_
            have BK355 := n20_
            have BK364 := n21_
            have HB := n22_
            clear n0_ n1_ n2_ n3_ n4_ n5_ n6_ n7_ n8_ n9_ n10_ n11_ n12_ n13_ n14_ n15_ n16_ n17_ n18_ n19_ n20_ n21_ n22_
            (try clear hb)
            (try clear hb2)
            (try clear hk)
            (try clear hi)
            refine hK.out _ _ ⟨(blk_cell BK355.out 0).trans rfl, (blk_cell BK355.out 1).trans rfl, (blk_cell BK364.out 0).trans rfl, (blk_cell BK364.out 1).trans rfl⟩ (fun hHeld => ?_)
            clear hK K
            refine norm_ (a' := ?_) ?_ ?_
            rotate_left
            ·show Act.put _ (some 111) _ = _
             simp only [Act.put, List.setIfInBounds_toArray, List.set_cons_zero, List.set_cons_succ, i64_w, i32_w]
             rfl
            refine one_ (i := 69) (N := some 113) #[true,true,true,true,true,true,true,true,true,true,true,true,true,true,true,true,true,true,true,true,true,true,true,true,true,true,true,true,true,true,true,true,true,true,true,true,true,true,true,true,true,true,true,true,true,true,true,true,true,true,true,true,true,true,true,true,true,true,true,true,true,true,true,true,true,true,true,true,true,true,false,false,false] rfl rfl (one_of HT_.out (by kernel_rfl)) (by decide) (fun K hK => ?_)
            refine goes_ Try.func29 (by kernel_rfl) rfl #[.slice Ao82 t374.length co82] (by rfl) rfl rfl (by (try simp only [List.map_toArray, List.map_cons, List.map_nil]); first | done | rfl | (simp only [List.length_drop, List.length_take]; rfl)) ?_
            with_reducible refine (dominoref03_Count.calls kj4 _ _ t374 t436 _ ?side1 ?side2 A65.out).mono ?_
            (case side1 => repeat (first | exact (Kd.R_reads' HO376.out).2.2 | (with_reducible refine Kd.C_alloc ?_ _) | (with_reducible refine Kd.C_drewN ?_ _) | (with_reducible refine Kd.C_drew ?_)))
            (case side2 => exact (Kd.R_reads' HO376.out).2.1)
            rintro e w' ⟨rfl, ⟨nd, rfl⟩⟩
            refine ⟨_, rfl, ?_⟩
            refine hK.out _ _ ⟨(blk_cell BK355.out 0).trans rfl, (blk_cell BK355.out 1).trans rfl, (blk_cell BK364.out 0).trans rfl, (blk_cell BK364.out 1).trans rfl⟩ (fun hHeld => ?_)
            clear hK K
            refine norm_ (a' := ?_) ?_ ?_
            rotate_left
            ·show Act.put _ (some 113) _ = _
             simp only [Act.put, List.setIfInBounds_toArray, List.set_cons_zero, List.set_cons_succ, i64_w, i32_w]
             rfl
            refine pure_ (i := 70) (N := some 114) (v := ?_) (a' := ?_) #[true,true,true,true,true,true,true,true,true,true,true,true,true,true,true,true,true,true,true,true,true,true,true,true,true,true,true,true,true,true,true,true,true,true,true,true,true,true,true,true,true,true,true,true,true,true,true,true,true,true,true,true,true,true,true,true,true,true,true,true,true,true,true,true,true,true,true,true,true,true,true,false,false] rfl rfl (any_of HT_.out (by kernel_rfl)) (fun _ _ _ h => h) (Or.inl ⟨by rfl, ?_⟩) ?_ ?_
            rotate_left;(intro w';go_simp;with_reducible rfl);rotate_left;(simp only [Act.put, List.setIfInBounds_toArray, List.set_cons_zero, List.set_cons_succ, i64_w, i32_w];rfl)
            refine pure_ (i := 71) (N := some 115) (v := ?_) (a' := ?_) #[true,true,true,true,true,true,true,true,true,true,true,true,true,true,true,true,true,true,true,true,true,true,true,true,true,true,true,true,true,true,true,true,true,true,true,true,true,true,true,true,true,true,true,true,true,true,true,true,true,true,true,true,true,true,true,true,true,true,true,true,true,true,true,true,true,true,true,true,true,true,true,true,false] rfl rfl (any_of HT_.out (by kernel_rfl)) (fun _ _ _ h => h) (Or.inl ⟨by rfl, ?_⟩) ?_ ?_
            rotate_left;(intro w';go_simp;with_reducible rfl);rotate_left;(simp only [Act.put, List.setIfInBounds_toArray, List.set_cons_zero, List.set_cons_succ, i64_w, i32_w];rfl)
            refine pure_ (i := 72) (N := some 8) (v := ?_) (a' := ?_) #[true,true,true,true,true,true,true,true,true,true,true,true,true,true,true,true,true,true,true,true,true,true,true,true,true,true,true,true,true,true,true,true,true,true,true,true,true,true,true,true,true,true,true,true,true,true,true,true,true,true,true,true,true,true,true,true,true,true,true,true,true,true,true,true,true,true,true,true,true,true,true,true,true] rfl rfl (any_of HT_.out (by kernel_rfl)) (fun _ _ _ h => h) (Or.inl ⟨by rfl, ?_⟩) ?_ ?_
            rotate_left;(intro w';go_simp;with_reducible rfl);rotate_left;(simp only [Act.put, List.setIfInBounds_toArray, List.set_cons_zero, List.set_cons_succ, i64_w, i32_w];rfl)
            refine done_ (done_of HT_.out (by kernel_rfl)) ?_
            try go_wp2
            go_ret
            exact ⟨by first | rfl | (simp [errW_none, errW_some] <;> rfl) | (simp [*, errW_none, errW_some] <;> rfl), by repeat (first | (with_reducible first | exact HB.out | apply below_alloc | apply pw_below_drewN | apply below_drew1 | refine below_set ?_ GE355.out | refine below_set ?_ GE364.out) | exact HB.out)⟩
           ·replace c63 := Bool.eq_false_iff.mpr c63
            subst c63
            have H1 : (none) = some r := by rw [if_neg (show ¬ (false = true) by decide)] at H; exact H
            clear H
            have H := H1
            clear H1
            exact absurd H (by simp)
          ·replace c58 := Bool.eq_false_iff.mpr c58
           subst c58
           have H1 : (none) = some r := by rw [if_neg (show ¬ (false = true) by decide)] at H; exact H
           clear H
           have H := H1
           clear H1
           exact absurd H (by simp)
         ·replace c53 := Bool.eq_false_iff.mpr c53
          subst c53
          have H1 : (none) = some r := by rw [if_neg (show ¬ (false = true) by decide)] at H; exact H
          clear H
          have H := H1
          clear H1
          exact absurd H (by simp)
        ·replace c48 := Bool.eq_false_iff.mpr c48
         subst c48
         have H1 : (none) = some r := by rw [if_neg (show ¬ (false = true) by decide)] at H; exact H
         clear H
         have H := H1
         clear H1
         exact absurd H (by simp)
       ·rw [if_neg c43] at H
        have c43b0 : (t393 == t394) = false := by simpa using c43
        (try (have c43b1 : decide (t393 = t394) = false := by simpa using c43))
        (try (have c43b2 : (t393 == t394) = false := by simpa using c43))
        (try (have c43b3 : ¬ (t393 = t394) := by simpa using c43))
        clear c43
        exact absurd H (by simp)
      ·rw [if_neg c40] at H
       have c40b0 : (t388 == t392) = false := by simpa using c40
       (try (have c40b1 : decide (t388 = t392) = false := by simpa using c40))
       (try (have c40b2 : (t388 == t392) = false := by simpa using c40))
       (try (have c40b3 : ¬ (t388 = t392) := by simpa using c40))
       clear c40
       exact absurd H (by simp)
     ·replace c36 := Bool.eq_false_iff.mpr c36
      subst c36
      have H1 : (none) = some r := by rw [if_neg (show ¬ (false = true) by decide)] at H; exact H
      clear H
      have H := H1
      clear H1
      exact absurd H (by simp)
    ·replace c34 := Bool.eq_false_iff.mpr c34
     subst c34
     have H1 : (none) = some r := by rw [if_neg (show ¬ (false = true) by decide)] at H; exact H
     clear H
     have H := H1
     clear H1
     exact absurd H (by simp)

/-- THE ONE PURE STATEMENT of dominolaw03_RangesTells: yours. -/
def dominolaw03_RangesTells.Pure : Prop := ∀ (l0 : List (S34)) (l1 : List (S34)) (a2_0 : Int) (a2_1 : Int) (a3 : Int), l0.length ≤ maxLen → l0.length * 16 ≤ 140737488351232 → (∀ x ∈ l0, ((Lit.int .u64 x.f0).wf = true ∧ (Lit.int .u64 x.f1).wf = true)) → l1.length ≤ maxLen → l1.length * 16 ≤ 140737488351232 → (∀ x ∈ l1, ((Lit.int .u64 x.f0).wf = true ∧ (Lit.int .u64 x.f1).wf = true)) → (Lit.int .u64 a2_0).wf = true → (Lit.int .u64 a2_1).wf = true → (Lit.int .u64 a3).wf = true → ∃ k, dominolaw03_RangesTells.f k l0 l1 a2_0 a2_1 a3 = some true
theorem dominolaw03_RangesTells.walk (P : dominolaw03_RangesTells.Pure) (a0 : Option Addr) (cap0 : Nat) (l0 : List (S34)) (a1 : Option Addr) (cap1 : Nat) (l1 : List (S34)) (a2_0 : Int) (a2_1 : Int) (a3 : Int) (w : World) (hr0 : Kd.C k34 w a0 l0.length l0) (hc0 : l0.length ≤ cap0) (w0_0 : l0.length ≤ maxLen) (w0_1 : l0.length * 16 ≤ 140737488351232) (w0_2 : (∀ x ∈ l0, ((Lit.int .u64 x.f0).wf = true ∧ (Lit.int .u64 x.f1).wf = true))) (hr1 : Kd.C k34 w a1 l1.length l1) (hc1 : l1.length ≤ cap1) (w1_0 : l1.length ≤ maxLen) (w1_1 : l1.length * 16 ≤ 140737488351232) (w1_2 : (∀ x ∈ l1, ((Lit.int .u64 x.f0).wf = true ∧ (Lit.int .u64 x.f1).wf = true))) (w2_0 : (Lit.int .u64 a2_0).wf = true) (w2_1 : (Lit.int .u64 a2_1).wf = true) (w3 : (Lit.int .u64 a3).wf = true) :
  Calls Try.prog 7 #[.slice a0 l0.length cap0, .slice a1 l1.length cap1, .agg #[.int .u64 a2_0, .int .u64 a2_1], .int .u64 a3] w fun e w' => e = .returned (.bool true) ∧ Below w.heap.size w w' := by
 obtain ⟨k, h⟩ := P l0 l1 a2_0 a2_1 a3 w0_0 w0_1 w0_2 w1_0 w1_1 w1_2 w2_0 w2_1 w3
 refine (dominolaw03_RangesTells.calls k a0 cap0 l0 a1 cap1 l1 a2_0 a2_1 a3 true w hr0 hc0 hr1 hc1 h).mono ?_
 rintro e w' ⟨rfl, hd⟩
 exact ⟨rfl, hd⟩

end Go.Proofs.Ytpjohlcidmnikaa.PRgx
