-- printed for this claim by a program of the claim (wip/tools/pp.py over the kit's print)
import Derived.Test.YtpjohlcidmnikaaPRgxx0
import Derived.Test.YtpjohlcidmnikaaPRgxx3
import Derived.Test.YtpjohlcidmnikaaPRgxx4
import Derived.Test.YtpjohlcidmnikaaPRgxx5
import Derived.Test.YtpjohlcidmnikaaPRgxx6
namespace Go.Proofs.Ytpjohlcidmnikaa.PRgx
open Go.RowKit Go.Proofs.YtpjohlcidmnikaaW.PrintWords Go.Proofs.YtpjohlcidmnikaaW.PrintLast Go.Proofs.YtpjohlcidmnikaaW.PrintMore
attribute [local go_sem] max2_int min2_int max_two min_two max_three min_three max_four min_four   -- for this text's walks alone
set_option linter.unusedVariables false
set_option linter.unusedSimpArgs false

attribute [local go_sem] isSome_setCell_
/-! ### dominolaw03_RangesParts: function 6 -/
def dominolaw03_RangesParts.j0 : Nat → List (S34) → Bool → Int → Int → Option (Bool)
 | 0, _, _, _, _ => none
 | k + 1, x0, x21, x205000, x205001 => if x21 = true then ((dominolaw03_shown.f k).bind fun t211 => (some t211)) else ((ranges_Of.f k x0).bind fun t212 => ((ranges_Of.f k (([(⟨x205000, x205001⟩ : S34)] : List (S34)))).bind fun t218 => ((ranges_Meet.f k t212 t218).bind fun t221 => ((ranges_Cut.f k t212 x205000 x205001).bind fun t224 => ((some (([] : List (S34)) : List (S34))).bind fun y227 => (if y227.length + t221.length < 8796093022208 then ((some (y227 ++ t221 : List (S34))).bind fun y230 => (if y230.length + t224.length < 8796093022208 then ((ranges_Of.f k (y230 ++ t224)).bind fun t236 => ((dominolaw03_its.f k t236).bind fun t239 => ((dominolaw03_its.f k t212).bind fun t242 => ((dominoref03_Same.f k t239 t242).bind fun t245 => (if t245 = true then ((ranges_Gaps.f k t212 x205000 x205001).bind fun t246 => ((ranges_Gaps.f k t246 x205000 x205001).bind fun t249 => ((dominolaw03_its.f k t249).bind fun t252 => ((dominolaw03_its.f k t221).bind fun t255 => ((dominoref03_Same.f k t252 t255).bind fun t258 => (if t258 = true then ((ranges_Meet.f k t221 t224).bind fun t259 => (if (t259.length : Int) = 0 then ((ranges_Of.f k (([(⟨x205000, x205001⟩ : S34)] : List (S34)))).bind fun t265 => ((ranges_Meet.f k t265 t212).bind fun t268 => ((dominolaw03_its.f k t268).bind fun t271 => ((dominolaw03_its.f k t221).bind fun t274 => ((dominoref03_Same.f k t271 t274).bind fun t277 => (some t277)))))) else (none))) else (none))))))) else (none)))))) else (none))) else (none)))))))
def dominolaw03_RangesParts.f (k : Nat) (l0 : List (S34)) (a1_0 : Int) (a1_1 : Int) : Option (Bool) := (dominolaw03_low.f k l0).bind fun t205 => (if t205 = true then ((dominolaw03_low.f k (([(⟨a1_0, a1_1⟩ : S34)] : List (S34)))).bind fun t209 => (if t209 = true then ((dominolaw03_shown.f k).bind fun t210 => (dominolaw03_RangesParts.j0 k l0 (!t210) a1_0 a1_1)) else (dominolaw03_RangesParts.j0 k l0 true a1_0 a1_1))) else (dominolaw03_RangesParts.j0 k l0 true a1_0 a1_1))
theorem dominolaw03_RangesParts.mono_l : ∀ k, (∀ y0 y1 y2 y3, LeO (dominolaw03_RangesParts.j0 k y0 y1 y2 y3) (dominolaw03_RangesParts.j0 (k + 1) y0 y1 y2 y3))
 | 0 => fun _ _ _ _ r h => by simp [dominolaw03_RangesParts.j0] at h
 | k + 1 => by
  have ih0 := dominolaw03_RangesParts.mono_l k
  ·intro y0 y1 y2 y3
   unfold dominolaw03_RangesParts.j0
   repeat' first
   | (with_reducible exact ih0 _ _ _ _)
   | (with_reducible exact dominolaw03_its.mono _ _)
   | (with_reducible exact dominolaw03_low.mono _ _)
   | (with_reducible exact dominolaw03_shown.mono _)
   | (with_reducible exact dominoref03_Same.mono _ _ _)
   | (with_reducible exact ranges_Cut.mono _ _ _ _)
   | (with_reducible exact ranges_Gaps.mono _ _ _ _)
   | (with_reducible exact ranges_Meet.mono _ _ _)
   | (with_reducible exact ranges_Of.mono _ _)
   | (with_reducible exact LeO.refl _)
   | (with_reducible exact LeO.none _)
   | (with_reducible refine LeO.ite ?_ ?_)
   | (with_reducible refine LeO.bind ?_ (fun _ => ?_))
   | exact ih0 _ _ _ _
   | exact dominolaw03_its.mono _ _
   | exact dominolaw03_low.mono _ _
   | exact dominolaw03_shown.mono _
   | exact dominoref03_Same.mono _ _ _
   | exact ranges_Cut.mono _ _ _ _
   | exact ranges_Gaps.mono _ _ _ _
   | exact ranges_Meet.mono _ _ _
   | exact ranges_Of.mono _ _
   | exact LeO.none _
   | refine LeO.ite ?_ ?_
   | refine LeO.bind ?_ (fun _ => ?_)
theorem dominolaw03_RangesParts.mono : ∀ a0 a1 a2 k, LeO (dominolaw03_RangesParts.f k a0 a1 a2) (dominolaw03_RangesParts.f (k + 1) a0 a1 a2) := by
 intro a0 a1 a2 k
 have ih0 := dominolaw03_RangesParts.mono_l k
 unfold dominolaw03_RangesParts.f
 repeat' first
   | (with_reducible exact ih0 _ _ _ _)
   | (with_reducible exact dominolaw03_its.mono _ _)
   | (with_reducible exact dominolaw03_low.mono _ _)
   | (with_reducible exact dominolaw03_shown.mono _)
   | (with_reducible exact dominoref03_Same.mono _ _ _)
   | (with_reducible exact ranges_Cut.mono _ _ _ _)
   | (with_reducible exact ranges_Gaps.mono _ _ _ _)
   | (with_reducible exact ranges_Meet.mono _ _ _)
   | (with_reducible exact ranges_Of.mono _ _)
   | (with_reducible exact LeO.refl _)
   | (with_reducible exact LeO.none _)
   | (with_reducible refine LeO.ite ?_ ?_)
   | (with_reducible refine LeO.bind ?_ (fun _ => ?_))
   | exact ih0 _ _ _ _
   | exact dominolaw03_its.mono _ _
   | exact dominolaw03_low.mono _ _
   | exact dominolaw03_shown.mono _
   | exact dominoref03_Same.mono _ _ _
   | exact ranges_Cut.mono _ _ _ _
   | exact ranges_Gaps.mono _ _ _ _
   | exact ranges_Meet.mono _ _ _
   | exact ranges_Of.mono _ _
   | exact LeO.none _
   | refine LeO.ite ?_ ?_
   | refine LeO.bind ?_ (fun _ => ?_)
def dominolaw03_RangesParts.T7 : Bool × List (List Nat × List Nat) := (true, [([], []), ([0], [0]), ([1, 1], [1]), ([], []), ([3, 2], [3]), ([2, 4, 4], [2, 4]), ([5, 5], [5]), ([6], [6]), ([6], [6]), ([7, 8, 6, 6], [6, 7, 8]), ([6], [6]), ([9, 10, 9, 6], [6, 9, 10]), ([11, 11, 6], [6, 11]), ([6], [6]), ([13, 12, 6], [6, 13]), ([12, 14, 14, 6], [6, 12, 14]), ([6, 15], [6, 15]), ([16, 15], [16]), ([17], [17]), ([17], [17]), ([18, 19, 17, 17], [17, 18, 19]), ([20, 17], [17, 20]), ([21, 17], [17, 21]), ([17, 22], [17, 22]), ([23, 20], [23]), ([24], [24]), ([25, 24], [24, 25]), ([26, 24, 24], [24, 26]), ([24], [24]), ([27, 28, 27, 24], [24, 27, 28]), ([29, 29, 24], [24, 29]), ([24], [24]), ([31, 30, 24], [24, 31]), ([30, 32, 32, 24], [24, 30, 32]), ([24, 33], [24, 33]), ([34, 33, 0, 1, 2, 3, 4, 5, 6, 7, 8, 9, 10, 11, 12, 13, 14, 15, 16, 17, 18, 19, 20, 21, 22, 23, 24, 25, 26, 27, 28, 29, 30, 31, 32, 33, 34], [34])])
def dominolaw03_RangesParts.B7 : List Nat := [0, 1, 3, 0, 15, 31, 63, 127, 127, 511, 127, 2047, 4095, 127, 16383, 32767, 65535, 131071, 262143, 262143, 1048575, 2097151, 4194303, 8388607, 16777215, 33554431, 67108863, 134217727, 33554431, 536870911, 1073741823, 33554431, 4294967295, 8589934591, 17179869183, 34359738367]
theorem dominolaw03_RangesParts.tab7 : rtab .any (opsOf Try.f6 7) = dominolaw03_RangesParts.T7 := by kernel_rfl
theorem dominolaw03_RangesParts.bits7 : waitsOk dominolaw03_RangesParts.T7.2 dominolaw03_RangesParts.B7 = true := by kernel_rfl
set_option maxHeartbeats 8000000 in
set_option maxRecDepth 100000 in
theorem dominolaw03_RangesParts.calls (k : Nat) (A0 : Option Addr) (c0 : Nat) (l0 : List (S34)) (a1_0 : Int) (a1_1 : Int) (r : Bool) (w : World) (hr0 : Kd.C k34 w A0 l0.length l0) (hc0 : l0.length ≤ c0) (h : dominolaw03_RangesParts.f k l0 a1_0 a1_1 = some r) :
  Calls Try.prog 6 #[.slice A0 l0.length c0, .agg #[.int .u64 a1_0, .int .u64 a1_1]] w fun e w' => e = .returned (.bool r) ∧ Below w.heap.size w w' := by
 have hu34 := Try.underlying34
 have HR0 := Aside0.mk hr0
 have HC0 := Aside0.mk hc0
 clear hr0 hc0
 have HB := Aside0.mk (Below.refl w.heap.size w)
 have H : ((dominolaw03_low.f k l0).bind fun t205 => (if t205 = true then ((dominolaw03_low.f k (([(⟨a1_0, a1_1⟩ : S34)] : List (S34)))).bind fun t209 => (if t209 = true then ((dominolaw03_shown.f k).bind fun t210 => (dominolaw03_RangesParts.j0 k l0 (!t210) a1_0 a1_1)) else (dominolaw03_RangesParts.j0 k l0 true a1_0 a1_1))) else (dominolaw03_RangesParts.j0 k l0 true a1_0 a1_1))) = some r := h
 clear h
 have HC3 := Aside0.mk H
 clear H
 go_enter Try.func6, Try.ntmps6
 go_upto_region 1 with (first | ((with_reducible refine gate_dst (N := 3) rfl ?_); (try (refine gate_guard (by rfl) ?_; dsimp only)); refine box_event ?hg (N := 3) ?hd (cs := #[.int .u64 a1_0, .int .u64 a1_1]) (t := 34) ?hr ?_; (case hd => rfl); (case hg => rfl); (case hr => first | (go_simp; done) | (go_simp; rfl)); intro gb204 hg w4 hbox hb; have n0_ := Aside0.mk (below_step (by repeat (first | (with_reducible first | exact HB.out | apply below_alloc | apply pw_below_drewN | apply below_drew1) | exact HB.out)) hb); have n1_ := Aside0.mk (hbox); have n2_ := Aside0.mk ((by rw [hg]; exact (below_size (by repeat (first | (with_reducible first | exact HB.out | apply below_alloc | apply pw_below_drewN | apply below_drew1) | exact HB.out))) : w.heap.size ≤ gb204)); have n3_ := Aside0.mk ((by rw [hg]; exact (below_size (by repeat (first | (with_reducible first | exact HB.out | apply below_alloc | apply pw_below_drewN | apply below_drew1) | exact HB.out))) : w.heap.size ≤ gb204)); clear HB; have HB := n0_; have BK204 := n1_; have GW204 := n2_; have GE204 := n3_; clear n0_ n1_ n2_ n3_; clear hb hbox hg))
 (try simp only [Act.put, List.setIfInBounds_toArray, List.set_cons_zero, List.set_cons_succ])
 go_cut [21] (fun v21 wc => ∃ (kq : Nat) (x21_2 : Bool), v21 = .bool x21_2 ∧ Aside0 (dominolaw03_RangesParts.j0 kq l0 x21_2 a1_0 a1_1 = some r) ∧ Aside0 (kq ≤ k) ∧ Aside0 (wc.heap[gb204]? = some (.cells #[.int .u64 a1_0, .int .u64 a1_1] 34 (0, 0))) ∧ Aside0 (Below w.heap.size w wc))
 case first =>
  have H := HC3.out
  clear HC3
  replace H := Option.bind_eq_some_iff.mp H
  obtain ⟨t205, A50, H⟩ := H
  replace H : (if t205 = true then ((dominolaw03_low.f k (([(⟨a1_0, a1_1⟩ : S34)] : List (S34)))).bind fun t209 => (if t209 = true then ((dominolaw03_shown.f k).bind fun t210 => (dominolaw03_RangesParts.j0 k l0 (!t210) a1_0 a1_1)) else (dominolaw03_RangesParts.j0 k l0 true a1_0 a1_1))) else (dominolaw03_RangesParts.j0 k l0 true a1_0 a1_1)) = some r := H
  have A5 := Aside0.mk A50
  clear A50
  by_cases c6 : t205 = true
  ·subst c6
   have H1 : ((dominolaw03_low.f k (([(⟨a1_0, a1_1⟩ : S34)] : List (S34)))).bind fun t209 => (if t209 = true then ((dominolaw03_shown.f k).bind fun t210 => (dominolaw03_RangesParts.j0 k l0 (!t210) a1_0 a1_1)) else (dominolaw03_RangesParts.j0 k l0 true a1_0 a1_1))) = some r := by rw [if_pos rfl] at H; exact H
   clear H
   have H := H1
   clear H1
   obtain ⟨y206, hy206⟩ : ∃ y_ : List (S34), y_ = (([(⟨a1_0, a1_1⟩ : S34)] : List (S34))) := ⟨_, rfl⟩
   replace H : ((dominolaw03_low.f k y206).bind fun t209 => (if t209 = true then ((dominolaw03_shown.f k).bind fun t210 => (dominolaw03_RangesParts.j0 k l0 (!t210) a1_0 a1_1)) else (dominolaw03_RangesParts.j0 k l0 true a1_0 a1_1))) = some r := by first | (rw [hy206]; with_reducible exact H) | (have H2_ := (Option.bind_some _ _).symm.trans H; rw [hy206]; with_reducible exact H2_) | (have H2_ := (Option.bind_some _ _).symm.trans H; with_reducible exact H2_) | with_reducible exact H | (rw [hy206]; exact H) | exact H
   have Ny206 := Aside0.mk hy206
   clear hy206
   replace H := Option.bind_eq_some_iff.mp H
   obtain ⟨t209, A70, H⟩ := H
   replace H : (if t209 = true then ((dominolaw03_shown.f k).bind fun t210 => (dominolaw03_RangesParts.j0 k l0 (!t210) a1_0 a1_1)) else (dominolaw03_RangesParts.j0 k l0 true a1_0 a1_1)) = some r := H
   have A7 := Aside0.mk A70
   clear A70
   by_cases c8 : t209 = true
   ·subst c8
    have H1 : ((dominolaw03_shown.f k).bind fun t210 => (dominolaw03_RangesParts.j0 k l0 (!t210) a1_0 a1_1)) = some r := by rw [if_pos rfl] at H; exact H
    clear H
    have H := H1
    clear H1
    replace H := Option.bind_eq_some_iff.mp H
    obtain ⟨t210, A90, H⟩ := H
    replace H : (dominolaw03_RangesParts.j0 k l0 (!t210) a1_0 a1_1) = some r := H
    have A9 := Aside0.mk A90
    clear A90
    have H' := Aside0.mk H
    clear H
    go_wp2_with (first | ((with_reducible refine gate_callee (f := 14) rfl ?_); refine goesL_ (some 10) rfl rfl Try.func14 (by kernel_rfl) rfl #[.slice A0 l0.length c0] rfl (by (try simp only [List.map_toArray, List.map_cons, List.map_nil]); first | done | rfl | (simp only [List.length_drop, List.length_take]; rfl)) ?_; (with_reducible refine (dominolaw03_low.calls k _ _ l0 true _ ?side1 ?side2 A5.out).mono ?_); (case side1 => repeat (first | exact (Kd.C_below HR0.out HB.out) | (with_reducible refine Kd.C_alloc ?_ _) | (with_reducible refine Kd.C_drewN ?_ _) | (with_reducible refine Kd.C_drew ?_))); (case side2 => exact HC0.out); rintro e w' ⟨rfl, ⟨nd, rfl⟩⟩; refine ⟨_, rfl, ?_⟩; have hcz10_0 : w4.cell? ⟨gb204, 0, none⟩ = some (.int .u64 a1_0) := (blk_cell BK204.out 0).trans rfl; have hcz10_1 : w4.cell? ⟨gb204, 1, none⟩ = some (.int .u64 a1_1) := (blk_cell BK204.out 1).trans rfl; have hfz10_0 := blk_frozen BK204.out 0; have hfz10_1 := blk_frozen BK204.out 1) | ((with_reducible refine gate_dst (N := 14) rfl ?_); (try (refine gate_guard (by rfl) ?_; dsimp only)); refine Kd.R_lit k34 _ 34 ?hg (N := 14) ?hd (xs := ([(⟨a1_0, a1_1⟩ : S34)] : List (S34))) (inner := [.int .u64 a1_0, .int .u64 a1_1]) (ok := fun _ => True) (okp := fun _ => True) ?hr ?hp (fun _ hk => hk) trivial (Below.refl _ _) (Nat.le_refl _) (by simp) ?_; (case hd => rfl); (case hg => rfl); (case hr => first | (go_simp; done) | (go_simp; rfl)); (case hp => exact (Reps.c2 (show Kd.M k34 _ _ _ (⟨a1_0, a1_1⟩ : S34) [.int .u64 a1_0, .int .u64 a1_1] from (k34_mkM _ _ _ (⟨a1_0, a1_1⟩ : S34) )) (Reps.none _ _))); intro v207 w11 ho12 hb hg_ hnew_; clear hg_ hnew_; (first | rw [← Ny206.out] at ho12 | (simp only [Int.reduceToNat] at ho12; rw [← Ny206.out] at ho12)); have n0_ := Aside0.mk (Kd.R_lower (Kd.R_newB ho12 (g := gb204) (o := .cells #[.int .u64 a1_0, .int .u64 a1_1] 34 (0, 0)) (by (with_reducible repeat (first | refine blk_drewN ?_ _ | refine blk_drew ?_ | refine blk_alloc ?_ _)); exact BK204.out)) (below_size (by repeat (first | (with_reducible first | exact HB.out | apply below_alloc | apply pw_below_drewN | apply below_drew1 | refine below_set ?_ GE204.out) | exact HB.out)))); have n1_ := Aside0.mk (blk_below (g := gb204) (o := .cells #[.int .u64 a1_0, .int .u64 a1_1] 34 (0, 0)) (by (with_reducible repeat (first | refine blk_drewN ?_ _ | refine blk_drew ?_ | refine blk_alloc ?_ _)); exact BK204.out) hb); have n2_ := Aside0.mk (below_step (by repeat (first | (with_reducible first | exact HB.out | apply below_alloc | apply pw_below_drewN | apply below_drew1 | refine below_set ?_ GE204.out) | exact HB.out)) hb); clear BK204; clear HB; have HO208 := n0_; have BK204 := n1_; have HB := n2_; clear n0_ n1_ n2_; clear hb ho12; obtain ⟨Ao13, co13, eo13⟩ := Kd.R_slice HO208.out; subst eo13) | (go_at_call 14; (with_reducible refine (dominolaw03_low.calls k _ _ y206 true _ ?side1 ?side2 A7.out).mono ?_); (case side1 => repeat (first | exact (Kd.R_reads' HO208.out).2.2 | (with_reducible refine Kd.C_alloc ?_ _) | (with_reducible refine Kd.C_drewN ?_ _) | (with_reducible refine Kd.C_drew ?_))); (case side2 => exact (Kd.R_reads' HO208.out).2.1); rintro e w' ⟨rfl, ⟨nd, rfl⟩⟩) | (go_at_call 10; (with_reducible refine (dominolaw03_shown.calls k  t210 _ A9.out).mono ?_); rintro e w14 ⟨rfl, hb⟩; have n0_ := Aside0.mk (Kd.R_below (by (with_reducible repeat (first | apply Kd.R_alloc | apply Kd.R_drewN | apply Kd.R_drew)); exact HO208.out) hb); have n1_ := Aside0.mk (blk_below (g := gb204) (o := .cells #[.int .u64 a1_0, .int .u64 a1_1] 34 (0, 0)) (by (with_reducible repeat (first | refine blk_drewN ?_ _ | refine blk_drew ?_ | refine blk_alloc ?_ _)); exact BK204.out) hb); have n2_ := Aside0.mk (below_step (by repeat (first | (with_reducible first | exact HB.out | apply below_alloc | apply pw_below_drewN | apply below_drew1 | refine below_set ?_ GE204.out) | exact HB.out)) hb); clear HO208; clear BK204; clear HB; have HO208 := n0_; have BK204 := n1_; have HB := n2_; clear n0_ n1_ n2_; (try clear hb); (try clear hb2); (try clear hk); (try clear hi)))
    go_meet
    case rel => exact ⟨_, (!t210), (by first | rfl | (simp; done) | (simp [*]; done)), H', ⟨by first | omega | exact Nat.le_refl _⟩, ⟨by (with_reducible repeat (first | refine blk_drewN ?_ _ | refine blk_drew ?_ | refine blk_alloc ?_ _)); exact BK204.out⟩, ⟨by repeat (first | (with_reducible first | exact HB.out | apply below_alloc | apply pw_below_drewN | apply below_drew1 | refine below_set ?_ GE204.out) | exact HB.out)⟩⟩
   ·replace c8 := Bool.eq_false_iff.mpr c8
    subst c8
    have H1 : (dominolaw03_RangesParts.j0 k l0 true a1_0 a1_1) = some r := by rw [if_neg (show ¬ (false = true) by decide)] at H; exact H
    clear H
    have H := H1
    clear H1
    have H' := Aside0.mk H
    clear H
    go_wp2_with (first | ((with_reducible refine gate_callee (f := 14) rfl ?_); refine goesL_ (some 10) rfl rfl Try.func14 (by kernel_rfl) rfl #[.slice A0 l0.length c0] rfl (by (try simp only [List.map_toArray, List.map_cons, List.map_nil]); first | done | rfl | (simp only [List.length_drop, List.length_take]; rfl)) ?_; (with_reducible refine (dominolaw03_low.calls k _ _ l0 true _ ?side1 ?side2 A5.out).mono ?_); (case side1 => repeat (first | exact (Kd.C_below HR0.out HB.out) | (with_reducible refine Kd.C_alloc ?_ _) | (with_reducible refine Kd.C_drewN ?_ _) | (with_reducible refine Kd.C_drew ?_))); (case side2 => exact HC0.out); rintro e w' ⟨rfl, ⟨nd, rfl⟩⟩; refine ⟨_, rfl, ?_⟩; have hcz15_0 : w4.cell? ⟨gb204, 0, none⟩ = some (.int .u64 a1_0) := (blk_cell BK204.out 0).trans rfl; have hcz15_1 : w4.cell? ⟨gb204, 1, none⟩ = some (.int .u64 a1_1) := (blk_cell BK204.out 1).trans rfl; have hfz15_0 := blk_frozen BK204.out 0; have hfz15_1 := blk_frozen BK204.out 1) | ((with_reducible refine gate_dst (N := 14) rfl ?_); (try (refine gate_guard (by rfl) ?_; dsimp only)); refine Kd.R_lit k34 _ 34 ?hg (N := 14) ?hd (xs := ([(⟨a1_0, a1_1⟩ : S34)] : List (S34))) (inner := [.int .u64 a1_0, .int .u64 a1_1]) (ok := fun _ => True) (okp := fun _ => True) ?hr ?hp (fun _ hk => hk) trivial (Below.refl _ _) (Nat.le_refl _) (by simp) ?_; (case hd => rfl); (case hg => rfl); (case hr => first | (go_simp; done) | (go_simp; rfl)); (case hp => exact (Reps.c2 (show Kd.M k34 _ _ _ (⟨a1_0, a1_1⟩ : S34) [.int .u64 a1_0, .int .u64 a1_1] from (k34_mkM _ _ _ (⟨a1_0, a1_1⟩ : S34) )) (Reps.none _ _))); intro v207 w16 ho17 hb hg_ hnew_; clear hg_ hnew_; (first | rw [← Ny206.out] at ho17 | (simp only [Int.reduceToNat] at ho17; rw [← Ny206.out] at ho17)); have n0_ := Aside0.mk (Kd.R_lower (Kd.R_newB ho17 (g := gb204) (o := .cells #[.int .u64 a1_0, .int .u64 a1_1] 34 (0, 0)) (by (with_reducible repeat (first | refine blk_drewN ?_ _ | refine blk_drew ?_ | refine blk_alloc ?_ _)); exact BK204.out)) (below_size (by repeat (first | (with_reducible first | exact HB.out | apply below_alloc | apply pw_below_drewN | apply below_drew1 | refine below_set ?_ GE204.out) | exact HB.out)))); have n1_ := Aside0.mk (blk_below (g := gb204) (o := .cells #[.int .u64 a1_0, .int .u64 a1_1] 34 (0, 0)) (by (with_reducible repeat (first | refine blk_drewN ?_ _ | refine blk_drew ?_ | refine blk_alloc ?_ _)); exact BK204.out) hb); have n2_ := Aside0.mk (below_step (by repeat (first | (with_reducible first | exact HB.out | apply below_alloc | apply pw_below_drewN | apply below_drew1 | refine below_set ?_ GE204.out) | exact HB.out)) hb); clear BK204; clear HB; have HO208 := n0_; have BK204 := n1_; have HB := n2_; clear n0_ n1_ n2_; clear hb ho17; obtain ⟨Ao18, co18, eo18⟩ := Kd.R_slice HO208.out; subst eo18) | (go_at_call 14; (with_reducible refine (dominolaw03_low.calls k _ _ y206 false _ ?side1 ?side2 A7.out).mono ?_); (case side1 => repeat (first | exact (Kd.R_reads' HO208.out).2.2 | (with_reducible refine Kd.C_alloc ?_ _) | (with_reducible refine Kd.C_drewN ?_ _) | (with_reducible refine Kd.C_drew ?_))); (case side2 => exact (Kd.R_reads' HO208.out).2.1); rintro e w' ⟨rfl, ⟨nd, rfl⟩⟩))
    go_meet
    case rel => exact ⟨_, (true), (by first | rfl | (simp; done) | (simp [*]; done)), H', ⟨by first | omega | exact Nat.le_refl _⟩, ⟨by (with_reducible repeat (first | refine blk_drewN ?_ _ | refine blk_drew ?_ | refine blk_alloc ?_ _)); exact BK204.out⟩, ⟨by repeat (first | (with_reducible first | exact HB.out | apply below_alloc | apply pw_below_drewN | apply below_drew1 | refine below_set ?_ GE204.out) | exact HB.out)⟩⟩
  ·replace c6 := Bool.eq_false_iff.mpr c6
   subst c6
   have H1 : (dominolaw03_RangesParts.j0 k l0 true a1_0 a1_1) = some r := by rw [if_neg (show ¬ (false = true) by decide)] at H; exact H
   clear H
   have H := H1
   clear H1
   have H' := Aside0.mk H
   clear H
   go_wp2_with (first | ((with_reducible refine gate_callee (f := 14) rfl ?_); refine goesL_ (some 10) rfl rfl Try.func14 (by kernel_rfl) rfl #[.slice A0 l0.length c0] rfl (by (try simp only [List.map_toArray, List.map_cons, List.map_nil]); first | done | rfl | (simp only [List.length_drop, List.length_take]; rfl)) ?_; (with_reducible refine (dominolaw03_low.calls k _ _ l0 false _ ?side1 ?side2 A5.out).mono ?_); (case side1 => repeat (first | exact (Kd.C_below HR0.out HB.out) | (with_reducible refine Kd.C_alloc ?_ _) | (with_reducible refine Kd.C_drewN ?_ _) | (with_reducible refine Kd.C_drew ?_))); (case side2 => exact HC0.out); rintro e w' ⟨rfl, ⟨nd, rfl⟩⟩; refine ⟨_, rfl, ?_⟩))
   go_meet
   case rel => exact ⟨_, (true), (by first | rfl | (simp; done) | (simp [*]; done)), H', ⟨by first | omega | exact Nat.le_refl _⟩, ⟨by (with_reducible repeat (first | refine blk_drewN ?_ _ | refine blk_drew ?_ | refine blk_alloc ?_ _)); exact BK204.out⟩, ⟨by repeat (first | (with_reducible first | exact HB.out | apply below_alloc | apply pw_below_drewN | apply below_drew1 | refine below_set ?_ GE204.out) | exact HB.out)⟩⟩
 case rest =>
  clear HC3
  try clear c1
  try clear c2
  try clear p2
  try clear c6
  try clear c8
  try clear c14
  try clear hcz10_0
  try clear hcz10_1
  try clear hcz15_0
  try clear hcz15_1
  try clear hfz10_0
  try clear hfz10_1
  try clear hfz15_0
  try clear hfz15_1
  obtain ⟨kq, x21_2, rfl, HA, HJ2, BK204, HB⟩ := hcut
  cases kq with
  | zero => exact absurd HA.out (by simp [dominolaw03_RangesParts.j0])
  | succ kj2 =>
   have H := HA.out
   clear HA
   simp only [dominolaw03_RangesParts.j0] at H
   by_cases c19 : x21_2 = true
   ·subst c19
    have H1 : ((dominolaw03_shown.f kj2).bind fun t211 => (some t211)) = some r := by rw [if_pos rfl] at H; exact H
    clear H
    have H := H1
    clear H1
    replace H := Option.bind_eq_some_iff.mp H
    obtain ⟨t211, A200, H⟩ := H
    replace H : (some t211) = some r := H
    have A20 := Aside0.mk A200
    clear A200
    obtain rfl := Option.some.inj H
    go_wp2_with (first | ((with_reducible refine gate_callee (f := 10) rfl ?_); refine goesL_ (some 22) rfl rfl Try.func10 (by kernel_rfl) rfl #[] rfl (by (try simp only [List.map_toArray, List.map_cons, List.map_nil]); first | done | rfl | (simp only [List.length_drop, List.length_take]; rfl)) ?_; (with_reducible refine (dominolaw03_shown.calls kj2  t211 _ A20.out).mono ?_); rintro e w21 ⟨rfl, hb⟩; refine ⟨_, rfl, ?_⟩; have n0_ := Aside0.mk (blk_below (g := gb204) (o := .cells #[.int .u64 a1_0, .int .u64 a1_1] 34 (0, 0)) (by (with_reducible repeat (first | refine blk_drewN ?_ _ | refine blk_drew ?_ | refine blk_alloc ?_ _)); exact BK204.out) hb); have n1_ := Aside0.mk (below_step (by repeat (first | (with_reducible first | exact HB.out | apply below_alloc | apply pw_below_drewN | apply below_drew1 | refine below_set ?_ GE204.out) | exact HB.out)) hb); clear BK204; clear HB; have BK204 := n0_; have HB := n1_; clear n0_ n1_; (try clear hb); (try clear hb2); (try clear hk); (try clear hi)))
    go_ret
    exact ⟨by first | rfl | (simp [errW_none, errW_some] <;> rfl) | (simp [*, errW_none, errW_some] <;> rfl), by repeat (first | (with_reducible first | exact HB.out | apply below_alloc | apply pw_below_drewN | apply below_drew1 | refine below_set ?_ GE204.out) | exact HB.out)⟩
   ·replace c19 := Bool.eq_false_iff.mpr c19
    subst c19
    have H1 : ((ranges_Of.f kj2 l0).bind fun t212 => ((ranges_Of.f kj2 (([(⟨a1_0, a1_1⟩ : S34)] : List (S34)))).bind fun t218 => ((ranges_Meet.f kj2 t212 t218).bind fun t221 => ((ranges_Cut.f kj2 t212 a1_0 a1_1).bind fun t224 => ((some (([] : List (S34)) : List (S34))).bind fun y227 => (if y227.length + t221.length < 8796093022208 then ((some (y227 ++ t221 : List (S34))).bind fun y230 => (if y230.length + t224.length < 8796093022208 then ((ranges_Of.f kj2 (y230 ++ t224)).bind fun t236 => ((dominolaw03_its.f kj2 t236).bind fun t239 => ((dominolaw03_its.f kj2 t212).bind fun t242 => ((dominoref03_Same.f kj2 t239 t242).bind fun t245 => (if t245 = true then ((ranges_Gaps.f kj2 t212 a1_0 a1_1).bind fun t246 => ((ranges_Gaps.f kj2 t246 a1_0 a1_1).bind fun t249 => ((dominolaw03_its.f kj2 t249).bind fun t252 => ((dominolaw03_its.f kj2 t221).bind fun t255 => ((dominoref03_Same.f kj2 t252 t255).bind fun t258 => (if t258 = true then ((ranges_Meet.f kj2 t221 t224).bind fun t259 => (if (t259.length : Int) = 0 then ((ranges_Of.f kj2 (([(⟨a1_0, a1_1⟩ : S34)] : List (S34)))).bind fun t265 => ((ranges_Meet.f kj2 t265 t212).bind fun t268 => ((dominolaw03_its.f kj2 t268).bind fun t271 => ((dominolaw03_its.f kj2 t221).bind fun t274 => ((dominoref03_Same.f kj2 t271 t274).bind fun t277 => (some t277)))))) else (none))) else (none))))))) else (none)))))) else (none))) else (none))))))) = some r := by rw [if_neg (show ¬ (false = true) by decide)] at H; exact H
    clear H
    have H := H1
    clear H1
    replace H := Option.bind_eq_some_iff.mp H
    obtain ⟨t212, A220, H⟩ := H
    replace H : ((ranges_Of.f kj2 (([(⟨a1_0, a1_1⟩ : S34)] : List (S34)))).bind fun t218 => ((ranges_Meet.f kj2 t212 t218).bind fun t221 => ((ranges_Cut.f kj2 t212 a1_0 a1_1).bind fun t224 => ((some (([] : List (S34)) : List (S34))).bind fun y227 => (if y227.length + t221.length < 8796093022208 then ((some (y227 ++ t221 : List (S34))).bind fun y230 => (if y230.length + t224.length < 8796093022208 then ((ranges_Of.f kj2 (y230 ++ t224)).bind fun t236 => ((dominolaw03_its.f kj2 t236).bind fun t239 => ((dominolaw03_its.f kj2 t212).bind fun t242 => ((dominoref03_Same.f kj2 t239 t242).bind fun t245 => (if t245 = true then ((ranges_Gaps.f kj2 t212 a1_0 a1_1).bind fun t246 => ((ranges_Gaps.f kj2 t246 a1_0 a1_1).bind fun t249 => ((dominolaw03_its.f kj2 t249).bind fun t252 => ((dominolaw03_its.f kj2 t221).bind fun t255 => ((dominoref03_Same.f kj2 t252 t255).bind fun t258 => (if t258 = true then ((ranges_Meet.f kj2 t221 t224).bind fun t259 => (if (t259.length : Int) = 0 then ((ranges_Of.f kj2 (([(⟨a1_0, a1_1⟩ : S34)] : List (S34)))).bind fun t265 => ((ranges_Meet.f kj2 t265 t212).bind fun t268 => ((dominolaw03_its.f kj2 t268).bind fun t271 => ((dominolaw03_its.f kj2 t221).bind fun t274 => ((dominoref03_Same.f kj2 t271 t274).bind fun t277 => (some t277)))))) else (none))) else (none))))))) else (none)))))) else (none))) else (none)))))) = some r := H
    have A22 := Aside0.mk A220
    clear A220
    obtain ⟨y215, hy215⟩ : ∃ y_ : List (S34), y_ = (([(⟨a1_0, a1_1⟩ : S34)] : List (S34))) := ⟨_, rfl⟩
    replace H : ((ranges_Of.f kj2 y215).bind fun t218 => ((ranges_Meet.f kj2 t212 t218).bind fun t221 => ((ranges_Cut.f kj2 t212 a1_0 a1_1).bind fun t224 => ((some (([] : List (S34)) : List (S34))).bind fun y227 => (if y227.length + t221.length < 8796093022208 then ((some (y227 ++ t221 : List (S34))).bind fun y230 => (if y230.length + t224.length < 8796093022208 then ((ranges_Of.f kj2 (y230 ++ t224)).bind fun t236 => ((dominolaw03_its.f kj2 t236).bind fun t239 => ((dominolaw03_its.f kj2 t212).bind fun t242 => ((dominoref03_Same.f kj2 t239 t242).bind fun t245 => (if t245 = true then ((ranges_Gaps.f kj2 t212 a1_0 a1_1).bind fun t246 => ((ranges_Gaps.f kj2 t246 a1_0 a1_1).bind fun t249 => ((dominolaw03_its.f kj2 t249).bind fun t252 => ((dominolaw03_its.f kj2 t221).bind fun t255 => ((dominoref03_Same.f kj2 t252 t255).bind fun t258 => (if t258 = true then ((ranges_Meet.f kj2 t221 t224).bind fun t259 => (if (t259.length : Int) = 0 then ((ranges_Of.f kj2 (([(⟨a1_0, a1_1⟩ : S34)] : List (S34)))).bind fun t265 => ((ranges_Meet.f kj2 t265 t212).bind fun t268 => ((dominolaw03_its.f kj2 t268).bind fun t271 => ((dominolaw03_its.f kj2 t221).bind fun t274 => ((dominoref03_Same.f kj2 t271 t274).bind fun t277 => (some t277)))))) else (none))) else (none))))))) else (none)))))) else (none))) else (none)))))) = some r := by first | (rw [hy215]; with_reducible exact H) | (have H2_ := (Option.bind_some _ _).symm.trans H; rw [hy215]; with_reducible exact H2_) | (have H2_ := (Option.bind_some _ _).symm.trans H; with_reducible exact H2_) | with_reducible exact H | (rw [hy215]; exact H) | exact H
    have Ny215 := Aside0.mk hy215
    clear hy215
    replace H := Option.bind_eq_some_iff.mp H
    obtain ⟨t218, A230, H⟩ := H
    replace H : ((ranges_Meet.f kj2 t212 t218).bind fun t221 => ((ranges_Cut.f kj2 t212 a1_0 a1_1).bind fun t224 => ((some (([] : List (S34)) : List (S34))).bind fun y227 => (if y227.length + t221.length < 8796093022208 then ((some (y227 ++ t221 : List (S34))).bind fun y230 => (if y230.length + t224.length < 8796093022208 then ((ranges_Of.f kj2 (y230 ++ t224)).bind fun t236 => ((dominolaw03_its.f kj2 t236).bind fun t239 => ((dominolaw03_its.f kj2 t212).bind fun t242 => ((dominoref03_Same.f kj2 t239 t242).bind fun t245 => (if t245 = true then ((ranges_Gaps.f kj2 t212 a1_0 a1_1).bind fun t246 => ((ranges_Gaps.f kj2 t246 a1_0 a1_1).bind fun t249 => ((dominolaw03_its.f kj2 t249).bind fun t252 => ((dominolaw03_its.f kj2 t221).bind fun t255 => ((dominoref03_Same.f kj2 t252 t255).bind fun t258 => (if t258 = true then ((ranges_Meet.f kj2 t221 t224).bind fun t259 => (if (t259.length : Int) = 0 then ((ranges_Of.f kj2 (([(⟨a1_0, a1_1⟩ : S34)] : List (S34)))).bind fun t265 => ((ranges_Meet.f kj2 t265 t212).bind fun t268 => ((dominolaw03_its.f kj2 t268).bind fun t271 => ((dominolaw03_its.f kj2 t221).bind fun t274 => ((dominoref03_Same.f kj2 t271 t274).bind fun t277 => (some t277)))))) else (none))) else (none))))))) else (none)))))) else (none))) else (none))))) = some r := H
    have A23 := Aside0.mk A230
    clear A230
    replace H := Option.bind_eq_some_iff.mp H
    obtain ⟨t221, A240, H⟩ := H
    replace H : ((ranges_Cut.f kj2 t212 a1_0 a1_1).bind fun t224 => ((some (([] : List (S34)) : List (S34))).bind fun y227 => (if y227.length + t221.length < 8796093022208 then ((some (y227 ++ t221 : List (S34))).bind fun y230 => (if y230.length + t224.length < 8796093022208 then ((ranges_Of.f kj2 (y230 ++ t224)).bind fun t236 => ((dominolaw03_its.f kj2 t236).bind fun t239 => ((dominolaw03_its.f kj2 t212).bind fun t242 => ((dominoref03_Same.f kj2 t239 t242).bind fun t245 => (if t245 = true then ((ranges_Gaps.f kj2 t212 a1_0 a1_1).bind fun t246 => ((ranges_Gaps.f kj2 t246 a1_0 a1_1).bind fun t249 => ((dominolaw03_its.f kj2 t249).bind fun t252 => ((dominolaw03_its.f kj2 t221).bind fun t255 => ((dominoref03_Same.f kj2 t252 t255).bind fun t258 => (if t258 = true then ((ranges_Meet.f kj2 t221 t224).bind fun t259 => (if (t259.length : Int) = 0 then ((ranges_Of.f kj2 (([(⟨a1_0, a1_1⟩ : S34)] : List (S34)))).bind fun t265 => ((ranges_Meet.f kj2 t265 t212).bind fun t268 => ((dominolaw03_its.f kj2 t268).bind fun t271 => ((dominolaw03_its.f kj2 t221).bind fun t274 => ((dominoref03_Same.f kj2 t271 t274).bind fun t277 => (some t277)))))) else (none))) else (none))))))) else (none)))))) else (none))) else (none)))) = some r := H
    have A24 := Aside0.mk A240
    clear A240
    replace H := Option.bind_eq_some_iff.mp H
    obtain ⟨t224, A250, H⟩ := H
    replace H : ((some (([] : List (S34)) : List (S34))).bind fun y227 => (if y227.length + t221.length < 8796093022208 then ((some (y227 ++ t221 : List (S34))).bind fun y230 => (if y230.length + t224.length < 8796093022208 then ((ranges_Of.f kj2 (y230 ++ t224)).bind fun t236 => ((dominolaw03_its.f kj2 t236).bind fun t239 => ((dominolaw03_its.f kj2 t212).bind fun t242 => ((dominoref03_Same.f kj2 t239 t242).bind fun t245 => (if t245 = true then ((ranges_Gaps.f kj2 t212 a1_0 a1_1).bind fun t246 => ((ranges_Gaps.f kj2 t246 a1_0 a1_1).bind fun t249 => ((dominolaw03_its.f kj2 t249).bind fun t252 => ((dominolaw03_its.f kj2 t221).bind fun t255 => ((dominoref03_Same.f kj2 t252 t255).bind fun t258 => (if t258 = true then ((ranges_Meet.f kj2 t221 t224).bind fun t259 => (if (t259.length : Int) = 0 then ((ranges_Of.f kj2 (([(⟨a1_0, a1_1⟩ : S34)] : List (S34)))).bind fun t265 => ((ranges_Meet.f kj2 t265 t212).bind fun t268 => ((dominolaw03_its.f kj2 t268).bind fun t271 => ((dominolaw03_its.f kj2 t221).bind fun t274 => ((dominoref03_Same.f kj2 t271 t274).bind fun t277 => (some t277)))))) else (none))) else (none))))))) else (none)))))) else (none))) else (none))) = some r := H
    have A25 := Aside0.mk A250
    clear A250
    obtain ⟨y227, hy227⟩ : ∃ y_ : List (S34), y_ = (([] : List (S34))) := ⟨_, rfl⟩
    replace H : (if y227.length + t221.length < 8796093022208 then ((some (y227 ++ t221 : List (S34))).bind fun y230 => (if y230.length + t224.length < 8796093022208 then ((ranges_Of.f kj2 (y230 ++ t224)).bind fun t236 => ((dominolaw03_its.f kj2 t236).bind fun t239 => ((dominolaw03_its.f kj2 t212).bind fun t242 => ((dominoref03_Same.f kj2 t239 t242).bind fun t245 => (if t245 = true then ((ranges_Gaps.f kj2 t212 a1_0 a1_1).bind fun t246 => ((ranges_Gaps.f kj2 t246 a1_0 a1_1).bind fun t249 => ((dominolaw03_its.f kj2 t249).bind fun t252 => ((dominolaw03_its.f kj2 t221).bind fun t255 => ((dominoref03_Same.f kj2 t252 t255).bind fun t258 => (if t258 = true then ((ranges_Meet.f kj2 t221 t224).bind fun t259 => (if (t259.length : Int) = 0 then ((ranges_Of.f kj2 (([(⟨a1_0, a1_1⟩ : S34)] : List (S34)))).bind fun t265 => ((ranges_Meet.f kj2 t265 t212).bind fun t268 => ((dominolaw03_its.f kj2 t268).bind fun t271 => ((dominolaw03_its.f kj2 t221).bind fun t274 => ((dominoref03_Same.f kj2 t271 t274).bind fun t277 => (some t277)))))) else (none))) else (none))))))) else (none)))))) else (none))) else (none)) = some r := by first | (rw [hy227]; with_reducible exact H) | (have H2_ := (Option.bind_some _ _).symm.trans H; rw [hy227]; with_reducible exact H2_) | (have H2_ := (Option.bind_some _ _).symm.trans H; with_reducible exact H2_) | with_reducible exact H | (rw [hy227]; exact H) | exact H
    have Ny227 := Aside0.mk hy227
    clear hy227
    by_cases c26 : y227.length + t221.length < 8796093022208
    ·rw [if_pos c26] at H
     have LMc26 := Aside0.mk c26
     clear c26
     obtain ⟨y230, hy230⟩ : ∃ y_ : List (S34), y_ = (y227 ++ t221) := ⟨_, rfl⟩
     replace H : (if y230.length + t224.length < 8796093022208 then ((ranges_Of.f kj2 (y230 ++ t224)).bind fun t236 => ((dominolaw03_its.f kj2 t236).bind fun t239 => ((dominolaw03_its.f kj2 t212).bind fun t242 => ((dominoref03_Same.f kj2 t239 t242).bind fun t245 => (if t245 = true then ((ranges_Gaps.f kj2 t212 a1_0 a1_1).bind fun t246 => ((ranges_Gaps.f kj2 t246 a1_0 a1_1).bind fun t249 => ((dominolaw03_its.f kj2 t249).bind fun t252 => ((dominolaw03_its.f kj2 t221).bind fun t255 => ((dominoref03_Same.f kj2 t252 t255).bind fun t258 => (if t258 = true then ((ranges_Meet.f kj2 t221 t224).bind fun t259 => (if (t259.length : Int) = 0 then ((ranges_Of.f kj2 (([(⟨a1_0, a1_1⟩ : S34)] : List (S34)))).bind fun t265 => ((ranges_Meet.f kj2 t265 t212).bind fun t268 => ((dominolaw03_its.f kj2 t268).bind fun t271 => ((dominolaw03_its.f kj2 t221).bind fun t274 => ((dominoref03_Same.f kj2 t271 t274).bind fun t277 => (some t277)))))) else (none))) else (none))))))) else (none)))))) else (none)) = some r := by first | (rw [hy230]; with_reducible exact H) | (have H2_ := (Option.bind_some _ _).symm.trans H; rw [hy230]; with_reducible exact H2_) | (have H2_ := (Option.bind_some _ _).symm.trans H; with_reducible exact H2_) | with_reducible exact H | (rw [hy230]; exact H) | exact H
     have Ny230 := Aside0.mk hy230
     clear hy230
     by_cases c27 : y230.length + t224.length < 8796093022208
     ·rw [if_pos c27] at H
      have LMc27 := Aside0.mk c27
      clear c27
      obtain ⟨y233, hy233⟩ : ∃ y_ : List (S34), y_ = (y230 ++ t224) := ⟨_, rfl⟩
      replace H : ((ranges_Of.f kj2 y233).bind fun t236 => ((dominolaw03_its.f kj2 t236).bind fun t239 => ((dominolaw03_its.f kj2 t212).bind fun t242 => ((dominoref03_Same.f kj2 t239 t242).bind fun t245 => (if t245 = true then ((ranges_Gaps.f kj2 t212 a1_0 a1_1).bind fun t246 => ((ranges_Gaps.f kj2 t246 a1_0 a1_1).bind fun t249 => ((dominolaw03_its.f kj2 t249).bind fun t252 => ((dominolaw03_its.f kj2 t221).bind fun t255 => ((dominoref03_Same.f kj2 t252 t255).bind fun t258 => (if t258 = true then ((ranges_Meet.f kj2 t221 t224).bind fun t259 => (if (t259.length : Int) = 0 then ((ranges_Of.f kj2 (([(⟨a1_0, a1_1⟩ : S34)] : List (S34)))).bind fun t265 => ((ranges_Meet.f kj2 t265 t212).bind fun t268 => ((dominolaw03_its.f kj2 t268).bind fun t271 => ((dominolaw03_its.f kj2 t221).bind fun t274 => ((dominoref03_Same.f kj2 t271 t274).bind fun t277 => (some t277)))))) else (none))) else (none))))))) else (none)))))) = some r := by first | (rw [hy233]; with_reducible exact H) | (have H2_ := (Option.bind_some _ _).symm.trans H; rw [hy233]; with_reducible exact H2_) | (have H2_ := (Option.bind_some _ _).symm.trans H; with_reducible exact H2_) | with_reducible exact H | (rw [hy233]; exact H) | exact H
      have Ny233 := Aside0.mk hy233
      clear hy233
      replace H := Option.bind_eq_some_iff.mp H
      obtain ⟨t236, A280, H⟩ := H
      replace H : ((dominolaw03_its.f kj2 t236).bind fun t239 => ((dominolaw03_its.f kj2 t212).bind fun t242 => ((dominoref03_Same.f kj2 t239 t242).bind fun t245 => (if t245 = true then ((ranges_Gaps.f kj2 t212 a1_0 a1_1).bind fun t246 => ((ranges_Gaps.f kj2 t246 a1_0 a1_1).bind fun t249 => ((dominolaw03_its.f kj2 t249).bind fun t252 => ((dominolaw03_its.f kj2 t221).bind fun t255 => ((dominoref03_Same.f kj2 t252 t255).bind fun t258 => (if t258 = true then ((ranges_Meet.f kj2 t221 t224).bind fun t259 => (if (t259.length : Int) = 0 then ((ranges_Of.f kj2 (([(⟨a1_0, a1_1⟩ : S34)] : List (S34)))).bind fun t265 => ((ranges_Meet.f kj2 t265 t212).bind fun t268 => ((dominolaw03_its.f kj2 t268).bind fun t271 => ((dominolaw03_its.f kj2 t221).bind fun t274 => ((dominoref03_Same.f kj2 t271 t274).bind fun t277 => (some t277)))))) else (none))) else (none))))))) else (none))))) = some r := H
      have A28 := Aside0.mk A280
      clear A280
      replace H := Option.bind_eq_some_iff.mp H
      obtain ⟨t239, A290, H⟩ := H
      replace H : ((dominolaw03_its.f kj2 t212).bind fun t242 => ((dominoref03_Same.f kj2 t239 t242).bind fun t245 => (if t245 = true then ((ranges_Gaps.f kj2 t212 a1_0 a1_1).bind fun t246 => ((ranges_Gaps.f kj2 t246 a1_0 a1_1).bind fun t249 => ((dominolaw03_its.f kj2 t249).bind fun t252 => ((dominolaw03_its.f kj2 t221).bind fun t255 => ((dominoref03_Same.f kj2 t252 t255).bind fun t258 => (if t258 = true then ((ranges_Meet.f kj2 t221 t224).bind fun t259 => (if (t259.length : Int) = 0 then ((ranges_Of.f kj2 (([(⟨a1_0, a1_1⟩ : S34)] : List (S34)))).bind fun t265 => ((ranges_Meet.f kj2 t265 t212).bind fun t268 => ((dominolaw03_its.f kj2 t268).bind fun t271 => ((dominolaw03_its.f kj2 t221).bind fun t274 => ((dominoref03_Same.f kj2 t271 t274).bind fun t277 => (some t277)))))) else (none))) else (none))))))) else (none)))) = some r := H
      have A29 := Aside0.mk A290
      clear A290
      replace H := Option.bind_eq_some_iff.mp H
      obtain ⟨t242, A300, H⟩ := H
      replace H : ((dominoref03_Same.f kj2 t239 t242).bind fun t245 => (if t245 = true then ((ranges_Gaps.f kj2 t212 a1_0 a1_1).bind fun t246 => ((ranges_Gaps.f kj2 t246 a1_0 a1_1).bind fun t249 => ((dominolaw03_its.f kj2 t249).bind fun t252 => ((dominolaw03_its.f kj2 t221).bind fun t255 => ((dominoref03_Same.f kj2 t252 t255).bind fun t258 => (if t258 = true then ((ranges_Meet.f kj2 t221 t224).bind fun t259 => (if (t259.length : Int) = 0 then ((ranges_Of.f kj2 (([(⟨a1_0, a1_1⟩ : S34)] : List (S34)))).bind fun t265 => ((ranges_Meet.f kj2 t265 t212).bind fun t268 => ((dominolaw03_its.f kj2 t268).bind fun t271 => ((dominolaw03_its.f kj2 t221).bind fun t274 => ((dominoref03_Same.f kj2 t271 t274).bind fun t277 => (some t277)))))) else (none))) else (none))))))) else (none))) = some r := H
      have A30 := Aside0.mk A300
      clear A300
      replace H := Option.bind_eq_some_iff.mp H
      obtain ⟨t245, A310, H⟩ := H
      replace H : (if t245 = true then ((ranges_Gaps.f kj2 t212 a1_0 a1_1).bind fun t246 => ((ranges_Gaps.f kj2 t246 a1_0 a1_1).bind fun t249 => ((dominolaw03_its.f kj2 t249).bind fun t252 => ((dominolaw03_its.f kj2 t221).bind fun t255 => ((dominoref03_Same.f kj2 t252 t255).bind fun t258 => (if t258 = true then ((ranges_Meet.f kj2 t221 t224).bind fun t259 => (if (t259.length : Int) = 0 then ((ranges_Of.f kj2 (([(⟨a1_0, a1_1⟩ : S34)] : List (S34)))).bind fun t265 => ((ranges_Meet.f kj2 t265 t212).bind fun t268 => ((dominolaw03_its.f kj2 t268).bind fun t271 => ((dominolaw03_its.f kj2 t221).bind fun t274 => ((dominoref03_Same.f kj2 t271 t274).bind fun t277 => (some t277)))))) else (none))) else (none))))))) else (none)) = some r := H
      have A31 := Aside0.mk A310
      clear A310
      by_cases c32 : t245 = true
      ·subst c32
       have H1 : ((ranges_Gaps.f kj2 t212 a1_0 a1_1).bind fun t246 => ((ranges_Gaps.f kj2 t246 a1_0 a1_1).bind fun t249 => ((dominolaw03_its.f kj2 t249).bind fun t252 => ((dominolaw03_its.f kj2 t221).bind fun t255 => ((dominoref03_Same.f kj2 t252 t255).bind fun t258 => (if t258 = true then ((ranges_Meet.f kj2 t221 t224).bind fun t259 => (if (t259.length : Int) = 0 then ((ranges_Of.f kj2 (([(⟨a1_0, a1_1⟩ : S34)] : List (S34)))).bind fun t265 => ((ranges_Meet.f kj2 t265 t212).bind fun t268 => ((dominolaw03_its.f kj2 t268).bind fun t271 => ((dominolaw03_its.f kj2 t221).bind fun t274 => ((dominoref03_Same.f kj2 t271 t274).bind fun t277 => (some t277)))))) else (none))) else (none))))))) = some r := by rw [if_pos rfl] at H; exact H
       clear H
       have H := H1
       clear H1
       replace H := Option.bind_eq_some_iff.mp H
       obtain ⟨t246, A330, H⟩ := H
       replace H : ((ranges_Gaps.f kj2 t246 a1_0 a1_1).bind fun t249 => ((dominolaw03_its.f kj2 t249).bind fun t252 => ((dominolaw03_its.f kj2 t221).bind fun t255 => ((dominoref03_Same.f kj2 t252 t255).bind fun t258 => (if t258 = true then ((ranges_Meet.f kj2 t221 t224).bind fun t259 => (if (t259.length : Int) = 0 then ((ranges_Of.f kj2 (([(⟨a1_0, a1_1⟩ : S34)] : List (S34)))).bind fun t265 => ((ranges_Meet.f kj2 t265 t212).bind fun t268 => ((dominolaw03_its.f kj2 t268).bind fun t271 => ((dominolaw03_its.f kj2 t221).bind fun t274 => ((dominoref03_Same.f kj2 t271 t274).bind fun t277 => (some t277)))))) else (none))) else (none)))))) = some r := H
       have A33 := Aside0.mk A330
       clear A330
       replace H := Option.bind_eq_some_iff.mp H
       obtain ⟨t249, A340, H⟩ := H
       replace H : ((dominolaw03_its.f kj2 t249).bind fun t252 => ((dominolaw03_its.f kj2 t221).bind fun t255 => ((dominoref03_Same.f kj2 t252 t255).bind fun t258 => (if t258 = true then ((ranges_Meet.f kj2 t221 t224).bind fun t259 => (if (t259.length : Int) = 0 then ((ranges_Of.f kj2 (([(⟨a1_0, a1_1⟩ : S34)] : List (S34)))).bind fun t265 => ((ranges_Meet.f kj2 t265 t212).bind fun t268 => ((dominolaw03_its.f kj2 t268).bind fun t271 => ((dominolaw03_its.f kj2 t221).bind fun t274 => ((dominoref03_Same.f kj2 t271 t274).bind fun t277 => (some t277)))))) else (none))) else (none))))) = some r := H
       have A34 := Aside0.mk A340
       clear A340
       replace H := Option.bind_eq_some_iff.mp H
       obtain ⟨t252, A350, H⟩ := H
       replace H : ((dominolaw03_its.f kj2 t221).bind fun t255 => ((dominoref03_Same.f kj2 t252 t255).bind fun t258 => (if t258 = true then ((ranges_Meet.f kj2 t221 t224).bind fun t259 => (if (t259.length : Int) = 0 then ((ranges_Of.f kj2 (([(⟨a1_0, a1_1⟩ : S34)] : List (S34)))).bind fun t265 => ((ranges_Meet.f kj2 t265 t212).bind fun t268 => ((dominolaw03_its.f kj2 t268).bind fun t271 => ((dominolaw03_its.f kj2 t221).bind fun t274 => ((dominoref03_Same.f kj2 t271 t274).bind fun t277 => (some t277)))))) else (none))) else (none)))) = some r := H
       have A35 := Aside0.mk A350
       clear A350
       replace H := Option.bind_eq_some_iff.mp H
       obtain ⟨t255, A360, H⟩ := H
       replace H : ((dominoref03_Same.f kj2 t252 t255).bind fun t258 => (if t258 = true then ((ranges_Meet.f kj2 t221 t224).bind fun t259 => (if (t259.length : Int) = 0 then ((ranges_Of.f kj2 (([(⟨a1_0, a1_1⟩ : S34)] : List (S34)))).bind fun t265 => ((ranges_Meet.f kj2 t265 t212).bind fun t268 => ((dominolaw03_its.f kj2 t268).bind fun t271 => ((dominolaw03_its.f kj2 t221).bind fun t274 => ((dominoref03_Same.f kj2 t271 t274).bind fun t277 => (some t277)))))) else (none))) else (none))) = some r := H
       have A36 := Aside0.mk A360
       clear A360
       replace H := Option.bind_eq_some_iff.mp H
       obtain ⟨t258, A370, H⟩ := H
       replace H : (if t258 = true then ((ranges_Meet.f kj2 t221 t224).bind fun t259 => (if (t259.length : Int) = 0 then ((ranges_Of.f kj2 (([(⟨a1_0, a1_1⟩ : S34)] : List (S34)))).bind fun t265 => ((ranges_Meet.f kj2 t265 t212).bind fun t268 => ((dominolaw03_its.f kj2 t268).bind fun t271 => ((dominolaw03_its.f kj2 t221).bind fun t274 => ((dominoref03_Same.f kj2 t271 t274).bind fun t277 => (some t277)))))) else (none))) else (none)) = some r := H
       have A37 := Aside0.mk A370
       clear A370
       by_cases c38 : t258 = true
       ·subst c38
        have H1 : ((ranges_Meet.f kj2 t221 t224).bind fun t259 => (if (t259.length : Int) = 0 then ((ranges_Of.f kj2 (([(⟨a1_0, a1_1⟩ : S34)] : List (S34)))).bind fun t265 => ((ranges_Meet.f kj2 t265 t212).bind fun t268 => ((dominolaw03_its.f kj2 t268).bind fun t271 => ((dominolaw03_its.f kj2 t221).bind fun t274 => ((dominoref03_Same.f kj2 t271 t274).bind fun t277 => (some t277)))))) else (none))) = some r := by rw [if_pos rfl] at H; exact H
        clear H
        have H := H1
        clear H1
        replace H := Option.bind_eq_some_iff.mp H
        obtain ⟨t259, A390, H⟩ := H
        replace H : (if (t259.length : Int) = 0 then ((ranges_Of.f kj2 (([(⟨a1_0, a1_1⟩ : S34)] : List (S34)))).bind fun t265 => ((ranges_Meet.f kj2 t265 t212).bind fun t268 => ((dominolaw03_its.f kj2 t268).bind fun t271 => ((dominolaw03_its.f kj2 t221).bind fun t274 => ((dominoref03_Same.f kj2 t271 t274).bind fun t277 => (some t277)))))) else (none)) = some r := H
        have A39 := Aside0.mk A390
        clear A390
        by_cases c40 : (t259.length : Int) = 0
        ·rw [if_pos c40] at H
         have c40b0 : ((t259.length : Int) == 0) = true := beq_iff_eq.mpr c40
         have c40b1 : ((t259.length : Int) != 0) = false := bne_eq_false_iff_eq.mpr c40
         clear c40
         obtain ⟨y262, hy262⟩ : ∃ y_ : List (S34), y_ = (([(⟨a1_0, a1_1⟩ : S34)] : List (S34))) := ⟨_, rfl⟩
         replace H : ((ranges_Of.f kj2 y262).bind fun t265 => ((ranges_Meet.f kj2 t265 t212).bind fun t268 => ((dominolaw03_its.f kj2 t268).bind fun t271 => ((dominolaw03_its.f kj2 t221).bind fun t274 => ((dominoref03_Same.f kj2 t271 t274).bind fun t277 => (some t277)))))) = some r := by first | (rw [hy262]; with_reducible exact H) | (have H2_ := (Option.bind_some _ _).symm.trans H; rw [hy262]; with_reducible exact H2_) | (have H2_ := (Option.bind_some _ _).symm.trans H; with_reducible exact H2_) | with_reducible exact H | (rw [hy262]; exact H) | exact H
         have Ny262 := Aside0.mk hy262
         clear hy262
         replace H := Option.bind_eq_some_iff.mp H
         obtain ⟨t265, A410, H⟩ := H
         replace H : ((ranges_Meet.f kj2 t265 t212).bind fun t268 => ((dominolaw03_its.f kj2 t268).bind fun t271 => ((dominolaw03_its.f kj2 t221).bind fun t274 => ((dominoref03_Same.f kj2 t271 t274).bind fun t277 => (some t277))))) = some r := H
         have A41 := Aside0.mk A410
         clear A410
         replace H := Option.bind_eq_some_iff.mp H
         obtain ⟨t268, A420, H⟩ := H
         replace H : ((dominolaw03_its.f kj2 t268).bind fun t271 => ((dominolaw03_its.f kj2 t221).bind fun t274 => ((dominoref03_Same.f kj2 t271 t274).bind fun t277 => (some t277)))) = some r := H
         have A42 := Aside0.mk A420
         clear A420
         replace H := Option.bind_eq_some_iff.mp H
         obtain ⟨t271, A430, H⟩ := H
         replace H : ((dominolaw03_its.f kj2 t221).bind fun t274 => ((dominoref03_Same.f kj2 t271 t274).bind fun t277 => (some t277))) = some r := H
         have A43 := Aside0.mk A430
         clear A430
         replace H := Option.bind_eq_some_iff.mp H
         obtain ⟨t274, A440, H⟩ := H
         replace H : ((dominoref03_Same.f kj2 t271 t274).bind fun t277 => (some t277)) = some r := H
         have A44 := Aside0.mk A440
         clear A440
         replace H := Option.bind_eq_some_iff.mp H
         obtain ⟨t277, A450, H⟩ := H
         replace H : (some t277) = some r := H
         have A45 := Aside0.mk A450
         clear A450
         obtain rfl := Option.some.inj H
         try go_wp2_with (first | ((with_reducible refine gate_callee (f := 15) rfl ?_); refine goesL_ (some 24) rfl rfl Try.func15 (by kernel_rfl) rfl #[.slice A0 l0.length c0] rfl (by (try simp only [List.map_toArray, List.map_cons, List.map_nil]); first | done | rfl | (simp only [List.length_drop, List.length_take]; rfl)) ?_; (with_reducible refine (ranges_Of.calls kj2 _ _ l0 t212 _ ?side1 ?side2 A22.out).mono ?_); (case side1 => repeat (first | exact (Kd.C_below HR0.out HB.out) | (with_reducible refine Kd.C_alloc ?_ _) | (with_reducible refine Kd.C_drewN ?_ _) | (with_reducible refine Kd.C_drew ?_))); (case side2 => exact HC0.out); rintro e w46 ⟨v213, rfl, ho0, hb⟩; refine ⟨_, rfl, ?_⟩; have n0_ := Aside0.mk (Kd.R_lower (Kd.R_newB ho0 (g := gb204) (o := .cells #[.int .u64 a1_0, .int .u64 a1_1] 34 (0, 0)) (by (with_reducible repeat (first | refine blk_drewN ?_ _ | refine blk_drew ?_ | refine blk_alloc ?_ _)); exact BK204.out)) (below_size (by repeat (first | (with_reducible first | exact HB.out | apply below_alloc | apply pw_below_drewN | apply below_drew1 | refine below_set ?_ GE204.out) | exact HB.out)))); have n1_ := Aside0.mk (blk_below (g := gb204) (o := .cells #[.int .u64 a1_0, .int .u64 a1_1] 34 (0, 0)) (by (with_reducible repeat (first | refine blk_drewN ?_ _ | refine blk_drew ?_ | refine blk_alloc ?_ _)); exact BK204.out) hb); have n2_ := Aside0.mk (below_step (by repeat (first | (with_reducible first | exact HB.out | apply below_alloc | apply pw_below_drewN | apply below_drew1 | refine below_set ?_ GE204.out) | exact HB.out)) hb); clear BK204; clear HB; have HO214 := n0_; have BK204 := n1_; have HB := n2_; clear n0_ n1_ n2_; (try clear hb); (try clear hb2); (try clear hk); (try clear hi); (try clear ho0); have hcz47_0 : w46.cell? ⟨gb204, 0, none⟩ = some (.int .u64 a1_0) := (blk_cell BK204.out 0).trans rfl; have hcz47_1 : w46.cell? ⟨gb204, 1, none⟩ = some (.int .u64 a1_1) := (blk_cell BK204.out 1).trans rfl; have hfz47_0 := blk_frozen BK204.out 0; have hfz47_1 := blk_frozen BK204.out 1) | ((with_reducible refine gate_dst (N := 27) rfl ?_); (try (refine gate_guard (by rfl) ?_; dsimp only)); refine Kd.R_lit k34 _ 34 ?hg (N := 27) ?hd (xs := ([(⟨a1_0, a1_1⟩ : S34)] : List (S34))) (inner := [.int .u64 a1_0, .int .u64 a1_1]) (ok := fun _ => True) (okp := fun _ => True) ?hr ?hp (fun _ hk => hk) trivial (Below.refl _ _) (Nat.le_refl _) (by simp) ?_; (case hd => rfl); (case hg => rfl); (case hr => first | (go_simp; done) | (go_simp; rfl)); (case hp => exact (Reps.c2 (show Kd.M k34 _ _ _ (⟨a1_0, a1_1⟩ : S34) [.int .u64 a1_0, .int .u64 a1_1] from (k34_mkM _ _ _ (⟨a1_0, a1_1⟩ : S34) )) (Reps.none _ _))); intro v216 w48 ho49 hb hg_ hnew_; clear hg_ hnew_; (first | rw [← Ny215.out] at ho49 | (simp only [Int.reduceToNat] at ho49; rw [← Ny215.out] at ho49)); have n0_ := Aside0.mk (Kd.R_elder' (by (with_reducible repeat (first | apply Kd.R_alloc | apply Kd.R_drewN | apply Kd.R_drew)); exact HO214.out) (Kd.R_base ho49) hb); have n1_ := Aside0.mk (Kd.R_lower (Kd.R_newB (Kd.R_new' ho49 (Kd.R_lt (by (with_reducible repeat (first | apply Kd.R_alloc | apply Kd.R_drewN | apply Kd.R_drew)); exact HO214.out))) (g := gb204) (o := .cells #[.int .u64 a1_0, .int .u64 a1_1] 34 (0, 0)) (by (with_reducible repeat (first | refine blk_drewN ?_ _ | refine blk_drew ?_ | refine blk_alloc ?_ _)); exact BK204.out)) (below_size (by repeat (first | (with_reducible first | exact HB.out | apply below_alloc | apply pw_below_drewN | apply below_drew1 | refine below_set ?_ GE204.out) | exact HB.out)))); have n2_ := Aside0.mk (blk_below (g := gb204) (o := .cells #[.int .u64 a1_0, .int .u64 a1_1] 34 (0, 0)) (by (with_reducible repeat (first | refine blk_drewN ?_ _ | refine blk_drew ?_ | refine blk_alloc ?_ _)); exact BK204.out) hb); have n3_ := Aside0.mk (below_step (by repeat (first | (with_reducible first | exact HB.out | apply below_alloc | apply pw_below_drewN | apply below_drew1 | refine below_set ?_ GE204.out) | exact HB.out)) hb); clear HO214; clear BK204; clear HB; have HO214 := n0_; have HO217 := n1_; have BK204 := n2_; have HB := n3_; clear n0_ n1_ n2_ n3_; clear hb ho49; obtain ⟨Ao50, co50, eo50⟩ := Kd.R_slice HO217.out; subst eo50) | ((with_reducible refine gate_callee (f := 15) rfl ?_); refine goesL_ (some 28) rfl rfl Try.func15 (by kernel_rfl) rfl #[.slice Ao50 y215.length co50] rfl (by (try simp only [List.map_toArray, List.map_cons, List.map_nil]); first | done | rfl | (simp only [List.length_drop, List.length_take]; rfl)) ?_; (with_reducible refine (ranges_Of.calls kj2 _ _ y215 t218 _ ?side1 ?side2 A23.out).mono ?_); (case side1 => repeat (first | exact (Kd.R_reads' HO217.out).2.2 | (with_reducible refine Kd.C_alloc ?_ _) | (with_reducible refine Kd.C_drewN ?_ _) | (with_reducible refine Kd.C_drew ?_))); (case side2 => exact (Kd.R_reads' HO217.out).2.1); rintro e w51 ⟨v219, rfl, ho0, hb⟩; refine ⟨_, rfl, ?_⟩; have n0_ := Aside0.mk (Kd.R_elder' (by (with_reducible repeat (first | apply Kd.R_alloc | apply Kd.R_drewN | apply Kd.R_drew)); exact HO214.out) (Kd.R_base ho0) hb); have n1_ := Aside0.mk (Kd.R_elder' (by (with_reducible repeat (first | apply Kd.R_alloc | apply Kd.R_drewN | apply Kd.R_drew)); exact HO217.out) (Kd.R_base ho0) hb); have n2_ := Aside0.mk (Kd.R_lower (Kd.R_newB (Kd.R_new' (Kd.R_new' ho0 (Kd.R_lt (by (with_reducible repeat (first | apply Kd.R_alloc | apply Kd.R_drewN | apply Kd.R_drew)); exact HO214.out))) (Kd.R_lt (by (with_reducible repeat (first | apply Kd.R_alloc | apply Kd.R_drewN | apply Kd.R_drew)); exact HO217.out))) (g := gb204) (o := .cells #[.int .u64 a1_0, .int .u64 a1_1] 34 (0, 0)) (by (with_reducible repeat (first | refine blk_drewN ?_ _ | refine blk_drew ?_ | refine blk_alloc ?_ _)); exact BK204.out)) (below_size (by repeat (first | (with_reducible first | exact HB.out | apply below_alloc | apply pw_below_drewN | apply below_drew1 | refine below_set ?_ GE204.out) | exact HB.out)))); have n3_ := Aside0.mk (blk_below (g := gb204) (o := .cells #[.int .u64 a1_0, .int .u64 a1_1] 34 (0, 0)) (by (with_reducible repeat (first | refine blk_drewN ?_ _ | refine blk_drew ?_ | refine blk_alloc ?_ _)); exact BK204.out) hb); have n4_ := Aside0.mk (below_step (by repeat (first | (with_reducible first | exact HB.out | apply below_alloc | apply pw_below_drewN | apply below_drew1 | refine below_set ?_ GE204.out) | exact HB.out)) hb); clear HO214; clear HO217; clear BK204; clear HB; have HO214 := n0_; have HO217 := n1_; have HO220 := n2_; have BK204 := n3_; have HB := n4_; clear n0_ n1_ n2_ n3_ n4_; (try clear hb); (try clear hb2); (try clear hk); (try clear hi); (try clear ho0); obtain ⟨Ao52, co52, eo52⟩ := Kd.R_slice HO214.out; subst eo52; obtain ⟨Ao53, co53, eo53⟩ := Kd.R_slice HO220.out; subst eo53) | ((with_reducible refine gate_callee (f := 21) rfl ?_); refine goesL_ (some 29) rfl rfl Try.func21 (by kernel_rfl) rfl #[.slice Ao52 t212.length co52, .slice Ao53 t218.length co53] rfl (by (try simp only [List.map_toArray, List.map_cons, List.map_nil]); first | done | rfl | (simp only [List.length_drop, List.length_take]; rfl)) ?_; (with_reducible refine (ranges_Meet.calls kj2 _ _ t212 _ _ t218 t221 _ ?side1 ?side2 ?side3 ?side4 A24.out).mono ?_); (case side1 => repeat (first | exact (Kd.R_reads' HO214.out).2.2 | (with_reducible refine Kd.C_alloc ?_ _) | (with_reducible refine Kd.C_drewN ?_ _) | (with_reducible refine Kd.C_drew ?_))); (case side2 => exact (Kd.R_reads' HO214.out).2.1); (case side3 => repeat (first | exact (Kd.R_reads' HO220.out).2.2 | (with_reducible refine Kd.C_alloc ?_ _) | (with_reducible refine Kd.C_drewN ?_ _) | (with_reducible refine Kd.C_drew ?_))); (case side4 => exact (Kd.R_reads' HO220.out).2.1); rintro e w54 ⟨v222, rfl, ho0, hb⟩; refine ⟨_, rfl, ?_⟩; have n0_ := Aside0.mk (Kd.R_elder' (by (with_reducible repeat (first | apply Kd.R_alloc | apply Kd.R_drewN | apply Kd.R_drew)); exact HO214.out) (Kd.R_base ho0) hb); have n1_ := Aside0.mk (Kd.R_elder' (by (with_reducible repeat (first | apply Kd.R_alloc | apply Kd.R_drewN | apply Kd.R_drew)); exact HO217.out) (Kd.R_base ho0) hb); have n2_ := Aside0.mk (Kd.R_elder' (by (with_reducible repeat (first | apply Kd.R_alloc | apply Kd.R_drewN | apply Kd.R_drew)); exact HO220.out) (Kd.R_base ho0) hb); have n3_ := Aside0.mk (Kd.R_lower (Kd.R_newB (Kd.R_new' (Kd.R_new' (Kd.R_new' ho0 (Kd.R_lt (by (with_reducible repeat (first | apply Kd.R_alloc | apply Kd.R_drewN | apply Kd.R_drew)); exact HO214.out))) (Kd.R_lt (by (with_reducible repeat (first | apply Kd.R_alloc | apply Kd.R_drewN | apply Kd.R_drew)); exact HO217.out))) (Kd.R_lt (by (with_reducible repeat (first | apply Kd.R_alloc | apply Kd.R_drewN | apply Kd.R_drew)); exact HO220.out))) (g := gb204) (o := .cells #[.int .u64 a1_0, .int .u64 a1_1] 34 (0, 0)) (by (with_reducible repeat (first | refine blk_drewN ?_ _ | refine blk_drew ?_ | refine blk_alloc ?_ _)); exact BK204.out)) (below_size (by repeat (first | (with_reducible first | exact HB.out | apply below_alloc | apply pw_below_drewN | apply below_drew1 | refine below_set ?_ GE204.out) | exact HB.out)))); have n4_ := Aside0.mk (blk_below (g := gb204) (o := .cells #[.int .u64 a1_0, .int .u64 a1_1] 34 (0, 0)) (by (with_reducible repeat (first | refine blk_drewN ?_ _ | refine blk_drew ?_ | refine blk_alloc ?_ _)); exact BK204.out) hb); have n5_ := Aside0.mk (below_step (by repeat (first | (with_reducible first | exact HB.out | apply below_alloc | apply pw_below_drewN | apply below_drew1 | refine below_set ?_ GE204.out) | exact HB.out)) hb); clear HO214; clear HO217; clear HO220; clear BK204; clear HB; have HO214 := n0_; have HO217 := n1_; have HO220 := n2_; have HO223 := n3_; have BK204 := n4_; have HB := n5_; clear n0_ n1_ n2_ n3_ n4_ n5_; (try clear hb); (try clear hb2); (try clear hk); (try clear hi); (try clear ho0); have hcz55_0 : w54.cell? ⟨gb204, 0, none⟩ = some (.int .u64 a1_0) := (blk_cell BK204.out 0).trans rfl; have hcz55_1 : w54.cell? ⟨gb204, 1, none⟩ = some (.int .u64 a1_1) := (blk_cell BK204.out 1).trans rfl; have hfz55_0 := blk_frozen BK204.out 0; have hfz55_1 := blk_frozen BK204.out 1) | ((with_reducible refine gate_callee (f := 18) rfl ?_); refine goesL_ (some 32) rfl rfl Try.func18 (by kernel_rfl) rfl #[.slice Ao52 t212.length co52, .agg #[.int .u64 a1_0, .int .u64 a1_1]] rfl (by (try simp only [List.map_toArray, List.map_cons, List.map_nil]); first | done | rfl | (simp only [List.length_drop, List.length_take]; rfl)) ?_; (with_reducible refine (ranges_Cut.calls kj2 _ _ t212 a1_0 a1_1 t224 _ ?side1 ?side2 A25.out).mono ?_); (case side1 => repeat (first | exact (Kd.R_reads' HO214.out).2.2 | (with_reducible refine Kd.C_alloc ?_ _) | (with_reducible refine Kd.C_drewN ?_ _) | (with_reducible refine Kd.C_drew ?_))); (case side2 => exact (Kd.R_reads' HO214.out).2.1); rintro e w56 ⟨v225, rfl, ho0, hb⟩; refine ⟨_, rfl, ?_⟩; have n0_ := Aside0.mk (Kd.R_elder' (by (with_reducible repeat (first | apply Kd.R_alloc | apply Kd.R_drewN | apply Kd.R_drew)); exact HO214.out) (Kd.R_base ho0) hb); have n1_ := Aside0.mk (Kd.R_elder' (by (with_reducible repeat (first | apply Kd.R_alloc | apply Kd.R_drewN | apply Kd.R_drew)); exact HO217.out) (Kd.R_base ho0) hb); have n2_ := Aside0.mk (Kd.R_elder' (by (with_reducible repeat (first | apply Kd.R_alloc | apply Kd.R_drewN | apply Kd.R_drew)); exact HO220.out) (Kd.R_base ho0) hb); have n3_ := Aside0.mk (Kd.R_elder' (by (with_reducible repeat (first | apply Kd.R_alloc | apply Kd.R_drewN | apply Kd.R_drew)); exact HO223.out) (Kd.R_base ho0) hb); have n4_ := Aside0.mk (Kd.R_lower (Kd.R_newB (Kd.R_new' (Kd.R_new' (Kd.R_new' (Kd.R_new' ho0 (Kd.R_lt (by (with_reducible repeat (first | apply Kd.R_alloc | apply Kd.R_drewN | apply Kd.R_drew)); exact HO214.out))) (Kd.R_lt (by (with_reducible repeat (first | apply Kd.R_alloc | apply Kd.R_drewN | apply Kd.R_drew)); exact HO217.out))) (Kd.R_lt (by (with_reducible repeat (first | apply Kd.R_alloc | apply Kd.R_drewN | apply Kd.R_drew)); exact HO220.out))) (Kd.R_lt (by (with_reducible repeat (first | apply Kd.R_alloc | apply Kd.R_drewN | apply Kd.R_drew)); exact HO223.out))) (g := gb204) (o := .cells #[.int .u64 a1_0, .int .u64 a1_1] 34 (0, 0)) (by (with_reducible repeat (first | refine blk_drewN ?_ _ | refine blk_drew ?_ | refine blk_alloc ?_ _)); exact BK204.out)) (below_size (by repeat (first | (with_reducible first | exact HB.out | apply below_alloc | apply pw_below_drewN | apply below_drew1 | refine below_set ?_ GE204.out) | exact HB.out)))); have n5_ := Aside0.mk (blk_below (g := gb204) (o := .cells #[.int .u64 a1_0, .int .u64 a1_1] 34 (0, 0)) (by (with_reducible repeat (first | refine blk_drewN ?_ _ | refine blk_drew ?_ | refine blk_alloc ?_ _)); exact BK204.out) hb); have n6_ := Aside0.mk (below_step (by repeat (first | (with_reducible first | exact HB.out | apply below_alloc | apply pw_below_drewN | apply below_drew1 | refine below_set ?_ GE204.out) | exact HB.out)) hb); clear HO214; clear HO217; clear HO220; clear HO223; clear BK204; clear HB; have HO214 := n0_; have HO217 := n1_; have HO220 := n2_; have HO223 := n3_; have HO226 := n4_; have BK204 := n5_; have HB := n6_; clear n0_ n1_ n2_ n3_ n4_ n5_ n6_; (try clear hb); (try clear hb2); (try clear hk); (try clear hi); (try clear ho0)) | ((with_reducible refine gate_dst (N := 33) rfl ?_); (try (refine gate_guard (by rfl) ?_; dsimp only)); refine Kd.R_lit k34 _ 34 ?hg (N := 33) ?hd (xs := ([] : List (S34))) (inner := []) (ok := fun _ => True) (okp := fun _ => True) ?hr ?hp (fun _ hk => hk) trivial (Below.refl _ _) (Nat.le_refl _) (by simp) ?_; (case hd => rfl); (case hg => rfl); (case hr => first | (go_simp; done) | (go_simp; rfl)); (case hp => exact (Reps.none _ _)); intro v228 w57 ho58 hb hg_ hnew_; clear hg_ hnew_; (first | rw [← Ny227.out] at ho58 | (simp only [Int.reduceToNat] at ho58; rw [← Ny227.out] at ho58)); have n0_ := Aside0.mk (Kd.R_elder' (by (with_reducible repeat (first | apply Kd.R_alloc | apply Kd.R_drewN | apply Kd.R_drew)); exact HO214.out) (Kd.R_base ho58) hb); have n1_ := Aside0.mk (Kd.R_elder' (by (with_reducible repeat (first | apply Kd.R_alloc | apply Kd.R_drewN | apply Kd.R_drew)); exact HO217.out) (Kd.R_base ho58) hb); have n2_ := Aside0.mk (Kd.R_elder' (by (with_reducible repeat (first | apply Kd.R_alloc | apply Kd.R_drewN | apply Kd.R_drew)); exact HO220.out) (Kd.R_base ho58) hb); have n3_ := Aside0.mk (Kd.R_elder' (by (with_reducible repeat (first | apply Kd.R_alloc | apply Kd.R_drewN | apply Kd.R_drew)); exact HO223.out) (Kd.R_base ho58) hb); have n4_ := Aside0.mk (Kd.R_elder' (by (with_reducible repeat (first | apply Kd.R_alloc | apply Kd.R_drewN | apply Kd.R_drew)); exact HO226.out) (Kd.R_base ho58) hb); have n5_ := Aside0.mk (Kd.R_lower (Kd.R_newB (Kd.R_new' (Kd.R_new' (Kd.R_new' (Kd.R_new' (Kd.R_new' ho58 (Kd.R_lt (by (with_reducible repeat (first | apply Kd.R_alloc | apply Kd.R_drewN | apply Kd.R_drew)); exact HO214.out))) (Kd.R_lt (by (with_reducible repeat (first | apply Kd.R_alloc | apply Kd.R_drewN | apply Kd.R_drew)); exact HO217.out))) (Kd.R_lt (by (with_reducible repeat (first | apply Kd.R_alloc | apply Kd.R_drewN | apply Kd.R_drew)); exact HO220.out))) (Kd.R_lt (by (with_reducible repeat (first | apply Kd.R_alloc | apply Kd.R_drewN | apply Kd.R_drew)); exact HO223.out))) (Kd.R_lt (by (with_reducible repeat (first | apply Kd.R_alloc | apply Kd.R_drewN | apply Kd.R_drew)); exact HO226.out))) (g := gb204) (o := .cells #[.int .u64 a1_0, .int .u64 a1_1] 34 (0, 0)) (by (with_reducible repeat (first | refine blk_drewN ?_ _ | refine blk_drew ?_ | refine blk_alloc ?_ _)); exact BK204.out)) (below_size (by repeat (first | (with_reducible first | exact HB.out | apply below_alloc | apply pw_below_drewN | apply below_drew1 | refine below_set ?_ GE204.out) | exact HB.out)))); have n6_ := Aside0.mk (blk_below (g := gb204) (o := .cells #[.int .u64 a1_0, .int .u64 a1_1] 34 (0, 0)) (by (with_reducible repeat (first | refine blk_drewN ?_ _ | refine blk_drew ?_ | refine blk_alloc ?_ _)); exact BK204.out) hb); have n7_ := Aside0.mk (below_step (by repeat (first | (with_reducible first | exact HB.out | apply below_alloc | apply pw_below_drewN | apply below_drew1 | refine below_set ?_ GE204.out) | exact HB.out)) hb); clear HO214; clear HO217; clear HO220; clear HO223; clear HO226; clear BK204; clear HB; have HO214 := n0_; have HO217 := n1_; have HO220 := n2_; have HO223 := n3_; have HO226 := n4_; have HO229 := n5_; have BK204 := n6_; have HB := n7_; clear n0_ n1_ n2_ n3_ n4_ n5_ n6_ n7_; clear hb ho58; obtain ⟨Ao60, co60, eo60⟩ := Kd.R_slice HO223.out; subst eo60) | ((with_reducible refine gate_builtin (b := .append) (xs := #[.tmp 33, .tmp 34]) rfl ?_); (try (refine gate_guard (by rfl) ?_; dsimp only)); at_builtin; refine Kd.R_append_rows k34 (w0 := w) w.heap.size rfl (.tmp 33) (.tmp 34) 23 34 (.agg #[(.int .u64 0), (.int .u64 0)]) 16 rfl Try.underlying23 info34 rfl (by decide) (by omega) v228 y227 t221 _ _ _ (fun k_ => some k_ ≠ (.slice Ao52 t212.length co52 : Value).ownBlock ∧ some k_ ≠ (.slice Ao50 y215.length co50 : Value).ownBlock ∧ some k_ ≠ (.slice Ao53 t218.length co53 : Value).ownBlock ∧ some k_ ≠ (.slice Ao60 t221.length co60 : Value).ownBlock ∧ some k_ ≠ (v225 : Value).ownBlock ∧ k_ ≠ gb204) (fun _ => False) rfl rfl ?aO ?aR (fun _ _ h => h) (fun _ h => h.elim) ?aF ?aB ?aS ?aL ?_; (case aR => repeat (first | exact (Kd.R_reads' HO223.out).2.2 | (with_reducible refine Kd.C_alloc ?_ _) | (with_reducible refine Kd.C_drewN ?_ _) | (with_reducible refine Kd.C_drew ?_))); (case aB => exact (by repeat (first | (with_reducible first | exact HB.out | apply below_alloc | apply pw_below_drewN | apply below_drew1 | refine below_set ?_ GE204.out) | exact HB.out))); (case aF => exact (fun k_ hk => ⟨Kd.fresh' (Kd.R_lt (by (with_reducible repeat (first | apply Kd.R_alloc | apply Kd.R_drewN | apply Kd.R_drew)); exact HO214.out)) k_ hk, Kd.fresh' (Kd.R_lt (by (with_reducible repeat (first | apply Kd.R_alloc | apply Kd.R_drewN | apply Kd.R_drew)); exact HO217.out)) k_ hk, Kd.fresh' (Kd.R_lt (by (with_reducible repeat (first | apply Kd.R_alloc | apply Kd.R_drewN | apply Kd.R_drew)); exact HO220.out)) k_ hk, Kd.fresh' (Kd.R_lt (by (with_reducible repeat (first | apply Kd.R_alloc | apply Kd.R_drewN | apply Kd.R_drew)); exact HO223.out)) k_ hk, Kd.fresh' (Kd.R_lt (by (with_reducible repeat (first | apply Kd.R_alloc | apply Kd.R_drewN | apply Kd.R_drew)); exact HO226.out)) k_ hk, Kd.freshB (g := gb204) (o := .cells #[.int .u64 a1_0, .int .u64 a1_1] 34 (0, 0)) (by (with_reducible repeat (first | refine blk_drewN ?_ _ | refine blk_drew ?_ | refine blk_alloc ?_ _)); exact BK204.out) k_ hk⟩)); (case aO => exact (by (with_reducible repeat (first | apply Kd.R_alloc | apply Kd.R_drewN | apply Kd.R_drew)); exact Kd.R_mono HO229.out (fun _ hk => ⟨hk.1.1.1.1.1.2, ⟨hk.1.1.1.1.2, ⟨hk.1.1.1.2, ⟨hk.1.1.2, ⟨hk.1.2, hk.2⟩⟩⟩⟩⟩))); (case aS => exact (below_size (by repeat (first | (with_reducible first | exact HB.out | apply below_alloc | apply pw_below_drewN | apply below_drew1 | refine below_set ?_ GE204.out) | exact HB.out)))); (case aL => have := LMc26.out; omega); intro v231 w59 ho hb hg hat; rw [← Ny230.out] at ho; have n0_ := Aside0.mk (blk_grown (g := gb204) (o := .cells #[.int .u64 a1_0, .int .u64 a1_1] 34 (0, 0)) (by (with_reducible repeat (first | refine blk_drewN ?_ _ | refine blk_drew ?_ | refine blk_alloc ?_ _)); exact BK204.out) hg (Kd.R_away HO229.out (fun _ hk => hk.2))); have n1_ := Aside0.mk (Kd.R_after (ok := (fun k_ => some k_ ≠ (.slice Ao50 y215.length co50 : Value).ownBlock ∧ some k_ ≠ (.slice Ao53 t218.length co53 : Value).ownBlock ∧ some k_ ≠ (.slice Ao60 t221.length co60 : Value).ownBlock ∧ some k_ ≠ (v225 : Value).ownBlock ∧ k_ ≠ gb204)) (by (with_reducible repeat (first | apply Kd.R_alloc | apply Kd.R_drewN | apply Kd.R_drew)); exact Kd.R_mono HO214.out (fun _ hk => ⟨⟨hk.1.1.1.1.2, ⟨hk.1.1.1.2, ⟨hk.1.1.2, ⟨hk.1.2, hk.1.1.1.1.1.2⟩⟩⟩⟩, hk.2⟩)) hg hat); have n2_ := Aside0.mk (Kd.R_after (ok := (fun k_ => some k_ ≠ (.slice Ao52 t212.length co52 : Value).ownBlock ∧ some k_ ≠ (.slice Ao53 t218.length co53 : Value).ownBlock ∧ some k_ ≠ (.slice Ao60 t221.length co60 : Value).ownBlock ∧ some k_ ≠ (v225 : Value).ownBlock ∧ k_ ≠ gb204)) (by (with_reducible repeat (first | apply Kd.R_alloc | apply Kd.R_drewN | apply Kd.R_drew)); exact Kd.R_mono HO217.out (fun _ hk => ⟨⟨hk.1.1.1.1.1.2, ⟨hk.1.1.1.2, ⟨hk.1.1.2, ⟨hk.1.2, hk.1.1.1.1.2⟩⟩⟩⟩, hk.2⟩)) hg hat); have n3_ := Aside0.mk (Kd.R_after (ok := (fun k_ => some k_ ≠ (.slice Ao52 t212.length co52 : Value).ownBlock ∧ some k_ ≠ (.slice Ao50 y215.length co50 : Value).ownBlock ∧ some k_ ≠ (.slice Ao60 t221.length co60 : Value).ownBlock ∧ some k_ ≠ (v225 : Value).ownBlock ∧ k_ ≠ gb204)) (by (with_reducible repeat (first | apply Kd.R_alloc | apply Kd.R_drewN | apply Kd.R_drew)); exact Kd.R_mono HO220.out (fun _ hk => ⟨⟨hk.1.1.1.1.1.2, ⟨hk.1.1.1.1.2, ⟨hk.1.1.2, ⟨hk.1.2, hk.1.1.1.2⟩⟩⟩⟩, hk.2⟩)) hg hat); have n4_ := Aside0.mk (Kd.R_after (ok := (fun k_ => some k_ ≠ (.slice Ao52 t212.length co52 : Value).ownBlock ∧ some k_ ≠ (.slice Ao50 y215.length co50 : Value).ownBlock ∧ some k_ ≠ (.slice Ao53 t218.length co53 : Value).ownBlock ∧ some k_ ≠ (v225 : Value).ownBlock ∧ k_ ≠ gb204)) (by (with_reducible repeat (first | apply Kd.R_alloc | apply Kd.R_drewN | apply Kd.R_drew)); exact Kd.R_mono HO223.out (fun _ hk => ⟨⟨hk.1.1.1.1.1.2, ⟨hk.1.1.1.1.2, ⟨hk.1.1.1.2, ⟨hk.1.2, hk.1.1.2⟩⟩⟩⟩, hk.2⟩)) hg hat); have n5_ := Aside0.mk (Kd.R_after (ok := (fun k_ => some k_ ≠ (.slice Ao52 t212.length co52 : Value).ownBlock ∧ some k_ ≠ (.slice Ao50 y215.length co50 : Value).ownBlock ∧ some k_ ≠ (.slice Ao53 t218.length co53 : Value).ownBlock ∧ some k_ ≠ (.slice Ao60 t221.length co60 : Value).ownBlock ∧ k_ ≠ gb204)) (by (with_reducible repeat (first | apply Kd.R_alloc | apply Kd.R_drewN | apply Kd.R_drew)); exact Kd.R_mono HO226.out (fun _ hk => ⟨⟨hk.1.1.1.1.1.2, ⟨hk.1.1.1.1.2, ⟨hk.1.1.1.2, ⟨hk.1.1.2, hk.1.2⟩⟩⟩⟩, hk.2⟩)) hg hat); have n6_ := Aside0.mk (hb); have n7_ := Aside0.mk (ho); clear BK204; clear HO214; clear HO217; clear HO220; clear HO223; clear HO226; clear HB; clear HO229; have BK204 := n0_; have HO214 := n1_; have HO217 := n2_; have HO220 := n3_; have HO223 := n4_; have HO226 := n5_; have HB := n6_; have HO232 := n7_; clear n0_ n1_ n2_ n3_ n4_ n5_ n6_ n7_; clear ho hb hg hat; obtain ⟨Ao62, co62, eo62⟩ := Kd.R_slice HO226.out; subst eo62) | ((with_reducible refine gate_builtin (b := .append) (xs := #[.tmp 35, .tmp 36]) rfl ?_); (try (refine gate_guard (by rfl) ?_; dsimp only)); at_builtin; refine Kd.R_append_rows k34 (w0 := w) w.heap.size rfl (.tmp 35) (.tmp 36) 23 34 (.agg #[(.int .u64 0), (.int .u64 0)]) 16 rfl Try.underlying23 info34 rfl (by decide) (by omega) v231 y230 t224 _ _ _ (fun k_ => some k_ ≠ (.slice Ao52 t212.length co52 : Value).ownBlock ∧ some k_ ≠ (.slice Ao50 y215.length co50 : Value).ownBlock ∧ some k_ ≠ (.slice Ao53 t218.length co53 : Value).ownBlock ∧ some k_ ≠ (.slice Ao60 t221.length co60 : Value).ownBlock ∧ some k_ ≠ (.slice Ao62 t224.length co62 : Value).ownBlock ∧ k_ ≠ gb204) (fun _ => False) rfl rfl ?aO ?aR (fun _ _ h => h) (fun _ h => h.elim) ?aF ?aB ?aS ?aL ?_; (case aR => repeat (first | exact (Kd.R_reads' HO226.out).2.2 | (with_reducible refine Kd.C_alloc ?_ _) | (with_reducible refine Kd.C_drewN ?_ _) | (with_reducible refine Kd.C_drew ?_))); (case aB => exact (by repeat (first | (with_reducible first | exact HB.out | apply below_alloc | apply pw_below_drewN | apply below_drew1 | refine below_set ?_ GE204.out) | exact HB.out))); (case aF => exact (fun k_ hk => ⟨Kd.fresh' (Kd.R_lt (by (with_reducible repeat (first | apply Kd.R_alloc | apply Kd.R_drewN | apply Kd.R_drew)); exact HO214.out)) k_ hk, Kd.fresh' (Kd.R_lt (by (with_reducible repeat (first | apply Kd.R_alloc | apply Kd.R_drewN | apply Kd.R_drew)); exact HO217.out)) k_ hk, Kd.fresh' (Kd.R_lt (by (with_reducible repeat (first | apply Kd.R_alloc | apply Kd.R_drewN | apply Kd.R_drew)); exact HO220.out)) k_ hk, Kd.fresh' (Kd.R_lt (by (with_reducible repeat (first | apply Kd.R_alloc | apply Kd.R_drewN | apply Kd.R_drew)); exact HO223.out)) k_ hk, Kd.fresh' (Kd.R_lt (by (with_reducible repeat (first | apply Kd.R_alloc | apply Kd.R_drewN | apply Kd.R_drew)); exact HO226.out)) k_ hk, Kd.freshB (g := gb204) (o := .cells #[.int .u64 a1_0, .int .u64 a1_1] 34 (0, 0)) (by (with_reducible repeat (first | refine blk_drewN ?_ _ | refine blk_drew ?_ | refine blk_alloc ?_ _)); exact BK204.out) k_ hk⟩)); (case aO => exact (by (with_reducible repeat (first | apply Kd.R_alloc | apply Kd.R_drewN | apply Kd.R_drew)); exact HO232.out)); (case aS => exact (below_size (by repeat (first | (with_reducible first | exact HB.out | apply below_alloc | apply pw_below_drewN | apply below_drew1 | refine below_set ?_ GE204.out) | exact HB.out)))); (case aL => have := LMc27.out; omega); intro v234 w61 ho hb hg hat; rw [← Ny233.out] at ho; have n0_ := Aside0.mk (blk_grown (g := gb204) (o := .cells #[.int .u64 a1_0, .int .u64 a1_1] 34 (0, 0)) (by (with_reducible repeat (first | refine blk_drewN ?_ _ | refine blk_drew ?_ | refine blk_alloc ?_ _)); exact BK204.out) hg (Kd.R_away HO232.out (fun _ hk => hk.2.2.2.2.2))); have n1_ := Aside0.mk (Kd.R_after (ok := (fun k_ => some k_ ≠ (.slice Ao50 y215.length co50 : Value).ownBlock ∧ some k_ ≠ (.slice Ao53 t218.length co53 : Value).ownBlock ∧ some k_ ≠ (.slice Ao60 t221.length co60 : Value).ownBlock ∧ some k_ ≠ (.slice Ao62 t224.length co62 : Value).ownBlock ∧ k_ ≠ gb204)) (by (with_reducible repeat (first | apply Kd.R_alloc | apply Kd.R_drewN | apply Kd.R_drew)); exact HO214.out) hg hat); have n2_ := Aside0.mk (Kd.R_after (ok := (fun k_ => some k_ ≠ (.slice Ao52 t212.length co52 : Value).ownBlock ∧ some k_ ≠ (.slice Ao53 t218.length co53 : Value).ownBlock ∧ some k_ ≠ (.slice Ao60 t221.length co60 : Value).ownBlock ∧ some k_ ≠ (.slice Ao62 t224.length co62 : Value).ownBlock ∧ k_ ≠ gb204)) (by (with_reducible repeat (first | apply Kd.R_alloc | apply Kd.R_drewN | apply Kd.R_drew)); exact HO217.out) hg hat); have n3_ := Aside0.mk (Kd.R_after (ok := (fun k_ => some k_ ≠ (.slice Ao52 t212.length co52 : Value).ownBlock ∧ some k_ ≠ (.slice Ao50 y215.length co50 : Value).ownBlock ∧ some k_ ≠ (.slice Ao60 t221.length co60 : Value).ownBlock ∧ some k_ ≠ (.slice Ao62 t224.length co62 : Value).ownBlock ∧ k_ ≠ gb204)) (by (with_reducible repeat (first | apply Kd.R_alloc | apply Kd.R_drewN | apply Kd.R_drew)); exact HO220.out) hg hat); have n4_ := Aside0.mk (Kd.R_after (ok := (fun k_ => some k_ ≠ (.slice Ao52 t212.length co52 : Value).ownBlock ∧ some k_ ≠ (.slice Ao50 y215.length co50 : Value).ownBlock ∧ some k_ ≠ (.slice Ao53 t218.length co53 : Value).ownBlock ∧ some k_ ≠ (.slice Ao62 t224.length co62 : Value).ownBlock ∧ k_ ≠ gb204)) (by (with_reducible repeat (first | apply Kd.R_alloc | apply Kd.R_drewN | apply Kd.R_drew)); exact HO223.out) hg hat); have n5_ := Aside0.mk (Kd.R_after (ok := (fun k_ => some k_ ≠ (.slice Ao52 t212.length co52 : Value).ownBlock ∧ some k_ ≠ (.slice Ao50 y215.length co50 : Value).ownBlock ∧ some k_ ≠ (.slice Ao53 t218.length co53 : Value).ownBlock ∧ some k_ ≠ (.slice Ao60 t221.length co60 : Value).ownBlock ∧ k_ ≠ gb204)) (by (with_reducible repeat (first | apply Kd.R_alloc | apply Kd.R_drewN | apply Kd.R_drew)); exact HO226.out) hg hat); have n6_ := Aside0.mk (hb); have n7_ := Aside0.mk (ho); clear BK204; clear HO214; clear HO217; clear HO220; clear HO223; clear HO226; clear HB; clear HO232; have BK204 := n0_; have HO214 := n1_; have HO217 := n2_; have HO220 := n3_; have HO223 := n4_; have HO226 := n5_; have HB := n6_; have HO235 := n7_; clear n0_ n1_ n2_ n3_ n4_ n5_ n6_ n7_; clear ho hb hg hat))
         have n0_ := Aside0.mk (Kd.R_drew HO214.out)
         have n1_ := Aside0.mk (Kd.R_drew HO217.out)
         have n2_ := Aside0.mk (Kd.R_drew HO220.out)
         have n3_ := Aside0.mk (Kd.R_drew HO223.out)
         have n4_ := Aside0.mk (Kd.R_drew HO226.out)
         have n5_ := Aside0.mk (Kd.R_drew HO235.out)
         have n6_ := Aside0.mk (blk_drew BK204.out)
         have n7_ := Aside0.mk (below_drew1 HB.out)
         clear HO214
         clear HO217
         clear HO220
         clear HO223
         clear HO226
         clear HO235
         clear BK204
         clear HB
         have HO214 := n0_
         have HO217 := n1_
         have HO220 := n2_
         have HO223 := n3_
         have HO226 := n4_
         have HO235 := n5_
         have BK204 := n6_
         have HB := n7_
         clear n0_ n1_ n2_ n3_ n4_ n5_ n6_ n7_
         obtain ⟨Ao64, co64, eo64⟩ := Kd.R_slice HO235.out
         (first | subst eo64 | (injection eo64 with f1_ f2_ f3_; have f4_ := f1_.symm; have f5_ := f3_.symm; clear f1_ f2_ f3_; subst f4_; subst f5_))
         refine start_ (n := 36) (S := fun w' => w'.cell? ⟨gb204, 0, none⟩ = some (.int .u64 a1_0) ∧ w'.cell? ⟨gb204, 1, none⟩ = some (.int .u64 a1_1)) (ds := []) #[false,false,false,false,false,false,false,false,false,false,false,false,false,false,false,false,false,false,false,false,false,false,false,false,false,false,false,false,false,false,false,false,false,false,false,false] (by kernel_rfl) rfl rfl ⟨(blk_cell BK204.out 0).trans rfl, (blk_cell BK204.out 1).trans rfl⟩ (fun hHeld => ?_); refine with_tabW dominolaw03_RangesParts.tab7 dominolaw03_RangesParts.bits7 (fun HT_ HW_ => ?_)
         generalize w61.drew = w63 at HO214 HO217 HO220 HO223 HO226 HO235 BK204 HB hHeld ⊢
         refine pure_ (i := 0) (N := some 38) (v := ?_) (a' := ?_) #[true,false,false,false,false,false,false,false,false,false,false,false,false,false,false,false,false,false,false,false,false,false,false,false,false,false,false,false,false,false,false,false,false,false,false,false] rfl rfl (any_of HT_.out (by kernel_rfl)) (fun _ _ _ h => h) (Or.inl ⟨by rfl, ?_⟩) ?_ ?_
         rotate_left;(intro w';go_simp;with_reducible rfl);rotate_left;(simp only [Act.put, List.setIfInBounds_toArray, List.set_cons_zero, List.set_cons_succ, i64_w, i32_w];rfl)
         refine pure_ (i := 3) (N := some 41) (v := ?_) (a' := ?_) #[true,false,false,true,false,false,false,false,false,false,false,false,false,false,false,false,false,false,false,false,false,false,false,false,false,false,false,false,false,false,false,false,false,false,false,false] rfl rfl (any_of HT_.out (by kernel_rfl)) (fun _ _ _ h => h) (Or.inl ⟨by rfl, ?_⟩) ?_ ?_
         rotate_left;(intro w';go_simp;with_reducible rfl);rotate_left;(simp only [Act.put, List.setIfInBounds_toArray, List.set_cons_zero, List.set_cons_succ, i64_w, i32_w];rfl)
         refine one_ (i := 1) (N := some 39) #[true,true,false,true,false,false,false,false,false,false,false,false,false,false,false,false,false,false,false,false,false,false,false,false,false,false,false,false,false,false,false,false,false,false,false,false] rfl rfl (one_of HT_.out (by kernel_rfl)) (by decide) (fun K hK => ?_)
         refine goes_ Try.func15 (by kernel_rfl) rfl #[.slice Ao64 y233.length co64] (by rfl) rfl rfl (by (try simp only [List.map_toArray, List.map_cons, List.map_nil]); first | done | rfl | (simp only [List.length_drop, List.length_take]; rfl)) ?_
         with_reducible refine (ranges_Of.calls kj2 _ _ y233 t236 _ ?side1 ?side2 A28.out).mono ?_
         (case side1 => repeat (first | exact (Kd.R_reads' HO235.out).2.2 | (with_reducible refine Kd.C_alloc ?_ _) | (with_reducible refine Kd.C_drewN ?_ _) | (with_reducible refine Kd.C_drew ?_)))
         (case side2 => exact (Kd.R_reads' HO235.out).2.1)
         rintro e w65 ⟨v237, rfl, ho0, hb⟩
         refine ⟨_, rfl, ?_⟩
         have n0_ := Aside0.mk (Kd.R_elder' (by (with_reducible repeat (first | apply Kd.R_alloc | apply Kd.R_drewN | apply Kd.R_drew)); exact HO214.out) (Kd.R_base ho0) hb)
         have n1_ := Aside0.mk (Kd.R_elder' (by (with_reducible repeat (first | apply Kd.R_alloc | apply Kd.R_drewN | apply Kd.R_drew)); exact HO217.out) (Kd.R_base ho0) hb)
         have n2_ := Aside0.mk (Kd.R_elder' (by (with_reducible repeat (first | apply Kd.R_alloc | apply Kd.R_drewN | apply Kd.R_drew)); exact HO220.out) (Kd.R_base ho0) hb)
         have n3_ := Aside0.mk (Kd.R_elder' (by (with_reducible repeat (first | apply Kd.R_alloc | apply Kd.R_drewN | apply Kd.R_drew)); exact HO223.out) (Kd.R_base ho0) hb)
         have n4_ := Aside0.mk (Kd.R_elder' (by (with_reducible repeat (first | apply Kd.R_alloc | apply Kd.R_drewN | apply Kd.R_drew)); exact HO226.out) (Kd.R_base ho0) hb)
         have n5_ := Aside0.mk (Kd.R_elder' (by (with_reducible repeat (first | apply Kd.R_alloc | apply Kd.R_drewN | apply Kd.R_drew)); exact HO235.out) (Kd.R_base ho0) hb)
         have n6_ := Aside0.mk (Kd.R_lower (Kd.R_newB (Kd.R_new' (Kd.R_new' (Kd.R_new' (Kd.R_new' (Kd.R_new' (Kd.R_new' ho0 (Kd.R_lt (by (with_reducible repeat (first | apply Kd.R_alloc | apply Kd.R_drewN | apply Kd.R_drew)); exact HO214.out))) (Kd.R_lt (by (with_reducible repeat (first | apply Kd.R_alloc | apply Kd.R_drewN | apply Kd.R_drew)); exact HO217.out))) (Kd.R_lt (by (with_reducible repeat (first | apply Kd.R_alloc | apply Kd.R_drewN | apply Kd.R_drew)); exact HO220.out))) (Kd.R_lt (by (with_reducible repeat (first | apply Kd.R_alloc | apply Kd.R_drewN | apply Kd.R_drew)); exact HO223.out))) (Kd.R_lt (by (with_reducible repeat (first | apply Kd.R_alloc | apply Kd.R_drewN | apply Kd.R_drew)); exact HO226.out))) (Kd.R_lt (by (with_reducible repeat (first | apply Kd.R_alloc | apply Kd.R_drewN | apply Kd.R_drew)); exact HO235.out))) (g := gb204) (o := .cells #[.int .u64 a1_0, .int .u64 a1_1] 34 (0, 0)) (by (with_reducible repeat (first | refine blk_drewN ?_ _ | refine blk_drew ?_ | refine blk_alloc ?_ _)); exact BK204.out)) (below_size (by repeat (first | (with_reducible first | exact HB.out | apply below_alloc | apply pw_below_drewN | apply below_drew1 | refine below_set ?_ GE204.out) | exact HB.out))))
         have n7_ := Aside0.mk (blk_below (g := gb204) (o := .cells #[.int .u64 a1_0, .int .u64 a1_1] 34 (0, 0)) (by (with_reducible repeat (first | refine blk_drewN ?_ _ | refine blk_drew ?_ | refine blk_alloc ?_ _)); exact BK204.out) hb)
         have n8_ := Aside0.mk (below_step (by repeat (first | (with_reducible first | exact HB.out | apply below_alloc | apply pw_below_drewN | apply below_drew1 | refine below_set ?_ GE204.out) | exact HB.out)) hb)
         clear HO214
         clear HO217
         clear HO220
         clear HO223
         clear HO226
         clear HO235
         clear BK204
         clear HB
         have HO214 := n0_
         have HO217 := n1_
         have HO220 := n2_
         have HO223 := n3_
         have HO226 := n4_
         have HO235 := n5_
         have HO238 := n6_
         have BK204 := n7_
         have HB := n8_
         clear n0_ n1_ n2_ n3_ n4_ n5_ n6_ n7_ n8_
         (try clear hb)
         (try clear hb2)
         (try clear hk)
         (try clear hi)
         (try clear ho0)
         obtain ⟨Ao66, co66, eo66⟩ := Kd.R_slice HO238.out
         (first | subst eo66 | (injection eo66 with f1_ f2_ f3_; have f4_ := f1_.symm; have f5_ := f3_.symm; clear f1_ f2_ f3_; subst f4_; subst f5_))
         refine hK.out _ _ ⟨(blk_cell BK204.out 0).trans rfl, (blk_cell BK204.out 1).trans rfl⟩ (fun hHeld => ?_)
         clear hK K
         refine norm_ (a' := ?_) ?_ ?_
         rotate_left
         ·show Act.put _ (some 39) _ = _
          simp only [Act.put, List.setIfInBounds_toArray, List.set_cons_zero, List.set_cons_succ, i64_w, i32_w]
          rfl
         refine one_ (i := 2) (N := some 40) #[true,true,true,true,false,false,false,false,false,false,false,false,false,false,false,false,false,false,false,false,false,false,false,false,false,false,false,false,false,false,false,false,false,false,false,false] rfl rfl (one_of HT_.out (by kernel_rfl)) (by decide) (fun K hK => ?_)
         refine goes_ Try.func13 (by kernel_rfl) rfl #[.slice Ao66 t236.length co66] (by rfl) rfl rfl (by (try simp only [List.map_toArray, List.map_cons, List.map_nil]); first | done | rfl | (simp only [List.length_drop, List.length_take]; rfl)) ?_
         with_reducible refine (dominolaw03_its.calls kj2 _ _ t236 t239 _ ?side1 ?side2 A29.out).mono ?_
         (case side1 => repeat (first | exact (Kd.R_reads' HO238.out).2.2 | (with_reducible refine Kd.C_alloc ?_ _) | (with_reducible refine Kd.C_drewN ?_ _) | (with_reducible refine Kd.C_drew ?_)))
         (case side2 => exact (Kd.R_reads' HO238.out).2.1)
         rintro e w67 ⟨v240, rfl, ho0, hb⟩
         refine ⟨_, rfl, ?_⟩
         have n0_ := Aside0.mk (Kd.R_below (by (with_reducible repeat (first | apply Kd.R_alloc | apply Kd.R_drewN | apply Kd.R_drew)); exact HO214.out) hb)
         have n1_ := Aside0.mk (Kd.R_below (by (with_reducible repeat (first | apply Kd.R_alloc | apply Kd.R_drewN | apply Kd.R_drew)); exact HO217.out) hb)
         have n2_ := Aside0.mk (Kd.R_below (by (with_reducible repeat (first | apply Kd.R_alloc | apply Kd.R_drewN | apply Kd.R_drew)); exact HO220.out) hb)
         have n3_ := Aside0.mk (Kd.R_below (by (with_reducible repeat (first | apply Kd.R_alloc | apply Kd.R_drewN | apply Kd.R_drew)); exact HO223.out) hb)
         have n4_ := Aside0.mk (Kd.R_below (by (with_reducible repeat (first | apply Kd.R_alloc | apply Kd.R_drewN | apply Kd.R_drew)); exact HO226.out) hb)
         have n5_ := Aside0.mk (Kd.R_below (by (with_reducible repeat (first | apply Kd.R_alloc | apply Kd.R_drewN | apply Kd.R_drew)); exact HO235.out) hb)
         have n6_ := Aside0.mk (Kd.R_below (by (with_reducible repeat (first | apply Kd.R_alloc | apply Kd.R_drewN | apply Kd.R_drew)); exact HO238.out) hb)
         have n7_ := Aside0.mk (Kd.R_lower ho0 (below_size (by repeat (first | (with_reducible first | exact HB.out | apply below_alloc | apply pw_below_drewN | apply below_drew1 | refine below_set ?_ GE204.out) | exact HB.out))))
         have n8_ := Aside0.mk (blk_below (g := gb204) (o := .cells #[.int .u64 a1_0, .int .u64 a1_1] 34 (0, 0)) (by (with_reducible repeat (first | refine blk_drewN ?_ _ | refine blk_drew ?_ | refine blk_alloc ?_ _)); exact BK204.out) hb)
         have n9_ := Aside0.mk (below_step (by repeat (first | (with_reducible first | exact HB.out | apply below_alloc | apply pw_below_drewN | apply below_drew1 | refine below_set ?_ GE204.out) | exact HB.out)) hb)
         clear HO214
         clear HO217
         clear HO220
         clear HO223
         clear HO226
         clear HO235
         clear HO238
         clear BK204
         clear HB
         have HO214 := n0_
         have HO217 := n1_
         have HO220 := n2_
         have HO223 := n3_
         have HO226 := n4_
         have HO235 := n5_
         have HO238 := n6_
         have HO241 := n7_
         have BK204 := n8_
         have HB := n9_
         clear n0_ n1_ n2_ n3_ n4_ n5_ n6_ n7_ n8_ n9_
         (try clear hb)
         (try clear hb2)
         (try clear hk)
         (try clear hi)
         (try clear ho0)
         refine hK.out _ _ ⟨(blk_cell BK204.out 0).trans rfl, (blk_cell BK204.out 1).trans rfl⟩ (fun hHeld => ?_)
         clear hK K
         refine norm_ (a' := ?_) ?_ ?_
         rotate_left
         ·show Act.put _ (some 40) _ = _
          simp only [Act.put, List.setIfInBounds_toArray, List.set_cons_zero, List.set_cons_succ, i64_w, i32_w]
          rfl
         refine one_ (i := 4) (N := some 42) #[true,true,true,true,true,false,false,false,false,false,false,false,false,false,false,false,false,false,false,false,false,false,false,false,false,false,false,false,false,false,false,false,false,false,false,false] rfl rfl (one_of HT_.out (by kernel_rfl)) (by decide) (fun K hK => ?_)
         refine goes_ Try.func13 (by kernel_rfl) rfl #[.slice Ao52 t212.length co52] (by rfl) rfl rfl (by (try simp only [List.map_toArray, List.map_cons, List.map_nil]); first | done | rfl | (simp only [List.length_drop, List.length_take]; rfl)) ?_
         with_reducible refine (dominolaw03_its.calls kj2 _ _ t212 t242 _ ?side1 ?side2 A30.out).mono ?_
         (case side1 => repeat (first | exact (Kd.R_reads' HO214.out).2.2 | (with_reducible refine Kd.C_alloc ?_ _) | (with_reducible refine Kd.C_drewN ?_ _) | (with_reducible refine Kd.C_drew ?_)))
         (case side2 => exact (Kd.R_reads' HO214.out).2.1)
         rintro e w68 ⟨v243, rfl, ho0, hb⟩
         refine ⟨_, rfl, ?_⟩
         have n0_ := Aside0.mk (Kd.R_below (by (with_reducible repeat (first | apply Kd.R_alloc | apply Kd.R_drewN | apply Kd.R_drew)); exact HO214.out) hb)
         have n1_ := Aside0.mk (Kd.R_below (by (with_reducible repeat (first | apply Kd.R_alloc | apply Kd.R_drewN | apply Kd.R_drew)); exact HO217.out) hb)
         have n2_ := Aside0.mk (Kd.R_below (by (with_reducible repeat (first | apply Kd.R_alloc | apply Kd.R_drewN | apply Kd.R_drew)); exact HO220.out) hb)
         have n3_ := Aside0.mk (Kd.R_below (by (with_reducible repeat (first | apply Kd.R_alloc | apply Kd.R_drewN | apply Kd.R_drew)); exact HO223.out) hb)
         have n4_ := Aside0.mk (Kd.R_below (by (with_reducible repeat (first | apply Kd.R_alloc | apply Kd.R_drewN | apply Kd.R_drew)); exact HO226.out) hb)
         have n5_ := Aside0.mk (Kd.R_below (by (with_reducible repeat (first | apply Kd.R_alloc | apply Kd.R_drewN | apply Kd.R_drew)); exact HO235.out) hb)
         have n6_ := Aside0.mk (Kd.R_below (by (with_reducible repeat (first | apply Kd.R_alloc | apply Kd.R_drewN | apply Kd.R_drew)); exact HO238.out) hb)
         have n7_ := Aside0.mk (Kd.R_elder' (by (with_reducible repeat (first | apply Kd.R_alloc | apply Kd.R_drewN | apply Kd.R_drew)); exact HO241.out) (Kd.R_base ho0) hb)
         have n8_ := Aside0.mk (Kd.R_lower (Kd.R_new' ho0 (Kd.R_lt (by (with_reducible repeat (first | apply Kd.R_alloc | apply Kd.R_drewN | apply Kd.R_drew)); exact HO241.out))) (below_size (by repeat (first | (with_reducible first | exact HB.out | apply below_alloc | apply pw_below_drewN | apply below_drew1 | refine below_set ?_ GE204.out) | exact HB.out))))
         have n9_ := Aside0.mk (blk_below (g := gb204) (o := .cells #[.int .u64 a1_0, .int .u64 a1_1] 34 (0, 0)) (by (with_reducible repeat (first | refine blk_drewN ?_ _ | refine blk_drew ?_ | refine blk_alloc ?_ _)); exact BK204.out) hb)
         have n10_ := Aside0.mk (below_step (by repeat (first | (with_reducible first | exact HB.out | apply below_alloc | apply pw_below_drewN | apply below_drew1 | refine below_set ?_ GE204.out) | exact HB.out)) hb)
         clear HO214
         clear HO217
         clear HO220
         clear HO223
         clear HO226
         clear HO235
         clear HO238
         clear HO241
         clear BK204
         clear HB
         have HO214 := n0_
         have HO217 := n1_
         have HO220 := n2_
         have HO223 := n3_
         have HO226 := n4_
         have HO235 := n5_
         have HO238 := n6_
         have HO241 := n7_
         have HO244 := n8_
         have BK204 := n9_
         have HB := n10_
         clear n0_ n1_ n2_ n3_ n4_ n5_ n6_ n7_ n8_ n9_ n10_
         (try clear hb)
         (try clear hb2)
         (try clear hk)
         (try clear hi)
         (try clear ho0)
         obtain ⟨Ao69, co69, eo69⟩ := Kd.R_slice HO241.out
         (first | subst eo69 | (injection eo69 with f1_ f2_ f3_; have f4_ := f1_.symm; have f5_ := f3_.symm; clear f1_ f2_ f3_; subst f4_; subst f5_))
         obtain ⟨Ao70, co70, eo70⟩ := Kd.R_slice HO244.out
         (first | subst eo70 | (injection eo70 with f1_ f2_ f3_; have f4_ := f1_.symm; have f5_ := f3_.symm; clear f1_ f2_ f3_; subst f4_; subst f5_))
         refine hK.out _ _ ⟨(blk_cell BK204.out 0).trans rfl, (blk_cell BK204.out 1).trans rfl⟩ (fun hHeld => ?_)
         clear hK K
         refine norm_ (a' := ?_) ?_ ?_
         rotate_left
         ·show Act.put _ (some 42) _ = _
          simp only [Act.put, List.setIfInBounds_toArray, List.set_cons_zero, List.set_cons_succ, i64_w, i32_w]
          rfl
         refine one_ (i := 5) (N := some 43) #[true,true,true,true,true,true,false,false,false,false,false,false,false,false,false,false,false,false,false,false,false,false,false,false,false,false,false,false,false,false,false,false,false,false,false,false] rfl rfl (one_of HT_.out (by kernel_rfl)) (by decide) (fun K hK => ?_)
         refine goes_ Try.func16 (by kernel_rfl) rfl #[.slice Ao69 t239.length co69, .slice Ao70 t242.length co70] (by rfl) rfl rfl (by (try simp only [List.map_toArray, List.map_cons, List.map_nil]); first | done | rfl | (simp only [List.length_drop, List.length_take]; rfl)) ?_
         with_reducible refine (dominoref03_Same.calls kj2 _ _ t239 _ _ t242 true _ ?side1 ?side2 ?side3 ?side4 A31.out).mono ?_
         (case side1 => repeat (first | exact (Kd.R_reads' HO241.out).2.2 | (with_reducible refine Kd.C_alloc ?_ _) | (with_reducible refine Kd.C_drewN ?_ _) | (with_reducible refine Kd.C_drew ?_)))
         (case side2 => exact (Kd.R_reads' HO241.out).2.1)
         (case side3 => repeat (first | exact (Kd.R_reads' HO244.out).2.2 | (with_reducible refine Kd.C_alloc ?_ _) | (with_reducible refine Kd.C_drewN ?_ _) | (with_reducible refine Kd.C_drew ?_)))
         (case side4 => exact (Kd.R_reads' HO244.out).2.1)
         rintro e w' ⟨rfl, ⟨nd, rfl⟩⟩
         refine ⟨_, rfl, ?_⟩
         refine hK.out _ _ ⟨(blk_cell BK204.out 0).trans rfl, (blk_cell BK204.out 1).trans rfl⟩ (fun hHeld => ?_)
         clear hK K
         refine norm_ (a' := ?_) ?_ ?_
         rotate_left
         ·show Act.put _ (some 43) _ = _
          simp only [Act.put, List.setIfInBounds_toArray, List.set_cons_zero, List.set_cons_succ, i64_w, i32_w]
          rfl
         refine pure_ (i := 6) (N := some 44) (v := ?_) (a' := ?_) #[true,true,true,true,true,true,true,false,false,false,false,false,false,false,false,false,false,false,false,false,false,false,false,false,false,false,false,false,false,false,false,false,false,false,false,false] rfl rfl (any_of HT_.out (by kernel_rfl)) (fun _ _ _ h => h) (Or.inl ⟨by rfl, ?_⟩) ?_ ?_
         rotate_left;(intro w';go_simp;with_reducible rfl);rotate_left;(simp only [Act.put, List.setIfInBounds_toArray, List.set_cons_zero, List.set_cons_succ, i64_w, i32_w];rfl)
         refine pure_ (i := 7) (N := some 45) (v := ?_) (a' := ?_) #[true,true,true,true,true,true,true,true,false,false,false,false,false,false,false,false,false,false,false,false,false,false,false,false,false,false,false,false,false,false,false,false,false,false,false,false] rfl rfl (any_of HT_.out (by kernel_rfl)) (fun _ _ _ h => h) (Or.inl ⟨by rfl, ?_⟩) ?_ ?_
         rotate_left;(intro w';go_simp;with_reducible rfl);rotate_left;(simp only [Act.put, List.setIfInBounds_toArray, List.set_cons_zero, List.set_cons_succ, i64_w, i32_w];rfl)
         refine pure_ (i := 13) (N := some 51) (v := ?_) (a' := ?_) #[true,true,true,true,true,true,true,true,false,false,false,false,false,true,false,false,false,false,false,false,false,false,false,false,false,false,false,false,false,false,false,false,false,false,false,false] rfl rfl (any_of HT_.out (by kernel_rfl)) (fun _ _ _ h => h) (Or.inl ⟨by rfl, ?_⟩) ?_ ?_
         rotate_left;(intro w';go_simp;with_reducible rfl);rotate_left;(simp only [Act.put, List.setIfInBounds_toArray, List.set_cons_zero, List.set_cons_succ, i64_w, i32_w];rfl)
         refine take_ (i := 8) (N := some 46) (v := ?_) (a' := ?_) #[true,true,true,true,true,true,true,true,true,false,false,false,false,true,false,false,false,false,false,false,false,false,false,false,false,false,false,false,false,false,false,false,false,false,false,false] rfl rfl (take_ofW HT_.out HW_.out (by kernel_rfl)) (fun _ _ _ h => h) (Or.inl ⟨by rfl, ?_⟩) hHeld ?_ ?_
         rotate_left
         ·rintro w' ⟨s0, s1⟩
          go_simp
          with_reducible rfl
         rotate_left
         ·simp only [Act.put, List.setIfInBounds_toArray, List.set_cons_zero, List.set_cons_succ, i64_w, i32_w]
          rfl
         refine take_ (i := 10) (N := some 48) (v := ?_) (a' := ?_) #[true,true,true,true,true,true,true,true,true,false,true,false,false,true,false,false,false,false,false,false,false,false,false,false,false,false,false,false,false,false,false,false,false,false,false,false] rfl rfl (take_ofW HT_.out HW_.out (by kernel_rfl)) (fun _ _ _ h => h) (Or.inl ⟨by rfl, ?_⟩) hHeld ?_ ?_
         rotate_left
         ·rintro w' ⟨s0, s1⟩
          go_simp
          with_reducible rfl
         rotate_left
         ·simp only [Act.put, List.setIfInBounds_toArray, List.set_cons_zero, List.set_cons_succ, i64_w, i32_w]
          rfl
         refine one_ (i := 9) (N := some 47) #[true,true,true,true,true,true,true,true,true,true,true,false,false,true,false,false,false,false,false,false,false,false,false,false,false,false,false,false,false,false,false,false,false,false,false,false] rfl rfl (one_of HT_.out (by kernel_rfl)) (by decide) (fun K hK => ?_)
         refine goes_ Try.func20 (by kernel_rfl) rfl #[.slice Ao52 t212.length co52, .agg #[.int .u64 a1_0, .int .u64 a1_1]] (by rfl) rfl rfl (by (try simp only [List.map_toArray, List.map_cons, List.map_nil]); first | done | rfl | (simp only [List.length_drop, List.length_take]; rfl)) ?_
         with_reducible refine (ranges_Gaps.calls kj2 _ _ t212 a1_0 a1_1 t246 _ ?side1 ?side2 A33.out).mono ?_
         (case side1 => repeat (first | exact (Kd.R_reads' HO214.out).2.2 | (with_reducible refine Kd.C_alloc ?_ _) | (with_reducible refine Kd.C_drewN ?_ _) | (with_reducible refine Kd.C_drew ?_)))
         (case side2 => exact (Kd.R_reads' HO214.out).2.1)
         rintro e w71 ⟨v247, rfl, ho0, hb⟩
         refine ⟨_, rfl, ?_⟩
         have n0_ := Aside0.mk (Kd.R_elder' (by (with_reducible repeat (first | apply Kd.R_alloc | apply Kd.R_drewN | apply Kd.R_drew)); exact HO214.out) (Kd.R_base ho0) hb)
         have n1_ := Aside0.mk (Kd.R_elder' (by (with_reducible repeat (first | apply Kd.R_alloc | apply Kd.R_drewN | apply Kd.R_drew)); exact HO217.out) (Kd.R_base ho0) hb)
         have n2_ := Aside0.mk (Kd.R_elder' (by (with_reducible repeat (first | apply Kd.R_alloc | apply Kd.R_drewN | apply Kd.R_drew)); exact HO220.out) (Kd.R_base ho0) hb)
         have n3_ := Aside0.mk (Kd.R_elder' (by (with_reducible repeat (first | apply Kd.R_alloc | apply Kd.R_drewN | apply Kd.R_drew)); exact HO223.out) (Kd.R_base ho0) hb)
         have n4_ := Aside0.mk (Kd.R_elder' (by (with_reducible repeat (first | apply Kd.R_alloc | apply Kd.R_drewN | apply Kd.R_drew)); exact HO226.out) (Kd.R_base ho0) hb)
         have n5_ := Aside0.mk (Kd.R_elder' (by (with_reducible repeat (first | apply Kd.R_alloc | apply Kd.R_drewN | apply Kd.R_drew)); exact HO235.out) (Kd.R_base ho0) hb)
         have n6_ := Aside0.mk (Kd.R_elder' (by (with_reducible repeat (first | apply Kd.R_alloc | apply Kd.R_drewN | apply Kd.R_drew)); exact HO238.out) (Kd.R_base ho0) hb)
         have n7_ := Aside0.mk (Kd.R_below (by (with_reducible repeat (first | apply Kd.R_alloc | apply Kd.R_drewN | apply Kd.R_drew)); exact HO241.out) hb)
         have n8_ := Aside0.mk (Kd.R_below (by (with_reducible repeat (first | apply Kd.R_alloc | apply Kd.R_drewN | apply Kd.R_drew)); exact HO244.out) hb)
         have n9_ := Aside0.mk (Kd.R_lower (Kd.R_newB (Kd.R_new' (Kd.R_new' (Kd.R_new' (Kd.R_new' (Kd.R_new' (Kd.R_new' (Kd.R_new' ho0 (Kd.R_lt (by (with_reducible repeat (first | apply Kd.R_alloc | apply Kd.R_drewN | apply Kd.R_drew)); exact HO214.out))) (Kd.R_lt (by (with_reducible repeat (first | apply Kd.R_alloc | apply Kd.R_drewN | apply Kd.R_drew)); exact HO217.out))) (Kd.R_lt (by (with_reducible repeat (first | apply Kd.R_alloc | apply Kd.R_drewN | apply Kd.R_drew)); exact HO220.out))) (Kd.R_lt (by (with_reducible repeat (first | apply Kd.R_alloc | apply Kd.R_drewN | apply Kd.R_drew)); exact HO223.out))) (Kd.R_lt (by (with_reducible repeat (first | apply Kd.R_alloc | apply Kd.R_drewN | apply Kd.R_drew)); exact HO226.out))) (Kd.R_lt (by (with_reducible repeat (first | apply Kd.R_alloc | apply Kd.R_drewN | apply Kd.R_drew)); exact HO235.out))) (Kd.R_lt (by (with_reducible repeat (first | apply Kd.R_alloc | apply Kd.R_drewN | apply Kd.R_drew)); exact HO238.out))) (g := gb204) (o := .cells #[.int .u64 a1_0, .int .u64 a1_1] 34 (0, 0)) (by (with_reducible repeat (first | refine blk_drewN ?_ _ | refine blk_drew ?_ | refine blk_alloc ?_ _)); exact BK204.out)) (below_size (by repeat (first | (with_reducible first | exact HB.out | apply below_alloc | apply pw_below_drewN | apply below_drew1 | refine below_set ?_ GE204.out) | exact HB.out))))
         have n10_ := Aside0.mk (blk_below (g := gb204) (o := .cells #[.int .u64 a1_0, .int .u64 a1_1] 34 (0, 0)) (by (with_reducible repeat (first | refine blk_drewN ?_ _ | refine blk_drew ?_ | refine blk_alloc ?_ _)); exact BK204.out) hb)
         have n11_ := Aside0.mk (below_step (by repeat (first | (with_reducible first | exact HB.out | apply below_alloc | apply pw_below_drewN | apply below_drew1 | refine below_set ?_ GE204.out) | exact HB.out)) hb)
         clear HO214
         clear HO217
         clear HO220
         clear HO223
         clear HO226
         clear HO235
         clear HO238
         clear HO241
         clear HO244
         clear BK204
         clear HB
         have HO214 := n0_
         have HO217 := n1_
         have HO220 := n2_
         have HO223 := n3_
         have HO226 := n4_
         have HO235 := n5_
         have HO238 := n6_
         have HO241 := n7_
         have HO244 := n8_
         have HO248 := n9_
         have BK204 := n10_
         have HB := n11_
         clear n0_ n1_ n2_ n3_ n4_ n5_ n6_ n7_ n8_ n9_ n10_ n11_
         (try clear hb)
         (try clear hb2)
         (try clear hk)
         (try clear hi)
         (try clear ho0)
         obtain ⟨Ao72, co72, eo72⟩ := Kd.R_slice HO248.out
         (first | subst eo72 | (injection eo72 with f1_ f2_ f3_; have f4_ := f1_.symm; have f5_ := f3_.symm; clear f1_ f2_ f3_; subst f4_; subst f5_))
         refine hK.out _ _ ⟨(blk_cell BK204.out 0).trans rfl, (blk_cell BK204.out 1).trans rfl⟩ (fun hHeld => ?_)
         clear hK K
         refine norm_ (a' := ?_) ?_ ?_
         rotate_left
         ·show Act.put _ (some 47) _ = _
          simp only [Act.put, List.setIfInBounds_toArray, List.set_cons_zero, List.set_cons_succ, i64_w, i32_w]
          rfl
         refine one_ (i := 11) (N := some 49) #[true,true,true,true,true,true,true,true,true,true,true,true,false,true,false,false,false,false,false,false,false,false,false,false,false,false,false,false,false,false,false,false,false,false,false,false] rfl rfl (one_of HT_.out (by kernel_rfl)) (by decide) (fun K hK => ?_)
         refine goes_ Try.func20 (by kernel_rfl) rfl #[.slice Ao72 t246.length co72, .agg #[.int .u64 a1_0, .int .u64 a1_1]] (by rfl) rfl rfl (by (try simp only [List.map_toArray, List.map_cons, List.map_nil]); first | done | rfl | (simp only [List.length_drop, List.length_take]; rfl)) ?_
         with_reducible refine (ranges_Gaps.calls kj2 _ _ t246 a1_0 a1_1 t249 _ ?side1 ?side2 A34.out).mono ?_
         (case side1 => repeat (first | exact (Kd.R_reads' HO248.out).2.2 | (with_reducible refine Kd.C_alloc ?_ _) | (with_reducible refine Kd.C_drewN ?_ _) | (with_reducible refine Kd.C_drew ?_)))
         (case side2 => exact (Kd.R_reads' HO248.out).2.1)
         rintro e w73 ⟨v250, rfl, ho0, hb⟩
         refine ⟨_, rfl, ?_⟩
         have n0_ := Aside0.mk (Kd.R_elder' (by (with_reducible repeat (first | apply Kd.R_alloc | apply Kd.R_drewN | apply Kd.R_drew)); exact HO214.out) (Kd.R_base ho0) hb)
         have n1_ := Aside0.mk (Kd.R_elder' (by (with_reducible repeat (first | apply Kd.R_alloc | apply Kd.R_drewN | apply Kd.R_drew)); exact HO217.out) (Kd.R_base ho0) hb)
         have n2_ := Aside0.mk (Kd.R_elder' (by (with_reducible repeat (first | apply Kd.R_alloc | apply Kd.R_drewN | apply Kd.R_drew)); exact HO220.out) (Kd.R_base ho0) hb)
         have n3_ := Aside0.mk (Kd.R_elder' (by (with_reducible repeat (first | apply Kd.R_alloc | apply Kd.R_drewN | apply Kd.R_drew)); exact HO223.out) (Kd.R_base ho0) hb)
         have n4_ := Aside0.mk (Kd.R_elder' (by (with_reducible repeat (first | apply Kd.R_alloc | apply Kd.R_drewN | apply Kd.R_drew)); exact HO226.out) (Kd.R_base ho0) hb)
         have n5_ := Aside0.mk (Kd.R_elder' (by (with_reducible repeat (first | apply Kd.R_alloc | apply Kd.R_drewN | apply Kd.R_drew)); exact HO235.out) (Kd.R_base ho0) hb)
         have n6_ := Aside0.mk (Kd.R_elder' (by (with_reducible repeat (first | apply Kd.R_alloc | apply Kd.R_drewN | apply Kd.R_drew)); exact HO238.out) (Kd.R_base ho0) hb)
         have n7_ := Aside0.mk (Kd.R_below (by (with_reducible repeat (first | apply Kd.R_alloc | apply Kd.R_drewN | apply Kd.R_drew)); exact HO241.out) hb)
         have n8_ := Aside0.mk (Kd.R_below (by (with_reducible repeat (first | apply Kd.R_alloc | apply Kd.R_drewN | apply Kd.R_drew)); exact HO244.out) hb)
         have n9_ := Aside0.mk (Kd.R_elder' (by (with_reducible repeat (first | apply Kd.R_alloc | apply Kd.R_drewN | apply Kd.R_drew)); exact HO248.out) (Kd.R_base ho0) hb)
         have n10_ := Aside0.mk (Kd.R_lower (Kd.R_newB (Kd.R_new' (Kd.R_new' (Kd.R_new' (Kd.R_new' (Kd.R_new' (Kd.R_new' (Kd.R_new' (Kd.R_new' ho0 (Kd.R_lt (by (with_reducible repeat (first | apply Kd.R_alloc | apply Kd.R_drewN | apply Kd.R_drew)); exact HO214.out))) (Kd.R_lt (by (with_reducible repeat (first | apply Kd.R_alloc | apply Kd.R_drewN | apply Kd.R_drew)); exact HO217.out))) (Kd.R_lt (by (with_reducible repeat (first | apply Kd.R_alloc | apply Kd.R_drewN | apply Kd.R_drew)); exact HO220.out))) (Kd.R_lt (by (with_reducible repeat (first | apply Kd.R_alloc | apply Kd.R_drewN | apply Kd.R_drew)); exact HO223.out))) (Kd.R_lt (by (with_reducible repeat (first | apply Kd.R_alloc | apply Kd.R_drewN | apply Kd.R_drew)); exact HO226.out))) (Kd.R_lt (by (with_reducible repeat (first | apply Kd.R_alloc | apply Kd.R_drewN | apply Kd.R_drew)); exact HO235.out))) (Kd.R_lt (by (with_reducible repeat (first | apply Kd.R_alloc | apply Kd.R_drewN | apply Kd.R_drew)); exact HO238.out))) (Kd.R_lt (by (with_reducible repeat (first | apply Kd.R_alloc | apply Kd.R_drewN | apply Kd.R_drew)); exact HO248.out))) (g := gb204) (o := .cells #[.int .u64 a1_0, .int .u64 a1_1] 34 (0, 0)) (by (with_reducible repeat (first | refine blk_drewN ?_ _ | refine blk_drew ?_ | refine blk_alloc ?_ _)); exact BK204.out)) (below_size (by repeat (first | (with_reducible first | exact HB.out | apply below_alloc | apply pw_below_drewN | apply below_drew1 | refine below_set ?_ GE204.out) | exact HB.out))))
         have n11_ := Aside0.mk (blk_below (g := gb204) (o := .cells #[.int .u64 a1_0, .int .u64 a1_1] 34 (0, 0)) (by (with_reducible repeat (first | refine blk_drewN ?_ _ | refine blk_drew ?_ | refine blk_alloc ?_ _)); exact BK204.out) hb)
         have n12_ := Aside0.mk (below_step (by repeat (first | (with_reducible first | exact HB.out | apply below_alloc | apply pw_below_drewN | apply below_drew1 | refine below_set ?_ GE204.out) | exact HB.out)) hb)
         clear HO214
         clear HO217
         clear HO220
         clear HO223
         clear HO226
         clear HO235
         clear HO238
         clear HO241
         clear HO244
         clear HO248
         clear BK204
         clear HB
         have HO214 := n0_
         have HO217 := n1_
         have HO220 := n2_
         have HO223 := n3_
         have HO226 := n4_
         have HO235 := n5_
         have HO238 := n6_
         have HO241 := n7_
         have HO244 := n8_
         have HO248 := n9_
         have HO251 := n10_
         have BK204 := n11_
         have HB := n12_
         clear n0_ n1_ n2_ n3_ n4_ n5_ n6_ n7_ n8_ n9_ n10_ n11_ n12_
         (try clear hb)
         (try clear hb2)
         (try clear hk)
         (try clear hi)
         (try clear ho0)
         obtain ⟨Ao74, co74, eo74⟩ := Kd.R_slice HO251.out
         (first | subst eo74 | (injection eo74 with f1_ f2_ f3_; have f4_ := f1_.symm; have f5_ := f3_.symm; clear f1_ f2_ f3_; subst f4_; subst f5_))
         refine hK.out _ _ ⟨(blk_cell BK204.out 0).trans rfl, (blk_cell BK204.out 1).trans rfl⟩ (fun hHeld => ?_)
         clear hK K
         refine norm_ (a' := ?_) ?_ ?_
         rotate_left
         ·show Act.put _ (some 49) _ = _
          simp only [Act.put, List.setIfInBounds_toArray, List.set_cons_zero, List.set_cons_succ, i64_w, i32_w]
          rfl
         refine one_ (i := 12) (N := some 50) #[true,true,true,true,true,true,true,true,true,true,true,true,true,true,false,false,false,false,false,false,false,false,false,false,false,false,false,false,false,false,false,false,false,false,false,false] rfl rfl (one_of HT_.out (by kernel_rfl)) (by decide) (fun K hK => ?_)
         refine goes_ Try.func13 (by kernel_rfl) rfl #[.slice Ao74 t249.length co74] (by rfl) rfl rfl (by (try simp only [List.map_toArray, List.map_cons, List.map_nil]); first | done | rfl | (simp only [List.length_drop, List.length_take]; rfl)) ?_
         with_reducible refine (dominolaw03_its.calls kj2 _ _ t249 t252 _ ?side1 ?side2 A35.out).mono ?_
         (case side1 => repeat (first | exact (Kd.R_reads' HO251.out).2.2 | (with_reducible refine Kd.C_alloc ?_ _) | (with_reducible refine Kd.C_drewN ?_ _) | (with_reducible refine Kd.C_drew ?_)))
         (case side2 => exact (Kd.R_reads' HO251.out).2.1)
         rintro e w75 ⟨v253, rfl, ho0, hb⟩
         refine ⟨_, rfl, ?_⟩
         have n0_ := Aside0.mk (Kd.R_below (by (with_reducible repeat (first | apply Kd.R_alloc | apply Kd.R_drewN | apply Kd.R_drew)); exact HO214.out) hb)
         have n1_ := Aside0.mk (Kd.R_below (by (with_reducible repeat (first | apply Kd.R_alloc | apply Kd.R_drewN | apply Kd.R_drew)); exact HO217.out) hb)
         have n2_ := Aside0.mk (Kd.R_below (by (with_reducible repeat (first | apply Kd.R_alloc | apply Kd.R_drewN | apply Kd.R_drew)); exact HO220.out) hb)
         have n3_ := Aside0.mk (Kd.R_below (by (with_reducible repeat (first | apply Kd.R_alloc | apply Kd.R_drewN | apply Kd.R_drew)); exact HO223.out) hb)
         have n4_ := Aside0.mk (Kd.R_below (by (with_reducible repeat (first | apply Kd.R_alloc | apply Kd.R_drewN | apply Kd.R_drew)); exact HO226.out) hb)
         have n5_ := Aside0.mk (Kd.R_below (by (with_reducible repeat (first | apply Kd.R_alloc | apply Kd.R_drewN | apply Kd.R_drew)); exact HO235.out) hb)
         have n6_ := Aside0.mk (Kd.R_below (by (with_reducible repeat (first | apply Kd.R_alloc | apply Kd.R_drewN | apply Kd.R_drew)); exact HO238.out) hb)
         have n7_ := Aside0.mk (Kd.R_elder' (by (with_reducible repeat (first | apply Kd.R_alloc | apply Kd.R_drewN | apply Kd.R_drew)); exact HO241.out) (Kd.R_base ho0) hb)
         have n8_ := Aside0.mk (Kd.R_elder' (by (with_reducible repeat (first | apply Kd.R_alloc | apply Kd.R_drewN | apply Kd.R_drew)); exact HO244.out) (Kd.R_base ho0) hb)
         have n9_ := Aside0.mk (Kd.R_below (by (with_reducible repeat (first | apply Kd.R_alloc | apply Kd.R_drewN | apply Kd.R_drew)); exact HO248.out) hb)
         have n10_ := Aside0.mk (Kd.R_below (by (with_reducible repeat (first | apply Kd.R_alloc | apply Kd.R_drewN | apply Kd.R_drew)); exact HO251.out) hb)
         have n11_ := Aside0.mk (Kd.R_lower (Kd.R_new' (Kd.R_new' ho0 (Kd.R_lt (by (with_reducible repeat (first | apply Kd.R_alloc | apply Kd.R_drewN | apply Kd.R_drew)); exact HO241.out))) (Kd.R_lt (by (with_reducible repeat (first | apply Kd.R_alloc | apply Kd.R_drewN | apply Kd.R_drew)); exact HO244.out))) (below_size (by repeat (first | (with_reducible first | exact HB.out | apply below_alloc | apply pw_below_drewN | apply below_drew1 | refine below_set ?_ GE204.out) | exact HB.out))))
         have n12_ := Aside0.mk (blk_below (g := gb204) (o := .cells #[.int .u64 a1_0, .int .u64 a1_1] 34 (0, 0)) (by (with_reducible repeat (first | refine blk_drewN ?_ _ | refine blk_drew ?_ | refine blk_alloc ?_ _)); exact BK204.out) hb)
         have n13_ := Aside0.mk (below_step (by repeat (first | (with_reducible first | exact HB.out | apply below_alloc | apply pw_below_drewN | apply below_drew1 | refine below_set ?_ GE204.out) | exact HB.out)) hb)
         clear HO214
         clear HO217
         clear HO220
         clear HO223
         clear HO226
         clear HO235
         clear HO238
         clear HO241
         clear HO244
         clear HO248
         clear HO251
         clear BK204
         clear HB
         have HO214 := n0_
         have HO217 := n1_
         have HO220 := n2_
         have HO223 := n3_
         have HO226 := n4_
         have HO235 := n5_
         have HO238 := n6_
         have HO241 := n7_
         have HO244 := n8_
         have HO248 := n9_
         have HO251 := n10_
         have HO254 := n11_
         have BK204 := n12_
         have HB := n13_
         clear n0_ n1_ n2_ n3_ n4_ n5_ n6_ n7_ n8_ n9_ n10_ n11_ n12_ n13_
         (try clear hb)
         (try clear hb2)
         (try clear hk)
         (try clear hi)
         (try clear ho0)
         refine hK.out _ _ ⟨(blk_cell BK204.out 0).trans rfl, (blk_cell BK204.out 1).trans rfl⟩ (fun hHeld => ?_)
         clear hK K
         refine norm_ (a' := ?_) ?_ ?_
         rotate_left
         ·show Act.put _ (some 50) _ = _
          simp only [Act.put, List.setIfInBounds_toArray, List.set_cons_zero, List.set_cons_succ, i64_w, i32_w]
          rfl
         refine one_ (i := 14) (N := some 52) #[true,true,true,true,true,true,true,true,true,true,true,true,true,true,true,false,false,false,false,false,false,false,false,false,false,false,false,false,false,false,false,false,false,false,false,false] rfl rfl (one_of HT_.out (by kernel_rfl)) (by decide) (fun K hK => ?_)
         refine goes_ Try.func13 (by kernel_rfl) rfl #[.slice Ao60 t221.length co60] (by rfl) rfl rfl (by (try simp only [List.map_toArray, List.map_cons, List.map_nil]); first | done | rfl | (simp only [List.length_drop, List.length_take]; rfl)) ?_
         with_reducible refine (dominolaw03_its.calls kj2 _ _ t221 t255 _ ?side1 ?side2 A36.out).mono ?_
         (case side1 => repeat (first | exact (Kd.R_reads' HO223.out).2.2 | (with_reducible refine Kd.C_alloc ?_ _) | (with_reducible refine Kd.C_drewN ?_ _) | (with_reducible refine Kd.C_drew ?_)))
         (case side2 => exact (Kd.R_reads' HO223.out).2.1)
         rintro e w76 ⟨v256, rfl, ho0, hb⟩
         refine ⟨_, rfl, ?_⟩
         have n0_ := Aside0.mk (Kd.R_below (by (with_reducible repeat (first | apply Kd.R_alloc | apply Kd.R_drewN | apply Kd.R_drew)); exact HO214.out) hb)
         have n1_ := Aside0.mk (Kd.R_below (by (with_reducible repeat (first | apply Kd.R_alloc | apply Kd.R_drewN | apply Kd.R_drew)); exact HO217.out) hb)
         have n2_ := Aside0.mk (Kd.R_below (by (with_reducible repeat (first | apply Kd.R_alloc | apply Kd.R_drewN | apply Kd.R_drew)); exact HO220.out) hb)
         have n3_ := Aside0.mk (Kd.R_below (by (with_reducible repeat (first | apply Kd.R_alloc | apply Kd.R_drewN | apply Kd.R_drew)); exact HO223.out) hb)
         have n4_ := Aside0.mk (Kd.R_below (by (with_reducible repeat (first | apply Kd.R_alloc | apply Kd.R_drewN | apply Kd.R_drew)); exact HO226.out) hb)
         have n5_ := Aside0.mk (Kd.R_below (by (with_reducible repeat (first | apply Kd.R_alloc | apply Kd.R_drewN | apply Kd.R_drew)); exact HO235.out) hb)
         have n6_ := Aside0.mk (Kd.R_below (by (with_reducible repeat (first | apply Kd.R_alloc | apply Kd.R_drewN | apply Kd.R_drew)); exact HO238.out) hb)
         have n7_ := Aside0.mk (Kd.R_elder' (by (with_reducible repeat (first | apply Kd.R_alloc | apply Kd.R_drewN | apply Kd.R_drew)); exact HO241.out) (Kd.R_base ho0) hb)
         have n8_ := Aside0.mk (Kd.R_elder' (by (with_reducible repeat (first | apply Kd.R_alloc | apply Kd.R_drewN | apply Kd.R_drew)); exact HO244.out) (Kd.R_base ho0) hb)
         have n9_ := Aside0.mk (Kd.R_below (by (with_reducible repeat (first | apply Kd.R_alloc | apply Kd.R_drewN | apply Kd.R_drew)); exact HO248.out) hb)
         have n10_ := Aside0.mk (Kd.R_below (by (with_reducible repeat (first | apply Kd.R_alloc | apply Kd.R_drewN | apply Kd.R_drew)); exact HO251.out) hb)
         have n11_ := Aside0.mk (Kd.R_elder' (by (with_reducible repeat (first | apply Kd.R_alloc | apply Kd.R_drewN | apply Kd.R_drew)); exact HO254.out) (Kd.R_base ho0) hb)
         have n12_ := Aside0.mk (Kd.R_lower (Kd.R_new' (Kd.R_new' (Kd.R_new' ho0 (Kd.R_lt (by (with_reducible repeat (first | apply Kd.R_alloc | apply Kd.R_drewN | apply Kd.R_drew)); exact HO241.out))) (Kd.R_lt (by (with_reducible repeat (first | apply Kd.R_alloc | apply Kd.R_drewN | apply Kd.R_drew)); exact HO244.out))) (Kd.R_lt (by (with_reducible repeat (first | apply Kd.R_alloc | apply Kd.R_drewN | apply Kd.R_drew)); exact HO254.out))) (below_size (by repeat (first | (with_reducible first | exact HB.out | apply below_alloc | apply pw_below_drewN | apply below_drew1 | refine below_set ?_ GE204.out) | exact HB.out))))
         have n13_ := Aside0.mk (blk_below (g := gb204) (o := .cells #[.int .u64 a1_0, .int .u64 a1_1] 34 (0, 0)) (by (with_reducible repeat (first | refine blk_drewN ?_ _ | refine blk_drew ?_ | refine blk_alloc ?_ _)); exact BK204.out) hb)
         have n14_ := Aside0.mk (below_step (by repeat (first | (with_reducible first | exact HB.out | apply below_alloc | apply pw_below_drewN | apply below_drew1 | refine below_set ?_ GE204.out) | exact HB.out)) hb)
         clear HO214
         clear HO217
         clear HO220
         clear HO223
         clear HO226
         clear HO235
         clear HO238
         clear HO241
         clear HO244
         clear HO248
         clear HO251
         clear HO254
         clear BK204
         clear HB
         have HO214 := n0_
         have HO217 := n1_
         have HO220 := n2_
         have HO223 := n3_
         have HO226 := n4_
         have HO235 := n5_
         have HO238 := n6_
         have HO241 := n7_
         have HO244 := n8_
         have HO248 := n9_
         have HO251 := n10_
         have HO254 := n11_
         have HO257 := n12_
         have BK204 := n13_
         have HB := n14_
         clear n0_ n1_ n2_ n3_ n4_ n5_ n6_ n7_ n8_ n9_ n10_ n11_ n12_ n13_ n14_
         (try clear hb)
         (try clear hb2)
         (try clear hk)
         (try clear hi)
         (try clear ho0)
         obtain ⟨Ao77, co77, eo77⟩ := Kd.R_slice HO254.out
         (first | subst eo77 | (injection eo77 with f1_ f2_ f3_; have f4_ := f1_.symm; have f5_ := f3_.symm; clear f1_ f2_ f3_; subst f4_; subst f5_))
         obtain ⟨Ao78, co78, eo78⟩ := Kd.R_slice HO257.out
         (first | subst eo78 | (injection eo78 with f1_ f2_ f3_; have f4_ := f1_.symm; have f5_ := f3_.symm; clear f1_ f2_ f3_; subst f4_; subst f5_))
         refine hK.out _ _ ⟨(blk_cell BK204.out 0).trans rfl, (blk_cell BK204.out 1).trans rfl⟩ (fun hHeld => ?_)
         clear hK K
         refine norm_ (a' := ?_) ?_ ?_
         rotate_left
         ·show Act.put _ (some 52) _ = _
          simp only [Act.put, List.setIfInBounds_toArray, List.set_cons_zero, List.set_cons_succ, i64_w, i32_w]
          rfl
         refine one_ (i := 15) (N := some 53) #[true,true,true,true,true,true,true,true,true,true,true,true,true,true,true,true,false,false,false,false,false,false,false,false,false,false,false,false,false,false,false,false,false,false,false,false] rfl rfl (one_of HT_.out (by kernel_rfl)) (by decide) (fun K hK => ?_)
         refine goes_ Try.func16 (by kernel_rfl) rfl #[.slice Ao77 t252.length co77, .slice Ao78 t255.length co78] (by rfl) rfl rfl (by (try simp only [List.map_toArray, List.map_cons, List.map_nil]); first | done | rfl | (simp only [List.length_drop, List.length_take]; rfl)) ?_
         with_reducible refine (dominoref03_Same.calls kj2 _ _ t252 _ _ t255 true _ ?side1 ?side2 ?side3 ?side4 A37.out).mono ?_
         (case side1 => repeat (first | exact (Kd.R_reads' HO254.out).2.2 | (with_reducible refine Kd.C_alloc ?_ _) | (with_reducible refine Kd.C_drewN ?_ _) | (with_reducible refine Kd.C_drew ?_)))
         (case side2 => exact (Kd.R_reads' HO254.out).2.1)
         (case side3 => repeat (first | exact (Kd.R_reads' HO257.out).2.2 | (with_reducible refine Kd.C_alloc ?_ _) | (with_reducible refine Kd.C_drewN ?_ _) | (with_reducible refine Kd.C_drew ?_)))
         (case side4 => exact (Kd.R_reads' HO257.out).2.1)
         rintro e w' ⟨rfl, ⟨nd, rfl⟩⟩
         refine ⟨_, rfl, ?_⟩
         refine hK.out _ _ ⟨(blk_cell BK204.out 0).trans rfl, (blk_cell BK204.out 1).trans rfl⟩ (fun hHeld => ?_)
         clear hK K
         refine norm_ (a' := ?_) ?_ ?_
         rotate_left
         ·show Act.put _ (some 53) _ = _
          simp only [Act.put, List.setIfInBounds_toArray, List.set_cons_zero, List.set_cons_succ, i64_w, i32_w]
          rfl
         refine pure_ (i := 16) (N := some 54) (v := ?_) (a' := ?_) #[true,true,true,true,true,true,true,true,true,true,true,true,true,true,true,true,true,false,false,false,false,false,false,false,false,false,false,false,false,false,false,false,false,false,false,false] rfl rfl (any_of HT_.out (by kernel_rfl)) (fun _ _ _ h => h) (Or.inl ⟨by rfl, ?_⟩) ?_ ?_
         rotate_left;(intro w';go_simp;with_reducible rfl);rotate_left;(simp only [Act.put, List.setIfInBounds_toArray, List.set_cons_zero, List.set_cons_succ, i64_w, i32_w];rfl)
         refine pure_ (i := 17) (N := some 55) (v := ?_) (a' := ?_) #[true,true,true,true,true,true,true,true,true,true,true,true,true,true,true,true,true,true,false,false,false,false,false,false,false,false,false,false,false,false,false,false,false,false,false,false] rfl rfl (any_of HT_.out (by kernel_rfl)) (fun _ _ _ h => h) (Or.inl ⟨by rfl, ?_⟩) ?_ ?_
         rotate_left;(intro w';go_simp;with_reducible rfl);rotate_left;(simp only [Act.put, List.setIfInBounds_toArray, List.set_cons_zero, List.set_cons_succ, i64_w, i32_w];rfl)
         refine pure_ (i := 18) (N := some 56) (v := ?_) (a' := ?_) #[true,true,true,true,true,true,true,true,true,true,true,true,true,true,true,true,true,true,true,false,false,false,false,false,false,false,false,false,false,false,false,false,false,false,false,false] rfl rfl (any_of HT_.out (by kernel_rfl)) (fun _ _ _ h => h) (Or.inl ⟨by rfl, ?_⟩) ?_ ?_
         rotate_left;(intro w';go_simp;with_reducible rfl);rotate_left;(simp only [Act.put, List.setIfInBounds_toArray, List.set_cons_zero, List.set_cons_succ, i64_w, i32_w];rfl)
         refine pure_ (i := 19) (N := some 57) (v := ?_) (a' := ?_) #[true,true,true,true,true,true,true,true,true,true,true,true,true,true,true,true,true,true,true,true,false,false,false,false,false,false,false,false,false,false,false,false,false,false,false,false] rfl rfl (any_of HT_.out (by kernel_rfl)) (fun _ _ _ h => h) (Or.inl ⟨by rfl, ?_⟩) ?_ ?_
         rotate_left;(intro w';go_simp;with_reducible rfl);rotate_left;(simp only [Act.put, List.setIfInBounds_toArray, List.set_cons_zero, List.set_cons_succ, i64_w, i32_w];rfl)
         refine one_ (i := 20) (N := some 58) #[true,true,true,true,true,true,true,true,true,true,true,true,true,true,true,true,true,true,true,true,true,false,false,false,false,false,false,false,false,false,false,false,false,false,false,false] rfl rfl (one_of HT_.out (by kernel_rfl)) (by decide) (fun K hK => ?_)
         refine goes_ Try.func21 (by kernel_rfl) rfl #[.slice Ao60 t221.length co60, .slice Ao62 t224.length co62] (by rfl) rfl rfl (by (try simp only [List.map_toArray, List.map_cons, List.map_nil]); first | done | rfl | (simp only [List.length_drop, List.length_take]; rfl)) ?_
         with_reducible refine (ranges_Meet.calls kj2 _ _ t221 _ _ t224 t259 _ ?side1 ?side2 ?side3 ?side4 A39.out).mono ?_
         (case side1 => repeat (first | exact (Kd.R_reads' HO223.out).2.2 | (with_reducible refine Kd.C_alloc ?_ _) | (with_reducible refine Kd.C_drewN ?_ _) | (with_reducible refine Kd.C_drew ?_)))
         (case side2 => exact (Kd.R_reads' HO223.out).2.1)
         (case side3 => repeat (first | exact (Kd.R_reads' HO226.out).2.2 | (with_reducible refine Kd.C_alloc ?_ _) | (with_reducible refine Kd.C_drewN ?_ _) | (with_reducible refine Kd.C_drew ?_)))
         (case side4 => exact (Kd.R_reads' HO226.out).2.1)
         rintro e w79 ⟨v260, rfl, ho0, hb⟩
         refine ⟨_, rfl, ?_⟩
         have n0_ := Aside0.mk (Kd.R_elder' (by (with_reducible repeat (first | apply Kd.R_alloc | apply Kd.R_drewN | apply Kd.R_drew)); exact HO214.out) (Kd.R_base ho0) hb)
         have n1_ := Aside0.mk (Kd.R_elder' (by (with_reducible repeat (first | apply Kd.R_alloc | apply Kd.R_drewN | apply Kd.R_drew)); exact HO217.out) (Kd.R_base ho0) hb)
         have n2_ := Aside0.mk (Kd.R_elder' (by (with_reducible repeat (first | apply Kd.R_alloc | apply Kd.R_drewN | apply Kd.R_drew)); exact HO220.out) (Kd.R_base ho0) hb)
         have n3_ := Aside0.mk (Kd.R_elder' (by (with_reducible repeat (first | apply Kd.R_alloc | apply Kd.R_drewN | apply Kd.R_drew)); exact HO223.out) (Kd.R_base ho0) hb)
         have n4_ := Aside0.mk (Kd.R_elder' (by (with_reducible repeat (first | apply Kd.R_alloc | apply Kd.R_drewN | apply Kd.R_drew)); exact HO226.out) (Kd.R_base ho0) hb)
         have n5_ := Aside0.mk (Kd.R_elder' (by (with_reducible repeat (first | apply Kd.R_alloc | apply Kd.R_drewN | apply Kd.R_drew)); exact HO235.out) (Kd.R_base ho0) hb)
         have n6_ := Aside0.mk (Kd.R_elder' (by (with_reducible repeat (first | apply Kd.R_alloc | apply Kd.R_drewN | apply Kd.R_drew)); exact HO238.out) (Kd.R_base ho0) hb)
         have n7_ := Aside0.mk (Kd.R_below (by (with_reducible repeat (first | apply Kd.R_alloc | apply Kd.R_drewN | apply Kd.R_drew)); exact HO241.out) hb)
         have n8_ := Aside0.mk (Kd.R_below (by (with_reducible repeat (first | apply Kd.R_alloc | apply Kd.R_drewN | apply Kd.R_drew)); exact HO244.out) hb)
         have n9_ := Aside0.mk (Kd.R_elder' (by (with_reducible repeat (first | apply Kd.R_alloc | apply Kd.R_drewN | apply Kd.R_drew)); exact HO248.out) (Kd.R_base ho0) hb)
         have n10_ := Aside0.mk (Kd.R_elder' (by (with_reducible repeat (first | apply Kd.R_alloc | apply Kd.R_drewN | apply Kd.R_drew)); exact HO251.out) (Kd.R_base ho0) hb)
         have n11_ := Aside0.mk (Kd.R_below (by (with_reducible repeat (first | apply Kd.R_alloc | apply Kd.R_drewN | apply Kd.R_drew)); exact HO254.out) hb)
         have n12_ := Aside0.mk (Kd.R_below (by (with_reducible repeat (first | apply Kd.R_alloc | apply Kd.R_drewN | apply Kd.R_drew)); exact HO257.out) hb)
         have n13_ := Aside0.mk (Kd.R_lower (Kd.R_newB (Kd.R_new' (Kd.R_new' (Kd.R_new' (Kd.R_new' (Kd.R_new' (Kd.R_new' (Kd.R_new' (Kd.R_new' (Kd.R_new' ho0 (Kd.R_lt (by (with_reducible repeat (first | apply Kd.R_alloc | apply Kd.R_drewN | apply Kd.R_drew)); exact HO214.out))) (Kd.R_lt (by (with_reducible repeat (first | apply Kd.R_alloc | apply Kd.R_drewN | apply Kd.R_drew)); exact HO217.out))) (Kd.R_lt (by (with_reducible repeat (first | apply Kd.R_alloc | apply Kd.R_drewN | apply Kd.R_drew)); exact HO220.out))) (Kd.R_lt (by (with_reducible repeat (first | apply Kd.R_alloc | apply Kd.R_drewN | apply Kd.R_drew)); exact HO223.out))) (Kd.R_lt (by (with_reducible repeat (first | apply Kd.R_alloc | apply Kd.R_drewN | apply Kd.R_drew)); exact HO226.out))) (Kd.R_lt (by (with_reducible repeat (first | apply Kd.R_alloc | apply Kd.R_drewN | apply Kd.R_drew)); exact HO235.out))) (Kd.R_lt (by (with_reducible repeat (first | apply Kd.R_alloc | apply Kd.R_drewN | apply Kd.R_drew)); exact HO238.out))) (Kd.R_lt (by (with_reducible repeat (first | apply Kd.R_alloc | apply Kd.R_drewN | apply Kd.R_drew)); exact HO248.out))) (Kd.R_lt (by (with_reducible repeat (first | apply Kd.R_alloc | apply Kd.R_drewN | apply Kd.R_drew)); exact HO251.out))) (g := gb204) (o := .cells #[.int .u64 a1_0, .int .u64 a1_1] 34 (0, 0)) (by (with_reducible repeat (first | refine blk_drewN ?_ _ | refine blk_drew ?_ | refine blk_alloc ?_ _)); exact BK204.out)) (below_size (by repeat (first | (with_reducible first | exact HB.out | apply below_alloc | apply pw_below_drewN | apply below_drew1 | refine below_set ?_ GE204.out) | exact HB.out))))
         have n14_ := Aside0.mk (blk_below (g := gb204) (o := .cells #[.int .u64 a1_0, .int .u64 a1_1] 34 (0, 0)) (by (with_reducible repeat (first | refine blk_drewN ?_ _ | refine blk_drew ?_ | refine blk_alloc ?_ _)); exact BK204.out) hb)
         have n15_ := Aside0.mk (below_step (by repeat (first | (with_reducible first | exact HB.out | apply below_alloc | apply pw_below_drewN | apply below_drew1 | refine below_set ?_ GE204.out) | exact HB.out)) hb)
         clear HO214
         clear HO217
         clear HO220
         clear HO223
         clear HO226
         clear HO235
         clear HO238
         clear HO241
         clear HO244
         clear HO248
         clear HO251
         clear HO254
         clear HO257
         clear BK204
         clear HB
         have HO214 := n0_
         have HO217 := n1_
         have HO220 := n2_
         have HO223 := n3_
         have HO226 := n4_
         have HO235 := n5_
         have HO238 := n6_
         have HO241 := n7_
         have HO244 := n8_
         have HO248 := n9_
         have HO251 := n10_
         have HO254 := n11_
         have HO257 := n12_
         have HO261 := n13_
         have BK204 := n14_
         have HB := n15_
         clear n0_ n1_ n2_ n3_ n4_ n5_ n6_ n7_ n8_ n9_ n10_ n11_ n12_ n13_ n14_ n15_
         (try clear hb)
         (try clear hb2)
         (try clear hk)
         (try clear hi)
         (try clear ho0)
         obtain ⟨Ao80, co80, eo80⟩ := Kd.R_slice HO261.out
         (first | subst eo80 | (injection eo80 with f1_ f2_ f3_; have f4_ := f1_.symm; have f5_ := f3_.symm; clear f1_ f2_ f3_; subst f4_; subst f5_))
         refine hK.out _ _ ⟨(blk_cell BK204.out 0).trans rfl, (blk_cell BK204.out 1).trans rfl⟩ (fun hHeld => ?_)
         clear hK K
         refine norm_ (a' := ?_) ?_ ?_
         rotate_left
         ·show Act.put _ (some 58) _ = _
          simp only [Act.put, List.setIfInBounds_toArray, List.set_cons_zero, List.set_cons_succ, i64_w, i32_w]
          rfl
         refine pure_ (i := 21) (N := some 59) (v := ?_) (a' := ?_) #[true,true,true,true,true,true,true,true,true,true,true,true,true,true,true,true,true,true,true,true,true,true,false,false,false,false,false,false,false,false,false,false,false,false,false,false] rfl rfl (any_of HT_.out (by kernel_rfl)) (fun _ _ _ h => h) (Or.inl ⟨by rfl, ?_⟩) ?_ ?_
         rotate_left;(intro w';go_simp;with_reducible rfl);rotate_left;(simp only [Act.put, List.setIfInBounds_toArray, List.set_cons_zero, List.set_cons_succ, i64_w, i32_w];rfl)
         refine pure_ (i := 22) (N := some 60) (v := ?_) (a' := ?_) #[true,true,true,true,true,true,true,true,true,true,true,true,true,true,true,true,true,true,true,true,true,true,true,false,false,false,false,false,false,false,false,false,false,false,false,false] rfl rfl (any_of HT_.out (by kernel_rfl)) (fun _ _ _ h => h) (Or.inl ⟨by rfl, ?_⟩) ?_ ?_
         rotate_left;(intro w';go_simp;with_reducible rfl);rotate_left;(simp only [Act.put, List.setIfInBounds_toArray, List.set_cons_zero, List.set_cons_succ, i64_w, i32_w];rfl)
         refine pure_ (i := 23) (N := some 61) (v := ?_) (a' := ?_) #[true,true,true,true,true,true,true,true,true,true,true,true,true,true,true,true,true,true,true,true,true,true,true,true,false,false,false,false,false,false,false,false,false,false,false,false] rfl rfl (any_of HT_.out (by kernel_rfl)) (fun _ _ _ h => h) (Or.inl ⟨by rfl, ?_⟩) ?_ ?_
         rotate_left;(intro w';go_simp;with_reducible rfl);rotate_left;(simp only [Act.put, List.setIfInBounds_toArray, List.set_cons_zero, List.set_cons_succ, i64_w, i32_w];rfl)
         refine pure_ (i := 24) (N := some 62) (v := ?_) (a' := ?_) #[true,true,true,true,true,true,true,true,true,true,true,true,true,true,true,true,true,true,true,true,true,true,true,true,true,false,false,false,false,false,false,false,false,false,false,false] rfl rfl (any_of HT_.out (by kernel_rfl)) (fun _ _ _ h => h) (Or.inl ⟨by rfl, ?_⟩) ?_ ?_
         rotate_left;(intro w';go_simp;with_reducible rfl);rotate_left;(simp only [Act.put, List.setIfInBounds_toArray, List.set_cons_zero, List.set_cons_succ, i64_w, i32_w];rfl)
         refine pure_ (i := 28) (N := some 66) (v := ?_) (a' := ?_) #[true,true,true,true,true,true,true,true,true,true,true,true,true,true,true,true,true,true,true,true,true,true,true,true,true,false,false,false,true,false,false,false,false,false,false,false] rfl rfl (any_of HT_.out (by kernel_rfl)) (fun _ _ _ h => h) (Or.inl ⟨by rfl, ?_⟩) ?_ ?_
         rotate_left;(intro w';go_simp;with_reducible rfl);rotate_left;(simp only [Act.put, List.setIfInBounds_toArray, List.set_cons_zero, List.set_cons_succ, i64_w, i32_w];rfl)
         refine pure_ (i := 31) (N := some 69) (v := ?_) (a' := ?_) #[true,true,true,true,true,true,true,true,true,true,true,true,true,true,true,true,true,true,true,true,true,true,true,true,true,false,false,false,true,false,false,true,false,false,false,false] rfl rfl (any_of HT_.out (by kernel_rfl)) (fun _ _ _ h => h) (Or.inl ⟨by rfl, ?_⟩) ?_ ?_
         rotate_left;(intro w';go_simp;with_reducible rfl);rotate_left;(simp only [Act.put, List.setIfInBounds_toArray, List.set_cons_zero, List.set_cons_succ, i64_w, i32_w];rfl)
         refine take_ (i := 25) (N := some 63) (v := ?_) (a' := ?_) #[true,true,true,true,true,true,true,true,true,true,true,true,true,true,true,true,true,true,true,true,true,true,true,true,true,true,false,false,true,false,false,true,false,false,false,false] rfl rfl (take_ofW HT_.out HW_.out (by kernel_rfl)) (fun _ _ _ h => h) (Or.inl ⟨by rfl, ?_⟩) hHeld ?_ ?_
         rotate_left
         ·rintro w' ⟨s0, s1⟩
          go_simp
          with_reducible rfl
         rotate_left
         ·simp only [Act.put, List.setIfInBounds_toArray, List.set_cons_zero, List.set_cons_succ, i64_w, i32_w]
          rfl
         refine one_ (i := 26) (N := some 64) #[true,true,true,true,true,true,true,true,true,true,true,true,true,true,true,true,true,true,true,true,true,true,true,true,true,true,true,false,true,false,false,true,false,false,false,false] rfl rfl (one_of HT_.out (by kernel_rfl)) (by decide) (fun K hK => ?_)
         refine Kd.R_lit_step k34 _ 34 ?hg (N := 64) ?hd (xs := ([(⟨a1_0, a1_1⟩ : S34)] : List (S34))) (inner := [.int .u64 a1_0, .int .u64 a1_1]) (ok := fun _ => True) (okp := fun _ => True) ?hr ?hp (fun _ hk => hk) trivial (Below.refl _ _) (Nat.le_refl _) (by simp) ?_; (case hd => rfl); (case hg => rfl); (case hr => first | (go_simp; done) | (go_simp; rfl)); (case hp => exact (Reps.c2 (show Kd.M k34 _ _ _ (⟨a1_0, a1_1⟩ : S34) [.int .u64 a1_0, .int .u64 a1_1] from (k34_mkM _ _ _ (⟨a1_0, a1_1⟩ : S34) )) (Reps.none _ _)))
         intro v263 w81 ho82 hb hg_ hnew_
         clear hg_ hnew_
         (first | rw [← Ny262.out] at ho82 | (simp only [Int.reduceToNat] at ho82; rw [← Ny262.out] at ho82))
         have n0_ := Aside0.mk (Kd.R_elder' (by (with_reducible repeat (first | apply Kd.R_alloc | apply Kd.R_drewN | apply Kd.R_drew)); exact HO214.out) (Kd.R_base ho82) hb)
         have n1_ := Aside0.mk (Kd.R_elder' (by (with_reducible repeat (first | apply Kd.R_alloc | apply Kd.R_drewN | apply Kd.R_drew)); exact HO217.out) (Kd.R_base ho82) hb)
         have n2_ := Aside0.mk (Kd.R_elder' (by (with_reducible repeat (first | apply Kd.R_alloc | apply Kd.R_drewN | apply Kd.R_drew)); exact HO220.out) (Kd.R_base ho82) hb)
         have n3_ := Aside0.mk (Kd.R_elder' (by (with_reducible repeat (first | apply Kd.R_alloc | apply Kd.R_drewN | apply Kd.R_drew)); exact HO223.out) (Kd.R_base ho82) hb)
         have n4_ := Aside0.mk (Kd.R_elder' (by (with_reducible repeat (first | apply Kd.R_alloc | apply Kd.R_drewN | apply Kd.R_drew)); exact HO226.out) (Kd.R_base ho82) hb)
         have n5_ := Aside0.mk (Kd.R_elder' (by (with_reducible repeat (first | apply Kd.R_alloc | apply Kd.R_drewN | apply Kd.R_drew)); exact HO235.out) (Kd.R_base ho82) hb)
         have n6_ := Aside0.mk (Kd.R_elder' (by (with_reducible repeat (first | apply Kd.R_alloc | apply Kd.R_drewN | apply Kd.R_drew)); exact HO238.out) (Kd.R_base ho82) hb)
         have n7_ := Aside0.mk (Kd.R_below (by (with_reducible repeat (first | apply Kd.R_alloc | apply Kd.R_drewN | apply Kd.R_drew)); exact HO241.out) hb)
         have n8_ := Aside0.mk (Kd.R_below (by (with_reducible repeat (first | apply Kd.R_alloc | apply Kd.R_drewN | apply Kd.R_drew)); exact HO244.out) hb)
         have n9_ := Aside0.mk (Kd.R_elder' (by (with_reducible repeat (first | apply Kd.R_alloc | apply Kd.R_drewN | apply Kd.R_drew)); exact HO248.out) (Kd.R_base ho82) hb)
         have n10_ := Aside0.mk (Kd.R_elder' (by (with_reducible repeat (first | apply Kd.R_alloc | apply Kd.R_drewN | apply Kd.R_drew)); exact HO251.out) (Kd.R_base ho82) hb)
         have n11_ := Aside0.mk (Kd.R_below (by (with_reducible repeat (first | apply Kd.R_alloc | apply Kd.R_drewN | apply Kd.R_drew)); exact HO254.out) hb)
         have n12_ := Aside0.mk (Kd.R_below (by (with_reducible repeat (first | apply Kd.R_alloc | apply Kd.R_drewN | apply Kd.R_drew)); exact HO257.out) hb)
         have n13_ := Aside0.mk (Kd.R_elder' (by (with_reducible repeat (first | apply Kd.R_alloc | apply Kd.R_drewN | apply Kd.R_drew)); exact HO261.out) (Kd.R_base ho82) hb)
         have n14_ := Aside0.mk (Kd.R_lower (Kd.R_newB (Kd.R_new' (Kd.R_new' (Kd.R_new' (Kd.R_new' (Kd.R_new' (Kd.R_new' (Kd.R_new' (Kd.R_new' (Kd.R_new' (Kd.R_new' ho82 (Kd.R_lt (by (with_reducible repeat (first | apply Kd.R_alloc | apply Kd.R_drewN | apply Kd.R_drew)); exact HO214.out))) (Kd.R_lt (by (with_reducible repeat (first | apply Kd.R_alloc | apply Kd.R_drewN | apply Kd.R_drew)); exact HO217.out))) (Kd.R_lt (by (with_reducible repeat (first | apply Kd.R_alloc | apply Kd.R_drewN | apply Kd.R_drew)); exact HO220.out))) (Kd.R_lt (by (with_reducible repeat (first | apply Kd.R_alloc | apply Kd.R_drewN | apply Kd.R_drew)); exact HO223.out))) (Kd.R_lt (by (with_reducible repeat (first | apply Kd.R_alloc | apply Kd.R_drewN | apply Kd.R_drew)); exact HO226.out))) (Kd.R_lt (by (with_reducible repeat (first | apply Kd.R_alloc | apply Kd.R_drewN | apply Kd.R_drew)); exact HO235.out))) (Kd.R_lt (by (with_reducible repeat (first | apply Kd.R_alloc | apply Kd.R_drewN | apply Kd.R_drew)); exact HO238.out))) (Kd.R_lt (by (with_reducible repeat (first | apply Kd.R_alloc | apply Kd.R_drewN | apply Kd.R_drew)); exact HO248.out))) (Kd.R_lt (by (with_reducible repeat (first | apply Kd.R_alloc | apply Kd.R_drewN | apply Kd.R_drew)); exact HO251.out))) (Kd.R_lt (by (with_reducible repeat (first | apply Kd.R_alloc | apply Kd.R_drewN | apply Kd.R_drew)); exact HO261.out))) (g := gb204) (o := .cells #[.int .u64 a1_0, .int .u64 a1_1] 34 (0, 0)) (by (with_reducible repeat (first | refine blk_drewN ?_ _ | refine blk_drew ?_ | refine blk_alloc ?_ _)); exact BK204.out)) (below_size (by repeat (first | (with_reducible first | exact HB.out | apply below_alloc | apply pw_below_drewN | apply below_drew1 | refine below_set ?_ GE204.out) | exact HB.out))))
         have n15_ := Aside0.mk (blk_below (g := gb204) (o := .cells #[.int .u64 a1_0, .int .u64 a1_1] 34 (0, 0)) (by (with_reducible repeat (first | refine blk_drewN ?_ _ | refine blk_drew ?_ | refine blk_alloc ?_ _)); exact BK204.out) hb)
         have n16_ := Aside0.mk (below_step (by repeat (first | (with_reducible first | exact HB.out | apply below_alloc | apply pw_below_drewN | apply below_drew1 | refine below_set ?_ GE204.out) | exact HB.out)) hb)
         clear HO214
         clear HO217
         clear HO220
         clear HO223
         clear HO226
         clear HO235
         clear HO238
         clear HO241
         clear HO244
         clear HO248
         clear HO251
         clear HO254
         clear HO257
         clear HO261
         clear BK204
         clear HB
         have HO214 := n0_
         have HO217 := n1_
         have HO220 := n2_
         have HO223 := n3_
         have HO226 := n4_
         have HO235 := n5_
         have HO238 := n6_
         have HO241 := n7_
         have HO244 := n8_
         have HO248 := n9_
         have HO251 := n10_
         have HO254 := n11_
         have HO257 := n12_
         have HO261 := n13_
         have HO264 := n14_
         have BK204 := n15_
         have HB := n16_
         clear n0_ n1_ n2_ n3_ n4_ n5_ n6_ n7_ n8_ n9_ n10_ n11_ n12_ n13_ n14_ n15_ n16_
         clear hb ho82
         obtain ⟨Ao83, co83, eo83⟩ := Kd.R_slice HO264.out
         (first | subst eo83 | (injection eo83 with f1_ f2_ f3_; have f4_ := f1_.symm; have f5_ := f3_.symm; clear f1_ f2_ f3_; subst f4_; subst f5_))
         refine hK.out _ _ ⟨(blk_cell BK204.out 0).trans rfl, (blk_cell BK204.out 1).trans rfl⟩ (fun hHeld => ?_)
         clear hK K
         refine norm_ (a' := ?_) ?_ ?_
         rotate_left
         ·show Act.put _ (some 64) _ = _
          simp only [Act.put, List.setIfInBounds_toArray, List.set_cons_zero, List.set_cons_succ, i64_w, i32_w]
          rfl
         refine one_ (i := 27) (N := some 65) #[true,true,true,true,true,true,true,true,true,true,true,true,true,true,true,true,true,true,true,true,true,true,true,true,true,true,true,true,true,false,false,true,false,false,false,false] rfl rfl (one_of HT_.out (by kernel_rfl)) (by decide) (fun K hK => ?_)
         refine goes_ Try.func15 (by kernel_rfl) rfl #[.slice Ao83 y262.length co83] (by rfl) rfl rfl (by (try simp only [List.map_toArray, List.map_cons, List.map_nil]); first | done | rfl | (simp only [List.length_drop, List.length_take]; rfl)) ?_
         with_reducible refine (ranges_Of.calls kj2 _ _ y262 t265 _ ?side1 ?side2 A41.out).mono ?_
         (case side1 => repeat (first | exact (Kd.R_reads' HO264.out).2.2 | (with_reducible refine Kd.C_alloc ?_ _) | (with_reducible refine Kd.C_drewN ?_ _) | (with_reducible refine Kd.C_drew ?_)))
         (case side2 => exact (Kd.R_reads' HO264.out).2.1)
         rintro e w84 ⟨v266, rfl, ho0, hb⟩
         refine ⟨_, rfl, ?_⟩
         have n0_ := Aside0.mk (Kd.R_elder' (by (with_reducible repeat (first | apply Kd.R_alloc | apply Kd.R_drewN | apply Kd.R_drew)); exact HO214.out) (Kd.R_base ho0) hb)
         have n1_ := Aside0.mk (Kd.R_elder' (by (with_reducible repeat (first | apply Kd.R_alloc | apply Kd.R_drewN | apply Kd.R_drew)); exact HO217.out) (Kd.R_base ho0) hb)
         have n2_ := Aside0.mk (Kd.R_elder' (by (with_reducible repeat (first | apply Kd.R_alloc | apply Kd.R_drewN | apply Kd.R_drew)); exact HO220.out) (Kd.R_base ho0) hb)
         have n3_ := Aside0.mk (Kd.R_elder' (by (with_reducible repeat (first | apply Kd.R_alloc | apply Kd.R_drewN | apply Kd.R_drew)); exact HO223.out) (Kd.R_base ho0) hb)
         have n4_ := Aside0.mk (Kd.R_elder' (by (with_reducible repeat (first | apply Kd.R_alloc | apply Kd.R_drewN | apply Kd.R_drew)); exact HO226.out) (Kd.R_base ho0) hb)
         have n5_ := Aside0.mk (Kd.R_elder' (by (with_reducible repeat (first | apply Kd.R_alloc | apply Kd.R_drewN | apply Kd.R_drew)); exact HO235.out) (Kd.R_base ho0) hb)
         have n6_ := Aside0.mk (Kd.R_elder' (by (with_reducible repeat (first | apply Kd.R_alloc | apply Kd.R_drewN | apply Kd.R_drew)); exact HO238.out) (Kd.R_base ho0) hb)
         have n7_ := Aside0.mk (Kd.R_below (by (with_reducible repeat (first | apply Kd.R_alloc | apply Kd.R_drewN | apply Kd.R_drew)); exact HO241.out) hb)
         have n8_ := Aside0.mk (Kd.R_below (by (with_reducible repeat (first | apply Kd.R_alloc | apply Kd.R_drewN | apply Kd.R_drew)); exact HO244.out) hb)
         have n9_ := Aside0.mk (Kd.R_elder' (by (with_reducible repeat (first | apply Kd.R_alloc | apply Kd.R_drewN | apply Kd.R_drew)); exact HO248.out) (Kd.R_base ho0) hb)
         have n10_ := Aside0.mk (Kd.R_elder' (by (with_reducible repeat (first | apply Kd.R_alloc | apply Kd.R_drewN | apply Kd.R_drew)); exact HO251.out) (Kd.R_base ho0) hb)
         have n11_ := Aside0.mk (Kd.R_below (by (with_reducible repeat (first | apply Kd.R_alloc | apply Kd.R_drewN | apply Kd.R_drew)); exact HO254.out) hb)
         have n12_ := Aside0.mk (Kd.R_below (by (with_reducible repeat (first | apply Kd.R_alloc | apply Kd.R_drewN | apply Kd.R_drew)); exact HO257.out) hb)
         have n13_ := Aside0.mk (Kd.R_elder' (by (with_reducible repeat (first | apply Kd.R_alloc | apply Kd.R_drewN | apply Kd.R_drew)); exact HO261.out) (Kd.R_base ho0) hb)
         have n14_ := Aside0.mk (Kd.R_elder' (by (with_reducible repeat (first | apply Kd.R_alloc | apply Kd.R_drewN | apply Kd.R_drew)); exact HO264.out) (Kd.R_base ho0) hb)
         have n15_ := Aside0.mk (Kd.R_lower (Kd.R_newB (Kd.R_new' (Kd.R_new' (Kd.R_new' (Kd.R_new' (Kd.R_new' (Kd.R_new' (Kd.R_new' (Kd.R_new' (Kd.R_new' (Kd.R_new' (Kd.R_new' ho0 (Kd.R_lt (by (with_reducible repeat (first | apply Kd.R_alloc | apply Kd.R_drewN | apply Kd.R_drew)); exact HO214.out))) (Kd.R_lt (by (with_reducible repeat (first | apply Kd.R_alloc | apply Kd.R_drewN | apply Kd.R_drew)); exact HO217.out))) (Kd.R_lt (by (with_reducible repeat (first | apply Kd.R_alloc | apply Kd.R_drewN | apply Kd.R_drew)); exact HO220.out))) (Kd.R_lt (by (with_reducible repeat (first | apply Kd.R_alloc | apply Kd.R_drewN | apply Kd.R_drew)); exact HO223.out))) (Kd.R_lt (by (with_reducible repeat (first | apply Kd.R_alloc | apply Kd.R_drewN | apply Kd.R_drew)); exact HO226.out))) (Kd.R_lt (by (with_reducible repeat (first | apply Kd.R_alloc | apply Kd.R_drewN | apply Kd.R_drew)); exact HO235.out))) (Kd.R_lt (by (with_reducible repeat (first | apply Kd.R_alloc | apply Kd.R_drewN | apply Kd.R_drew)); exact HO238.out))) (Kd.R_lt (by (with_reducible repeat (first | apply Kd.R_alloc | apply Kd.R_drewN | apply Kd.R_drew)); exact HO248.out))) (Kd.R_lt (by (with_reducible repeat (first | apply Kd.R_alloc | apply Kd.R_drewN | apply Kd.R_drew)); exact HO251.out))) (Kd.R_lt (by (with_reducible repeat (first | apply Kd.R_alloc | apply Kd.R_drewN | apply Kd.R_drew)); exact HO261.out))) (Kd.R_lt (by (with_reducible repeat (first | apply Kd.R_alloc | apply Kd.R_drewN | apply Kd.R_drew)); exact HO264.out))) (g := gb204) (o := .cells #[.int .u64 a1_0, .int .u64 a1_1] 34 (0, 0)) (by (with_reducible repeat (first | refine blk_drewN ?_ _ | refine blk_drew ?_ | refine blk_alloc ?_ _)); exact BK204.out)) (below_size (by repeat (first | (with_reducible first | exact HB.out | apply below_alloc | apply pw_below_drewN | apply below_drew1 | refine below_set ?_ GE204.out) | exact HB.out))))
         have n16_ := Aside0.mk (blk_below (g := gb204) (o := .cells #[.int .u64 a1_0, .int .u64 a1_1] 34 (0, 0)) (by (with_reducible repeat (first | refine blk_drewN ?_ _ | refine blk_drew ?_ | refine blk_alloc ?_ _)); exact BK204.out) hb)
         have n17_ := Aside0.mk (below_step (by repeat (first | (with_reducible first | exact HB.out | apply below_alloc | apply pw_below_drewN | apply below_drew1 | refine below_set ?_ GE204.out) | exact HB.out)) hb)
         clear HO214
         clear HO217
         clear HO220
         clear HO223
         clear HO226
         clear HO235
         clear HO238
         clear HO241
         clear HO244
         clear HO248
         clear HO251
         clear HO254
         clear HO257
         clear HO261
         clear HO264
         clear BK204
         clear HB
         have HO214 := n0_
         have HO217 := n1_
         have HO220 := n2_
         have HO223 := n3_
         have HO226 := n4_
         have HO235 := n5_
         have HO238 := n6_
         have HO241 := n7_
         have HO244 := n8_
         have HO248 := n9_
         have HO251 := n10_
         have HO254 := n11_
         have HO257 := n12_
         have HO261 := n13_
         have HO264 := n14_
         have HO267 := n15_
         have BK204 := n16_
         have HB := n17_
         clear n0_ n1_ n2_ n3_ n4_ n5_ n6_ n7_ n8_ n9_ n10_ n11_ n12_ n13_ n14_ n15_ n16_ n17_
         (try clear hb)
         (try clear hb2)
         (try clear hk)
         (try clear hi)
         (try clear ho0)
         obtain ⟨Ao85, co85, eo85⟩ := Kd.R_slice HO267.out
         (first | subst eo85 | (injection eo85 with f1_ f2_ f3_; have f4_ := f1_.symm; have f5_ := f3_.symm; clear f1_ f2_ f3_; subst f4_; subst f5_))
         refine hK.out _ _ ⟨(blk_cell BK204.out 0).trans rfl, (blk_cell BK204.out 1).trans rfl⟩ (fun hHeld => ?_)
         clear hK K
         refine norm_ (a' := ?_) ?_ ?_
         rotate_left
         ·show Act.put _ (some 65) _ = _
          simp only [Act.put, List.setIfInBounds_toArray, List.set_cons_zero, List.set_cons_succ, i64_w, i32_w]
          rfl
         refine one_ (i := 29) (N := some 67) #[true,true,true,true,true,true,true,true,true,true,true,true,true,true,true,true,true,true,true,true,true,true,true,true,true,true,true,true,true,true,false,true,false,false,false,false] rfl rfl (one_of HT_.out (by kernel_rfl)) (by decide) (fun K hK => ?_)
         refine goes_ Try.func21 (by kernel_rfl) rfl #[.slice Ao85 t265.length co85, .slice Ao52 t212.length co52] (by rfl) rfl rfl (by (try simp only [List.map_toArray, List.map_cons, List.map_nil]); first | done | rfl | (simp only [List.length_drop, List.length_take]; rfl)) ?_
         with_reducible refine (ranges_Meet.calls kj2 _ _ t265 _ _ t212 t268 _ ?side1 ?side2 ?side3 ?side4 A42.out).mono ?_
         (case side1 => repeat (first | exact (Kd.R_reads' HO267.out).2.2 | (with_reducible refine Kd.C_alloc ?_ _) | (with_reducible refine Kd.C_drewN ?_ _) | (with_reducible refine Kd.C_drew ?_)))
         (case side2 => exact (Kd.R_reads' HO267.out).2.1)
         (case side3 => repeat (first | exact (Kd.R_reads' HO214.out).2.2 | (with_reducible refine Kd.C_alloc ?_ _) | (with_reducible refine Kd.C_drewN ?_ _) | (with_reducible refine Kd.C_drew ?_)))
         (case side4 => exact (Kd.R_reads' HO214.out).2.1)
         rintro e w86 ⟨v269, rfl, ho0, hb⟩
         refine ⟨_, rfl, ?_⟩
         have n0_ := Aside0.mk (Kd.R_elder' (by (with_reducible repeat (first | apply Kd.R_alloc | apply Kd.R_drewN | apply Kd.R_drew)); exact HO214.out) (Kd.R_base ho0) hb)
         have n1_ := Aside0.mk (Kd.R_elder' (by (with_reducible repeat (first | apply Kd.R_alloc | apply Kd.R_drewN | apply Kd.R_drew)); exact HO217.out) (Kd.R_base ho0) hb)
         have n2_ := Aside0.mk (Kd.R_elder' (by (with_reducible repeat (first | apply Kd.R_alloc | apply Kd.R_drewN | apply Kd.R_drew)); exact HO220.out) (Kd.R_base ho0) hb)
         have n3_ := Aside0.mk (Kd.R_elder' (by (with_reducible repeat (first | apply Kd.R_alloc | apply Kd.R_drewN | apply Kd.R_drew)); exact HO223.out) (Kd.R_base ho0) hb)
         have n4_ := Aside0.mk (Kd.R_elder' (by (with_reducible repeat (first | apply Kd.R_alloc | apply Kd.R_drewN | apply Kd.R_drew)); exact HO226.out) (Kd.R_base ho0) hb)
         have n5_ := Aside0.mk (Kd.R_elder' (by (with_reducible repeat (first | apply Kd.R_alloc | apply Kd.R_drewN | apply Kd.R_drew)); exact HO235.out) (Kd.R_base ho0) hb)
         have n6_ := Aside0.mk (Kd.R_elder' (by (with_reducible repeat (first | apply Kd.R_alloc | apply Kd.R_drewN | apply Kd.R_drew)); exact HO238.out) (Kd.R_base ho0) hb)
         have n7_ := Aside0.mk (Kd.R_below (by (with_reducible repeat (first | apply Kd.R_alloc | apply Kd.R_drewN | apply Kd.R_drew)); exact HO241.out) hb)
         have n8_ := Aside0.mk (Kd.R_below (by (with_reducible repeat (first | apply Kd.R_alloc | apply Kd.R_drewN | apply Kd.R_drew)); exact HO244.out) hb)
         have n9_ := Aside0.mk (Kd.R_elder' (by (with_reducible repeat (first | apply Kd.R_alloc | apply Kd.R_drewN | apply Kd.R_drew)); exact HO248.out) (Kd.R_base ho0) hb)
         have n10_ := Aside0.mk (Kd.R_elder' (by (with_reducible repeat (first | apply Kd.R_alloc | apply Kd.R_drewN | apply Kd.R_drew)); exact HO251.out) (Kd.R_base ho0) hb)
         have n11_ := Aside0.mk (Kd.R_below (by (with_reducible repeat (first | apply Kd.R_alloc | apply Kd.R_drewN | apply Kd.R_drew)); exact HO254.out) hb)
         have n12_ := Aside0.mk (Kd.R_below (by (with_reducible repeat (first | apply Kd.R_alloc | apply Kd.R_drewN | apply Kd.R_drew)); exact HO257.out) hb)
         have n13_ := Aside0.mk (Kd.R_elder' (by (with_reducible repeat (first | apply Kd.R_alloc | apply Kd.R_drewN | apply Kd.R_drew)); exact HO261.out) (Kd.R_base ho0) hb)
         have n14_ := Aside0.mk (Kd.R_elder' (by (with_reducible repeat (first | apply Kd.R_alloc | apply Kd.R_drewN | apply Kd.R_drew)); exact HO264.out) (Kd.R_base ho0) hb)
         have n15_ := Aside0.mk (Kd.R_elder' (by (with_reducible repeat (first | apply Kd.R_alloc | apply Kd.R_drewN | apply Kd.R_drew)); exact HO267.out) (Kd.R_base ho0) hb)
         have n16_ := Aside0.mk (Kd.R_lower (Kd.R_newB (Kd.R_new' (Kd.R_new' (Kd.R_new' (Kd.R_new' (Kd.R_new' (Kd.R_new' (Kd.R_new' (Kd.R_new' (Kd.R_new' (Kd.R_new' (Kd.R_new' (Kd.R_new' ho0 (Kd.R_lt (by (with_reducible repeat (first | apply Kd.R_alloc | apply Kd.R_drewN | apply Kd.R_drew)); exact HO214.out))) (Kd.R_lt (by (with_reducible repeat (first | apply Kd.R_alloc | apply Kd.R_drewN | apply Kd.R_drew)); exact HO217.out))) (Kd.R_lt (by (with_reducible repeat (first | apply Kd.R_alloc | apply Kd.R_drewN | apply Kd.R_drew)); exact HO220.out))) (Kd.R_lt (by (with_reducible repeat (first | apply Kd.R_alloc | apply Kd.R_drewN | apply Kd.R_drew)); exact HO223.out))) (Kd.R_lt (by (with_reducible repeat (first | apply Kd.R_alloc | apply Kd.R_drewN | apply Kd.R_drew)); exact HO226.out))) (Kd.R_lt (by (with_reducible repeat (first | apply Kd.R_alloc | apply Kd.R_drewN | apply Kd.R_drew)); exact HO235.out))) (Kd.R_lt (by (with_reducible repeat (first | apply Kd.R_alloc | apply Kd.R_drewN | apply Kd.R_drew)); exact HO238.out))) (Kd.R_lt (by (with_reducible repeat (first | apply Kd.R_alloc | apply Kd.R_drewN | apply Kd.R_drew)); exact HO248.out))) (Kd.R_lt (by (with_reducible repeat (first | apply Kd.R_alloc | apply Kd.R_drewN | apply Kd.R_drew)); exact HO251.out))) (Kd.R_lt (by (with_reducible repeat (first | apply Kd.R_alloc | apply Kd.R_drewN | apply Kd.R_drew)); exact HO261.out))) (Kd.R_lt (by (with_reducible repeat (first | apply Kd.R_alloc | apply Kd.R_drewN | apply Kd.R_drew)); exact HO264.out))) (Kd.R_lt (by (with_reducible repeat (first | apply Kd.R_alloc | apply Kd.R_drewN | apply Kd.R_drew)); exact HO267.out))) (g := gb204) (o := .cells #[.int .u64 a1_0, .int .u64 a1_1] 34 (0, 0)) (by (with_reducible repeat (first | refine blk_drewN ?_ _ | refine blk_drew ?_ | refine blk_alloc ?_ _)); exact BK204.out)) (below_size (by repeat (first | (with_reducible first | exact HB.out | apply below_alloc | apply pw_below_drewN | apply below_drew1 | refine below_set ?_ GE204.out) | exact HB.out))))
         have n17_ := Aside0.mk (blk_below (g := gb204) (o := .cells #[.int .u64 a1_0, .int .u64 a1_1] 34 (0, 0)) (by (with_reducible repeat (first | refine blk_drewN ?_ _ | refine blk_drew ?_ | refine blk_alloc ?_ _)); exact BK204.out) hb)
         have n18_ := Aside0.mk (below_step (by repeat (first | (with_reducible first | exact HB.out | apply below_alloc | apply pw_below_drewN | apply below_drew1 | refine below_set ?_ GE204.out) | exact HB.out)) hb)
         clear HO214
         clear HO217
         clear HO220
         clear HO223
         clear HO226
         clear HO235
         clear HO238
         clear HO241
         clear HO244
         clear HO248
         clear HO251
         clear HO254
         clear HO257
         clear HO261
         clear HO264
         clear HO267
         clear BK204
         clear HB
         have HO214 := n0_
         have HO217 := n1_
         have HO220 := n2_
         have HO223 := n3_
         have HO226 := n4_
         have HO235 := n5_
         have HO238 := n6_
         have HO241 := n7_
         have HO244 := n8_
         have HO248 := n9_
         have HO251 := n10_
         have HO254 := n11_
         have HO257 := n12_
         have HO261 := n13_
         have HO264 := n14_
         have HO267 := n15_
         have HO270 := n16_
         have BK204 := n17_
         have HB := n18_
         clear n0_ n1_ n2_ n3_ n4_ n5_ n6_ n7_ n8_ n9_ n10_ n11_ n12_ n13_ n14_ n15_ n16_ n17_ n18_
         (try clear hb)
         (try clear hb2)
         (try clear hk)
         (try clear hi)
         (try clear ho0)
         obtain ⟨Ao87, co87, eo87⟩ := Kd.R_slice HO270.out
         (first | subst eo87 | (injection eo87 with f1_ f2_ f3_; have f4_ := f1_.symm; have f5_ := f3_.symm; clear f1_ f2_ f3_; subst f4_; subst f5_))
         refine hK.out _ _ ⟨(blk_cell BK204.out 0).trans rfl, (blk_cell BK204.out 1).trans rfl⟩ (fun hHeld => ?_)
         clear hK K
         refine norm_ (a' := ?_) ?_ ?_
         rotate_left
         ·show Act.put _ (some 67) _ = _
          simp only [Act.put, List.setIfInBounds_toArray, List.set_cons_zero, List.set_cons_succ, i64_w, i32_w]
          rfl
         refine one_ (i := 30) (N := some 68) #[true,true,true,true,true,true,true,true,true,true,true,true,true,true,true,true,true,true,true,true,true,true,true,true,true,true,true,true,true,true,true,true,false,false,false,false] rfl rfl (one_of HT_.out (by kernel_rfl)) (by decide) (fun K hK => ?_)
         refine goes_ Try.func13 (by kernel_rfl) rfl #[.slice Ao87 t268.length co87] (by rfl) rfl rfl (by (try simp only [List.map_toArray, List.map_cons, List.map_nil]); first | done | rfl | (simp only [List.length_drop, List.length_take]; rfl)) ?_
         with_reducible refine (dominolaw03_its.calls kj2 _ _ t268 t271 _ ?side1 ?side2 A43.out).mono ?_
         (case side1 => repeat (first | exact (Kd.R_reads' HO270.out).2.2 | (with_reducible refine Kd.C_alloc ?_ _) | (with_reducible refine Kd.C_drewN ?_ _) | (with_reducible refine Kd.C_drew ?_)))
         (case side2 => exact (Kd.R_reads' HO270.out).2.1)
         rintro e w88 ⟨v272, rfl, ho0, hb⟩
         refine ⟨_, rfl, ?_⟩
         have n0_ := Aside0.mk (Kd.R_below (by (with_reducible repeat (first | apply Kd.R_alloc | apply Kd.R_drewN | apply Kd.R_drew)); exact HO214.out) hb)
         have n1_ := Aside0.mk (Kd.R_below (by (with_reducible repeat (first | apply Kd.R_alloc | apply Kd.R_drewN | apply Kd.R_drew)); exact HO217.out) hb)
         have n2_ := Aside0.mk (Kd.R_below (by (with_reducible repeat (first | apply Kd.R_alloc | apply Kd.R_drewN | apply Kd.R_drew)); exact HO220.out) hb)
         have n3_ := Aside0.mk (Kd.R_below (by (with_reducible repeat (first | apply Kd.R_alloc | apply Kd.R_drewN | apply Kd.R_drew)); exact HO223.out) hb)
         have n4_ := Aside0.mk (Kd.R_below (by (with_reducible repeat (first | apply Kd.R_alloc | apply Kd.R_drewN | apply Kd.R_drew)); exact HO226.out) hb)
         have n5_ := Aside0.mk (Kd.R_below (by (with_reducible repeat (first | apply Kd.R_alloc | apply Kd.R_drewN | apply Kd.R_drew)); exact HO235.out) hb)
         have n6_ := Aside0.mk (Kd.R_below (by (with_reducible repeat (first | apply Kd.R_alloc | apply Kd.R_drewN | apply Kd.R_drew)); exact HO238.out) hb)
         have n7_ := Aside0.mk (Kd.R_elder' (by (with_reducible repeat (first | apply Kd.R_alloc | apply Kd.R_drewN | apply Kd.R_drew)); exact HO241.out) (Kd.R_base ho0) hb)
         have n8_ := Aside0.mk (Kd.R_elder' (by (with_reducible repeat (first | apply Kd.R_alloc | apply Kd.R_drewN | apply Kd.R_drew)); exact HO244.out) (Kd.R_base ho0) hb)
         have n9_ := Aside0.mk (Kd.R_below (by (with_reducible repeat (first | apply Kd.R_alloc | apply Kd.R_drewN | apply Kd.R_drew)); exact HO248.out) hb)
         have n10_ := Aside0.mk (Kd.R_below (by (with_reducible repeat (first | apply Kd.R_alloc | apply Kd.R_drewN | apply Kd.R_drew)); exact HO251.out) hb)
         have n11_ := Aside0.mk (Kd.R_elder' (by (with_reducible repeat (first | apply Kd.R_alloc | apply Kd.R_drewN | apply Kd.R_drew)); exact HO254.out) (Kd.R_base ho0) hb)
         have n12_ := Aside0.mk (Kd.R_elder' (by (with_reducible repeat (first | apply Kd.R_alloc | apply Kd.R_drewN | apply Kd.R_drew)); exact HO257.out) (Kd.R_base ho0) hb)
         have n13_ := Aside0.mk (Kd.R_below (by (with_reducible repeat (first | apply Kd.R_alloc | apply Kd.R_drewN | apply Kd.R_drew)); exact HO261.out) hb)
         have n14_ := Aside0.mk (Kd.R_below (by (with_reducible repeat (first | apply Kd.R_alloc | apply Kd.R_drewN | apply Kd.R_drew)); exact HO264.out) hb)
         have n15_ := Aside0.mk (Kd.R_below (by (with_reducible repeat (first | apply Kd.R_alloc | apply Kd.R_drewN | apply Kd.R_drew)); exact HO267.out) hb)
         have n16_ := Aside0.mk (Kd.R_below (by (with_reducible repeat (first | apply Kd.R_alloc | apply Kd.R_drewN | apply Kd.R_drew)); exact HO270.out) hb)
         have n17_ := Aside0.mk (Kd.R_lower (Kd.R_new' (Kd.R_new' (Kd.R_new' (Kd.R_new' ho0 (Kd.R_lt (by (with_reducible repeat (first | apply Kd.R_alloc | apply Kd.R_drewN | apply Kd.R_drew)); exact HO241.out))) (Kd.R_lt (by (with_reducible repeat (first | apply Kd.R_alloc | apply Kd.R_drewN | apply Kd.R_drew)); exact HO244.out))) (Kd.R_lt (by (with_reducible repeat (first | apply Kd.R_alloc | apply Kd.R_drewN | apply Kd.R_drew)); exact HO254.out))) (Kd.R_lt (by (with_reducible repeat (first | apply Kd.R_alloc | apply Kd.R_drewN | apply Kd.R_drew)); exact HO257.out))) (below_size (by repeat (first | (with_reducible first | exact HB.out | apply below_alloc | apply pw_below_drewN | apply below_drew1 | refine below_set ?_ GE204.out) | exact HB.out))))
         have n18_ := Aside0.mk (blk_below (g := gb204) (o := .cells #[.int .u64 a1_0, .int .u64 a1_1] 34 (0, 0)) (by (with_reducible repeat (first | refine blk_drewN ?_ _ | refine blk_drew ?_ | refine blk_alloc ?_ _)); exact BK204.out) hb)
         have n19_ := Aside0.mk (below_step (by repeat (first | (with_reducible first | exact HB.out | apply below_alloc | apply pw_below_drewN | apply below_drew1 | refine below_set ?_ GE204.out) | exact HB.out)) hb)
         clear HO214
         clear HO217
         clear HO220
         clear HO223
         clear HO226
         clear HO235
         clear HO238
         clear HO241
         clear HO244
         clear HO248
         clear HO251
         clear HO254
         clear HO257
         clear HO261
         clear HO264
         clear HO267
         clear HO270
         clear BK204
         clear HB
         have HO214 := n0_
         have HO217 := n1_
         have HO220 := n2_
         have HO223 := n3_
         have HO226 := n4_
         have HO235 := n5_
         have HO238 := n6_
         have HO241 := n7_
         have HO244 := n8_
         have HO248 := n9_
         have HO251 := n10_
         have HO254 := n11_
         have HO257 := n12_
         have HO261 := n13_
         have HO264 := n14_
         have HO267 := n15_
         have HO270 := n16_
         have HO273 := n17_
         have BK204 := n18_
         have HB := n19_
         clear n0_ n1_ n2_ n3_ n4_ n5_ n6_ n7_ n8_ n9_ n10_ n11_ n12_ n13_ n14_ n15_ n16_ n17_ n18_ n19_
         (try clear hb)
         (try clear hb2)
         (try clear hk)
         (try clear hi)
         (try clear ho0)
         refine hK.out _ _ ⟨(blk_cell BK204.out 0).trans rfl, (blk_cell BK204.out 1).trans rfl⟩ (fun hHeld => ?_)
         clear hK K
         refine norm_ (a' := ?_) ?_ ?_
         rotate_left
         ·show Act.put _ (some 68) _ = _
          simp only [Act.put, List.setIfInBounds_toArray, List.set_cons_zero, List.set_cons_succ, i64_w, i32_w]
          rfl
         refine one_ (i := 32) (N := some 70) #[true,true,true,true,true,true,true,true,true,true,true,true,true,true,true,true,true,true,true,true,true,true,true,true,true,true,true,true,true,true,true,true,true,false,false,false] rfl rfl (one_of HT_.out (by kernel_rfl)) (by decide) (fun K hK => ?_)
         refine goes_ Try.func13 (by kernel_rfl) rfl #[.slice Ao60 t221.length co60] (by rfl) rfl rfl (by (try simp only [List.map_toArray, List.map_cons, List.map_nil]); first | done | rfl | (simp only [List.length_drop, List.length_take]; rfl)) ?_
         with_reducible refine (dominolaw03_its.calls kj2 _ _ t221 t274 _ ?side1 ?side2 A44.out).mono ?_
         (case side1 => repeat (first | exact (Kd.R_reads' HO223.out).2.2 | (with_reducible refine Kd.C_alloc ?_ _) | (with_reducible refine Kd.C_drewN ?_ _) | (with_reducible refine Kd.C_drew ?_)))
         (case side2 => exact (Kd.R_reads' HO223.out).2.1)
         rintro e w89 ⟨v275, rfl, ho0, hb⟩
         refine ⟨_, rfl, ?_⟩
         have n0_ := Aside0.mk (Kd.R_below (by (with_reducible repeat (first | apply Kd.R_alloc | apply Kd.R_drewN | apply Kd.R_drew)); exact HO214.out) hb)
         have n1_ := Aside0.mk (Kd.R_below (by (with_reducible repeat (first | apply Kd.R_alloc | apply Kd.R_drewN | apply Kd.R_drew)); exact HO217.out) hb)
         have n2_ := Aside0.mk (Kd.R_below (by (with_reducible repeat (first | apply Kd.R_alloc | apply Kd.R_drewN | apply Kd.R_drew)); exact HO220.out) hb)
         have n3_ := Aside0.mk (Kd.R_below (by (with_reducible repeat (first | apply Kd.R_alloc | apply Kd.R_drewN | apply Kd.R_drew)); exact HO223.out) hb)
         have n4_ := Aside0.mk (Kd.R_below (by (with_reducible repeat (first | apply Kd.R_alloc | apply Kd.R_drewN | apply Kd.R_drew)); exact HO226.out) hb)
         have n5_ := Aside0.mk (Kd.R_below (by (with_reducible repeat (first | apply Kd.R_alloc | apply Kd.R_drewN | apply Kd.R_drew)); exact HO235.out) hb)
         have n6_ := Aside0.mk (Kd.R_below (by (with_reducible repeat (first | apply Kd.R_alloc | apply Kd.R_drewN | apply Kd.R_drew)); exact HO238.out) hb)
         have n7_ := Aside0.mk (Kd.R_elder' (by (with_reducible repeat (first | apply Kd.R_alloc | apply Kd.R_drewN | apply Kd.R_drew)); exact HO241.out) (Kd.R_base ho0) hb)
         have n8_ := Aside0.mk (Kd.R_elder' (by (with_reducible repeat (first | apply Kd.R_alloc | apply Kd.R_drewN | apply Kd.R_drew)); exact HO244.out) (Kd.R_base ho0) hb)
         have n9_ := Aside0.mk (Kd.R_below (by (with_reducible repeat (first | apply Kd.R_alloc | apply Kd.R_drewN | apply Kd.R_drew)); exact HO248.out) hb)
         have n10_ := Aside0.mk (Kd.R_below (by (with_reducible repeat (first | apply Kd.R_alloc | apply Kd.R_drewN | apply Kd.R_drew)); exact HO251.out) hb)
         have n11_ := Aside0.mk (Kd.R_elder' (by (with_reducible repeat (first | apply Kd.R_alloc | apply Kd.R_drewN | apply Kd.R_drew)); exact HO254.out) (Kd.R_base ho0) hb)
         have n12_ := Aside0.mk (Kd.R_elder' (by (with_reducible repeat (first | apply Kd.R_alloc | apply Kd.R_drewN | apply Kd.R_drew)); exact HO257.out) (Kd.R_base ho0) hb)
         have n13_ := Aside0.mk (Kd.R_below (by (with_reducible repeat (first | apply Kd.R_alloc | apply Kd.R_drewN | apply Kd.R_drew)); exact HO261.out) hb)
         have n14_ := Aside0.mk (Kd.R_below (by (with_reducible repeat (first | apply Kd.R_alloc | apply Kd.R_drewN | apply Kd.R_drew)); exact HO264.out) hb)
         have n15_ := Aside0.mk (Kd.R_below (by (with_reducible repeat (first | apply Kd.R_alloc | apply Kd.R_drewN | apply Kd.R_drew)); exact HO267.out) hb)
         have n16_ := Aside0.mk (Kd.R_below (by (with_reducible repeat (first | apply Kd.R_alloc | apply Kd.R_drewN | apply Kd.R_drew)); exact HO270.out) hb)
         have n17_ := Aside0.mk (Kd.R_elder' (by (with_reducible repeat (first | apply Kd.R_alloc | apply Kd.R_drewN | apply Kd.R_drew)); exact HO273.out) (Kd.R_base ho0) hb)
         have n18_ := Aside0.mk (Kd.R_lower (Kd.R_new' (Kd.R_new' (Kd.R_new' (Kd.R_new' (Kd.R_new' ho0 (Kd.R_lt (by (with_reducible repeat (first | apply Kd.R_alloc | apply Kd.R_drewN | apply Kd.R_drew)); exact HO241.out))) (Kd.R_lt (by (with_reducible repeat (first | apply Kd.R_alloc | apply Kd.R_drewN | apply Kd.R_drew)); exact HO244.out))) (Kd.R_lt (by (with_reducible repeat (first | apply Kd.R_alloc | apply Kd.R_drewN | apply Kd.R_drew)); exact HO254.out))) (Kd.R_lt (by (with_reducible repeat (first | apply Kd.R_alloc | apply Kd.R_drewN | apply Kd.R_drew)); exact HO257.out))) (Kd.R_lt (by (with_reducible repeat (first | apply Kd.R_alloc | apply Kd.R_drewN | apply Kd.R_drew)); exact HO273.out))) (below_size (by repeat (first | (with_reducible first | exact HB.out | apply below_alloc | apply pw_below_drewN | apply below_drew1 | refine below_set ?_ GE204.out) | exact HB.out))))
         have n19_ := Aside0.mk (blk_below (g := gb204) (o := .cells #[.int .u64 a1_0, .int .u64 a1_1] 34 (0, 0)) (by (with_reducible repeat (first | refine blk_drewN ?_ _ | refine blk_drew ?_ | refine blk_alloc ?_ _)); exact BK204.out) hb)
         have n20_ := Aside0.mk (below_step (by repeat (first | (with_reducible first | exact HB.out | apply below_alloc | apply pw_below_drewN | apply below_drew1 | refine below_set ?_ GE204.out) | exact HB.out)) hb)
         clear HO214
         clear HO217
         clear HO220
         clear HO223
         clear HO226
         clear HO235
         clear HO238
         clear HO241
         clear HO244
         clear HO248
         clear HO251
         clear HO254
         clear HO257
         clear HO261
         clear HO264
         clear HO267
         clear HO270
         clear HO273
         clear BK204
         clear HB
         have HO214 := n0_
         have HO217 := n1_
         have HO220 := n2_
         have HO223 := n3_
         have HO226 := n4_
         have HO235 := n5_
         have HO238 := n6_
         have HO241 := n7_
         have HO244 := n8_
         have HO248 := n9_
         have HO251 := n10_
         have HO254 := n11_
         have HO257 := n12_
         have HO261 := n13_
         have HO264 := n14_
         have HO267 := n15_
         have HO270 := n16_
         have HO273 := n17_
         have HO276 := n18_
         have BK204 := n19_
         have HB := n20_
         clear n0_ n1_ n2_ n3_ n4_ n5_ n6_ n7_ n8_ n9_ n10_ n11_ n12_ n13_ n14_ n15_ n16_ n17_ n18_ n19_ n20_
         (try clear hb)
         (try clear hb2)
         (try clear hk)
         (try clear hi)
         (try clear ho0)
         obtain ⟨Ao90, co90, eo90⟩ := Kd.R_slice HO273.out
         (first | subst eo90 | (injection eo90 with f1_ f2_ f3_; have f4_ := f1_.symm; have f5_ := f3_.symm; clear f1_ f2_ f3_; subst f4_; subst f5_))
         obtain ⟨Ao91, co91, eo91⟩ := Kd.R_slice HO276.out
         (first | subst eo91 | (injection eo91 with f1_ f2_ f3_; have f4_ := f1_.symm; have f5_ := f3_.symm; clear f1_ f2_ f3_; subst f4_; subst f5_))
         refine hK.out _ _ ⟨(blk_cell BK204.out 0).trans rfl, (blk_cell BK204.out 1).trans rfl⟩ (fun hHeld => ?_)
         clear hK K
         refine norm_ (a' := ?_) ?_ ?_
         rotate_left
         ·show Act.put _ (some 70) _ = _
          simp only [Act.put, List.setIfInBounds_toArray, List.set_cons_zero, List.set_cons_succ, i64_w, i32_w]
          rfl
         refine one_ (i := 33) (N := some 71) #[true,true,true,true,true,true,true,true,true,true,true,true,true,true,true,true,true,true,true,true,true,true,true,true,true,true,true,true,true,true,true,true,true,true,false,false] rfl rfl (one_of HT_.out (by kernel_rfl)) (by decide) (fun K hK => ?_)
         refine goes_ Try.func16 (by kernel_rfl) rfl #[.slice Ao90 t271.length co90, .slice Ao91 t274.length co91] (by rfl) rfl rfl (by (try simp only [List.map_toArray, List.map_cons, List.map_nil]); first | done | rfl | (simp only [List.length_drop, List.length_take]; rfl)) ?_
         with_reducible refine (dominoref03_Same.calls kj2 _ _ t271 _ _ t274 t277 _ ?side1 ?side2 ?side3 ?side4 A45.out).mono ?_
         (case side1 => repeat (first | exact (Kd.R_reads' HO273.out).2.2 | (with_reducible refine Kd.C_alloc ?_ _) | (with_reducible refine Kd.C_drewN ?_ _) | (with_reducible refine Kd.C_drew ?_)))
         (case side2 => exact (Kd.R_reads' HO273.out).2.1)
         (case side3 => repeat (first | exact (Kd.R_reads' HO276.out).2.2 | (with_reducible refine Kd.C_alloc ?_ _) | (with_reducible refine Kd.C_drewN ?_ _) | (with_reducible refine Kd.C_drew ?_)))
         (case side4 => exact (Kd.R_reads' HO276.out).2.1)
         rintro e w' ⟨rfl, ⟨nd, rfl⟩⟩
         refine ⟨_, rfl, ?_⟩
         refine hK.out _ _ ⟨(blk_cell BK204.out 0).trans rfl, (blk_cell BK204.out 1).trans rfl⟩ (fun hHeld => ?_)
         clear hK K
         refine norm_ (a' := ?_) ?_ ?_
         rotate_left
         ·show Act.put _ (some 71) _ = _
          simp only [Act.put, List.setIfInBounds_toArray, List.set_cons_zero, List.set_cons_succ, i64_w, i32_w]
          rfl
         refine pure_ (i := 34) (N := some 72) (v := ?_) (a' := ?_) #[true,true,true,true,true,true,true,true,true,true,true,true,true,true,true,true,true,true,true,true,true,true,true,true,true,true,true,true,true,true,true,true,true,true,true,false] rfl rfl (any_of HT_.out (by kernel_rfl)) (fun _ _ _ h => h) (Or.inl ⟨by rfl, ?_⟩) ?_ ?_
         rotate_left;(intro w';go_simp;with_reducible rfl);rotate_left;(simp only [Act.put, List.setIfInBounds_toArray, List.set_cons_zero, List.set_cons_succ, i64_w, i32_w];rfl)
         refine pure_ (i := 35) (N := some 4) (v := ?_) (a' := ?_) #[true,true,true,true,true,true,true,true,true,true,true,true,true,true,true,true,true,true,true,true,true,true,true,true,true,true,true,true,true,true,true,true,true,true,true,true] rfl rfl (any_of HT_.out (by kernel_rfl)) (fun _ _ _ h => h) (Or.inl ⟨by rfl, ?_⟩) ?_ ?_
         rotate_left;(intro w';go_simp;with_reducible rfl);rotate_left;(simp only [Act.put, List.setIfInBounds_toArray, List.set_cons_zero, List.set_cons_succ, i64_w, i32_w];rfl)
         refine done_ (done_of HT_.out (by kernel_rfl)) ?_
         try go_wp2
         go_ret
         exact ⟨by first | rfl | (simp [errW_none, errW_some] <;> rfl) | (simp [*, errW_none, errW_some] <;> rfl), by repeat (first | (with_reducible first | exact HB.out | apply below_alloc | apply pw_below_drewN | apply below_drew1 | refine below_set ?_ GE204.out) | exact HB.out)⟩
        ·rw [if_neg c40] at H
         have c40b0 : ((t259.length : Int) == 0) = false := beq_eq_false_iff_ne.mpr c40
         have c40b1 : ((t259.length : Int) != 0) = true := bne_iff_ne.mpr c40
         have c40b2 : ¬ (t259 = []) := fun h_ => c40 (by rw [h_]; rfl)
         exact absurd H (by simp)
       ·replace c38 := Bool.eq_false_iff.mpr c38
        subst c38
        have H1 : (none) = some r := by rw [if_neg (show ¬ (false = true) by decide)] at H; exact H
        clear H
        have H := H1
        clear H1
        exact absurd H (by simp)
      ·replace c32 := Bool.eq_false_iff.mpr c32
       subst c32
       have H1 : (none) = some r := by rw [if_neg (show ¬ (false = true) by decide)] at H; exact H
       clear H
       have H := H1
       clear H1
       exact absurd H (by simp)
     ·rw [if_neg c27] at H
      exact absurd H (by simp)
    ·rw [if_neg c26] at H
     exact absurd H (by simp)

/-- THE ONE PURE STATEMENT of dominolaw03_RangesParts: yours. -/
def dominolaw03_RangesParts.Pure : Prop := ∀ (l0 : List (S34)) (a1_0 : Int) (a1_1 : Int), l0.length ≤ maxLen → l0.length * 16 ≤ 140737488351232 → (∀ x ∈ l0, ((Lit.int .u64 x.f0).wf = true ∧ (Lit.int .u64 x.f1).wf = true)) → (Lit.int .u64 a1_0).wf = true → (Lit.int .u64 a1_1).wf = true → ∃ k, dominolaw03_RangesParts.f k l0 a1_0 a1_1 = some true
theorem dominolaw03_RangesParts.walk (P : dominolaw03_RangesParts.Pure) (a0 : Option Addr) (cap0 : Nat) (l0 : List (S34)) (a1_0 : Int) (a1_1 : Int) (w : World) (hr0 : Kd.C k34 w a0 l0.length l0) (hc0 : l0.length ≤ cap0) (w0_0 : l0.length ≤ maxLen) (w0_1 : l0.length * 16 ≤ 140737488351232) (w0_2 : (∀ x ∈ l0, ((Lit.int .u64 x.f0).wf = true ∧ (Lit.int .u64 x.f1).wf = true))) (w1_0 : (Lit.int .u64 a1_0).wf = true) (w1_1 : (Lit.int .u64 a1_1).wf = true) :
  Calls Try.prog 6 #[.slice a0 l0.length cap0, .agg #[.int .u64 a1_0, .int .u64 a1_1]] w fun e w' => e = .returned (.bool true) ∧ Below w.heap.size w w' := by
 obtain ⟨k, h⟩ := P l0 a1_0 a1_1 w0_0 w0_1 w0_2 w1_0 w1_1
 refine (dominolaw03_RangesParts.calls k a0 cap0 l0 a1_0 a1_1 true w hr0 hc0 h).mono ?_
 rintro e w' ⟨rfl, hd⟩
 exact ⟨rfl, hd⟩

end Go.Proofs.Ytpjohlcidmnikaa.PRgx
