-- printed for this claim by a program of the claim (wip/tools/pp.py over the kit's print)
import Derived.Test.YtpjohlcidmnikaaPRgxx0
import Derived.Test.YtpjohlcidmnikaaPRgxx3
import Derived.Test.YtpjohlcidmnikaaPRgxx4
import Derived.Test.YtpjohlcidmnikaaPRgxx5
namespace Go.Proofs.Ytpjohlcidmnikaa.PRgx
open Go.RowKit Go.Proofs.YtpjohlcidmnikaaW.PrintWords Go.Proofs.YtpjohlcidmnikaaW.PrintLast Go.Proofs.YtpjohlcidmnikaaW.PrintMore
attribute [local go_sem] max2_int min2_int max_two min_two max_three min_three max_four min_four   -- for this text's walks alone
set_option linter.unusedVariables false
set_option linter.unusedSimpArgs false

attribute [local go_sem] isSome_setCell_
/-! ### dominolaw03_RangesAgain: function 5 -/
mutual
def dominolaw03_RangesAgain.j0 : Nat → List (S34) → Bool → Int → Int → Option (Bool)
 | 0, _, _, _, _ => none
 | k + 1, x0, x20, x151000, x151001 => if x20 = true then ((dominolaw03_shown.f k).bind fun t157 => (some t157)) else ((ranges_Of.f k x0).bind fun t158 => ((ranges_Add.f k t158 x151000 x151001).bind fun t161 => ((ranges_Cut.f k t158 x151000 x151001).bind fun t164 => (if x151000 ≤ x151001 then ((ranges_Has.f t161 x151000).bind fun t167 => (if t167 = true then ((ranges_Has.f t161 x151001).bind fun t168 => (if t168 = true then ((ranges_Has.f t164 x151000).bind fun t169 => (if t169 = true then (dominolaw03_RangesAgain.j1 k t161 t164 true x151000 x151001) else ((ranges_Has.f t164 x151001).bind fun t170 => (dominolaw03_RangesAgain.j1 k t161 t164 t170 x151000 x151001)))) else (dominolaw03_RangesAgain.j1 k t161 t164 true x151000 x151001))) else (dominolaw03_RangesAgain.j1 k t161 t164 true x151000 x151001))) else (dominolaw03_RangesAgain.j1 k t161 t164 false x151000 x151001)))))
def dominolaw03_RangesAgain.j1 : Nat → List (S34) → List (S34) → Bool → Int → Int → Option (Bool)
 | 0, _, _, _, _, _ => none
 | k + 1, x6, x7, x60, x151000, x151001 => if x60 = true then (none) else ((ranges_Add.f k x6 x151000 x151001).bind fun t171 => ((dominolaw03_its.f k t171).bind fun t174 => ((dominolaw03_its.f k x6).bind fun t177 => ((dominoref03_Same.f k t174 t177).bind fun t180 => (if t180 = true then ((ranges_Cut.f k x7 x151000 x151001).bind fun t181 => ((dominolaw03_its.f k t181).bind fun t184 => ((dominolaw03_its.f k x7).bind fun t187 => ((dominoref03_Same.f k t184 t187).bind fun t190 => (if t190 = true then ((ranges_Cut.f k x6 x151000 x151001).bind fun t191 => ((dominolaw03_its.f k t191).bind fun t194 => ((dominolaw03_its.f k x7).bind fun t197 => ((dominoref03_Same.f k t194 t197).bind fun t200 => (if t200 = true then ((ranges_Gaps.f k x6 x151000 x151001).bind fun t201 => (some ((t201.length : Int) == 0))) else (none)))))) else (none)))))) else (none))))))
end
def dominolaw03_RangesAgain.f (k : Nat) (l0 : List (S34)) (a1_0 : Int) (a1_1 : Int) : Option (Bool) := (dominolaw03_low.f k l0).bind fun t151 => (if t151 = true then ((dominolaw03_low.f k (([(⟨a1_0, a1_1⟩ : S34)] : List (S34)))).bind fun t155 => (if t155 = true then ((dominolaw03_shown.f k).bind fun t156 => (dominolaw03_RangesAgain.j0 k l0 (!t156) a1_0 a1_1)) else (dominolaw03_RangesAgain.j0 k l0 true a1_0 a1_1))) else (dominolaw03_RangesAgain.j0 k l0 true a1_0 a1_1))
theorem dominolaw03_RangesAgain.mono_l : ∀ k, (∀ y0 y1 y2 y3, LeO (dominolaw03_RangesAgain.j0 k y0 y1 y2 y3) (dominolaw03_RangesAgain.j0 (k + 1) y0 y1 y2 y3)) ∧ (∀ y0 y1 y2 y3 y4, LeO (dominolaw03_RangesAgain.j1 k y0 y1 y2 y3 y4) (dominolaw03_RangesAgain.j1 (k + 1) y0 y1 y2 y3 y4))
 | 0 => ⟨fun _ _ _ _ r h => by simp [dominolaw03_RangesAgain.j0] at h, fun _ _ _ _ _ r h => by simp [dominolaw03_RangesAgain.j1] at h⟩
 | k + 1 => by
  obtain ⟨ih0, ih1⟩ := dominolaw03_RangesAgain.mono_l k
  refine ⟨?_, ?_⟩
  ·intro y0 y1 y2 y3
   unfold dominolaw03_RangesAgain.j0
   repeat' first
   | (with_reducible exact ih0 _ _ _ _)
   | (with_reducible exact ih1 _ _ _ _ _)
   | (with_reducible exact dominolaw03_its.mono _ _)
   | (with_reducible exact dominolaw03_low.mono _ _)
   | (with_reducible exact dominolaw03_shown.mono _)
   | (with_reducible exact dominoref03_Same.mono _ _ _)
   | (with_reducible exact ranges_Add.mono _ _ _ _)
   | (with_reducible exact ranges_Cut.mono _ _ _ _)
   | (with_reducible exact ranges_Gaps.mono _ _ _ _)
   | (with_reducible exact ranges_Of.mono _ _)
   | (with_reducible exact LeO.refl _)
   | (with_reducible exact LeO.none _)
   | (with_reducible refine LeO.ite ?_ ?_)
   | (with_reducible refine LeO.bind ?_ (fun _ => ?_))
   | exact ih0 _ _ _ _
   | exact ih1 _ _ _ _ _
   | exact dominolaw03_its.mono _ _
   | exact dominolaw03_low.mono _ _
   | exact dominolaw03_shown.mono _
   | exact dominoref03_Same.mono _ _ _
   | exact ranges_Add.mono _ _ _ _
   | exact ranges_Cut.mono _ _ _ _
   | exact ranges_Gaps.mono _ _ _ _
   | exact ranges_Of.mono _ _
   | exact LeO.none _
   | refine LeO.ite ?_ ?_
   | refine LeO.bind ?_ (fun _ => ?_)
  ·intro y0 y1 y2 y3 y4
   unfold dominolaw03_RangesAgain.j1
   repeat' first
   | (with_reducible exact ih0 _ _ _ _)
   | (with_reducible exact ih1 _ _ _ _ _)
   | (with_reducible exact dominolaw03_its.mono _ _)
   | (with_reducible exact dominolaw03_low.mono _ _)
   | (with_reducible exact dominolaw03_shown.mono _)
   | (with_reducible exact dominoref03_Same.mono _ _ _)
   | (with_reducible exact ranges_Add.mono _ _ _ _)
   | (with_reducible exact ranges_Cut.mono _ _ _ _)
   | (with_reducible exact ranges_Gaps.mono _ _ _ _)
   | (with_reducible exact ranges_Of.mono _ _)
   | (with_reducible exact LeO.refl _)
   | (with_reducible exact LeO.none _)
   | (with_reducible refine LeO.ite ?_ ?_)
   | (with_reducible refine LeO.bind ?_ (fun _ => ?_))
   | exact ih0 _ _ _ _
   | exact ih1 _ _ _ _ _
   | exact dominolaw03_its.mono _ _
   | exact dominolaw03_low.mono _ _
   | exact dominolaw03_shown.mono _
   | exact dominoref03_Same.mono _ _ _
   | exact ranges_Add.mono _ _ _ _
   | exact ranges_Cut.mono _ _ _ _
   | exact ranges_Gaps.mono _ _ _ _
   | exact ranges_Of.mono _ _
   | exact LeO.none _
   | refine LeO.ite ?_ ?_
   | refine LeO.bind ?_ (fun _ => ?_)
theorem dominolaw03_RangesAgain.mono : ∀ a0 a1 a2 k, LeO (dominolaw03_RangesAgain.f k a0 a1 a2) (dominolaw03_RangesAgain.f (k + 1) a0 a1 a2) := by
 intro a0 a1 a2 k
 obtain ⟨ih0, ih1⟩ := dominolaw03_RangesAgain.mono_l k
 unfold dominolaw03_RangesAgain.f
 repeat' first
   | (with_reducible exact ih0 _ _ _ _)
   | (with_reducible exact ih1 _ _ _ _ _)
   | (with_reducible exact dominolaw03_its.mono _ _)
   | (with_reducible exact dominolaw03_low.mono _ _)
   | (with_reducible exact dominolaw03_shown.mono _)
   | (with_reducible exact dominoref03_Same.mono _ _ _)
   | (with_reducible exact ranges_Add.mono _ _ _ _)
   | (with_reducible exact ranges_Cut.mono _ _ _ _)
   | (with_reducible exact ranges_Gaps.mono _ _ _ _)
   | (with_reducible exact ranges_Of.mono _ _)
   | (with_reducible exact LeO.refl _)
   | (with_reducible exact LeO.none _)
   | (with_reducible refine LeO.ite ?_ ?_)
   | (with_reducible refine LeO.bind ?_ (fun _ => ?_))
   | exact ih0 _ _ _ _
   | exact ih1 _ _ _ _ _
   | exact dominolaw03_its.mono _ _
   | exact dominolaw03_low.mono _ _
   | exact dominolaw03_shown.mono _
   | exact dominoref03_Same.mono _ _ _
   | exact ranges_Add.mono _ _ _ _
   | exact ranges_Cut.mono _ _ _ _
   | exact ranges_Gaps.mono _ _ _ _
   | exact ranges_Of.mono _ _
   | exact LeO.none _
   | refine LeO.ite ?_ ?_
   | refine LeO.bind ?_ (fun _ => ?_)
set_option maxHeartbeats 8000000 in
set_option maxRecDepth 100000 in
theorem dominolaw03_RangesAgain.calls (k : Nat) (A0 : Option Addr) (c0 : Nat) (l0 : List (S34)) (a1_0 : Int) (a1_1 : Int) (r : Bool) (w : World) (hr0 : Kd.C k34 w A0 l0.length l0) (hc0 : l0.length ≤ c0) (h : dominolaw03_RangesAgain.f k l0 a1_0 a1_1 = some r) :
  Calls Try.prog 5 #[.slice A0 l0.length c0, .agg #[.int .u64 a1_0, .int .u64 a1_1]] w fun e w' => e = .returned (.bool r) ∧ Below w.heap.size w w' := by
 have hu34 := Try.underlying34
 have HR0 := Aside0.mk hr0
 have HC0 := Aside0.mk hc0
 clear hr0 hc0
 have HB := Aside0.mk (Below.refl w.heap.size w)
 have H : ((dominolaw03_low.f k l0).bind fun t151 => (if t151 = true then ((dominolaw03_low.f k (([(⟨a1_0, a1_1⟩ : S34)] : List (S34)))).bind fun t155 => (if t155 = true then ((dominolaw03_shown.f k).bind fun t156 => (dominolaw03_RangesAgain.j0 k l0 (!t156) a1_0 a1_1)) else (dominolaw03_RangesAgain.j0 k l0 true a1_0 a1_1))) else (dominolaw03_RangesAgain.j0 k l0 true a1_0 a1_1))) = some r := h
 clear h
 have HC3 := Aside0.mk H
 clear H
 go_enter Try.func5, Try.ntmps5
 go_upto_region 1 with (first | ((with_reducible refine gate_dst (N := 3) rfl ?_); (try (refine gate_guard (by rfl) ?_; dsimp only)); refine box_event ?hg (N := 3) ?hd (cs := #[.int .u64 a1_0, .int .u64 a1_1]) (t := 34) ?hr ?_; (case hd => rfl); (case hg => rfl); (case hr => first | (go_simp; done) | (go_simp; rfl)); intro gb150 hg w4 hbox hb; have n0_ := Aside0.mk (below_step (by repeat (first | (with_reducible first | exact HB.out | apply below_alloc | apply pw_below_drewN | apply below_drew1) | exact HB.out)) hb); have n1_ := Aside0.mk (hbox); have n2_ := Aside0.mk ((by rw [hg]; exact (below_size (by repeat (first | (with_reducible first | exact HB.out | apply below_alloc | apply pw_below_drewN | apply below_drew1) | exact HB.out))) : w.heap.size ≤ gb150)); have n3_ := Aside0.mk ((by rw [hg]; exact (below_size (by repeat (first | (with_reducible first | exact HB.out | apply below_alloc | apply pw_below_drewN | apply below_drew1) | exact HB.out))) : w.heap.size ≤ gb150)); clear HB; have HB := n0_; have BK150 := n1_; have GW150 := n2_; have GE150 := n3_; clear n0_ n1_ n2_ n3_; clear hb hbox hg))
 (try simp only [Act.put, List.setIfInBounds_toArray, List.set_cons_zero, List.set_cons_succ])
 go_cut [20] (fun v20 wc => ∃ (kq : Nat) (x20_2 : Bool), v20 = .bool x20_2 ∧ Aside0 (dominolaw03_RangesAgain.j0 kq l0 x20_2 a1_0 a1_1 = some r) ∧ Aside0 (kq ≤ k) ∧ Aside0 (wc.heap[gb150]? = some (.cells #[.int .u64 a1_0, .int .u64 a1_1] 34 (0, 0))) ∧ Aside0 (Below w.heap.size w wc))
 case first =>
  have H := HC3.out
  clear HC3
  replace H := Option.bind_eq_some_iff.mp H
  obtain ⟨t151, A50, H⟩ := H
  replace H : (if t151 = true then ((dominolaw03_low.f k (([(⟨a1_0, a1_1⟩ : S34)] : List (S34)))).bind fun t155 => (if t155 = true then ((dominolaw03_shown.f k).bind fun t156 => (dominolaw03_RangesAgain.j0 k l0 (!t156) a1_0 a1_1)) else (dominolaw03_RangesAgain.j0 k l0 true a1_0 a1_1))) else (dominolaw03_RangesAgain.j0 k l0 true a1_0 a1_1)) = some r := H
  have A5 := Aside0.mk A50
  clear A50
  by_cases c6 : t151 = true
  ·subst c6
   have H1 : ((dominolaw03_low.f k (([(⟨a1_0, a1_1⟩ : S34)] : List (S34)))).bind fun t155 => (if t155 = true then ((dominolaw03_shown.f k).bind fun t156 => (dominolaw03_RangesAgain.j0 k l0 (!t156) a1_0 a1_1)) else (dominolaw03_RangesAgain.j0 k l0 true a1_0 a1_1))) = some r := by rw [if_pos rfl] at H; exact H
   clear H
   have H := H1
   clear H1
   obtain ⟨y152, hy152⟩ : ∃ y_ : List (S34), y_ = (([(⟨a1_0, a1_1⟩ : S34)] : List (S34))) := ⟨_, rfl⟩
   replace H : ((dominolaw03_low.f k y152).bind fun t155 => (if t155 = true then ((dominolaw03_shown.f k).bind fun t156 => (dominolaw03_RangesAgain.j0 k l0 (!t156) a1_0 a1_1)) else (dominolaw03_RangesAgain.j0 k l0 true a1_0 a1_1))) = some r := by first | (rw [hy152]; with_reducible exact H) | (have H2_ := (Option.bind_some _ _).symm.trans H; rw [hy152]; with_reducible exact H2_) | (have H2_ := (Option.bind_some _ _).symm.trans H; with_reducible exact H2_) | with_reducible exact H | (rw [hy152]; exact H) | exact H
   have Ny152 := Aside0.mk hy152
   clear hy152
   replace H := Option.bind_eq_some_iff.mp H
   obtain ⟨t155, A70, H⟩ := H
   replace H : (if t155 = true then ((dominolaw03_shown.f k).bind fun t156 => (dominolaw03_RangesAgain.j0 k l0 (!t156) a1_0 a1_1)) else (dominolaw03_RangesAgain.j0 k l0 true a1_0 a1_1)) = some r := H
   have A7 := Aside0.mk A70
   clear A70
   by_cases c8 : t155 = true
   ·subst c8
    have H1 : ((dominolaw03_shown.f k).bind fun t156 => (dominolaw03_RangesAgain.j0 k l0 (!t156) a1_0 a1_1)) = some r := by rw [if_pos rfl] at H; exact H
    clear H
    have H := H1
    clear H1
    replace H := Option.bind_eq_some_iff.mp H
    obtain ⟨t156, A90, H⟩ := H
    replace H : (dominolaw03_RangesAgain.j0 k l0 (!t156) a1_0 a1_1) = some r := H
    have A9 := Aside0.mk A90
    clear A90
    have H' := Aside0.mk H
    clear H
    go_wp2_with (first | ((with_reducible refine gate_callee (f := 14) rfl ?_); refine goesL_ (some 9) rfl rfl Try.func14 (by kernel_rfl) rfl #[.slice A0 l0.length c0] rfl (by (try simp only [List.map_toArray, List.map_cons, List.map_nil]); first | done | rfl | (simp only [List.length_drop, List.length_take]; rfl)) ?_; (with_reducible refine (dominolaw03_low.calls k _ _ l0 true _ ?side1 ?side2 A5.out).mono ?_); (case side1 => repeat (first | exact (Kd.C_below HR0.out HB.out) | (with_reducible refine Kd.C_alloc ?_ _) | (with_reducible refine Kd.C_drewN ?_ _) | (with_reducible refine Kd.C_drew ?_))); (case side2 => exact HC0.out); rintro e w' ⟨rfl, ⟨nd, rfl⟩⟩; refine ⟨_, rfl, ?_⟩; have hcz10_0 : w4.cell? ⟨gb150, 0, none⟩ = some (.int .u64 a1_0) := (blk_cell BK150.out 0).trans rfl; have hcz10_1 : w4.cell? ⟨gb150, 1, none⟩ = some (.int .u64 a1_1) := (blk_cell BK150.out 1).trans rfl; have hfz10_0 := blk_frozen BK150.out 0; have hfz10_1 := blk_frozen BK150.out 1) | ((with_reducible refine gate_dst (N := 13) rfl ?_); (try (refine gate_guard (by rfl) ?_; dsimp only)); refine Kd.R_lit k34 _ 34 ?hg (N := 13) ?hd (xs := ([(⟨a1_0, a1_1⟩ : S34)] : List (S34))) (inner := [.int .u64 a1_0, .int .u64 a1_1]) (ok := fun _ => True) (okp := fun _ => True) ?hr ?hp (fun _ hk => hk) trivial (Below.refl _ _) (Nat.le_refl _) (by simp) ?_; (case hd => rfl); (case hg => rfl); (case hr => first | (go_simp; done) | (go_simp; rfl)); (case hp => exact (Reps.c2 (show Kd.M k34 _ _ _ (⟨a1_0, a1_1⟩ : S34) [.int .u64 a1_0, .int .u64 a1_1] from (k34_mkM _ _ _ (⟨a1_0, a1_1⟩ : S34) )) (Reps.none _ _))); intro v153 w11 ho12 hb hg_ hnew_; clear hg_ hnew_; (first | rw [← Ny152.out] at ho12 | (simp only [Int.reduceToNat] at ho12; rw [← Ny152.out] at ho12)); have n0_ := Aside0.mk (Kd.R_lower (Kd.R_newB ho12 (g := gb150) (o := .cells #[.int .u64 a1_0, .int .u64 a1_1] 34 (0, 0)) (by (with_reducible repeat (first | refine blk_drewN ?_ _ | refine blk_drew ?_ | refine blk_alloc ?_ _)); exact BK150.out)) (below_size (by repeat (first | (with_reducible first | exact HB.out | apply below_alloc | apply pw_below_drewN | apply below_drew1 | refine below_set ?_ GE150.out) | exact HB.out)))); have n1_ := Aside0.mk (blk_below (g := gb150) (o := .cells #[.int .u64 a1_0, .int .u64 a1_1] 34 (0, 0)) (by (with_reducible repeat (first | refine blk_drewN ?_ _ | refine blk_drew ?_ | refine blk_alloc ?_ _)); exact BK150.out) hb); have n2_ := Aside0.mk (below_step (by repeat (first | (with_reducible first | exact HB.out | apply below_alloc | apply pw_below_drewN | apply below_drew1 | refine below_set ?_ GE150.out) | exact HB.out)) hb); clear BK150; clear HB; have HO154 := n0_; have BK150 := n1_; have HB := n2_; clear n0_ n1_ n2_; clear hb ho12; obtain ⟨Ao13, co13, eo13⟩ := Kd.R_slice HO154.out; subst eo13) | (go_at_call 14; (with_reducible refine (dominolaw03_low.calls k _ _ y152 true _ ?side1 ?side2 A7.out).mono ?_); (case side1 => repeat (first | exact (Kd.R_reads' HO154.out).2.2 | (with_reducible refine Kd.C_alloc ?_ _) | (with_reducible refine Kd.C_drewN ?_ _) | (with_reducible refine Kd.C_drew ?_))); (case side2 => exact (Kd.R_reads' HO154.out).2.1); rintro e w' ⟨rfl, ⟨nd, rfl⟩⟩) | (go_at_call 10; (with_reducible refine (dominolaw03_shown.calls k  t156 _ A9.out).mono ?_); rintro e w14 ⟨rfl, hb⟩; have n0_ := Aside0.mk (Kd.R_below (by (with_reducible repeat (first | apply Kd.R_alloc | apply Kd.R_drewN | apply Kd.R_drew)); exact HO154.out) hb); have n1_ := Aside0.mk (blk_below (g := gb150) (o := .cells #[.int .u64 a1_0, .int .u64 a1_1] 34 (0, 0)) (by (with_reducible repeat (first | refine blk_drewN ?_ _ | refine blk_drew ?_ | refine blk_alloc ?_ _)); exact BK150.out) hb); have n2_ := Aside0.mk (below_step (by repeat (first | (with_reducible first | exact HB.out | apply below_alloc | apply pw_below_drewN | apply below_drew1 | refine below_set ?_ GE150.out) | exact HB.out)) hb); clear HO154; clear BK150; clear HB; have HO154 := n0_; have BK150 := n1_; have HB := n2_; clear n0_ n1_ n2_; (try clear hb); (try clear hb2); (try clear hk); (try clear hi)))
    go_meet
    case rel => exact ⟨_, (!t156), (by first | rfl | (simp; done) | (simp [*]; done)), H', ⟨by first | omega | exact Nat.le_refl _⟩, ⟨by (with_reducible repeat (first | refine blk_drewN ?_ _ | refine blk_drew ?_ | refine blk_alloc ?_ _)); exact BK150.out⟩, ⟨by repeat (first | (with_reducible first | exact HB.out | apply below_alloc | apply pw_below_drewN | apply below_drew1 | refine below_set ?_ GE150.out) | exact HB.out)⟩⟩
   ·replace c8 := Bool.eq_false_iff.mpr c8
    subst c8
    have H1 : (dominolaw03_RangesAgain.j0 k l0 true a1_0 a1_1) = some r := by rw [if_neg (show ¬ (false = true) by decide)] at H; exact H
    clear H
    have H := H1
    clear H1
    have H' := Aside0.mk H
    clear H
    go_wp2_with (first | ((with_reducible refine gate_callee (f := 14) rfl ?_); refine goesL_ (some 9) rfl rfl Try.func14 (by kernel_rfl) rfl #[.slice A0 l0.length c0] rfl (by (try simp only [List.map_toArray, List.map_cons, List.map_nil]); first | done | rfl | (simp only [List.length_drop, List.length_take]; rfl)) ?_; (with_reducible refine (dominolaw03_low.calls k _ _ l0 true _ ?side1 ?side2 A5.out).mono ?_); (case side1 => repeat (first | exact (Kd.C_below HR0.out HB.out) | (with_reducible refine Kd.C_alloc ?_ _) | (with_reducible refine Kd.C_drewN ?_ _) | (with_reducible refine Kd.C_drew ?_))); (case side2 => exact HC0.out); rintro e w' ⟨rfl, ⟨nd, rfl⟩⟩; refine ⟨_, rfl, ?_⟩; have hcz15_0 : w4.cell? ⟨gb150, 0, none⟩ = some (.int .u64 a1_0) := (blk_cell BK150.out 0).trans rfl; have hcz15_1 : w4.cell? ⟨gb150, 1, none⟩ = some (.int .u64 a1_1) := (blk_cell BK150.out 1).trans rfl; have hfz15_0 := blk_frozen BK150.out 0; have hfz15_1 := blk_frozen BK150.out 1) | ((with_reducible refine gate_dst (N := 13) rfl ?_); (try (refine gate_guard (by rfl) ?_; dsimp only)); refine Kd.R_lit k34 _ 34 ?hg (N := 13) ?hd (xs := ([(⟨a1_0, a1_1⟩ : S34)] : List (S34))) (inner := [.int .u64 a1_0, .int .u64 a1_1]) (ok := fun _ => True) (okp := fun _ => True) ?hr ?hp (fun _ hk => hk) trivial (Below.refl _ _) (Nat.le_refl _) (by simp) ?_; (case hd => rfl); (case hg => rfl); (case hr => first | (go_simp; done) | (go_simp; rfl)); (case hp => exact (Reps.c2 (show Kd.M k34 _ _ _ (⟨a1_0, a1_1⟩ : S34) [.int .u64 a1_0, .int .u64 a1_1] from (k34_mkM _ _ _ (⟨a1_0, a1_1⟩ : S34) )) (Reps.none _ _))); intro v153 w16 ho17 hb hg_ hnew_; clear hg_ hnew_; (first | rw [← Ny152.out] at ho17 | (simp only [Int.reduceToNat] at ho17; rw [← Ny152.out] at ho17)); have n0_ := Aside0.mk (Kd.R_lower (Kd.R_newB ho17 (g := gb150) (o := .cells #[.int .u64 a1_0, .int .u64 a1_1] 34 (0, 0)) (by (with_reducible repeat (first | refine blk_drewN ?_ _ | refine blk_drew ?_ | refine blk_alloc ?_ _)); exact BK150.out)) (below_size (by repeat (first | (with_reducible first | exact HB.out | apply below_alloc | apply pw_below_drewN | apply below_drew1 | refine below_set ?_ GE150.out) | exact HB.out)))); have n1_ := Aside0.mk (blk_below (g := gb150) (o := .cells #[.int .u64 a1_0, .int .u64 a1_1] 34 (0, 0)) (by (with_reducible repeat (first | refine blk_drewN ?_ _ | refine blk_drew ?_ | refine blk_alloc ?_ _)); exact BK150.out) hb); have n2_ := Aside0.mk (below_step (by repeat (first | (with_reducible first | exact HB.out | apply below_alloc | apply pw_below_drewN | apply below_drew1 | refine below_set ?_ GE150.out) | exact HB.out)) hb); clear BK150; clear HB; have HO154 := n0_; have BK150 := n1_; have HB := n2_; clear n0_ n1_ n2_; clear hb ho17; obtain ⟨Ao18, co18, eo18⟩ := Kd.R_slice HO154.out; subst eo18) | (go_at_call 14; (with_reducible refine (dominolaw03_low.calls k _ _ y152 false _ ?side1 ?side2 A7.out).mono ?_); (case side1 => repeat (first | exact (Kd.R_reads' HO154.out).2.2 | (with_reducible refine Kd.C_alloc ?_ _) | (with_reducible refine Kd.C_drewN ?_ _) | (with_reducible refine Kd.C_drew ?_))); (case side2 => exact (Kd.R_reads' HO154.out).2.1); rintro e w' ⟨rfl, ⟨nd, rfl⟩⟩))
    go_meet
    case rel => exact ⟨_, (true), (by first | rfl | (simp; done) | (simp [*]; done)), H', ⟨by first | omega | exact Nat.le_refl _⟩, ⟨by (with_reducible repeat (first | refine blk_drewN ?_ _ | refine blk_drew ?_ | refine blk_alloc ?_ _)); exact BK150.out⟩, ⟨by repeat (first | (with_reducible first | exact HB.out | apply below_alloc | apply pw_below_drewN | apply below_drew1 | refine below_set ?_ GE150.out) | exact HB.out)⟩⟩
  ·replace c6 := Bool.eq_false_iff.mpr c6
   subst c6
   have H1 : (dominolaw03_RangesAgain.j0 k l0 true a1_0 a1_1) = some r := by rw [if_neg (show ¬ (false = true) by decide)] at H; exact H
   clear H
   have H := H1
   clear H1
   have H' := Aside0.mk H
   clear H
   go_wp2_with (first | ((with_reducible refine gate_callee (f := 14) rfl ?_); refine goesL_ (some 9) rfl rfl Try.func14 (by kernel_rfl) rfl #[.slice A0 l0.length c0] rfl (by (try simp only [List.map_toArray, List.map_cons, List.map_nil]); first | done | rfl | (simp only [List.length_drop, List.length_take]; rfl)) ?_; (with_reducible refine (dominolaw03_low.calls k _ _ l0 false _ ?side1 ?side2 A5.out).mono ?_); (case side1 => repeat (first | exact (Kd.C_below HR0.out HB.out) | (with_reducible refine Kd.C_alloc ?_ _) | (with_reducible refine Kd.C_drewN ?_ _) | (with_reducible refine Kd.C_drew ?_))); (case side2 => exact HC0.out); rintro e w' ⟨rfl, ⟨nd, rfl⟩⟩; refine ⟨_, rfl, ?_⟩))
   go_meet
   case rel => exact ⟨_, (true), (by first | rfl | (simp; done) | (simp [*]; done)), H', ⟨by first | omega | exact Nat.le_refl _⟩, ⟨by (with_reducible repeat (first | refine blk_drewN ?_ _ | refine blk_drew ?_ | refine blk_alloc ?_ _)); exact BK150.out⟩, ⟨by repeat (first | (with_reducible first | exact HB.out | apply below_alloc | apply pw_below_drewN | apply below_drew1 | refine below_set ?_ GE150.out) | exact HB.out)⟩⟩
 case rest =>
  clear HC3
  try clear c1
  try clear c2
  try clear p2
  try clear c5
  try clear c6
  try clear c8
  try clear c14
  try clear hcz10_0
  try clear hcz10_1
  try clear hcz15_0
  try clear hcz15_1
  try clear hfz10_0
  try clear hfz10_1
  try clear hfz15_0
  try clear hfz15_1
  obtain ⟨kq, x20_2, rfl, HA, HJ2, BK150, HB⟩ := hcut
  cases kq with
  | zero => exact absurd HA.out (by simp [dominolaw03_RangesAgain.j0])
  | succ kj2 =>
   have H := HA.out
   clear HA
   simp only [dominolaw03_RangesAgain.j0] at H
   by_cases c19 : x20_2 = true
   ·subst c19
    have H1 : ((dominolaw03_shown.f kj2).bind fun t157 => (some t157)) = some r := by rw [if_pos rfl] at H; exact H
    clear H
    have H := H1
    clear H1
    replace H := Option.bind_eq_some_iff.mp H
    obtain ⟨t157, A200, H⟩ := H
    replace H : (some t157) = some r := H
    have A20 := Aside0.mk A200
    clear A200
    obtain rfl := Option.some.inj H
    go_wp2_with (first | ((with_reducible refine gate_callee (f := 10) rfl ?_); refine goesL_ (some 21) rfl rfl Try.func10 (by kernel_rfl) rfl #[] rfl (by (try simp only [List.map_toArray, List.map_cons, List.map_nil]); first | done | rfl | (simp only [List.length_drop, List.length_take]; rfl)) ?_; (with_reducible refine (dominolaw03_shown.calls kj2  t157 _ A20.out).mono ?_); rintro e w21 ⟨rfl, hb⟩; refine ⟨_, rfl, ?_⟩; have n0_ := Aside0.mk (blk_below (g := gb150) (o := .cells #[.int .u64 a1_0, .int .u64 a1_1] 34 (0, 0)) (by (with_reducible repeat (first | refine blk_drewN ?_ _ | refine blk_drew ?_ | refine blk_alloc ?_ _)); exact BK150.out) hb); have n1_ := Aside0.mk (below_step (by repeat (first | (with_reducible first | exact HB.out | apply below_alloc | apply pw_below_drewN | apply below_drew1 | refine below_set ?_ GE150.out) | exact HB.out)) hb); clear BK150; clear HB; have BK150 := n0_; have HB := n1_; clear n0_ n1_; (try clear hb); (try clear hb2); (try clear hk); (try clear hi)))
    go_ret
    exact ⟨by first | rfl | (simp [errW_none, errW_some] <;> rfl) | (simp [*, errW_none, errW_some] <;> rfl), by repeat (first | (with_reducible first | exact HB.out | apply below_alloc | apply pw_below_drewN | apply below_drew1 | refine below_set ?_ GE150.out) | exact HB.out)⟩
   ·replace c19 := Bool.eq_false_iff.mpr c19
    subst c19
    have H1 : ((ranges_Of.f kj2 l0).bind fun t158 => ((ranges_Add.f kj2 t158 a1_0 a1_1).bind fun t161 => ((ranges_Cut.f kj2 t158 a1_0 a1_1).bind fun t164 => (if a1_0 ≤ a1_1 then ((ranges_Has.f t161 a1_0).bind fun t167 => (if t167 = true then ((ranges_Has.f t161 a1_1).bind fun t168 => (if t168 = true then ((ranges_Has.f t164 a1_0).bind fun t169 => (if t169 = true then (dominolaw03_RangesAgain.j1 kj2 t161 t164 true a1_0 a1_1) else ((ranges_Has.f t164 a1_1).bind fun t170 => (dominolaw03_RangesAgain.j1 kj2 t161 t164 t170 a1_0 a1_1)))) else (dominolaw03_RangesAgain.j1 kj2 t161 t164 true a1_0 a1_1))) else (dominolaw03_RangesAgain.j1 kj2 t161 t164 true a1_0 a1_1))) else (dominolaw03_RangesAgain.j1 kj2 t161 t164 false a1_0 a1_1))))) = some r := by rw [if_neg (show ¬ (false = true) by decide)] at H; exact H
    clear H
    have H := H1
    clear H1
    replace H := Option.bind_eq_some_iff.mp H
    obtain ⟨t158, A220, H⟩ := H
    replace H : ((ranges_Add.f kj2 t158 a1_0 a1_1).bind fun t161 => ((ranges_Cut.f kj2 t158 a1_0 a1_1).bind fun t164 => (if a1_0 ≤ a1_1 then ((ranges_Has.f t161 a1_0).bind fun t167 => (if t167 = true then ((ranges_Has.f t161 a1_1).bind fun t168 => (if t168 = true then ((ranges_Has.f t164 a1_0).bind fun t169 => (if t169 = true then (dominolaw03_RangesAgain.j1 kj2 t161 t164 true a1_0 a1_1) else ((ranges_Has.f t164 a1_1).bind fun t170 => (dominolaw03_RangesAgain.j1 kj2 t161 t164 t170 a1_0 a1_1)))) else (dominolaw03_RangesAgain.j1 kj2 t161 t164 true a1_0 a1_1))) else (dominolaw03_RangesAgain.j1 kj2 t161 t164 true a1_0 a1_1))) else (dominolaw03_RangesAgain.j1 kj2 t161 t164 false a1_0 a1_1)))) = some r := H
    have A22 := Aside0.mk A220
    clear A220
    replace H := Option.bind_eq_some_iff.mp H
    obtain ⟨t161, A230, H⟩ := H
    replace H : ((ranges_Cut.f kj2 t158 a1_0 a1_1).bind fun t164 => (if a1_0 ≤ a1_1 then ((ranges_Has.f t161 a1_0).bind fun t167 => (if t167 = true then ((ranges_Has.f t161 a1_1).bind fun t168 => (if t168 = true then ((ranges_Has.f t164 a1_0).bind fun t169 => (if t169 = true then (dominolaw03_RangesAgain.j1 kj2 t161 t164 true a1_0 a1_1) else ((ranges_Has.f t164 a1_1).bind fun t170 => (dominolaw03_RangesAgain.j1 kj2 t161 t164 t170 a1_0 a1_1)))) else (dominolaw03_RangesAgain.j1 kj2 t161 t164 true a1_0 a1_1))) else (dominolaw03_RangesAgain.j1 kj2 t161 t164 true a1_0 a1_1))) else (dominolaw03_RangesAgain.j1 kj2 t161 t164 false a1_0 a1_1))) = some r := H
    have A23 := Aside0.mk A230
    clear A230
    replace H := Option.bind_eq_some_iff.mp H
    obtain ⟨t164, A240, H⟩ := H
    replace H : (if a1_0 ≤ a1_1 then ((ranges_Has.f t161 a1_0).bind fun t167 => (if t167 = true then ((ranges_Has.f t161 a1_1).bind fun t168 => (if t168 = true then ((ranges_Has.f t164 a1_0).bind fun t169 => (if t169 = true then (dominolaw03_RangesAgain.j1 kj2 t161 t164 true a1_0 a1_1) else ((ranges_Has.f t164 a1_1).bind fun t170 => (dominolaw03_RangesAgain.j1 kj2 t161 t164 t170 a1_0 a1_1)))) else (dominolaw03_RangesAgain.j1 kj2 t161 t164 true a1_0 a1_1))) else (dominolaw03_RangesAgain.j1 kj2 t161 t164 true a1_0 a1_1))) else (dominolaw03_RangesAgain.j1 kj2 t161 t164 false a1_0 a1_1)) = some r := H
    have A24 := Aside0.mk A240
    clear A240
    have HC25 := Aside0.mk H
    clear H
    go_upto_region 6 with (first | ((with_reducible refine gate_callee (f := 15) rfl ?_); refine goesL_ (some 23) rfl rfl Try.func15 (by kernel_rfl) rfl #[.slice A0 l0.length c0] rfl (by (try simp only [List.map_toArray, List.map_cons, List.map_nil]); first | done | rfl | (simp only [List.length_drop, List.length_take]; rfl)) ?_; (with_reducible refine (ranges_Of.calls kj2 _ _ l0 t158 _ ?side1 ?side2 A22.out).mono ?_); (case side1 => repeat (first | exact (Kd.C_below HR0.out HB.out) | (with_reducible refine Kd.C_alloc ?_ _) | (with_reducible refine Kd.C_drewN ?_ _) | (with_reducible refine Kd.C_drew ?_))); (case side2 => exact HC0.out); rintro e w26 ⟨v159, rfl, ho0, hb⟩; refine ⟨_, rfl, ?_⟩; have n0_ := Aside0.mk (Kd.R_lower (Kd.R_newB ho0 (g := gb150) (o := .cells #[.int .u64 a1_0, .int .u64 a1_1] 34 (0, 0)) (by (with_reducible repeat (first | refine blk_drewN ?_ _ | refine blk_drew ?_ | refine blk_alloc ?_ _)); exact BK150.out)) (below_size (by repeat (first | (with_reducible first | exact HB.out | apply below_alloc | apply pw_below_drewN | apply below_drew1 | refine below_set ?_ GE150.out) | exact HB.out)))); have n1_ := Aside0.mk (blk_below (g := gb150) (o := .cells #[.int .u64 a1_0, .int .u64 a1_1] 34 (0, 0)) (by (with_reducible repeat (first | refine blk_drewN ?_ _ | refine blk_drew ?_ | refine blk_alloc ?_ _)); exact BK150.out) hb); have n2_ := Aside0.mk (below_step (by repeat (first | (with_reducible first | exact HB.out | apply below_alloc | apply pw_below_drewN | apply below_drew1 | refine below_set ?_ GE150.out) | exact HB.out)) hb); clear BK150; clear HB; have HO160 := n0_; have BK150 := n1_; have HB := n2_; clear n0_ n1_ n2_; (try clear hb); (try clear hb2); (try clear hk); (try clear hi); (try clear ho0); have hcz27_0 : w26.cell? ⟨gb150, 0, none⟩ = some (.int .u64 a1_0) := (blk_cell BK150.out 0).trans rfl; have hcz27_1 : w26.cell? ⟨gb150, 1, none⟩ = some (.int .u64 a1_1) := (blk_cell BK150.out 1).trans rfl; have hfz27_0 := blk_frozen BK150.out 0; have hfz27_1 := blk_frozen BK150.out 1; obtain ⟨Ao28, co28, eo28⟩ := Kd.R_slice HO160.out; subst eo28) | ((with_reducible refine gate_callee (f := 17) rfl ?_); refine goesL_ (some 26) rfl rfl Try.func17 (by kernel_rfl) rfl #[.slice Ao28 t158.length co28, .agg #[.int .u64 a1_0, .int .u64 a1_1]] rfl (by (try simp only [List.map_toArray, List.map_cons, List.map_nil]); first | done | rfl | (simp only [List.length_drop, List.length_take]; rfl)) ?_; (with_reducible refine (ranges_Add.calls kj2 _ _ t158 a1_0 a1_1 t161 _ ?side1 ?side2 A23.out).mono ?_); (case side1 => repeat (first | exact (Kd.R_reads' HO160.out).2.2 | (with_reducible refine Kd.C_alloc ?_ _) | (with_reducible refine Kd.C_drewN ?_ _) | (with_reducible refine Kd.C_drew ?_))); (case side2 => exact (Kd.R_reads' HO160.out).2.1); rintro e w29 ⟨v162, rfl, ho0, hb⟩; refine ⟨_, rfl, ?_⟩; have n0_ := Aside0.mk (Kd.R_elder' (by (with_reducible repeat (first | apply Kd.R_alloc | apply Kd.R_drewN | apply Kd.R_drew)); exact HO160.out) (Kd.R_base ho0) hb); have n1_ := Aside0.mk (Kd.R_lower (Kd.R_newB (Kd.R_new' ho0 (Kd.R_lt (by (with_reducible repeat (first | apply Kd.R_alloc | apply Kd.R_drewN | apply Kd.R_drew)); exact HO160.out))) (g := gb150) (o := .cells #[.int .u64 a1_0, .int .u64 a1_1] 34 (0, 0)) (by (with_reducible repeat (first | refine blk_drewN ?_ _ | refine blk_drew ?_ | refine blk_alloc ?_ _)); exact BK150.out)) (below_size (by repeat (first | (with_reducible first | exact HB.out | apply below_alloc | apply pw_below_drewN | apply below_drew1 | refine below_set ?_ GE150.out) | exact HB.out)))); have n2_ := Aside0.mk (blk_below (g := gb150) (o := .cells #[.int .u64 a1_0, .int .u64 a1_1] 34 (0, 0)) (by (with_reducible repeat (first | refine blk_drewN ?_ _ | refine blk_drew ?_ | refine blk_alloc ?_ _)); exact BK150.out) hb); have n3_ := Aside0.mk (below_step (by repeat (first | (with_reducible first | exact HB.out | apply below_alloc | apply pw_below_drewN | apply below_drew1 | refine below_set ?_ GE150.out) | exact HB.out)) hb); clear HO160; clear BK150; clear HB; have HO160 := n0_; have HO163 := n1_; have BK150 := n2_; have HB := n3_; clear n0_ n1_ n2_ n3_; (try clear hb); (try clear hb2); (try clear hk); (try clear hi); (try clear ho0); have hcz30_0 : w29.cell? ⟨gb150, 0, none⟩ = some (.int .u64 a1_0) := (blk_cell BK150.out 0).trans rfl; have hcz30_1 : w29.cell? ⟨gb150, 1, none⟩ = some (.int .u64 a1_1) := (blk_cell BK150.out 1).trans rfl; have hfz30_0 := blk_frozen BK150.out 0; have hfz30_1 := blk_frozen BK150.out 1) | ((with_reducible refine gate_callee (f := 18) rfl ?_); refine goesL_ (some 29) rfl rfl Try.func18 (by kernel_rfl) rfl #[.slice Ao28 t158.length co28, .agg #[.int .u64 a1_0, .int .u64 a1_1]] rfl (by (try simp only [List.map_toArray, List.map_cons, List.map_nil]); first | done | rfl | (simp only [List.length_drop, List.length_take]; rfl)) ?_; (with_reducible refine (ranges_Cut.calls kj2 _ _ t158 a1_0 a1_1 t164 _ ?side1 ?side2 A24.out).mono ?_); (case side1 => repeat (first | exact (Kd.R_reads' HO160.out).2.2 | (with_reducible refine Kd.C_alloc ?_ _) | (with_reducible refine Kd.C_drewN ?_ _) | (with_reducible refine Kd.C_drew ?_))); (case side2 => exact (Kd.R_reads' HO160.out).2.1); rintro e w31 ⟨v165, rfl, ho0, hb⟩; refine ⟨_, rfl, ?_⟩; have n0_ := Aside0.mk (Kd.R_elder' (by (with_reducible repeat (first | apply Kd.R_alloc | apply Kd.R_drewN | apply Kd.R_drew)); exact HO160.out) (Kd.R_base ho0) hb); have n1_ := Aside0.mk (Kd.R_elder' (by (with_reducible repeat (first | apply Kd.R_alloc | apply Kd.R_drewN | apply Kd.R_drew)); exact HO163.out) (Kd.R_base ho0) hb); have n2_ := Aside0.mk (Kd.R_lower (Kd.R_newB (Kd.R_new' (Kd.R_new' ho0 (Kd.R_lt (by (with_reducible repeat (first | apply Kd.R_alloc | apply Kd.R_drewN | apply Kd.R_drew)); exact HO160.out))) (Kd.R_lt (by (with_reducible repeat (first | apply Kd.R_alloc | apply Kd.R_drewN | apply Kd.R_drew)); exact HO163.out))) (g := gb150) (o := .cells #[.int .u64 a1_0, .int .u64 a1_1] 34 (0, 0)) (by (with_reducible repeat (first | refine blk_drewN ?_ _ | refine blk_drew ?_ | refine blk_alloc ?_ _)); exact BK150.out)) (below_size (by repeat (first | (with_reducible first | exact HB.out | apply below_alloc | apply pw_below_drewN | apply below_drew1 | refine below_set ?_ GE150.out) | exact HB.out)))); have n3_ := Aside0.mk (blk_below (g := gb150) (o := .cells #[.int .u64 a1_0, .int .u64 a1_1] 34 (0, 0)) (by (with_reducible repeat (first | refine blk_drewN ?_ _ | refine blk_drew ?_ | refine blk_alloc ?_ _)); exact BK150.out) hb); have n4_ := Aside0.mk (below_step (by repeat (first | (with_reducible first | exact HB.out | apply below_alloc | apply pw_below_drewN | apply below_drew1 | refine below_set ?_ GE150.out) | exact HB.out)) hb); clear HO160; clear HO163; clear BK150; clear HB; have HO160 := n0_; have HO163 := n1_; have HO166 := n2_; have BK150 := n3_; have HB := n4_; clear n0_ n1_ n2_ n3_ n4_; (try clear hb); (try clear hb2); (try clear hk); (try clear hi); (try clear ho0)))
    (try simp only [Act.put, List.setIfInBounds_toArray, List.set_cons_zero, List.set_cons_succ])
    go_cut [60] (fun v60 wc => ∃ (kq : Nat) (x60_24 : Bool), v60 = .bool x60_24 ∧ Aside0 (dominolaw03_RangesAgain.j1 kq t161 t164 x60_24 a1_0 a1_1 = some r) ∧ Aside0 (kq ≤ kj2) ∧ Aside0 (Kd.R k34 34 wc w.heap.size (fun k_ => some k_ ≠ (v165 : Value).ownBlock ∧ k_ ≠ gb150) v162 t161) ∧ Aside0 (Kd.R k34 34 wc w.heap.size (fun k_ => some k_ ≠ (v162 : Value).ownBlock ∧ k_ ≠ gb150) v165 t164) ∧ Aside0 (wc.heap[gb150]? = some (.cells #[.int .u64 a1_0, .int .u64 a1_1] 34 (0, 0))) ∧ Aside0 (Below w.heap.size w wc))
    case first =>
     have H := HC25.out
     clear HC25
     by_cases c32 : a1_0 ≤ a1_1
     ·rw [if_pos c32] at H
      have c32b0 : decide (a1_0 ≤ a1_1) = true := decide_eq_true c32
      clear c32
      (first | rw [c32b0] | (simp only [i64_w, i32_w]; rw [c32b0]) | skip)
      replace H := Option.bind_eq_some_iff.mp H
      obtain ⟨t167, A330, H⟩ := H
      replace H : (if t167 = true then ((ranges_Has.f t161 a1_1).bind fun t168 => (if t168 = true then ((ranges_Has.f t164 a1_0).bind fun t169 => (if t169 = true then (dominolaw03_RangesAgain.j1 kj2 t161 t164 true a1_0 a1_1) else ((ranges_Has.f t164 a1_1).bind fun t170 => (dominolaw03_RangesAgain.j1 kj2 t161 t164 t170 a1_0 a1_1)))) else (dominolaw03_RangesAgain.j1 kj2 t161 t164 true a1_0 a1_1))) else (dominolaw03_RangesAgain.j1 kj2 t161 t164 true a1_0 a1_1)) = some r := H
      have A33 := Aside0.mk A330
      clear A330
      by_cases c34 : t167 = true
      ·subst c34
       have H1 : ((ranges_Has.f t161 a1_1).bind fun t168 => (if t168 = true then ((ranges_Has.f t164 a1_0).bind fun t169 => (if t169 = true then (dominolaw03_RangesAgain.j1 kj2 t161 t164 true a1_0 a1_1) else ((ranges_Has.f t164 a1_1).bind fun t170 => (dominolaw03_RangesAgain.j1 kj2 t161 t164 t170 a1_0 a1_1)))) else (dominolaw03_RangesAgain.j1 kj2 t161 t164 true a1_0 a1_1))) = some r := by rw [if_pos rfl] at H; exact H
       clear H
       have H := H1
       clear H1
       replace H := Option.bind_eq_some_iff.mp H
       obtain ⟨t168, A350, H⟩ := H
       replace H : (if t168 = true then ((ranges_Has.f t164 a1_0).bind fun t169 => (if t169 = true then (dominolaw03_RangesAgain.j1 kj2 t161 t164 true a1_0 a1_1) else ((ranges_Has.f t164 a1_1).bind fun t170 => (dominolaw03_RangesAgain.j1 kj2 t161 t164 t170 a1_0 a1_1)))) else (dominolaw03_RangesAgain.j1 kj2 t161 t164 true a1_0 a1_1)) = some r := H
       have A35 := Aside0.mk A350
       clear A350
       by_cases c36 : t168 = true
       ·subst c36
        have H1 : ((ranges_Has.f t164 a1_0).bind fun t169 => (if t169 = true then (dominolaw03_RangesAgain.j1 kj2 t161 t164 true a1_0 a1_1) else ((ranges_Has.f t164 a1_1).bind fun t170 => (dominolaw03_RangesAgain.j1 kj2 t161 t164 t170 a1_0 a1_1)))) = some r := by rw [if_pos rfl] at H; exact H
        clear H
        have H := H1
        clear H1
        replace H := Option.bind_eq_some_iff.mp H
        obtain ⟨t169, A370, H⟩ := H
        replace H : (if t169 = true then (dominolaw03_RangesAgain.j1 kj2 t161 t164 true a1_0 a1_1) else ((ranges_Has.f t164 a1_1).bind fun t170 => (dominolaw03_RangesAgain.j1 kj2 t161 t164 t170 a1_0 a1_1))) = some r := H
        have A37 := Aside0.mk A370
        clear A370
        by_cases c38 : t169 = true
        ·subst c38
         have H1 : (dominolaw03_RangesAgain.j1 kj2 t161 t164 true a1_0 a1_1) = some r := by rw [if_pos rfl] at H; exact H
         clear H
         have H := H1
         clear H1
         have H' := Aside0.mk H
         clear H
         have hcz39_0 : w31.cell? ⟨gb150, 0, none⟩ = some (.int .u64 a1_0) := (blk_cell BK150.out 0).trans rfl
         have hcz39_1 : w31.cell? ⟨gb150, 1, none⟩ = some (.int .u64 a1_1) := (blk_cell BK150.out 1).trans rfl
         have hfz39_0 := blk_frozen BK150.out 0
         have hfz39_1 := blk_frozen BK150.out 1
         obtain ⟨Ao40, co40, eo40⟩ := Kd.R_slice HO163.out
         subst eo40
         go_wp2_with (first | (go_at_call 19; (with_reducible refine (ranges_Has.calls _ _ t161 a1_0 true _ ?side1 ?side2 A33.out).mono ?_); (case side1 => repeat (first | exact (Kd.R_reads' HO163.out).2.2 | (with_reducible refine Kd.C_alloc ?_ _) | (with_reducible refine Kd.C_drewN ?_ _) | (with_reducible refine Kd.C_drew ?_))); (case side2 => exact (Kd.R_reads' HO163.out).2.1); rintro e w41 ⟨rfl, hb⟩; have n0_ := Aside0.mk (Kd.R_below (by (with_reducible repeat (first | apply Kd.R_alloc | apply Kd.R_drewN | apply Kd.R_drew)); exact HO160.out) hb); have n1_ := Aside0.mk (Kd.R_below (by (with_reducible repeat (first | apply Kd.R_alloc | apply Kd.R_drewN | apply Kd.R_drew)); exact HO163.out) hb); have n2_ := Aside0.mk (Kd.R_below (by (with_reducible repeat (first | apply Kd.R_alloc | apply Kd.R_drewN | apply Kd.R_drew)); exact HO166.out) hb); have n3_ := Aside0.mk (blk_below (g := gb150) (o := .cells #[.int .u64 a1_0, .int .u64 a1_1] 34 (0, 0)) (by (with_reducible repeat (first | refine blk_drewN ?_ _ | refine blk_drew ?_ | refine blk_alloc ?_ _)); exact BK150.out) hb); have n4_ := Aside0.mk (below_step (by repeat (first | (with_reducible first | exact HB.out | apply below_alloc | apply pw_below_drewN | apply below_drew1 | refine below_set ?_ GE150.out) | exact HB.out)) hb); clear HO160; clear HO163; clear HO166; clear BK150; clear HB; have HO160 := n0_; have HO163 := n1_; have HO166 := n2_; have BK150 := n3_; have HB := n4_; clear n0_ n1_ n2_ n3_ n4_; (try clear hb); (try clear hb2); (try clear hk); (try clear hi); have hcz42_0 : w41.cell? ⟨gb150, 0, none⟩ = some (.int .u64 a1_0) := (blk_cell BK150.out 0).trans rfl; have hcz42_1 : w41.cell? ⟨gb150, 1, none⟩ = some (.int .u64 a1_1) := (blk_cell BK150.out 1).trans rfl; have hfz42_0 := blk_frozen BK150.out 0; have hfz42_1 := blk_frozen BK150.out 1) | (go_at_call 19; (with_reducible refine (ranges_Has.calls _ _ t161 a1_1 true _ ?side1 ?side2 A35.out).mono ?_); (case side1 => repeat (first | exact (Kd.R_reads' HO163.out).2.2 | (with_reducible refine Kd.C_alloc ?_ _) | (with_reducible refine Kd.C_drewN ?_ _) | (with_reducible refine Kd.C_drew ?_))); (case side2 => exact (Kd.R_reads' HO163.out).2.1); rintro e w43 ⟨rfl, hb⟩; have n0_ := Aside0.mk (Kd.R_below (by (with_reducible repeat (first | apply Kd.R_alloc | apply Kd.R_drewN | apply Kd.R_drew)); exact HO160.out) hb); have n1_ := Aside0.mk (Kd.R_below (by (with_reducible repeat (first | apply Kd.R_alloc | apply Kd.R_drewN | apply Kd.R_drew)); exact HO163.out) hb); have n2_ := Aside0.mk (Kd.R_below (by (with_reducible repeat (first | apply Kd.R_alloc | apply Kd.R_drewN | apply Kd.R_drew)); exact HO166.out) hb); have n3_ := Aside0.mk (blk_below (g := gb150) (o := .cells #[.int .u64 a1_0, .int .u64 a1_1] 34 (0, 0)) (by (with_reducible repeat (first | refine blk_drewN ?_ _ | refine blk_drew ?_ | refine blk_alloc ?_ _)); exact BK150.out) hb); have n4_ := Aside0.mk (below_step (by repeat (first | (with_reducible first | exact HB.out | apply below_alloc | apply pw_below_drewN | apply below_drew1 | refine below_set ?_ GE150.out) | exact HB.out)) hb); clear HO160; clear HO163; clear HO166; clear BK150; clear HB; have HO160 := n0_; have HO163 := n1_; have HO166 := n2_; have BK150 := n3_; have HB := n4_; clear n0_ n1_ n2_ n3_ n4_; (try clear hb); (try clear hb2); (try clear hk); (try clear hi); have hcz44_0 : w43.cell? ⟨gb150, 0, none⟩ = some (.int .u64 a1_0) := (blk_cell BK150.out 0).trans rfl; have hcz44_1 : w43.cell? ⟨gb150, 1, none⟩ = some (.int .u64 a1_1) := (blk_cell BK150.out 1).trans rfl; have hfz44_0 := blk_frozen BK150.out 0; have hfz44_1 := blk_frozen BK150.out 1; obtain ⟨Ao45, co45, eo45⟩ := Kd.R_slice HO166.out; subst eo45) | (go_at_call 19; (with_reducible refine (ranges_Has.calls _ _ t164 a1_0 true _ ?side1 ?side2 A37.out).mono ?_); (case side1 => repeat (first | exact (Kd.R_reads' HO166.out).2.2 | (with_reducible refine Kd.C_alloc ?_ _) | (with_reducible refine Kd.C_drewN ?_ _) | (with_reducible refine Kd.C_drew ?_))); (case side2 => exact (Kd.R_reads' HO166.out).2.1); rintro e w46 ⟨rfl, hb⟩; have n0_ := Aside0.mk (Kd.R_below (by (with_reducible repeat (first | apply Kd.R_alloc | apply Kd.R_drewN | apply Kd.R_drew)); exact HO160.out) hb); have n1_ := Aside0.mk (Kd.R_below (by (with_reducible repeat (first | apply Kd.R_alloc | apply Kd.R_drewN | apply Kd.R_drew)); exact HO163.out) hb); have n2_ := Aside0.mk (Kd.R_below (by (with_reducible repeat (first | apply Kd.R_alloc | apply Kd.R_drewN | apply Kd.R_drew)); exact HO166.out) hb); have n3_ := Aside0.mk (blk_below (g := gb150) (o := .cells #[.int .u64 a1_0, .int .u64 a1_1] 34 (0, 0)) (by (with_reducible repeat (first | refine blk_drewN ?_ _ | refine blk_drew ?_ | refine blk_alloc ?_ _)); exact BK150.out) hb); have n4_ := Aside0.mk (below_step (by repeat (first | (with_reducible first | exact HB.out | apply below_alloc | apply pw_below_drewN | apply below_drew1 | refine below_set ?_ GE150.out) | exact HB.out)) hb); clear HO160; clear HO163; clear HO166; clear BK150; clear HB; have HO160 := n0_; have HO163 := n1_; have HO166 := n2_; have BK150 := n3_; have HB := n4_; clear n0_ n1_ n2_ n3_ n4_; (try clear hb); (try clear hb2); (try clear hk); (try clear hi)))
         go_meet
         case rel => exact ⟨_, (true), (by first | rfl | (simp; done) | (simp [*]; done)), H', ⟨by have := HJ2.out; first | omega | exact Nat.le_refl _⟩, ⟨by (with_reducible repeat (first | apply Kd.R_alloc | apply Kd.R_drewN | apply Kd.R_drew)); exact Kd.R_mono HO163.out (fun _ hk => ⟨hk.2, hk.1.2⟩)⟩, ⟨by (with_reducible repeat (first | apply Kd.R_alloc | apply Kd.R_drewN | apply Kd.R_drew)); exact Kd.R_mono HO166.out (fun _ hk => ⟨hk.1.2, hk.2⟩)⟩, ⟨by (with_reducible repeat (first | refine blk_drewN ?_ _ | refine blk_drew ?_ | refine blk_alloc ?_ _)); exact BK150.out⟩, ⟨by repeat (first | (with_reducible first | exact HB.out | apply below_alloc | apply pw_below_drewN | apply below_drew1 | refine below_set ?_ GE150.out) | exact HB.out)⟩⟩
        ·replace c38 := Bool.eq_false_iff.mpr c38
         subst c38
         have H1 : ((ranges_Has.f t164 a1_1).bind fun t170 => (dominolaw03_RangesAgain.j1 kj2 t161 t164 t170 a1_0 a1_1)) = some r := by rw [if_neg (show ¬ (false = true) by decide)] at H; exact H
         clear H
         have H := H1
         clear H1
         replace H := Option.bind_eq_some_iff.mp H
         obtain ⟨t170, A470, H⟩ := H
         replace H : (dominolaw03_RangesAgain.j1 kj2 t161 t164 t170 a1_0 a1_1) = some r := H
         have A47 := Aside0.mk A470
         clear A470
         have H' := Aside0.mk H
         clear H
         have hcz48_0 : w31.cell? ⟨gb150, 0, none⟩ = some (.int .u64 a1_0) := (blk_cell BK150.out 0).trans rfl
         have hcz48_1 : w31.cell? ⟨gb150, 1, none⟩ = some (.int .u64 a1_1) := (blk_cell BK150.out 1).trans rfl
         have hfz48_0 := blk_frozen BK150.out 0
         have hfz48_1 := blk_frozen BK150.out 1
         obtain ⟨Ao49, co49, eo49⟩ := Kd.R_slice HO163.out
         subst eo49
         go_wp2_with (first | (go_at_call 19; (with_reducible refine (ranges_Has.calls _ _ t161 a1_0 true _ ?side1 ?side2 A33.out).mono ?_); (case side1 => repeat (first | exact (Kd.R_reads' HO163.out).2.2 | (with_reducible refine Kd.C_alloc ?_ _) | (with_reducible refine Kd.C_drewN ?_ _) | (with_reducible refine Kd.C_drew ?_))); (case side2 => exact (Kd.R_reads' HO163.out).2.1); rintro e w50 ⟨rfl, hb⟩; have n0_ := Aside0.mk (Kd.R_below (by (with_reducible repeat (first | apply Kd.R_alloc | apply Kd.R_drewN | apply Kd.R_drew)); exact HO160.out) hb); have n1_ := Aside0.mk (Kd.R_below (by (with_reducible repeat (first | apply Kd.R_alloc | apply Kd.R_drewN | apply Kd.R_drew)); exact HO163.out) hb); have n2_ := Aside0.mk (Kd.R_below (by (with_reducible repeat (first | apply Kd.R_alloc | apply Kd.R_drewN | apply Kd.R_drew)); exact HO166.out) hb); have n3_ := Aside0.mk (blk_below (g := gb150) (o := .cells #[.int .u64 a1_0, .int .u64 a1_1] 34 (0, 0)) (by (with_reducible repeat (first | refine blk_drewN ?_ _ | refine blk_drew ?_ | refine blk_alloc ?_ _)); exact BK150.out) hb); have n4_ := Aside0.mk (below_step (by repeat (first | (with_reducible first | exact HB.out | apply below_alloc | apply pw_below_drewN | apply below_drew1 | refine below_set ?_ GE150.out) | exact HB.out)) hb); clear HO160; clear HO163; clear HO166; clear BK150; clear HB; have HO160 := n0_; have HO163 := n1_; have HO166 := n2_; have BK150 := n3_; have HB := n4_; clear n0_ n1_ n2_ n3_ n4_; (try clear hb); (try clear hb2); (try clear hk); (try clear hi); have hcz51_0 : w50.cell? ⟨gb150, 0, none⟩ = some (.int .u64 a1_0) := (blk_cell BK150.out 0).trans rfl; have hcz51_1 : w50.cell? ⟨gb150, 1, none⟩ = some (.int .u64 a1_1) := (blk_cell BK150.out 1).trans rfl; have hfz51_0 := blk_frozen BK150.out 0; have hfz51_1 := blk_frozen BK150.out 1) | (go_at_call 19; (with_reducible refine (ranges_Has.calls _ _ t161 a1_1 true _ ?side1 ?side2 A35.out).mono ?_); (case side1 => repeat (first | exact (Kd.R_reads' HO163.out).2.2 | (with_reducible refine Kd.C_alloc ?_ _) | (with_reducible refine Kd.C_drewN ?_ _) | (with_reducible refine Kd.C_drew ?_))); (case side2 => exact (Kd.R_reads' HO163.out).2.1); rintro e w52 ⟨rfl, hb⟩; have n0_ := Aside0.mk (Kd.R_below (by (with_reducible repeat (first | apply Kd.R_alloc | apply Kd.R_drewN | apply Kd.R_drew)); exact HO160.out) hb); have n1_ := Aside0.mk (Kd.R_below (by (with_reducible repeat (first | apply Kd.R_alloc | apply Kd.R_drewN | apply Kd.R_drew)); exact HO163.out) hb); have n2_ := Aside0.mk (Kd.R_below (by (with_reducible repeat (first | apply Kd.R_alloc | apply Kd.R_drewN | apply Kd.R_drew)); exact HO166.out) hb); have n3_ := Aside0.mk (blk_below (g := gb150) (o := .cells #[.int .u64 a1_0, .int .u64 a1_1] 34 (0, 0)) (by (with_reducible repeat (first | refine blk_drewN ?_ _ | refine blk_drew ?_ | refine blk_alloc ?_ _)); exact BK150.out) hb); have n4_ := Aside0.mk (below_step (by repeat (first | (with_reducible first | exact HB.out | apply below_alloc | apply pw_below_drewN | apply below_drew1 | refine below_set ?_ GE150.out) | exact HB.out)) hb); clear HO160; clear HO163; clear HO166; clear BK150; clear HB; have HO160 := n0_; have HO163 := n1_; have HO166 := n2_; have BK150 := n3_; have HB := n4_; clear n0_ n1_ n2_ n3_ n4_; (try clear hb); (try clear hb2); (try clear hk); (try clear hi); have hcz53_0 : w52.cell? ⟨gb150, 0, none⟩ = some (.int .u64 a1_0) := (blk_cell BK150.out 0).trans rfl; have hcz53_1 : w52.cell? ⟨gb150, 1, none⟩ = some (.int .u64 a1_1) := (blk_cell BK150.out 1).trans rfl; have hfz53_0 := blk_frozen BK150.out 0; have hfz53_1 := blk_frozen BK150.out 1; obtain ⟨Ao54, co54, eo54⟩ := Kd.R_slice HO166.out; subst eo54) | (go_at_call 19; (with_reducible refine (ranges_Has.calls _ _ t164 a1_0 false _ ?side1 ?side2 A37.out).mono ?_); (case side1 => repeat (first | exact (Kd.R_reads' HO166.out).2.2 | (with_reducible refine Kd.C_alloc ?_ _) | (with_reducible refine Kd.C_drewN ?_ _) | (with_reducible refine Kd.C_drew ?_))); (case side2 => exact (Kd.R_reads' HO166.out).2.1); rintro e w55 ⟨rfl, hb⟩; have n0_ := Aside0.mk (Kd.R_below (by (with_reducible repeat (first | apply Kd.R_alloc | apply Kd.R_drewN | apply Kd.R_drew)); exact HO160.out) hb); have n1_ := Aside0.mk (Kd.R_below (by (with_reducible repeat (first | apply Kd.R_alloc | apply Kd.R_drewN | apply Kd.R_drew)); exact HO163.out) hb); have n2_ := Aside0.mk (Kd.R_below (by (with_reducible repeat (first | apply Kd.R_alloc | apply Kd.R_drewN | apply Kd.R_drew)); exact HO166.out) hb); have n3_ := Aside0.mk (blk_below (g := gb150) (o := .cells #[.int .u64 a1_0, .int .u64 a1_1] 34 (0, 0)) (by (with_reducible repeat (first | refine blk_drewN ?_ _ | refine blk_drew ?_ | refine blk_alloc ?_ _)); exact BK150.out) hb); have n4_ := Aside0.mk (below_step (by repeat (first | (with_reducible first | exact HB.out | apply below_alloc | apply pw_below_drewN | apply below_drew1 | refine below_set ?_ GE150.out) | exact HB.out)) hb); clear HO160; clear HO163; clear HO166; clear BK150; clear HB; have HO160 := n0_; have HO163 := n1_; have HO166 := n2_; have BK150 := n3_; have HB := n4_; clear n0_ n1_ n2_ n3_ n4_; (try clear hb); (try clear hb2); (try clear hk); (try clear hi); have hcz56_0 : w55.cell? ⟨gb150, 0, none⟩ = some (.int .u64 a1_0) := (blk_cell BK150.out 0).trans rfl; have hcz56_1 : w55.cell? ⟨gb150, 1, none⟩ = some (.int .u64 a1_1) := (blk_cell BK150.out 1).trans rfl; have hfz56_0 := blk_frozen BK150.out 0; have hfz56_1 := blk_frozen BK150.out 1) | (go_at_call 19; (with_reducible refine (ranges_Has.calls _ _ t164 a1_1 t170 _ ?side1 ?side2 A47.out).mono ?_); (case side1 => repeat (first | exact (Kd.R_reads' HO166.out).2.2 | (with_reducible refine Kd.C_alloc ?_ _) | (with_reducible refine Kd.C_drewN ?_ _) | (with_reducible refine Kd.C_drew ?_))); (case side2 => exact (Kd.R_reads' HO166.out).2.1); rintro e w57 ⟨rfl, hb⟩; have n0_ := Aside0.mk (Kd.R_below (by (with_reducible repeat (first | apply Kd.R_alloc | apply Kd.R_drewN | apply Kd.R_drew)); exact HO160.out) hb); have n1_ := Aside0.mk (Kd.R_below (by (with_reducible repeat (first | apply Kd.R_alloc | apply Kd.R_drewN | apply Kd.R_drew)); exact HO163.out) hb); have n2_ := Aside0.mk (Kd.R_below (by (with_reducible repeat (first | apply Kd.R_alloc | apply Kd.R_drewN | apply Kd.R_drew)); exact HO166.out) hb); have n3_ := Aside0.mk (blk_below (g := gb150) (o := .cells #[.int .u64 a1_0, .int .u64 a1_1] 34 (0, 0)) (by (with_reducible repeat (first | refine blk_drewN ?_ _ | refine blk_drew ?_ | refine blk_alloc ?_ _)); exact BK150.out) hb); have n4_ := Aside0.mk (below_step (by repeat (first | (with_reducible first | exact HB.out | apply below_alloc | apply pw_below_drewN | apply below_drew1 | refine below_set ?_ GE150.out) | exact HB.out)) hb); clear HO160; clear HO163; clear HO166; clear BK150; clear HB; have HO160 := n0_; have HO163 := n1_; have HO166 := n2_; have BK150 := n3_; have HB := n4_; clear n0_ n1_ n2_ n3_ n4_; (try clear hb); (try clear hb2); (try clear hk); (try clear hi)))
         go_meet
         case rel => exact ⟨_, (t170), (by first | rfl | (simp; done) | (simp [*]; done)), H', ⟨by have := HJ2.out; first | omega | exact Nat.le_refl _⟩, ⟨by (with_reducible repeat (first | apply Kd.R_alloc | apply Kd.R_drewN | apply Kd.R_drew)); exact Kd.R_mono HO163.out (fun _ hk => ⟨hk.2, hk.1.2⟩)⟩, ⟨by (with_reducible repeat (first | apply Kd.R_alloc | apply Kd.R_drewN | apply Kd.R_drew)); exact Kd.R_mono HO166.out (fun _ hk => ⟨hk.1.2, hk.2⟩)⟩, ⟨by (with_reducible repeat (first | refine blk_drewN ?_ _ | refine blk_drew ?_ | refine blk_alloc ?_ _)); exact BK150.out⟩, ⟨by repeat (first | (with_reducible first | exact HB.out | apply below_alloc | apply pw_below_drewN | apply below_drew1 | refine below_set ?_ GE150.out) | exact HB.out)⟩⟩
       ·replace c36 := Bool.eq_false_iff.mpr c36
        subst c36
        have H1 : (dominolaw03_RangesAgain.j1 kj2 t161 t164 true a1_0 a1_1) = some r := by rw [if_neg (show ¬ (false = true) by decide)] at H; exact H
        clear H
        have H := H1
        clear H1
        have H' := Aside0.mk H
        clear H
        have hcz58_0 : w31.cell? ⟨gb150, 0, none⟩ = some (.int .u64 a1_0) := (blk_cell BK150.out 0).trans rfl
        have hcz58_1 : w31.cell? ⟨gb150, 1, none⟩ = some (.int .u64 a1_1) := (blk_cell BK150.out 1).trans rfl
        have hfz58_0 := blk_frozen BK150.out 0
        have hfz58_1 := blk_frozen BK150.out 1
        obtain ⟨Ao59, co59, eo59⟩ := Kd.R_slice HO163.out
        subst eo59
        go_wp2_with (first | (go_at_call 19; (with_reducible refine (ranges_Has.calls _ _ t161 a1_0 true _ ?side1 ?side2 A33.out).mono ?_); (case side1 => repeat (first | exact (Kd.R_reads' HO163.out).2.2 | (with_reducible refine Kd.C_alloc ?_ _) | (with_reducible refine Kd.C_drewN ?_ _) | (with_reducible refine Kd.C_drew ?_))); (case side2 => exact (Kd.R_reads' HO163.out).2.1); rintro e w60 ⟨rfl, hb⟩; have n0_ := Aside0.mk (Kd.R_below (by (with_reducible repeat (first | apply Kd.R_alloc | apply Kd.R_drewN | apply Kd.R_drew)); exact HO160.out) hb); have n1_ := Aside0.mk (Kd.R_below (by (with_reducible repeat (first | apply Kd.R_alloc | apply Kd.R_drewN | apply Kd.R_drew)); exact HO163.out) hb); have n2_ := Aside0.mk (Kd.R_below (by (with_reducible repeat (first | apply Kd.R_alloc | apply Kd.R_drewN | apply Kd.R_drew)); exact HO166.out) hb); have n3_ := Aside0.mk (blk_below (g := gb150) (o := .cells #[.int .u64 a1_0, .int .u64 a1_1] 34 (0, 0)) (by (with_reducible repeat (first | refine blk_drewN ?_ _ | refine blk_drew ?_ | refine blk_alloc ?_ _)); exact BK150.out) hb); have n4_ := Aside0.mk (below_step (by repeat (first | (with_reducible first | exact HB.out | apply below_alloc | apply pw_below_drewN | apply below_drew1 | refine below_set ?_ GE150.out) | exact HB.out)) hb); clear HO160; clear HO163; clear HO166; clear BK150; clear HB; have HO160 := n0_; have HO163 := n1_; have HO166 := n2_; have BK150 := n3_; have HB := n4_; clear n0_ n1_ n2_ n3_ n4_; (try clear hb); (try clear hb2); (try clear hk); (try clear hi); have hcz61_0 : w60.cell? ⟨gb150, 0, none⟩ = some (.int .u64 a1_0) := (blk_cell BK150.out 0).trans rfl; have hcz61_1 : w60.cell? ⟨gb150, 1, none⟩ = some (.int .u64 a1_1) := (blk_cell BK150.out 1).trans rfl; have hfz61_0 := blk_frozen BK150.out 0; have hfz61_1 := blk_frozen BK150.out 1) | (go_at_call 19; (with_reducible refine (ranges_Has.calls _ _ t161 a1_1 false _ ?side1 ?side2 A35.out).mono ?_); (case side1 => repeat (first | exact (Kd.R_reads' HO163.out).2.2 | (with_reducible refine Kd.C_alloc ?_ _) | (with_reducible refine Kd.C_drewN ?_ _) | (with_reducible refine Kd.C_drew ?_))); (case side2 => exact (Kd.R_reads' HO163.out).2.1); rintro e w62 ⟨rfl, hb⟩; have n0_ := Aside0.mk (Kd.R_below (by (with_reducible repeat (first | apply Kd.R_alloc | apply Kd.R_drewN | apply Kd.R_drew)); exact HO160.out) hb); have n1_ := Aside0.mk (Kd.R_below (by (with_reducible repeat (first | apply Kd.R_alloc | apply Kd.R_drewN | apply Kd.R_drew)); exact HO163.out) hb); have n2_ := Aside0.mk (Kd.R_below (by (with_reducible repeat (first | apply Kd.R_alloc | apply Kd.R_drewN | apply Kd.R_drew)); exact HO166.out) hb); have n3_ := Aside0.mk (blk_below (g := gb150) (o := .cells #[.int .u64 a1_0, .int .u64 a1_1] 34 (0, 0)) (by (with_reducible repeat (first | refine blk_drewN ?_ _ | refine blk_drew ?_ | refine blk_alloc ?_ _)); exact BK150.out) hb); have n4_ := Aside0.mk (below_step (by repeat (first | (with_reducible first | exact HB.out | apply below_alloc | apply pw_below_drewN | apply below_drew1 | refine below_set ?_ GE150.out) | exact HB.out)) hb); clear HO160; clear HO163; clear HO166; clear BK150; clear HB; have HO160 := n0_; have HO163 := n1_; have HO166 := n2_; have BK150 := n3_; have HB := n4_; clear n0_ n1_ n2_ n3_ n4_; (try clear hb); (try clear hb2); (try clear hk); (try clear hi)))
        go_meet
        case rel => exact ⟨_, (true), (by first | rfl | (simp; done) | (simp [*]; done)), H', ⟨by have := HJ2.out; first | omega | exact Nat.le_refl _⟩, ⟨by (with_reducible repeat (first | apply Kd.R_alloc | apply Kd.R_drewN | apply Kd.R_drew)); exact Kd.R_mono HO163.out (fun _ hk => ⟨hk.2, hk.1.2⟩)⟩, ⟨by (with_reducible repeat (first | apply Kd.R_alloc | apply Kd.R_drewN | apply Kd.R_drew)); exact Kd.R_mono HO166.out (fun _ hk => ⟨hk.1.2, hk.2⟩)⟩, ⟨by (with_reducible repeat (first | refine blk_drewN ?_ _ | refine blk_drew ?_ | refine blk_alloc ?_ _)); exact BK150.out⟩, ⟨by repeat (first | (with_reducible first | exact HB.out | apply below_alloc | apply pw_below_drewN | apply below_drew1 | refine below_set ?_ GE150.out) | exact HB.out)⟩⟩
      ·replace c34 := Bool.eq_false_iff.mpr c34
       subst c34
       have H1 : (dominolaw03_RangesAgain.j1 kj2 t161 t164 true a1_0 a1_1) = some r := by rw [if_neg (show ¬ (false = true) by decide)] at H; exact H
       clear H
       have H := H1
       clear H1
       have H' := Aside0.mk H
       clear H
       have hcz63_0 : w31.cell? ⟨gb150, 0, none⟩ = some (.int .u64 a1_0) := (blk_cell BK150.out 0).trans rfl
       have hcz63_1 : w31.cell? ⟨gb150, 1, none⟩ = some (.int .u64 a1_1) := (blk_cell BK150.out 1).trans rfl
       have hfz63_0 := blk_frozen BK150.out 0
       have hfz63_1 := blk_frozen BK150.out 1
       obtain ⟨Ao64, co64, eo64⟩ := Kd.R_slice HO163.out
       subst eo64
       go_wp2_with (first | (go_at_call 19; (with_reducible refine (ranges_Has.calls _ _ t161 a1_0 false _ ?side1 ?side2 A33.out).mono ?_); (case side1 => repeat (first | exact (Kd.R_reads' HO163.out).2.2 | (with_reducible refine Kd.C_alloc ?_ _) | (with_reducible refine Kd.C_drewN ?_ _) | (with_reducible refine Kd.C_drew ?_))); (case side2 => exact (Kd.R_reads' HO163.out).2.1); rintro e w65 ⟨rfl, hb⟩; have n0_ := Aside0.mk (Kd.R_below (by (with_reducible repeat (first | apply Kd.R_alloc | apply Kd.R_drewN | apply Kd.R_drew)); exact HO160.out) hb); have n1_ := Aside0.mk (Kd.R_below (by (with_reducible repeat (first | apply Kd.R_alloc | apply Kd.R_drewN | apply Kd.R_drew)); exact HO163.out) hb); have n2_ := Aside0.mk (Kd.R_below (by (with_reducible repeat (first | apply Kd.R_alloc | apply Kd.R_drewN | apply Kd.R_drew)); exact HO166.out) hb); have n3_ := Aside0.mk (blk_below (g := gb150) (o := .cells #[.int .u64 a1_0, .int .u64 a1_1] 34 (0, 0)) (by (with_reducible repeat (first | refine blk_drewN ?_ _ | refine blk_drew ?_ | refine blk_alloc ?_ _)); exact BK150.out) hb); have n4_ := Aside0.mk (below_step (by repeat (first | (with_reducible first | exact HB.out | apply below_alloc | apply pw_below_drewN | apply below_drew1 | refine below_set ?_ GE150.out) | exact HB.out)) hb); clear HO160; clear HO163; clear HO166; clear BK150; clear HB; have HO160 := n0_; have HO163 := n1_; have HO166 := n2_; have BK150 := n3_; have HB := n4_; clear n0_ n1_ n2_ n3_ n4_; (try clear hb); (try clear hb2); (try clear hk); (try clear hi)))
       go_meet
       case rel => exact ⟨_, (true), (by first | rfl | (simp; done) | (simp [*]; done)), H', ⟨by have := HJ2.out; first | omega | exact Nat.le_refl _⟩, ⟨by (with_reducible repeat (first | apply Kd.R_alloc | apply Kd.R_drewN | apply Kd.R_drew)); exact Kd.R_mono HO163.out (fun _ hk => ⟨hk.2, hk.1.2⟩)⟩, ⟨by (with_reducible repeat (first | apply Kd.R_alloc | apply Kd.R_drewN | apply Kd.R_drew)); exact Kd.R_mono HO166.out (fun _ hk => ⟨hk.1.2, hk.2⟩)⟩, ⟨by (with_reducible repeat (first | refine blk_drewN ?_ _ | refine blk_drew ?_ | refine blk_alloc ?_ _)); exact BK150.out⟩, ⟨by repeat (first | (with_reducible first | exact HB.out | apply below_alloc | apply pw_below_drewN | apply below_drew1 | refine below_set ?_ GE150.out) | exact HB.out)⟩⟩
     ·rw [if_neg c32] at H
      have c32b0 : decide (a1_0 ≤ a1_1) = false := decide_eq_false c32
      clear c32
      (first | rw [c32b0] | (simp only [i64_w, i32_w]; rw [c32b0]) | skip)
      have H' := Aside0.mk H
      clear H
      have hcz66_0 : w31.cell? ⟨gb150, 0, none⟩ = some (.int .u64 a1_0) := (blk_cell BK150.out 0).trans rfl
      have hcz66_1 : w31.cell? ⟨gb150, 1, none⟩ = some (.int .u64 a1_1) := (blk_cell BK150.out 1).trans rfl
      have hfz66_0 := blk_frozen BK150.out 0
      have hfz66_1 := blk_frozen BK150.out 1
      go_wp2
      go_meet
      case rel => exact ⟨_, (false), (by first | rfl | (simp; done) | (simp [*]; done)), H', ⟨by have := HJ2.out; first | omega | exact Nat.le_refl _⟩, ⟨by (with_reducible repeat (first | apply Kd.R_alloc | apply Kd.R_drewN | apply Kd.R_drew)); exact Kd.R_mono HO163.out (fun _ hk => ⟨hk.2, hk.1.2⟩)⟩, ⟨by (with_reducible repeat (first | apply Kd.R_alloc | apply Kd.R_drewN | apply Kd.R_drew)); exact Kd.R_mono HO166.out (fun _ hk => ⟨hk.1.2, hk.2⟩)⟩, ⟨by (with_reducible repeat (first | refine blk_drewN ?_ _ | refine blk_drew ?_ | refine blk_alloc ?_ _)); exact BK150.out⟩, ⟨by repeat (first | (with_reducible first | exact HB.out | apply below_alloc | apply pw_below_drewN | apply below_drew1 | refine below_set ?_ GE150.out) | exact HB.out)⟩⟩
    case rest =>
     clear HC25
     try clear c1
     try clear c2
     try clear p2
     try clear c3
     try clear c5
     try clear c6
     try clear c8
     try clear c10
     try clear c14
     try clear c15
     try clear c17
     try clear c18
     try clear c19
     try clear c32
     try clear c32b0
     try clear c34
     try clear c36
     try clear c38
     try clear hcz10_0
     try clear hcz10_1
     try clear hcz15_0
     try clear hcz15_1
     try clear hcz27_0
     try clear hcz27_1
     try clear hcz30_0
     try clear hcz30_1
     try clear hcz39_0
     try clear hcz39_1
     try clear hcz42_0
     try clear hcz42_1
     try clear hcz44_0
     try clear hcz44_1
     try clear hcz48_0
     try clear hcz48_1
     try clear hcz51_0
     try clear hcz51_1
     try clear hcz53_0
     try clear hcz53_1
     try clear hcz56_0
     try clear hcz56_1
     try clear hcz58_0
     try clear hcz58_1
     try clear hcz61_0
     try clear hcz61_1
     try clear hcz63_0
     try clear hcz63_1
     try clear hcz66_0
     try clear hcz66_1
     try clear hfz10_0
     try clear hfz10_1
     try clear hfz15_0
     try clear hfz15_1
     try clear hfz27_0
     try clear hfz27_1
     try clear hfz30_0
     try clear hfz30_1
     try clear hfz39_0
     try clear hfz39_1
     try clear hfz42_0
     try clear hfz42_1
     try clear hfz44_0
     try clear hfz44_1
     try clear hfz48_0
     try clear hfz48_1
     try clear hfz51_0
     try clear hfz51_1
     try clear hfz53_0
     try clear hfz53_1
     try clear hfz56_0
     try clear hfz56_1
     try clear hfz58_0
     try clear hfz58_1
     try clear hfz61_0
     try clear hfz61_1
     try clear hfz63_0
     try clear hfz63_1
     try clear hfz66_0
     try clear hfz66_1
     try clear p2
     obtain ⟨kq, x60_24, rfl, HA, HJ24, HO_6, HO_7, BK150, HB⟩ := hcut
     cases kq with
     | zero => exact absurd HA.out (by simp [dominolaw03_RangesAgain.j1])
     | succ kj24 =>
      have H := HA.out
      clear HA
      simp only [dominolaw03_RangesAgain.j1] at H
      by_cases c67 : x60_24 = true
      ·subst c67
       have H1 : (none) = some r := by rw [if_pos rfl] at H; exact H
       clear H
       have H := H1
       clear H1
       exact absurd H (by simp)
      ·replace c67 := Bool.eq_false_iff.mpr c67
       subst c67
       have H1 : ((ranges_Add.f kj24 t161 a1_0 a1_1).bind fun t171 => ((dominolaw03_its.f kj24 t171).bind fun t174 => ((dominolaw03_its.f kj24 t161).bind fun t177 => ((dominoref03_Same.f kj24 t174 t177).bind fun t180 => (if t180 = true then ((ranges_Cut.f kj24 t164 a1_0 a1_1).bind fun t181 => ((dominolaw03_its.f kj24 t181).bind fun t184 => ((dominolaw03_its.f kj24 t164).bind fun t187 => ((dominoref03_Same.f kj24 t184 t187).bind fun t190 => (if t190 = true then ((ranges_Cut.f kj24 t161 a1_0 a1_1).bind fun t191 => ((dominolaw03_its.f kj24 t191).bind fun t194 => ((dominolaw03_its.f kj24 t164).bind fun t197 => ((dominoref03_Same.f kj24 t194 t197).bind fun t200 => (if t200 = true then ((ranges_Gaps.f kj24 t161 a1_0 a1_1).bind fun t201 => (some ((t201.length : Int) == 0))) else (none)))))) else (none)))))) else (none)))))) = some r := by rw [if_neg (show ¬ (false = true) by decide)] at H; exact H
       clear H
       have H := H1
       clear H1
       replace H := Option.bind_eq_some_iff.mp H
       obtain ⟨t171, A680, H⟩ := H
       replace H : ((dominolaw03_its.f kj24 t171).bind fun t174 => ((dominolaw03_its.f kj24 t161).bind fun t177 => ((dominoref03_Same.f kj24 t174 t177).bind fun t180 => (if t180 = true then ((ranges_Cut.f kj24 t164 a1_0 a1_1).bind fun t181 => ((dominolaw03_its.f kj24 t181).bind fun t184 => ((dominolaw03_its.f kj24 t164).bind fun t187 => ((dominoref03_Same.f kj24 t184 t187).bind fun t190 => (if t190 = true then ((ranges_Cut.f kj24 t161 a1_0 a1_1).bind fun t191 => ((dominolaw03_its.f kj24 t191).bind fun t194 => ((dominolaw03_its.f kj24 t164).bind fun t197 => ((dominoref03_Same.f kj24 t194 t197).bind fun t200 => (if t200 = true then ((ranges_Gaps.f kj24 t161 a1_0 a1_1).bind fun t201 => (some ((t201.length : Int) == 0))) else (none)))))) else (none)))))) else (none))))) = some r := H
       have A68 := Aside0.mk A680
       clear A680
       replace H := Option.bind_eq_some_iff.mp H
       obtain ⟨t174, A690, H⟩ := H
       replace H : ((dominolaw03_its.f kj24 t161).bind fun t177 => ((dominoref03_Same.f kj24 t174 t177).bind fun t180 => (if t180 = true then ((ranges_Cut.f kj24 t164 a1_0 a1_1).bind fun t181 => ((dominolaw03_its.f kj24 t181).bind fun t184 => ((dominolaw03_its.f kj24 t164).bind fun t187 => ((dominoref03_Same.f kj24 t184 t187).bind fun t190 => (if t190 = true then ((ranges_Cut.f kj24 t161 a1_0 a1_1).bind fun t191 => ((dominolaw03_its.f kj24 t191).bind fun t194 => ((dominolaw03_its.f kj24 t164).bind fun t197 => ((dominoref03_Same.f kj24 t194 t197).bind fun t200 => (if t200 = true then ((ranges_Gaps.f kj24 t161 a1_0 a1_1).bind fun t201 => (some ((t201.length : Int) == 0))) else (none)))))) else (none)))))) else (none)))) = some r := H
       have A69 := Aside0.mk A690
       clear A690
       replace H := Option.bind_eq_some_iff.mp H
       obtain ⟨t177, A700, H⟩ := H
       replace H : ((dominoref03_Same.f kj24 t174 t177).bind fun t180 => (if t180 = true then ((ranges_Cut.f kj24 t164 a1_0 a1_1).bind fun t181 => ((dominolaw03_its.f kj24 t181).bind fun t184 => ((dominolaw03_its.f kj24 t164).bind fun t187 => ((dominoref03_Same.f kj24 t184 t187).bind fun t190 => (if t190 = true then ((ranges_Cut.f kj24 t161 a1_0 a1_1).bind fun t191 => ((dominolaw03_its.f kj24 t191).bind fun t194 => ((dominolaw03_its.f kj24 t164).bind fun t197 => ((dominoref03_Same.f kj24 t194 t197).bind fun t200 => (if t200 = true then ((ranges_Gaps.f kj24 t161 a1_0 a1_1).bind fun t201 => (some ((t201.length : Int) == 0))) else (none)))))) else (none)))))) else (none))) = some r := H
       have A70 := Aside0.mk A700
       clear A700
       replace H := Option.bind_eq_some_iff.mp H
       obtain ⟨t180, A710, H⟩ := H
       replace H : (if t180 = true then ((ranges_Cut.f kj24 t164 a1_0 a1_1).bind fun t181 => ((dominolaw03_its.f kj24 t181).bind fun t184 => ((dominolaw03_its.f kj24 t164).bind fun t187 => ((dominoref03_Same.f kj24 t184 t187).bind fun t190 => (if t190 = true then ((ranges_Cut.f kj24 t161 a1_0 a1_1).bind fun t191 => ((dominolaw03_its.f kj24 t191).bind fun t194 => ((dominolaw03_its.f kj24 t164).bind fun t197 => ((dominoref03_Same.f kj24 t194 t197).bind fun t200 => (if t200 = true then ((ranges_Gaps.f kj24 t161 a1_0 a1_1).bind fun t201 => (some ((t201.length : Int) == 0))) else (none)))))) else (none)))))) else (none)) = some r := H
       have A71 := Aside0.mk A710
       clear A710
       by_cases c72 : t180 = true
       ·subst c72
        have H1 : ((ranges_Cut.f kj24 t164 a1_0 a1_1).bind fun t181 => ((dominolaw03_its.f kj24 t181).bind fun t184 => ((dominolaw03_its.f kj24 t164).bind fun t187 => ((dominoref03_Same.f kj24 t184 t187).bind fun t190 => (if t190 = true then ((ranges_Cut.f kj24 t161 a1_0 a1_1).bind fun t191 => ((dominolaw03_its.f kj24 t191).bind fun t194 => ((dominolaw03_its.f kj24 t164).bind fun t197 => ((dominoref03_Same.f kj24 t194 t197).bind fun t200 => (if t200 = true then ((ranges_Gaps.f kj24 t161 a1_0 a1_1).bind fun t201 => (some ((t201.length : Int) == 0))) else (none)))))) else (none)))))) = some r := by rw [if_pos rfl] at H; exact H
        clear H
        have H := H1
        clear H1
        replace H := Option.bind_eq_some_iff.mp H
        obtain ⟨t181, A730, H⟩ := H
        replace H : ((dominolaw03_its.f kj24 t181).bind fun t184 => ((dominolaw03_its.f kj24 t164).bind fun t187 => ((dominoref03_Same.f kj24 t184 t187).bind fun t190 => (if t190 = true then ((ranges_Cut.f kj24 t161 a1_0 a1_1).bind fun t191 => ((dominolaw03_its.f kj24 t191).bind fun t194 => ((dominolaw03_its.f kj24 t164).bind fun t197 => ((dominoref03_Same.f kj24 t194 t197).bind fun t200 => (if t200 = true then ((ranges_Gaps.f kj24 t161 a1_0 a1_1).bind fun t201 => (some ((t201.length : Int) == 0))) else (none)))))) else (none))))) = some r := H
        have A73 := Aside0.mk A730
        clear A730
        replace H := Option.bind_eq_some_iff.mp H
        obtain ⟨t184, A740, H⟩ := H
        replace H : ((dominolaw03_its.f kj24 t164).bind fun t187 => ((dominoref03_Same.f kj24 t184 t187).bind fun t190 => (if t190 = true then ((ranges_Cut.f kj24 t161 a1_0 a1_1).bind fun t191 => ((dominolaw03_its.f kj24 t191).bind fun t194 => ((dominolaw03_its.f kj24 t164).bind fun t197 => ((dominoref03_Same.f kj24 t194 t197).bind fun t200 => (if t200 = true then ((ranges_Gaps.f kj24 t161 a1_0 a1_1).bind fun t201 => (some ((t201.length : Int) == 0))) else (none)))))) else (none)))) = some r := H
        have A74 := Aside0.mk A740
        clear A740
        replace H := Option.bind_eq_some_iff.mp H
        obtain ⟨t187, A750, H⟩ := H
        replace H : ((dominoref03_Same.f kj24 t184 t187).bind fun t190 => (if t190 = true then ((ranges_Cut.f kj24 t161 a1_0 a1_1).bind fun t191 => ((dominolaw03_its.f kj24 t191).bind fun t194 => ((dominolaw03_its.f kj24 t164).bind fun t197 => ((dominoref03_Same.f kj24 t194 t197).bind fun t200 => (if t200 = true then ((ranges_Gaps.f kj24 t161 a1_0 a1_1).bind fun t201 => (some ((t201.length : Int) == 0))) else (none)))))) else (none))) = some r := H
        have A75 := Aside0.mk A750
        clear A750
        replace H := Option.bind_eq_some_iff.mp H
        obtain ⟨t190, A760, H⟩ := H
        replace H : (if t190 = true then ((ranges_Cut.f kj24 t161 a1_0 a1_1).bind fun t191 => ((dominolaw03_its.f kj24 t191).bind fun t194 => ((dominolaw03_its.f kj24 t164).bind fun t197 => ((dominoref03_Same.f kj24 t194 t197).bind fun t200 => (if t200 = true then ((ranges_Gaps.f kj24 t161 a1_0 a1_1).bind fun t201 => (some ((t201.length : Int) == 0))) else (none)))))) else (none)) = some r := H
        have A76 := Aside0.mk A760
        clear A760
        by_cases c77 : t190 = true
        ·subst c77
         have H1 : ((ranges_Cut.f kj24 t161 a1_0 a1_1).bind fun t191 => ((dominolaw03_its.f kj24 t191).bind fun t194 => ((dominolaw03_its.f kj24 t164).bind fun t197 => ((dominoref03_Same.f kj24 t194 t197).bind fun t200 => (if t200 = true then ((ranges_Gaps.f kj24 t161 a1_0 a1_1).bind fun t201 => (some ((t201.length : Int) == 0))) else (none)))))) = some r := by rw [if_pos rfl] at H; exact H
         clear H
         have H := H1
         clear H1
         replace H := Option.bind_eq_some_iff.mp H
         obtain ⟨t191, A780, H⟩ := H
         replace H : ((dominolaw03_its.f kj24 t191).bind fun t194 => ((dominolaw03_its.f kj24 t164).bind fun t197 => ((dominoref03_Same.f kj24 t194 t197).bind fun t200 => (if t200 = true then ((ranges_Gaps.f kj24 t161 a1_0 a1_1).bind fun t201 => (some ((t201.length : Int) == 0))) else (none))))) = some r := H
         have A78 := Aside0.mk A780
         clear A780
         replace H := Option.bind_eq_some_iff.mp H
         obtain ⟨t194, A790, H⟩ := H
         replace H : ((dominolaw03_its.f kj24 t164).bind fun t197 => ((dominoref03_Same.f kj24 t194 t197).bind fun t200 => (if t200 = true then ((ranges_Gaps.f kj24 t161 a1_0 a1_1).bind fun t201 => (some ((t201.length : Int) == 0))) else (none)))) = some r := H
         have A79 := Aside0.mk A790
         clear A790
         replace H := Option.bind_eq_some_iff.mp H
         obtain ⟨t197, A800, H⟩ := H
         replace H : ((dominoref03_Same.f kj24 t194 t197).bind fun t200 => (if t200 = true then ((ranges_Gaps.f kj24 t161 a1_0 a1_1).bind fun t201 => (some ((t201.length : Int) == 0))) else (none))) = some r := H
         have A80 := Aside0.mk A800
         clear A800
         replace H := Option.bind_eq_some_iff.mp H
         obtain ⟨t200, A810, H⟩ := H
         replace H : (if t200 = true then ((ranges_Gaps.f kj24 t161 a1_0 a1_1).bind fun t201 => (some ((t201.length : Int) == 0))) else (none)) = some r := H
         have A81 := Aside0.mk A810
         clear A810
         by_cases c82 : t200 = true
         ·subst c82
          have H1 : ((ranges_Gaps.f kj24 t161 a1_0 a1_1).bind fun t201 => (some ((t201.length : Int) == 0))) = some r := by rw [if_pos rfl] at H; exact H
          clear H
          have H := H1
          clear H1
          replace H := Option.bind_eq_some_iff.mp H
          obtain ⟨t201, A830, H⟩ := H
          replace H : (some ((t201.length : Int) == 0)) = some r := H
          have A83 := Aside0.mk A830
          clear A830
          obtain rfl := Option.some.inj H
          have hcz84_0 : wc.cell? ⟨gb150, 0, none⟩ = some (.int .u64 a1_0) := (blk_cell BK150.out 0).trans rfl
          have hcz84_1 : wc.cell? ⟨gb150, 1, none⟩ = some (.int .u64 a1_1) := (blk_cell BK150.out 1).trans rfl
          have hfz84_0 := blk_frozen BK150.out 0
          have hfz84_1 := blk_frozen BK150.out 1
          obtain ⟨Ao85, co85, eo85⟩ := Kd.R_slice HO_6.out
          subst eo85
          go_wp2_with (first | ((with_reducible refine gate_callee (f := 17) rfl ?_); refine goesL_ (some 63) rfl rfl Try.func17 (by kernel_rfl) rfl #[.slice Ao85 t161.length co85, .agg #[.int .u64 a1_0, .int .u64 a1_1]] rfl (by (try simp only [List.map_toArray, List.map_cons, List.map_nil]); first | done | rfl | (simp only [List.length_drop, List.length_take]; rfl)) ?_; (with_reducible refine (ranges_Add.calls kj24 _ _ t161 a1_0 a1_1 t171 _ ?side1 ?side2 A68.out).mono ?_); (case side1 => repeat (first | exact (Kd.R_reads' HO_6.out).2.2 | (with_reducible refine Kd.C_alloc ?_ _) | (with_reducible refine Kd.C_drewN ?_ _) | (with_reducible refine Kd.C_drew ?_))); (case side2 => exact (Kd.R_reads' HO_6.out).2.1); rintro e w86 ⟨v172, rfl, ho0, hb⟩; refine ⟨_, rfl, ?_⟩; have n0_ := Aside0.mk (Kd.R_elder' (by (with_reducible repeat (first | apply Kd.R_alloc | apply Kd.R_drewN | apply Kd.R_drew)); exact HO_6.out) (Kd.R_base ho0) hb); have n1_ := Aside0.mk (Kd.R_elder' (by (with_reducible repeat (first | apply Kd.R_alloc | apply Kd.R_drewN | apply Kd.R_drew)); exact HO_7.out) (Kd.R_base ho0) hb); have n2_ := Aside0.mk (Kd.R_lower (Kd.R_newB (Kd.R_new' (Kd.R_new' ho0 (Kd.R_lt (by (with_reducible repeat (first | apply Kd.R_alloc | apply Kd.R_drewN | apply Kd.R_drew)); exact HO_6.out))) (Kd.R_lt (by (with_reducible repeat (first | apply Kd.R_alloc | apply Kd.R_drewN | apply Kd.R_drew)); exact HO_7.out))) (g := gb150) (o := .cells #[.int .u64 a1_0, .int .u64 a1_1] 34 (0, 0)) (by (with_reducible repeat (first | refine blk_drewN ?_ _ | refine blk_drew ?_ | refine blk_alloc ?_ _)); exact BK150.out)) (below_size (by repeat (first | (with_reducible first | exact HB.out | apply below_alloc | apply pw_below_drewN | apply below_drew1 | refine below_set ?_ GE150.out) | exact HB.out)))); have n3_ := Aside0.mk (blk_below (g := gb150) (o := .cells #[.int .u64 a1_0, .int .u64 a1_1] 34 (0, 0)) (by (with_reducible repeat (first | refine blk_drewN ?_ _ | refine blk_drew ?_ | refine blk_alloc ?_ _)); exact BK150.out) hb); have n4_ := Aside0.mk (below_step (by repeat (first | (with_reducible first | exact HB.out | apply below_alloc | apply pw_below_drewN | apply below_drew1 | refine below_set ?_ GE150.out) | exact HB.out)) hb); clear HO_6; clear HO_7; clear BK150; clear HB; have HO_6 := n0_; have HO_7 := n1_; have HO173 := n2_; have BK150 := n3_; have HB := n4_; clear n0_ n1_ n2_ n3_ n4_; (try clear hb); (try clear hb2); (try clear hk); (try clear hi); (try clear ho0); obtain ⟨Ao87, co87, eo87⟩ := Kd.R_slice HO173.out; subst eo87) | ((with_reducible refine gate_callee (f := 13) rfl ?_); refine goesL_ (some 64) rfl rfl Try.func13 (by kernel_rfl) rfl #[.slice Ao87 t171.length co87] rfl (by (try simp only [List.map_toArray, List.map_cons, List.map_nil]); first | done | rfl | (simp only [List.length_drop, List.length_take]; rfl)) ?_; (with_reducible refine (dominolaw03_its.calls kj24 _ _ t171 t174 _ ?side1 ?side2 A69.out).mono ?_); (case side1 => repeat (first | exact (Kd.R_reads' HO173.out).2.2 | (with_reducible refine Kd.C_alloc ?_ _) | (with_reducible refine Kd.C_drewN ?_ _) | (with_reducible refine Kd.C_drew ?_))); (case side2 => exact (Kd.R_reads' HO173.out).2.1); rintro e w88 ⟨v175, rfl, ho0, hb⟩; refine ⟨_, rfl, ?_⟩; have n0_ := Aside0.mk (Kd.R_below (by (with_reducible repeat (first | apply Kd.R_alloc | apply Kd.R_drewN | apply Kd.R_drew)); exact HO_6.out) hb); have n1_ := Aside0.mk (Kd.R_below (by (with_reducible repeat (first | apply Kd.R_alloc | apply Kd.R_drewN | apply Kd.R_drew)); exact HO_7.out) hb); have n2_ := Aside0.mk (Kd.R_below (by (with_reducible repeat (first | apply Kd.R_alloc | apply Kd.R_drewN | apply Kd.R_drew)); exact HO173.out) hb); have n3_ := Aside0.mk (Kd.R_lower ho0 (below_size (by repeat (first | (with_reducible first | exact HB.out | apply below_alloc | apply pw_below_drewN | apply below_drew1 | refine below_set ?_ GE150.out) | exact HB.out)))); have n4_ := Aside0.mk (blk_below (g := gb150) (o := .cells #[.int .u64 a1_0, .int .u64 a1_1] 34 (0, 0)) (by (with_reducible repeat (first | refine blk_drewN ?_ _ | refine blk_drew ?_ | refine blk_alloc ?_ _)); exact BK150.out) hb); have n5_ := Aside0.mk (below_step (by repeat (first | (with_reducible first | exact HB.out | apply below_alloc | apply pw_below_drewN | apply below_drew1 | refine below_set ?_ GE150.out) | exact HB.out)) hb); clear HO_6; clear HO_7; clear HO173; clear BK150; clear HB; have HO_6 := n0_; have HO_7 := n1_; have HO173 := n2_; have HO176 := n3_; have BK150 := n4_; have HB := n5_; clear n0_ n1_ n2_ n3_ n4_ n5_; (try clear hb); (try clear hb2); (try clear hk); (try clear hi); (try clear ho0)) | ((with_reducible refine gate_callee (f := 13) rfl ?_); refine goesL_ (some 66) rfl rfl Try.func13 (by kernel_rfl) rfl #[.slice Ao85 t161.length co85] rfl (by (try simp only [List.map_toArray, List.map_cons, List.map_nil]); first | done | rfl | (simp only [List.length_drop, List.length_take]; rfl)) ?_; (with_reducible refine (dominolaw03_its.calls kj24 _ _ t161 t177 _ ?side1 ?side2 A70.out).mono ?_); (case side1 => repeat (first | exact (Kd.R_reads' HO_6.out).2.2 | (with_reducible refine Kd.C_alloc ?_ _) | (with_reducible refine Kd.C_drewN ?_ _) | (with_reducible refine Kd.C_drew ?_))); (case side2 => exact (Kd.R_reads' HO_6.out).2.1); rintro e w89 ⟨v178, rfl, ho0, hb⟩; refine ⟨_, rfl, ?_⟩; have n0_ := Aside0.mk (Kd.R_below (by (with_reducible repeat (first | apply Kd.R_alloc | apply Kd.R_drewN | apply Kd.R_drew)); exact HO_6.out) hb); have n1_ := Aside0.mk (Kd.R_below (by (with_reducible repeat (first | apply Kd.R_alloc | apply Kd.R_drewN | apply Kd.R_drew)); exact HO_7.out) hb); have n2_ := Aside0.mk (Kd.R_below (by (with_reducible repeat (first | apply Kd.R_alloc | apply Kd.R_drewN | apply Kd.R_drew)); exact HO173.out) hb); have n3_ := Aside0.mk (Kd.R_elder' (by (with_reducible repeat (first | apply Kd.R_alloc | apply Kd.R_drewN | apply Kd.R_drew)); exact HO176.out) (Kd.R_base ho0) hb); have n4_ := Aside0.mk (Kd.R_lower (Kd.R_new' ho0 (Kd.R_lt (by (with_reducible repeat (first | apply Kd.R_alloc | apply Kd.R_drewN | apply Kd.R_drew)); exact HO176.out))) (below_size (by repeat (first | (with_reducible first | exact HB.out | apply below_alloc | apply pw_below_drewN | apply below_drew1 | refine below_set ?_ GE150.out) | exact HB.out)))); have n5_ := Aside0.mk (blk_below (g := gb150) (o := .cells #[.int .u64 a1_0, .int .u64 a1_1] 34 (0, 0)) (by (with_reducible repeat (first | refine blk_drewN ?_ _ | refine blk_drew ?_ | refine blk_alloc ?_ _)); exact BK150.out) hb); have n6_ := Aside0.mk (below_step (by repeat (first | (with_reducible first | exact HB.out | apply below_alloc | apply pw_below_drewN | apply below_drew1 | refine below_set ?_ GE150.out) | exact HB.out)) hb); clear HO_6; clear HO_7; clear HO173; clear HO176; clear BK150; clear HB; have HO_6 := n0_; have HO_7 := n1_; have HO173 := n2_; have HO176 := n3_; have HO179 := n4_; have BK150 := n5_; have HB := n6_; clear n0_ n1_ n2_ n3_ n4_ n5_ n6_; (try clear hb); (try clear hb2); (try clear hk); (try clear hi); (try clear ho0); obtain ⟨Ao90, co90, eo90⟩ := Kd.R_slice HO176.out; subst eo90; obtain ⟨Ao91, co91, eo91⟩ := Kd.R_slice HO179.out; subst eo91) | ((with_reducible refine gate_callee (f := 16) rfl ?_); refine goesL_ (some 67) rfl rfl Try.func16 (by kernel_rfl) rfl #[.slice Ao90 t174.length co90, .slice Ao91 t177.length co91] rfl (by (try simp only [List.map_toArray, List.map_cons, List.map_nil]); first | done | rfl | (simp only [List.length_drop, List.length_take]; rfl)) ?_; (with_reducible refine (dominoref03_Same.calls kj24 _ _ t174 _ _ t177 true _ ?side1 ?side2 ?side3 ?side4 A71.out).mono ?_); (case side1 => repeat (first | exact (Kd.R_reads' HO176.out).2.2 | (with_reducible refine Kd.C_alloc ?_ _) | (with_reducible refine Kd.C_drewN ?_ _) | (with_reducible refine Kd.C_drew ?_))); (case side2 => exact (Kd.R_reads' HO176.out).2.1); (case side3 => repeat (first | exact (Kd.R_reads' HO179.out).2.2 | (with_reducible refine Kd.C_alloc ?_ _) | (with_reducible refine Kd.C_drewN ?_ _) | (with_reducible refine Kd.C_drew ?_))); (case side4 => exact (Kd.R_reads' HO179.out).2.1); rintro e w' ⟨rfl, ⟨nd, rfl⟩⟩; refine ⟨_, rfl, ?_⟩; have hcz92_0 : w89.cell? ⟨gb150, 0, none⟩ = some (.int .u64 a1_0) := (blk_cell BK150.out 0).trans rfl; have hcz92_1 : w89.cell? ⟨gb150, 1, none⟩ = some (.int .u64 a1_1) := (blk_cell BK150.out 1).trans rfl; have hfz92_0 := blk_frozen BK150.out 0; have hfz92_1 := blk_frozen BK150.out 1; obtain ⟨Ao93, co93, eo93⟩ := Kd.R_slice HO_7.out; subst eo93) | (go_at_call 18; (with_reducible refine (ranges_Cut.calls kj24 _ _ t164 a1_0 a1_1 t181 _ ?side1 ?side2 A73.out).mono ?_); (case side1 => repeat (first | exact (Kd.R_reads' HO_7.out).2.2 | (with_reducible refine Kd.C_alloc ?_ _) | (with_reducible refine Kd.C_drewN ?_ _) | (with_reducible refine Kd.C_drew ?_))); (case side2 => exact (Kd.R_reads' HO_7.out).2.1); rintro e w94 ⟨v182, rfl, ho0, hb⟩; have n0_ := Aside0.mk (Kd.R_elder' (by (with_reducible repeat (first | apply Kd.R_alloc | apply Kd.R_drewN | apply Kd.R_drew)); exact HO_6.out) (Kd.R_base ho0) hb); have n1_ := Aside0.mk (Kd.R_elder' (by (with_reducible repeat (first | apply Kd.R_alloc | apply Kd.R_drewN | apply Kd.R_drew)); exact HO_7.out) (Kd.R_base ho0) hb); have n2_ := Aside0.mk (Kd.R_elder' (by (with_reducible repeat (first | apply Kd.R_alloc | apply Kd.R_drewN | apply Kd.R_drew)); exact HO173.out) (Kd.R_base ho0) hb); have n3_ := Aside0.mk (Kd.R_below (by (with_reducible repeat (first | apply Kd.R_alloc | apply Kd.R_drewN | apply Kd.R_drew)); exact HO176.out) hb); have n4_ := Aside0.mk (Kd.R_below (by (with_reducible repeat (first | apply Kd.R_alloc | apply Kd.R_drewN | apply Kd.R_drew)); exact HO179.out) hb); have n5_ := Aside0.mk (Kd.R_lower (Kd.R_newB (Kd.R_new' (Kd.R_new' (Kd.R_new' ho0 (Kd.R_lt (by (with_reducible repeat (first | apply Kd.R_alloc | apply Kd.R_drewN | apply Kd.R_drew)); exact HO_6.out))) (Kd.R_lt (by (with_reducible repeat (first | apply Kd.R_alloc | apply Kd.R_drewN | apply Kd.R_drew)); exact HO_7.out))) (Kd.R_lt (by (with_reducible repeat (first | apply Kd.R_alloc | apply Kd.R_drewN | apply Kd.R_drew)); exact HO173.out))) (g := gb150) (o := .cells #[.int .u64 a1_0, .int .u64 a1_1] 34 (0, 0)) (by (with_reducible repeat (first | refine blk_drewN ?_ _ | refine blk_drew ?_ | refine blk_alloc ?_ _)); exact BK150.out)) (below_size (by repeat (first | (with_reducible first | exact HB.out | apply below_alloc | apply pw_below_drewN | apply below_drew1 | refine below_set ?_ GE150.out) | exact HB.out)))); have n6_ := Aside0.mk (blk_below (g := gb150) (o := .cells #[.int .u64 a1_0, .int .u64 a1_1] 34 (0, 0)) (by (with_reducible repeat (first | refine blk_drewN ?_ _ | refine blk_drew ?_ | refine blk_alloc ?_ _)); exact BK150.out) hb); have n7_ := Aside0.mk (below_step (by repeat (first | (with_reducible first | exact HB.out | apply below_alloc | apply pw_below_drewN | apply below_drew1 | refine below_set ?_ GE150.out) | exact HB.out)) hb); clear HO_6; clear HO_7; clear HO173; clear HO176; clear HO179; clear BK150; clear HB; have HO_6 := n0_; have HO_7 := n1_; have HO173 := n2_; have HO176 := n3_; have HO179 := n4_; have HO183 := n5_; have BK150 := n6_; have HB := n7_; clear n0_ n1_ n2_ n3_ n4_ n5_ n6_ n7_; (try clear hb); (try clear hb2); (try clear hk); (try clear hi); (try clear ho0); obtain ⟨Ao95, co95, eo95⟩ := Kd.R_slice HO183.out; subst eo95) | (go_at_call 13; (with_reducible refine (dominolaw03_its.calls kj24 _ _ t181 t184 _ ?side1 ?side2 A74.out).mono ?_); (case side1 => repeat (first | exact (Kd.R_reads' HO183.out).2.2 | (with_reducible refine Kd.C_alloc ?_ _) | (with_reducible refine Kd.C_drewN ?_ _) | (with_reducible refine Kd.C_drew ?_))); (case side2 => exact (Kd.R_reads' HO183.out).2.1); rintro e w96 ⟨v185, rfl, ho0, hb⟩; have n0_ := Aside0.mk (Kd.R_below (by (with_reducible repeat (first | apply Kd.R_alloc | apply Kd.R_drewN | apply Kd.R_drew)); exact HO_6.out) hb); have n1_ := Aside0.mk (Kd.R_below (by (with_reducible repeat (first | apply Kd.R_alloc | apply Kd.R_drewN | apply Kd.R_drew)); exact HO_7.out) hb); have n2_ := Aside0.mk (Kd.R_below (by (with_reducible repeat (first | apply Kd.R_alloc | apply Kd.R_drewN | apply Kd.R_drew)); exact HO173.out) hb); have n3_ := Aside0.mk (Kd.R_elder' (by (with_reducible repeat (first | apply Kd.R_alloc | apply Kd.R_drewN | apply Kd.R_drew)); exact HO176.out) (Kd.R_base ho0) hb); have n4_ := Aside0.mk (Kd.R_elder' (by (with_reducible repeat (first | apply Kd.R_alloc | apply Kd.R_drewN | apply Kd.R_drew)); exact HO179.out) (Kd.R_base ho0) hb); have n5_ := Aside0.mk (Kd.R_below (by (with_reducible repeat (first | apply Kd.R_alloc | apply Kd.R_drewN | apply Kd.R_drew)); exact HO183.out) hb); have n6_ := Aside0.mk (Kd.R_lower (Kd.R_new' (Kd.R_new' ho0 (Kd.R_lt (by (with_reducible repeat (first | apply Kd.R_alloc | apply Kd.R_drewN | apply Kd.R_drew)); exact HO176.out))) (Kd.R_lt (by (with_reducible repeat (first | apply Kd.R_alloc | apply Kd.R_drewN | apply Kd.R_drew)); exact HO179.out))) (below_size (by repeat (first | (with_reducible first | exact HB.out | apply below_alloc | apply pw_below_drewN | apply below_drew1 | refine below_set ?_ GE150.out) | exact HB.out)))); have n7_ := Aside0.mk (blk_below (g := gb150) (o := .cells #[.int .u64 a1_0, .int .u64 a1_1] 34 (0, 0)) (by (with_reducible repeat (first | refine blk_drewN ?_ _ | refine blk_drew ?_ | refine blk_alloc ?_ _)); exact BK150.out) hb); have n8_ := Aside0.mk (below_step (by repeat (first | (with_reducible first | exact HB.out | apply below_alloc | apply pw_below_drewN | apply below_drew1 | refine below_set ?_ GE150.out) | exact HB.out)) hb); clear HO_6; clear HO_7; clear HO173; clear HO176; clear HO179; clear HO183; clear BK150; clear HB; have HO_6 := n0_; have HO_7 := n1_; have HO173 := n2_; have HO176 := n3_; have HO179 := n4_; have HO183 := n5_; have HO186 := n6_; have BK150 := n7_; have HB := n8_; clear n0_ n1_ n2_ n3_ n4_ n5_ n6_ n7_ n8_; (try clear hb); (try clear hb2); (try clear hk); (try clear hi); (try clear ho0)) | (go_at_call 13; (with_reducible refine (dominolaw03_its.calls kj24 _ _ t164 t187 _ ?side1 ?side2 A75.out).mono ?_); (case side1 => repeat (first | exact (Kd.R_reads' HO_7.out).2.2 | (with_reducible refine Kd.C_alloc ?_ _) | (with_reducible refine Kd.C_drewN ?_ _) | (with_reducible refine Kd.C_drew ?_))); (case side2 => exact (Kd.R_reads' HO_7.out).2.1); rintro e w97 ⟨v188, rfl, ho0, hb⟩; have n0_ := Aside0.mk (Kd.R_below (by (with_reducible repeat (first | apply Kd.R_alloc | apply Kd.R_drewN | apply Kd.R_drew)); exact HO_6.out) hb); have n1_ := Aside0.mk (Kd.R_below (by (with_reducible repeat (first | apply Kd.R_alloc | apply Kd.R_drewN | apply Kd.R_drew)); exact HO_7.out) hb); have n2_ := Aside0.mk (Kd.R_below (by (with_reducible repeat (first | apply Kd.R_alloc | apply Kd.R_drewN | apply Kd.R_drew)); exact HO173.out) hb); have n3_ := Aside0.mk (Kd.R_elder' (by (with_reducible repeat (first | apply Kd.R_alloc | apply Kd.R_drewN | apply Kd.R_drew)); exact HO176.out) (Kd.R_base ho0) hb); have n4_ := Aside0.mk (Kd.R_elder' (by (with_reducible repeat (first | apply Kd.R_alloc | apply Kd.R_drewN | apply Kd.R_drew)); exact HO179.out) (Kd.R_base ho0) hb); have n5_ := Aside0.mk (Kd.R_below (by (with_reducible repeat (first | apply Kd.R_alloc | apply Kd.R_drewN | apply Kd.R_drew)); exact HO183.out) hb); have n6_ := Aside0.mk (Kd.R_elder' (by (with_reducible repeat (first | apply Kd.R_alloc | apply Kd.R_drewN | apply Kd.R_drew)); exact HO186.out) (Kd.R_base ho0) hb); have n7_ := Aside0.mk (Kd.R_lower (Kd.R_new' (Kd.R_new' (Kd.R_new' ho0 (Kd.R_lt (by (with_reducible repeat (first | apply Kd.R_alloc | apply Kd.R_drewN | apply Kd.R_drew)); exact HO176.out))) (Kd.R_lt (by (with_reducible repeat (first | apply Kd.R_alloc | apply Kd.R_drewN | apply Kd.R_drew)); exact HO179.out))) (Kd.R_lt (by (with_reducible repeat (first | apply Kd.R_alloc | apply Kd.R_drewN | apply Kd.R_drew)); exact HO186.out))) (below_size (by repeat (first | (with_reducible first | exact HB.out | apply below_alloc | apply pw_below_drewN | apply below_drew1 | refine below_set ?_ GE150.out) | exact HB.out)))); have n8_ := Aside0.mk (blk_below (g := gb150) (o := .cells #[.int .u64 a1_0, .int .u64 a1_1] 34 (0, 0)) (by (with_reducible repeat (first | refine blk_drewN ?_ _ | refine blk_drew ?_ | refine blk_alloc ?_ _)); exact BK150.out) hb); have n9_ := Aside0.mk (below_step (by repeat (first | (with_reducible first | exact HB.out | apply below_alloc | apply pw_below_drewN | apply below_drew1 | refine below_set ?_ GE150.out) | exact HB.out)) hb); clear HO_6; clear HO_7; clear HO173; clear HO176; clear HO179; clear HO183; clear HO186; clear BK150; clear HB; have HO_6 := n0_; have HO_7 := n1_; have HO173 := n2_; have HO176 := n3_; have HO179 := n4_; have HO183 := n5_; have HO186 := n6_; have HO189 := n7_; have BK150 := n8_; have HB := n9_; clear n0_ n1_ n2_ n3_ n4_ n5_ n6_ n7_ n8_ n9_; (try clear hb); (try clear hb2); (try clear hk); (try clear hi); (try clear ho0); obtain ⟨Ao98, co98, eo98⟩ := Kd.R_slice HO186.out; subst eo98; obtain ⟨Ao99, co99, eo99⟩ := Kd.R_slice HO189.out; subst eo99) | (go_at_call 16; (with_reducible refine (dominoref03_Same.calls kj24 _ _ t184 _ _ t187 true _ ?side1 ?side2 ?side3 ?side4 A76.out).mono ?_); (case side1 => repeat (first | exact (Kd.R_reads' HO186.out).2.2 | (with_reducible refine Kd.C_alloc ?_ _) | (with_reducible refine Kd.C_drewN ?_ _) | (with_reducible refine Kd.C_drew ?_))); (case side2 => exact (Kd.R_reads' HO186.out).2.1); (case side3 => repeat (first | exact (Kd.R_reads' HO189.out).2.2 | (with_reducible refine Kd.C_alloc ?_ _) | (with_reducible refine Kd.C_drewN ?_ _) | (with_reducible refine Kd.C_drew ?_))); (case side4 => exact (Kd.R_reads' HO189.out).2.1); rintro e w' ⟨rfl, ⟨nd, rfl⟩⟩; have hcz100_0 : w97.cell? ⟨gb150, 0, none⟩ = some (.int .u64 a1_0) := (blk_cell BK150.out 0).trans rfl; have hcz100_1 : w97.cell? ⟨gb150, 1, none⟩ = some (.int .u64 a1_1) := (blk_cell BK150.out 1).trans rfl; have hfz100_0 := blk_frozen BK150.out 0; have hfz100_1 := blk_frozen BK150.out 1) | (go_at_call 18; (with_reducible refine (ranges_Cut.calls kj24 _ _ t161 a1_0 a1_1 t191 _ ?side1 ?side2 A78.out).mono ?_); (case side1 => repeat (first | exact (Kd.R_reads' HO_6.out).2.2 | (with_reducible refine Kd.C_alloc ?_ _) | (with_reducible refine Kd.C_drewN ?_ _) | (with_reducible refine Kd.C_drew ?_))); (case side2 => exact (Kd.R_reads' HO_6.out).2.1); rintro e w101 ⟨v192, rfl, ho0, hb⟩; have n0_ := Aside0.mk (Kd.R_elder' (by (with_reducible repeat (first | apply Kd.R_alloc | apply Kd.R_drewN | apply Kd.R_drew)); exact HO_6.out) (Kd.R_base ho0) hb); have n1_ := Aside0.mk (Kd.R_elder' (by (with_reducible repeat (first | apply Kd.R_alloc | apply Kd.R_drewN | apply Kd.R_drew)); exact HO_7.out) (Kd.R_base ho0) hb); have n2_ := Aside0.mk (Kd.R_elder' (by (with_reducible repeat (first | apply Kd.R_alloc | apply Kd.R_drewN | apply Kd.R_drew)); exact HO173.out) (Kd.R_base ho0) hb); have n3_ := Aside0.mk (Kd.R_below (by (with_reducible repeat (first | apply Kd.R_alloc | apply Kd.R_drewN | apply Kd.R_drew)); exact HO176.out) hb); have n4_ := Aside0.mk (Kd.R_below (by (with_reducible repeat (first | apply Kd.R_alloc | apply Kd.R_drewN | apply Kd.R_drew)); exact HO179.out) hb); have n5_ := Aside0.mk (Kd.R_elder' (by (with_reducible repeat (first | apply Kd.R_alloc | apply Kd.R_drewN | apply Kd.R_drew)); exact HO183.out) (Kd.R_base ho0) hb); have n6_ := Aside0.mk (Kd.R_below (by (with_reducible repeat (first | apply Kd.R_alloc | apply Kd.R_drewN | apply Kd.R_drew)); exact HO186.out) hb); have n7_ := Aside0.mk (Kd.R_below (by (with_reducible repeat (first | apply Kd.R_alloc | apply Kd.R_drewN | apply Kd.R_drew)); exact HO189.out) hb); have n8_ := Aside0.mk (Kd.R_lower (Kd.R_newB (Kd.R_new' (Kd.R_new' (Kd.R_new' (Kd.R_new' ho0 (Kd.R_lt (by (with_reducible repeat (first | apply Kd.R_alloc | apply Kd.R_drewN | apply Kd.R_drew)); exact HO_6.out))) (Kd.R_lt (by (with_reducible repeat (first | apply Kd.R_alloc | apply Kd.R_drewN | apply Kd.R_drew)); exact HO_7.out))) (Kd.R_lt (by (with_reducible repeat (first | apply Kd.R_alloc | apply Kd.R_drewN | apply Kd.R_drew)); exact HO173.out))) (Kd.R_lt (by (with_reducible repeat (first | apply Kd.R_alloc | apply Kd.R_drewN | apply Kd.R_drew)); exact HO183.out))) (g := gb150) (o := .cells #[.int .u64 a1_0, .int .u64 a1_1] 34 (0, 0)) (by (with_reducible repeat (first | refine blk_drewN ?_ _ | refine blk_drew ?_ | refine blk_alloc ?_ _)); exact BK150.out)) (below_size (by repeat (first | (with_reducible first | exact HB.out | apply below_alloc | apply pw_below_drewN | apply below_drew1 | refine below_set ?_ GE150.out) | exact HB.out)))); have n9_ := Aside0.mk (blk_below (g := gb150) (o := .cells #[.int .u64 a1_0, .int .u64 a1_1] 34 (0, 0)) (by (with_reducible repeat (first | refine blk_drewN ?_ _ | refine blk_drew ?_ | refine blk_alloc ?_ _)); exact BK150.out) hb); have n10_ := Aside0.mk (below_step (by repeat (first | (with_reducible first | exact HB.out | apply below_alloc | apply pw_below_drewN | apply below_drew1 | refine below_set ?_ GE150.out) | exact HB.out)) hb); clear HO_6; clear HO_7; clear HO173; clear HO176; clear HO179; clear HO183; clear HO186; clear HO189; clear BK150; clear HB; have HO_6 := n0_; have HO_7 := n1_; have HO173 := n2_; have HO176 := n3_; have HO179 := n4_; have HO183 := n5_; have HO186 := n6_; have HO189 := n7_; have HO193 := n8_; have BK150 := n9_; have HB := n10_; clear n0_ n1_ n2_ n3_ n4_ n5_ n6_ n7_ n8_ n9_ n10_; (try clear hb); (try clear hb2); (try clear hk); (try clear hi); (try clear ho0); obtain ⟨Ao102, co102, eo102⟩ := Kd.R_slice HO193.out; subst eo102) | (go_at_call 13; (with_reducible refine (dominolaw03_its.calls kj24 _ _ t191 t194 _ ?side1 ?side2 A79.out).mono ?_); (case side1 => repeat (first | exact (Kd.R_reads' HO193.out).2.2 | (with_reducible refine Kd.C_alloc ?_ _) | (with_reducible refine Kd.C_drewN ?_ _) | (with_reducible refine Kd.C_drew ?_))); (case side2 => exact (Kd.R_reads' HO193.out).2.1); rintro e w103 ⟨v195, rfl, ho0, hb⟩; have n0_ := Aside0.mk (Kd.R_below (by (with_reducible repeat (first | apply Kd.R_alloc | apply Kd.R_drewN | apply Kd.R_drew)); exact HO_6.out) hb); have n1_ := Aside0.mk (Kd.R_below (by (with_reducible repeat (first | apply Kd.R_alloc | apply Kd.R_drewN | apply Kd.R_drew)); exact HO_7.out) hb); have n2_ := Aside0.mk (Kd.R_below (by (with_reducible repeat (first | apply Kd.R_alloc | apply Kd.R_drewN | apply Kd.R_drew)); exact HO173.out) hb); have n3_ := Aside0.mk (Kd.R_elder' (by (with_reducible repeat (first | apply Kd.R_alloc | apply Kd.R_drewN | apply Kd.R_drew)); exact HO176.out) (Kd.R_base ho0) hb); have n4_ := Aside0.mk (Kd.R_elder' (by (with_reducible repeat (first | apply Kd.R_alloc | apply Kd.R_drewN | apply Kd.R_drew)); exact HO179.out) (Kd.R_base ho0) hb); have n5_ := Aside0.mk (Kd.R_below (by (with_reducible repeat (first | apply Kd.R_alloc | apply Kd.R_drewN | apply Kd.R_drew)); exact HO183.out) hb); have n6_ := Aside0.mk (Kd.R_elder' (by (with_reducible repeat (first | apply Kd.R_alloc | apply Kd.R_drewN | apply Kd.R_drew)); exact HO186.out) (Kd.R_base ho0) hb); have n7_ := Aside0.mk (Kd.R_elder' (by (with_reducible repeat (first | apply Kd.R_alloc | apply Kd.R_drewN | apply Kd.R_drew)); exact HO189.out) (Kd.R_base ho0) hb); have n8_ := Aside0.mk (Kd.R_below (by (with_reducible repeat (first | apply Kd.R_alloc | apply Kd.R_drewN | apply Kd.R_drew)); exact HO193.out) hb); have n9_ := Aside0.mk (Kd.R_lower (Kd.R_new' (Kd.R_new' (Kd.R_new' (Kd.R_new' ho0 (Kd.R_lt (by (with_reducible repeat (first | apply Kd.R_alloc | apply Kd.R_drewN | apply Kd.R_drew)); exact HO176.out))) (Kd.R_lt (by (with_reducible repeat (first | apply Kd.R_alloc | apply Kd.R_drewN | apply Kd.R_drew)); exact HO179.out))) (Kd.R_lt (by (with_reducible repeat (first | apply Kd.R_alloc | apply Kd.R_drewN | apply Kd.R_drew)); exact HO186.out))) (Kd.R_lt (by (with_reducible repeat (first | apply Kd.R_alloc | apply Kd.R_drewN | apply Kd.R_drew)); exact HO189.out))) (below_size (by repeat (first | (with_reducible first | exact HB.out | apply below_alloc | apply pw_below_drewN | apply below_drew1 | refine below_set ?_ GE150.out) | exact HB.out)))); have n10_ := Aside0.mk (blk_below (g := gb150) (o := .cells #[.int .u64 a1_0, .int .u64 a1_1] 34 (0, 0)) (by (with_reducible repeat (first | refine blk_drewN ?_ _ | refine blk_drew ?_ | refine blk_alloc ?_ _)); exact BK150.out) hb); have n11_ := Aside0.mk (below_step (by repeat (first | (with_reducible first | exact HB.out | apply below_alloc | apply pw_below_drewN | apply below_drew1 | refine below_set ?_ GE150.out) | exact HB.out)) hb); clear HO_6; clear HO_7; clear HO173; clear HO176; clear HO179; clear HO183; clear HO186; clear HO189; clear HO193; clear BK150; clear HB; have HO_6 := n0_; have HO_7 := n1_; have HO173 := n2_; have HO176 := n3_; have HO179 := n4_; have HO183 := n5_; have HO186 := n6_; have HO189 := n7_; have HO193 := n8_; have HO196 := n9_; have BK150 := n10_; have HB := n11_; clear n0_ n1_ n2_ n3_ n4_ n5_ n6_ n7_ n8_ n9_ n10_ n11_; (try clear hb); (try clear hb2); (try clear hk); (try clear hi); (try clear ho0)) | (go_at_call 13; (with_reducible refine (dominolaw03_its.calls kj24 _ _ t164 t197 _ ?side1 ?side2 A80.out).mono ?_); (case side1 => repeat (first | exact (Kd.R_reads' HO_7.out).2.2 | (with_reducible refine Kd.C_alloc ?_ _) | (with_reducible refine Kd.C_drewN ?_ _) | (with_reducible refine Kd.C_drew ?_))); (case side2 => exact (Kd.R_reads' HO_7.out).2.1); rintro e w104 ⟨v198, rfl, ho0, hb⟩; have n0_ := Aside0.mk (Kd.R_below (by (with_reducible repeat (first | apply Kd.R_alloc | apply Kd.R_drewN | apply Kd.R_drew)); exact HO_6.out) hb); have n1_ := Aside0.mk (Kd.R_below (by (with_reducible repeat (first | apply Kd.R_alloc | apply Kd.R_drewN | apply Kd.R_drew)); exact HO_7.out) hb); have n2_ := Aside0.mk (Kd.R_below (by (with_reducible repeat (first | apply Kd.R_alloc | apply Kd.R_drewN | apply Kd.R_drew)); exact HO173.out) hb); have n3_ := Aside0.mk (Kd.R_elder' (by (with_reducible repeat (first | apply Kd.R_alloc | apply Kd.R_drewN | apply Kd.R_drew)); exact HO176.out) (Kd.R_base ho0) hb); have n4_ := Aside0.mk (Kd.R_elder' (by (with_reducible repeat (first | apply Kd.R_alloc | apply Kd.R_drewN | apply Kd.R_drew)); exact HO179.out) (Kd.R_base ho0) hb); have n5_ := Aside0.mk (Kd.R_below (by (with_reducible repeat (first | apply Kd.R_alloc | apply Kd.R_drewN | apply Kd.R_drew)); exact HO183.out) hb); have n6_ := Aside0.mk (Kd.R_elder' (by (with_reducible repeat (first | apply Kd.R_alloc | apply Kd.R_drewN | apply Kd.R_drew)); exact HO186.out) (Kd.R_base ho0) hb); have n7_ := Aside0.mk (Kd.R_elder' (by (with_reducible repeat (first | apply Kd.R_alloc | apply Kd.R_drewN | apply Kd.R_drew)); exact HO189.out) (Kd.R_base ho0) hb); have n8_ := Aside0.mk (Kd.R_below (by (with_reducible repeat (first | apply Kd.R_alloc | apply Kd.R_drewN | apply Kd.R_drew)); exact HO193.out) hb); have n9_ := Aside0.mk (Kd.R_elder' (by (with_reducible repeat (first | apply Kd.R_alloc | apply Kd.R_drewN | apply Kd.R_drew)); exact HO196.out) (Kd.R_base ho0) hb); have n10_ := Aside0.mk (Kd.R_lower (Kd.R_new' (Kd.R_new' (Kd.R_new' (Kd.R_new' (Kd.R_new' ho0 (Kd.R_lt (by (with_reducible repeat (first | apply Kd.R_alloc | apply Kd.R_drewN | apply Kd.R_drew)); exact HO176.out))) (Kd.R_lt (by (with_reducible repeat (first | apply Kd.R_alloc | apply Kd.R_drewN | apply Kd.R_drew)); exact HO179.out))) (Kd.R_lt (by (with_reducible repeat (first | apply Kd.R_alloc | apply Kd.R_drewN | apply Kd.R_drew)); exact HO186.out))) (Kd.R_lt (by (with_reducible repeat (first | apply Kd.R_alloc | apply Kd.R_drewN | apply Kd.R_drew)); exact HO189.out))) (Kd.R_lt (by (with_reducible repeat (first | apply Kd.R_alloc | apply Kd.R_drewN | apply Kd.R_drew)); exact HO196.out))) (below_size (by repeat (first | (with_reducible first | exact HB.out | apply below_alloc | apply pw_below_drewN | apply below_drew1 | refine below_set ?_ GE150.out) | exact HB.out)))); have n11_ := Aside0.mk (blk_below (g := gb150) (o := .cells #[.int .u64 a1_0, .int .u64 a1_1] 34 (0, 0)) (by (with_reducible repeat (first | refine blk_drewN ?_ _ | refine blk_drew ?_ | refine blk_alloc ?_ _)); exact BK150.out) hb); have n12_ := Aside0.mk (below_step (by repeat (first | (with_reducible first | exact HB.out | apply below_alloc | apply pw_below_drewN | apply below_drew1 | refine below_set ?_ GE150.out) | exact HB.out)) hb); clear HO_6; clear HO_7; clear HO173; clear HO176; clear HO179; clear HO183; clear HO186; clear HO189; clear HO193; clear HO196; clear BK150; clear HB; have HO_6 := n0_; have HO_7 := n1_; have HO173 := n2_; have HO176 := n3_; have HO179 := n4_; have HO183 := n5_; have HO186 := n6_; have HO189 := n7_; have HO193 := n8_; have HO196 := n9_; have HO199 := n10_; have BK150 := n11_; have HB := n12_; clear n0_ n1_ n2_ n3_ n4_ n5_ n6_ n7_ n8_ n9_ n10_ n11_ n12_; (try clear hb); (try clear hb2); (try clear hk); (try clear hi); (try clear ho0); obtain ⟨Ao105, co105, eo105⟩ := Kd.R_slice HO196.out; subst eo105; obtain ⟨Ao106, co106, eo106⟩ := Kd.R_slice HO199.out; subst eo106) | (go_at_call 16; (with_reducible refine (dominoref03_Same.calls kj24 _ _ t194 _ _ t197 true _ ?side1 ?side2 ?side3 ?side4 A81.out).mono ?_); (case side1 => repeat (first | exact (Kd.R_reads' HO196.out).2.2 | (with_reducible refine Kd.C_alloc ?_ _) | (with_reducible refine Kd.C_drewN ?_ _) | (with_reducible refine Kd.C_drew ?_))); (case side2 => exact (Kd.R_reads' HO196.out).2.1); (case side3 => repeat (first | exact (Kd.R_reads' HO199.out).2.2 | (with_reducible refine Kd.C_alloc ?_ _) | (with_reducible refine Kd.C_drewN ?_ _) | (with_reducible refine Kd.C_drew ?_))); (case side4 => exact (Kd.R_reads' HO199.out).2.1); rintro e w' ⟨rfl, ⟨nd, rfl⟩⟩; have hcz107_0 : w104.cell? ⟨gb150, 0, none⟩ = some (.int .u64 a1_0) := (blk_cell BK150.out 0).trans rfl; have hcz107_1 : w104.cell? ⟨gb150, 1, none⟩ = some (.int .u64 a1_1) := (blk_cell BK150.out 1).trans rfl; have hfz107_0 := blk_frozen BK150.out 0; have hfz107_1 := blk_frozen BK150.out 1) | (go_at_call 20; (with_reducible refine (ranges_Gaps.calls kj24 _ _ t161 a1_0 a1_1 t201 _ ?side1 ?side2 A83.out).mono ?_); (case side1 => repeat (first | exact (Kd.R_reads' HO_6.out).2.2 | (with_reducible refine Kd.C_alloc ?_ _) | (with_reducible refine Kd.C_drewN ?_ _) | (with_reducible refine Kd.C_drew ?_))); (case side2 => exact (Kd.R_reads' HO_6.out).2.1); rintro e w108 ⟨v202, rfl, ho0, hb⟩; have n0_ := Aside0.mk (Kd.R_elder' (by (with_reducible repeat (first | apply Kd.R_alloc | apply Kd.R_drewN | apply Kd.R_drew)); exact HO_6.out) (Kd.R_base ho0) hb); have n1_ := Aside0.mk (Kd.R_elder' (by (with_reducible repeat (first | apply Kd.R_alloc | apply Kd.R_drewN | apply Kd.R_drew)); exact HO_7.out) (Kd.R_base ho0) hb); have n2_ := Aside0.mk (Kd.R_elder' (by (with_reducible repeat (first | apply Kd.R_alloc | apply Kd.R_drewN | apply Kd.R_drew)); exact HO173.out) (Kd.R_base ho0) hb); have n3_ := Aside0.mk (Kd.R_below (by (with_reducible repeat (first | apply Kd.R_alloc | apply Kd.R_drewN | apply Kd.R_drew)); exact HO176.out) hb); have n4_ := Aside0.mk (Kd.R_below (by (with_reducible repeat (first | apply Kd.R_alloc | apply Kd.R_drewN | apply Kd.R_drew)); exact HO179.out) hb); have n5_ := Aside0.mk (Kd.R_elder' (by (with_reducible repeat (first | apply Kd.R_alloc | apply Kd.R_drewN | apply Kd.R_drew)); exact HO183.out) (Kd.R_base ho0) hb); have n6_ := Aside0.mk (Kd.R_below (by (with_reducible repeat (first | apply Kd.R_alloc | apply Kd.R_drewN | apply Kd.R_drew)); exact HO186.out) hb); have n7_ := Aside0.mk (Kd.R_below (by (with_reducible repeat (first | apply Kd.R_alloc | apply Kd.R_drewN | apply Kd.R_drew)); exact HO189.out) hb); have n8_ := Aside0.mk (Kd.R_elder' (by (with_reducible repeat (first | apply Kd.R_alloc | apply Kd.R_drewN | apply Kd.R_drew)); exact HO193.out) (Kd.R_base ho0) hb); have n9_ := Aside0.mk (Kd.R_below (by (with_reducible repeat (first | apply Kd.R_alloc | apply Kd.R_drewN | apply Kd.R_drew)); exact HO196.out) hb); have n10_ := Aside0.mk (Kd.R_below (by (with_reducible repeat (first | apply Kd.R_alloc | apply Kd.R_drewN | apply Kd.R_drew)); exact HO199.out) hb); have n11_ := Aside0.mk (Kd.R_lower (Kd.R_newB (Kd.R_new' (Kd.R_new' (Kd.R_new' (Kd.R_new' (Kd.R_new' ho0 (Kd.R_lt (by (with_reducible repeat (first | apply Kd.R_alloc | apply Kd.R_drewN | apply Kd.R_drew)); exact HO_6.out))) (Kd.R_lt (by (with_reducible repeat (first | apply Kd.R_alloc | apply Kd.R_drewN | apply Kd.R_drew)); exact HO_7.out))) (Kd.R_lt (by (with_reducible repeat (first | apply Kd.R_alloc | apply Kd.R_drewN | apply Kd.R_drew)); exact HO173.out))) (Kd.R_lt (by (with_reducible repeat (first | apply Kd.R_alloc | apply Kd.R_drewN | apply Kd.R_drew)); exact HO183.out))) (Kd.R_lt (by (with_reducible repeat (first | apply Kd.R_alloc | apply Kd.R_drewN | apply Kd.R_drew)); exact HO193.out))) (g := gb150) (o := .cells #[.int .u64 a1_0, .int .u64 a1_1] 34 (0, 0)) (by (with_reducible repeat (first | refine blk_drewN ?_ _ | refine blk_drew ?_ | refine blk_alloc ?_ _)); exact BK150.out)) (below_size (by repeat (first | (with_reducible first | exact HB.out | apply below_alloc | apply pw_below_drewN | apply below_drew1 | refine below_set ?_ GE150.out) | exact HB.out)))); have n12_ := Aside0.mk (blk_below (g := gb150) (o := .cells #[.int .u64 a1_0, .int .u64 a1_1] 34 (0, 0)) (by (with_reducible repeat (first | refine blk_drewN ?_ _ | refine blk_drew ?_ | refine blk_alloc ?_ _)); exact BK150.out) hb); have n13_ := Aside0.mk (below_step (by repeat (first | (with_reducible first | exact HB.out | apply below_alloc | apply pw_below_drewN | apply below_drew1 | refine below_set ?_ GE150.out) | exact HB.out)) hb); clear HO_6; clear HO_7; clear HO173; clear HO176; clear HO179; clear HO183; clear HO186; clear HO189; clear HO193; clear HO196; clear HO199; clear BK150; clear HB; have HO_6 := n0_; have HO_7 := n1_; have HO173 := n2_; have HO176 := n3_; have HO179 := n4_; have HO183 := n5_; have HO186 := n6_; have HO189 := n7_; have HO193 := n8_; have HO196 := n9_; have HO199 := n10_; have HO203 := n11_; have BK150 := n12_; have HB := n13_; clear n0_ n1_ n2_ n3_ n4_ n5_ n6_ n7_ n8_ n9_ n10_ n11_ n12_ n13_; (try clear hb); (try clear hb2); (try clear hk); (try clear hi); (try clear ho0); obtain ⟨Ao109, co109, eo109⟩ := Kd.R_slice HO203.out; subst eo109))
          go_ret
          exact ⟨by first | rfl | (simp [errW_none, errW_some] <;> rfl) | (simp [*, errW_none, errW_some] <;> rfl), by repeat (first | (with_reducible first | exact HB.out | apply below_alloc | apply pw_below_drewN | apply below_drew1 | refine below_set ?_ GE150.out) | exact HB.out)⟩
         ·replace c82 := Bool.eq_false_iff.mpr c82
          subst c82
          have H1 : (none) = some r := by rw [if_neg (show ¬ (false = true) by decide)] at H; exact H
          clear H
          have H := H1
          clear H1
          exact absurd H (by simp)
        ·replace c77 := Bool.eq_false_iff.mpr c77
         subst c77
         have H1 : (none) = some r := by rw [if_neg (show ¬ (false = true) by decide)] at H; exact H
         clear H
         have H := H1
         clear H1
         exact absurd H (by simp)
       ·replace c72 := Bool.eq_false_iff.mpr c72
        subst c72
        have H1 : (none) = some r := by rw [if_neg (show ¬ (false = true) by decide)] at H; exact H
        clear H
        have H := H1
        clear H1
        exact absurd H (by simp)

/-- THE ONE PURE STATEMENT of dominolaw03_RangesAgain: yours. -/
def dominolaw03_RangesAgain.Pure : Prop := ∀ (l0 : List (S34)) (a1_0 : Int) (a1_1 : Int), l0.length ≤ maxLen → l0.length * 16 ≤ 140737488351232 → (∀ x ∈ l0, ((Lit.int .u64 x.f0).wf = true ∧ (Lit.int .u64 x.f1).wf = true)) → (Lit.int .u64 a1_0).wf = true → (Lit.int .u64 a1_1).wf = true → ∃ k, dominolaw03_RangesAgain.f k l0 a1_0 a1_1 = some true
theorem dominolaw03_RangesAgain.walk (P : dominolaw03_RangesAgain.Pure) (a0 : Option Addr) (cap0 : Nat) (l0 : List (S34)) (a1_0 : Int) (a1_1 : Int) (w : World) (hr0 : Kd.C k34 w a0 l0.length l0) (hc0 : l0.length ≤ cap0) (w0_0 : l0.length ≤ maxLen) (w0_1 : l0.length * 16 ≤ 140737488351232) (w0_2 : (∀ x ∈ l0, ((Lit.int .u64 x.f0).wf = true ∧ (Lit.int .u64 x.f1).wf = true))) (w1_0 : (Lit.int .u64 a1_0).wf = true) (w1_1 : (Lit.int .u64 a1_1).wf = true) :
  Calls Try.prog 5 #[.slice a0 l0.length cap0, .agg #[.int .u64 a1_0, .int .u64 a1_1]] w fun e w' => e = .returned (.bool true) ∧ Below w.heap.size w w' := by
 obtain ⟨k, h⟩ := P l0 a1_0 a1_1 w0_0 w0_1 w0_2 w1_0 w1_1
 refine (dominolaw03_RangesAgain.calls k a0 cap0 l0 a1_0 a1_1 true w hr0 hc0 h).mono ?_
 rintro e w' ⟨rfl, hd⟩
 exact ⟨rfl, hd⟩

/-! ### ranges_Meet: function 21 -/
def ranges_Meet.f (k : Nat) (l0 l1 : List S34) : Option (List S34) := (ranges_edges.f k l0 1).bind fun e1 => (ranges_edges.f k l1 1).bind fun e2 => if e1.length + e2.length ≤ 549755813888 then some (sweepF (wantIs 2) (e1 ++ e2)) else none
theorem ranges_Meet.mono : ∀ l0 l1 k, LeO (ranges_Meet.f k l0 l1) (ranges_Meet.f (k + 1) l0 l1) := fun l0 l1 k => LeO.bind (ranges_edges.mono l0 1 k) fun _ => LeO.bind (ranges_edges.mono l1 1 k) fun _ => LeO.refl _
set_option maxHeartbeats 400000 in
theorem ranges_Meet_w (x : Int) (W : World) : Calls Try.prog 39 #[.int .i64 x] W fun e w' => e = .returned (.bool ((wantIs 2) x)) ∧ w' = W := by
 obtain ⟨b, hb⟩ : ∃ b, (wantIs 2) x = b := ⟨_, rfl⟩
 rw [hb]
 have hb2 : (x == 2) = b := hb
 clear hb
 go_enter Try.func39, Try.ntmps39
 go_wp2
 go_ret
 exact ⟨by first | rfl | rw [hb2] | simp [hb2], rfl⟩
theorem ranges_Meet_e : ∀ args w, (callFunc 39 args).run Try.prog w = .ok (.enter 39 args) w := enters_of Try.func39 (by kernel_rfl) rfl
set_option maxHeartbeats 2000000 in
set_option maxRecDepth 100000 in
theorem ranges_Meet.calls (k : Nat) (A0 : Option Addr) (c0 : Nat) (l0 : List S34) (A1 : Option Addr) (c1 : Nat) (l1 : List S34) (r : List S34) (w : World) (hr0 : Kd.C k34 w A0 l0.length l0) (hc0 : l0.length ≤ c0) (hr1 : Kd.C k34 w A1 l1.length l1) (hc1 : l1.length ≤ c1) (h : ranges_Meet.f k l0 l1 = some r) :
  Calls Try.prog 21 #[.slice A0 l0.length c0, .slice A1 l1.length c1] w fun e w' => ∃ v0_ : Value, e = .returned (v0_) ∧ Kd.R k34 34 w' w.heap.size (fun _ => True) v0_ r ∧ Below w.heap.size w w' := by
 obtain ⟨e1, h1, h2⟩ := Option.bind_eq_some_iff.1 h
 obtain ⟨e2, h4, h3⟩ := Option.bind_eq_some_iff.1 h2
 by_cases c : e1.length + e2.length ≤ 549755813888
 ·rw [if_pos c] at h3
  obtain rfl := Option.some.inj h3
  have H1 := Aside0.mk h1
  have H2 := Aside0.mk h4
  have HR := Aside0.mk hr0
  have HC := Aside0.mk hc0
  have HR1 := Aside0.mk hr1
  have HC1 := Aside0.mk hc1
  clear h h1 h2 h4 h3 hr0 hc0 hr1 hc1
  go_enter Try.func21, Try.ntmps21
  go_wp2_with fail
  refine (ranges_edges.calls k A0 c0 l0 1 e1 _ HR.out HC.out H1.out).mono ?_
  rintro e w1 ⟨v, rfl, ho, hb⟩
  obtain ⟨B1, d1, rfl, hl1, hC1⟩ := Kd.R_reads ho
  have HC2 := Aside0.mk hC1
  have HB := Aside0.mk hb
  clear ho hb hC1 hl1
  go_wp2_with fail
  refine (ranges_edges.calls k A1 c1 l1 1 e2 _ (Kd.C_below HR1.out HB.out) HC1.out H2.out).mono ?_
  rintro e w2 ⟨v, rfl, ho, hb⟩
  obtain ⟨B2, d2, rfl, hl2, hC3⟩ := Kd.R_reads ho
  have hb2 : Below w2.heap.size w2 (w2.alloc (.cells #[.slice B1 e1.length d1, .slice B2 e2.length d2] 52)) := below_alloc (Below.refl _ _) _
  have HS := Aside0.mk (swept2 39 (wantIs 2) ranges_Meet_e ranges_Meet_w w2.heap.size B1 B2 d1 d2 e1 e2 (w2.alloc (.cells #[.slice B1 e1.length d1, .slice B2 e2.length d2] 52)) ((blk_cell (heap_alloc_new w2 _) 0).trans rfl) ((blk_cell (heap_alloc_new w2 _) 1).trans rfl) (Kd.C_below (Kd.C_below HC2.out hb) hb2) (Kd.C_below hC3 hb2) c)
  have HB2 := Aside0.mk (below_alloc (below_step HB.out hb) (.cells #[.slice B1 e1.length d1, .slice B2 e2.length d2] 52))
  clear ho hb hC3 hl2 hb2
  go_wp2_with fail
  refine HS.out.mono ?_
  rintro e w3 ⟨v, rfl, ho, hb⟩
  go_wp2
  go_ret
  exact ⟨_, rfl, Kd.R_lower ho HB2.out.size, below_step HB2.out hb⟩
 ·rw [if_neg c] at h3
  exact absurd h3 (by simp)

end Go.Proofs.Ytpjohlcidmnikaa.PRgx
