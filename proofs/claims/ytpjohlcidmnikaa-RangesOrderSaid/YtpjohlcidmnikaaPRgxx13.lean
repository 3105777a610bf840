-- printed for this claim by a program of the claim (wip/tools/pp.py over the kit's print)
import Derived.Test.YtpjohlcidmnikaaPRgxx0
import Derived.Test.YtpjohlcidmnikaaPRgxx3
import Derived.Test.YtpjohlcidmnikaaPRgxx4
import Derived.Test.YtpjohlcidmnikaaPRgxx5
namespace Go.Proofs.Ytpjohlcidmnikaa.PRgx
open Go.RowKit Go.Proofs.YtpjohlcidmnikaaW.PrintWords Go.Proofs.YtpjohlcidmnikaaW.PrintLast Go.Proofs.YtpjohlcidmnikaaW.PrintMore
attribute [local go_sem] max2_int min2_int max_two min_two max_three min_three max_four min_four   -- for this text's walks alone
set_option linter.unusedVariables false
set_option linter.unusedSimpArgs false

attribute [local go_sem] isSome_setCell_
/-! ### dominolaw03_RangesOrder: function 4 -/
mutual
def dominolaw03_RangesOrder.j0 : Nat → List (S34) → List Int → Bool → Option (Bool)
 | 0, _, _, _ => none
 | k + 1, x0, x1, x15 => if x15 = true then ((dominolaw03_shown.f k).bind fun t140 => (some t140)) else ((some (([] : List (S34)) : List (S34))).bind fun y141 => (if y141.length + x0.length < 8796093022208 then (dominolaw03_RangesOrder.l0 k x0 x1 (y141 ++ x0) 0) else (none)))
def dominolaw03_RangesOrder.j2 : Nat → List (S34) → List (S34) → Option (Bool)
 | 0, _, _ => none
 | k + 1, x0, x5 => (ranges_Of.f k x0).bind fun t152 => ((dominolaw03_its.f k t152).bind fun t155 => (if x5.length + x0.length < 8796093022208 then ((ranges_Of.f k (x5 ++ x0)).bind fun t161 => ((dominolaw03_its.f k t161).bind fun t164 => ((dominoref03_Same.f k t155 t164).bind fun t167 => (if t167 = true then ((dominolaw03_its.f k t152).bind fun t168 => ((ranges_Of.f k t152).bind fun t171 => ((dominolaw03_its.f k t171).bind fun t174 => ((dominoref03_Same.f k t168 t174).bind fun t177 => (some t177))))) else (none))))) else (none)))
def dominolaw03_RangesOrder.l0 : Nat → List (S34) → List Int → List (S34) → Int → Option (Bool)
 | 0, _, _, _, _ => none
 | k + 1, x0, x1, x5, x6 => if x6 < (x5.length : Int) then (if x6 < (x1.length : Int) then (if 0 ≤ x6 then (if (x5.length : Int) = 0 then (none) else (if 0 ≤ (Int.tmod (wrap64 (rd x1 x6)) (x5.length : Int)) then (if (Int.tmod (wrap64 (rd x1 x6)) (x5.length : Int)) < (x5.length : Int) then (dominolaw03_RangesOrder.l0 k x0 x1 ((x5.set (x6 : Int).toNat (⟨(rd_T34 x5 (Int.tmod (wrap64 (rd x1 x6)) (x5.length : Int))).f0, (rd_T34 x5 (Int.tmod (wrap64 (rd x1 x6)) (x5.length : Int))).f1⟩ : S34)).set ((Int.tmod (wrap64 (rd x1 x6)) (x5.length : Int)) : Int).toNat (⟨(rd_T34 x5 x6).f0, (rd_T34 x5 x6).f1⟩ : S34)) (wrap64 (x6 + 1))) else (none)) else (none))) else (none)) else (dominolaw03_RangesOrder.j2 k x0 x5)) else (dominolaw03_RangesOrder.j2 k x0 x5)
end
def dominolaw03_RangesOrder.f (k : Nat) (l0 : List (S34)) (l1 : List Int) : Option (Bool) := (dominolaw03_low.f k l0).bind fun t138 => (if t138 = true then ((dominolaw03_shown.f k).bind fun t139 => (dominolaw03_RangesOrder.j0 k l0 l1 (!t139))) else (dominolaw03_RangesOrder.j0 k l0 l1 true))
theorem dominolaw03_RangesOrder.mono_l : ∀ k, (∀ y0 y1 y2, LeO (dominolaw03_RangesOrder.j0 k y0 y1 y2) (dominolaw03_RangesOrder.j0 (k + 1) y0 y1 y2)) ∧ (∀ y0 y1, LeO (dominolaw03_RangesOrder.j2 k y0 y1) (dominolaw03_RangesOrder.j2 (k + 1) y0 y1)) ∧ (∀ y0 y1 y2 y3, LeO (dominolaw03_RangesOrder.l0 k y0 y1 y2 y3) (dominolaw03_RangesOrder.l0 (k + 1) y0 y1 y2 y3))
 | 0 => ⟨fun _ _ _ r h => by simp [dominolaw03_RangesOrder.j0] at h, fun _ _ r h => by simp [dominolaw03_RangesOrder.j2] at h, fun _ _ _ _ r h => by simp [dominolaw03_RangesOrder.l0] at h⟩
 | k + 1 => by
  obtain ⟨ih0, ih1, ih2⟩ := dominolaw03_RangesOrder.mono_l k
  refine ⟨?_, ?_, ?_⟩
  ·intro y0 y1 y2
   unfold dominolaw03_RangesOrder.j0
   repeat' first
   | (with_reducible exact ih0 _ _ _)
   | (with_reducible exact ih1 _ _)
   | (with_reducible exact ih2 _ _ _ _)
   | (with_reducible exact dominolaw03_its.mono _ _)
   | (with_reducible exact dominolaw03_low.mono _ _)
   | (with_reducible exact dominolaw03_shown.mono _)
   | (with_reducible exact dominoref03_Same.mono _ _ _)
   | (with_reducible exact ranges_Of.mono _ _)
   | (with_reducible exact LeO.refl _)
   | (with_reducible exact LeO.none _)
   | (with_reducible refine LeO.ite ?_ ?_)
   | (with_reducible refine LeO.bind ?_ (fun _ => ?_))
   | exact ih0 _ _ _
   | exact ih1 _ _
   | exact ih2 _ _ _ _
   | exact dominolaw03_its.mono _ _
   | exact dominolaw03_low.mono _ _
   | exact dominolaw03_shown.mono _
   | exact dominoref03_Same.mono _ _ _
   | exact ranges_Of.mono _ _
   | exact LeO.none _
   | refine LeO.ite ?_ ?_
   | refine LeO.bind ?_ (fun _ => ?_)
  ·intro y0 y1
   unfold dominolaw03_RangesOrder.j2
   repeat' first
   | (with_reducible exact ih0 _ _ _)
   | (with_reducible exact ih1 _ _)
   | (with_reducible exact ih2 _ _ _ _)
   | (with_reducible exact dominolaw03_its.mono _ _)
   | (with_reducible exact dominolaw03_low.mono _ _)
   | (with_reducible exact dominolaw03_shown.mono _)
   | (with_reducible exact dominoref03_Same.mono _ _ _)
   | (with_reducible exact ranges_Of.mono _ _)
   | (with_reducible exact LeO.refl _)
   | (with_reducible exact LeO.none _)
   | (with_reducible refine LeO.ite ?_ ?_)
   | (with_reducible refine LeO.bind ?_ (fun _ => ?_))
   | exact ih0 _ _ _
   | exact ih1 _ _
   | exact ih2 _ _ _ _
   | exact dominolaw03_its.mono _ _
   | exact dominolaw03_low.mono _ _
   | exact dominolaw03_shown.mono _
   | exact dominoref03_Same.mono _ _ _
   | exact ranges_Of.mono _ _
   | exact LeO.none _
   | refine LeO.ite ?_ ?_
   | refine LeO.bind ?_ (fun _ => ?_)
  ·intro y0 y1 y2 y3
   unfold dominolaw03_RangesOrder.l0
   repeat' first
   | (with_reducible exact ih0 _ _ _)
   | (with_reducible exact ih1 _ _)
   | (with_reducible exact ih2 _ _ _ _)
   | (with_reducible exact dominolaw03_its.mono _ _)
   | (with_reducible exact dominolaw03_low.mono _ _)
   | (with_reducible exact dominolaw03_shown.mono _)
   | (with_reducible exact dominoref03_Same.mono _ _ _)
   | (with_reducible exact ranges_Of.mono _ _)
   | (with_reducible exact LeO.refl _)
   | (with_reducible exact LeO.none _)
   | (with_reducible refine LeO.ite ?_ ?_)
   | (with_reducible refine LeO.bind ?_ (fun _ => ?_))
   | exact ih0 _ _ _
   | exact ih1 _ _
   | exact ih2 _ _ _ _
   | exact dominolaw03_its.mono _ _
   | exact dominolaw03_low.mono _ _
   | exact dominolaw03_shown.mono _
   | exact dominoref03_Same.mono _ _ _
   | exact ranges_Of.mono _ _
   | exact LeO.none _
   | refine LeO.ite ?_ ?_
   | refine LeO.bind ?_ (fun _ => ?_)
theorem dominolaw03_RangesOrder.mono : ∀ a0 a1 k, LeO (dominolaw03_RangesOrder.f k a0 a1) (dominolaw03_RangesOrder.f (k + 1) a0 a1) := by
 intro a0 a1 k
 obtain ⟨ih0, ih1, ih2⟩ := dominolaw03_RangesOrder.mono_l k
 unfold dominolaw03_RangesOrder.f
 repeat' first
   | (with_reducible exact ih0 _ _ _)
   | (with_reducible exact ih1 _ _)
   | (with_reducible exact ih2 _ _ _ _)
   | (with_reducible exact dominolaw03_its.mono _ _)
   | (with_reducible exact dominolaw03_low.mono _ _)
   | (with_reducible exact dominolaw03_shown.mono _)
   | (with_reducible exact dominoref03_Same.mono _ _ _)
   | (with_reducible exact ranges_Of.mono _ _)
   | (with_reducible exact LeO.refl _)
   | (with_reducible exact LeO.none _)
   | (with_reducible refine LeO.ite ?_ ?_)
   | (with_reducible refine LeO.bind ?_ (fun _ => ?_))
   | exact ih0 _ _ _
   | exact ih1 _ _
   | exact ih2 _ _ _ _
   | exact dominolaw03_its.mono _ _
   | exact dominolaw03_low.mono _ _
   | exact dominolaw03_shown.mono _
   | exact dominoref03_Same.mono _ _ _
   | exact ranges_Of.mono _ _
   | exact LeO.none _
   | refine LeO.ite ?_ ?_
   | refine LeO.bind ?_ (fun _ => ?_)
def dominolaw03_RangesOrder.T8 : Bool × List (List Nat × List Nat) := (true, [([], []), ([], []), ([], []), ([], []), ([], []), ([], []), ([4, 5], [4, 5]), ([6], [6]), ([], []), ([], []), ([8, 9], [8, 9]), ([10], [10]), ([0, 1, 0, 1, 4, 5, 6, 7, 11], [0, 1]), ([12, 7, 0, 1, 4, 5, 6, 7, 11], [7, 12]), ([2, 3, 0, 1, 2, 3, 4, 5, 6, 7, 8, 9, 10, 11, 12, 13], [2, 3]), ([14, 11, 13, 0, 1, 2, 3, 4, 5, 6, 7, 8, 9, 10, 11, 12, 13], [11, 14])])
def dominolaw03_RangesOrder.B8 : List Nat := [0, 0, 0, 0, 0, 0, 48, 112, 0, 0, 768, 1792, 4083, 8179, 16383, 32767]
theorem dominolaw03_RangesOrder.tab8 : rtab .any (opsOf Try.f4 8) = dominolaw03_RangesOrder.T8 := by kernel_rfl
theorem dominolaw03_RangesOrder.bits8 : waitsOk dominolaw03_RangesOrder.T8.2 dominolaw03_RangesOrder.B8 = true := by kernel_rfl
set_option maxHeartbeats 8000000 in
set_option maxRecDepth 100000 in
theorem dominolaw03_RangesOrder.calls (k : Nat) (A0 : Option Addr) (c0 : Nat) (l0 : List (S34)) (A1 : Option Addr) (c1 : Nat) (l1 : List Int) (r : Bool) (w : World) (hr0 : Kd.C k34 w A0 l0.length l0) (hc0 : l0.length ≤ c0) (hr1 : Kd.C (Kd.int .u8) w A1 l1.length l1) (hc1 : l1.length ≤ c1) (h : dominolaw03_RangesOrder.f k l0 l1 = some r) :
  Calls Try.prog 4 #[.slice A0 l0.length c0, .slice A1 l1.length c1] w fun e w' => e = .returned (.bool r) ∧ Below w.heap.size w w' := by
 have hu34 := Try.underlying34
 have HR0 := Aside0.mk hr0
 have HC0 := Aside0.mk hc0
 clear hr0 hc0
 have HR1 := Aside0.mk hr1
 have HC1 := Aside0.mk hc1
 clear hr1 hc1
 have HB := Aside0.mk (Below.refl w.heap.size w)
 have H : ((dominolaw03_low.f k l0).bind fun t138 => (if t138 = true then ((dominolaw03_shown.f k).bind fun t139 => (dominolaw03_RangesOrder.j0 k l0 l1 (!t139))) else (dominolaw03_RangesOrder.j0 k l0 l1 true))) = some r := h
 clear h
 have HC3 := Aside0.mk H
 clear H
 go_enter Try.func4, Try.ntmps4
 go_upto_region 1 with (fail)
 go_cut [15] (fun v15 wc => ∃ (kq : Nat) (x15_2 : Bool), v15 = .bool x15_2 ∧ Aside0 (dominolaw03_RangesOrder.j0 kq l0 l1 x15_2 = some r) ∧ Aside0 (kq ≤ k) ∧ Aside0 (Below w.heap.size w wc))
 case first =>
  have H := HC3.out
  clear HC3
  replace H := Option.bind_eq_some_iff.mp H
  obtain ⟨t138, A40, H⟩ := H
  replace H : (if t138 = true then ((dominolaw03_shown.f k).bind fun t139 => (dominolaw03_RangesOrder.j0 k l0 l1 (!t139))) else (dominolaw03_RangesOrder.j0 k l0 l1 true)) = some r := H
  have A4 := Aside0.mk A40
  clear A40
  by_cases c5 : t138 = true
  ·subst c5
   have H1 : ((dominolaw03_shown.f k).bind fun t139 => (dominolaw03_RangesOrder.j0 k l0 l1 (!t139))) = some r := by rw [if_pos rfl] at H; exact H
   clear H
   have H := H1
   clear H1
   replace H := Option.bind_eq_some_iff.mp H
   obtain ⟨t139, A60, H⟩ := H
   replace H : (dominolaw03_RangesOrder.j0 k l0 l1 (!t139)) = some r := H
   have A6 := Aside0.mk A60
   clear A60
   have H' := Aside0.mk H
   clear H
   go_wp2_with (first | ((with_reducible refine gate_callee (f := 14) rfl ?_); refine goesL_ (some 10) rfl rfl Try.func14 (by kernel_rfl) rfl #[.slice A0 l0.length c0] rfl (by (try simp only [List.map_toArray, List.map_cons, List.map_nil]); first | done | rfl | (simp only [List.length_drop, List.length_take]; rfl)) ?_; (with_reducible refine (dominolaw03_low.calls k _ _ l0 true _ ?side1 ?side2 A4.out).mono ?_); (case side1 => repeat (first | exact (Kd.C_below HR0.out HB.out) | (with_reducible refine Kd.C_alloc ?_ _) | (with_reducible refine Kd.C_drewN ?_ _) | (with_reducible refine Kd.C_drew ?_))); (case side2 => exact HC0.out); rintro e w' ⟨rfl, ⟨nd, rfl⟩⟩; refine ⟨_, rfl, ?_⟩) | (go_at_call 10; (with_reducible refine (dominolaw03_shown.calls k  t139 _ A6.out).mono ?_); rintro e w7 ⟨rfl, hb⟩; have n0_ := Aside0.mk (below_step (by repeat (first | (with_reducible first | exact HB.out | apply below_alloc | apply pw_below_drewN | apply below_drew1) | exact HB.out)) hb); clear HB; have HB := n0_; clear n0_; (try clear hb); (try clear hb2); (try clear hk); (try clear hi)))
   go_meet
   case rel => exact ⟨_, (!t139), (by first | rfl | (simp; done) | (simp [*]; done)), H', ⟨by first | omega | exact Nat.le_refl _⟩, ⟨by repeat (first | (with_reducible first | exact HB.out | apply below_alloc | apply pw_below_drewN | apply below_drew1) | exact HB.out)⟩⟩
  ·replace c5 := Bool.eq_false_iff.mpr c5
   subst c5
   have H1 : (dominolaw03_RangesOrder.j0 k l0 l1 true) = some r := by rw [if_neg (show ¬ (false = true) by decide)] at H; exact H
   clear H
   have H := H1
   clear H1
   have H' := Aside0.mk H
   clear H
   go_wp2_with (first | ((with_reducible refine gate_callee (f := 14) rfl ?_); refine goesL_ (some 10) rfl rfl Try.func14 (by kernel_rfl) rfl #[.slice A0 l0.length c0] rfl (by (try simp only [List.map_toArray, List.map_cons, List.map_nil]); first | done | rfl | (simp only [List.length_drop, List.length_take]; rfl)) ?_; (with_reducible refine (dominolaw03_low.calls k _ _ l0 false _ ?side1 ?side2 A4.out).mono ?_); (case side1 => repeat (first | exact (Kd.C_below HR0.out HB.out) | (with_reducible refine Kd.C_alloc ?_ _) | (with_reducible refine Kd.C_drewN ?_ _) | (with_reducible refine Kd.C_drew ?_))); (case side2 => exact HC0.out); rintro e w' ⟨rfl, ⟨nd, rfl⟩⟩; refine ⟨_, rfl, ?_⟩))
   go_meet
   case rel => exact ⟨_, (true), (by first | rfl | (simp; done) | (simp [*]; done)), H', ⟨by first | omega | exact Nat.le_refl _⟩, ⟨by repeat (first | (with_reducible first | exact HB.out | apply below_alloc | apply pw_below_drewN | apply below_drew1) | exact HB.out)⟩⟩
 case rest =>
  clear HC3
  try clear c1
  try clear p2
  try clear c4
  try clear c5
  obtain ⟨kq, x15_2, rfl, HA, HJ2, HB⟩ := hcut
  cases kq with
  | zero => exact absurd HA.out (by simp [dominolaw03_RangesOrder.j0])
  | succ kj2 =>
   have H := HA.out
   clear HA
   simp only [dominolaw03_RangesOrder.j0] at H
   by_cases c8 : x15_2 = true
   ·subst c8
    have H1 : ((dominolaw03_shown.f kj2).bind fun t140 => (some t140)) = some r := by rw [if_pos rfl] at H; exact H
    clear H
    have H := H1
    clear H1
    replace H := Option.bind_eq_some_iff.mp H
    obtain ⟨t140, A90, H⟩ := H
    replace H : (some t140) = some r := H
    have A9 := Aside0.mk A90
    clear A90
    obtain rfl := Option.some.inj H
    go_wp2_with (first | ((with_reducible refine gate_callee (f := 10) rfl ?_); refine goesL_ (some 16) rfl rfl Try.func10 (by kernel_rfl) rfl #[] rfl (by (try simp only [List.map_toArray, List.map_cons, List.map_nil]); first | done | rfl | (simp only [List.length_drop, List.length_take]; rfl)) ?_; (with_reducible refine (dominolaw03_shown.calls kj2  t140 _ A9.out).mono ?_); rintro e w10 ⟨rfl, hb⟩; refine ⟨_, rfl, ?_⟩; have n0_ := Aside0.mk (below_step (by repeat (first | (with_reducible first | exact HB.out | apply below_alloc | apply pw_below_drewN | apply below_drew1) | exact HB.out)) hb); clear HB; have HB := n0_; clear n0_; (try clear hb); (try clear hb2); (try clear hk); (try clear hi)))
    go_ret
    exact ⟨by first | rfl | (simp [errW_none, errW_some] <;> rfl) | (simp [*, errW_none, errW_some] <;> rfl), by repeat (first | (with_reducible first | exact HB.out | apply below_alloc | apply pw_below_drewN | apply below_drew1) | exact HB.out)⟩
   ·replace c8 := Bool.eq_false_iff.mpr c8
    subst c8
    have H1 : ((some (([] : List (S34)) : List (S34))).bind fun y141 => (if y141.length + l0.length < 8796093022208 then (dominolaw03_RangesOrder.l0 kj2 l0 l1 (y141 ++ l0) 0) else (none))) = some r := by rw [if_neg (show ¬ (false = true) by decide)] at H; exact H
    clear H
    have H := H1
    clear H1
    obtain ⟨y141, hy141⟩ : ∃ y_ : List (S34), y_ = (([] : List (S34))) := ⟨_, rfl⟩
    replace H : (if y141.length + l0.length < 8796093022208 then (dominolaw03_RangesOrder.l0 kj2 l0 l1 (y141 ++ l0) 0) else (none)) = some r := by first | (rw [hy141]; with_reducible exact H) | (have H2_ := (Option.bind_some _ _).symm.trans H; rw [hy141]; with_reducible exact H2_) | (have H2_ := (Option.bind_some _ _).symm.trans H; with_reducible exact H2_) | with_reducible exact H | (rw [hy141]; exact H) | exact H
    have Ny141 := Aside0.mk hy141
    clear hy141
    by_cases c11 : y141.length + l0.length < 8796093022208
    ·rw [if_pos c11] at H
     have LMc11 := Aside0.mk c11
     clear c11
     obtain ⟨y144, hy144⟩ : ∃ y_ : List (S34), y_ = (y141 ++ l0) := ⟨_, rfl⟩
     replace H : (dominolaw03_RangesOrder.l0 kj2 l0 l1 y144 0) = some r := by first | (rw [hy144]; with_reducible exact H) | (have H2_ := (Option.bind_some _ _).symm.trans H; rw [hy144]; with_reducible exact H2_) | (have H2_ := (Option.bind_some _ _).symm.trans H; with_reducible exact H2_) | with_reducible exact H | (rw [hy144]; exact H) | exact H
     have Ny144 := Aside0.mk hy144
     clear hy144
     have HC12 := Aside0.mk H
     clear H
     go_upto_block 0 with (first | ((with_reducible refine gate_dst (N := 17) rfl ?_); (try (refine gate_guard (by rfl) ?_; dsimp only)); refine Kd.R_lit k34 _ 34 ?hg (N := 17) ?hd (xs := ([] : List (S34))) (inner := []) (ok := fun _ => True) (okp := fun _ => True) ?hr ?hp (fun _ hk => hk) trivial (Below.refl _ _) (Nat.le_refl _) (by simp) ?_; (case hd => rfl); (case hg => rfl); (case hr => first | (go_simp; done) | (go_simp; rfl)); (case hp => exact (Reps.none _ _)); intro v142 w13 ho14 hb hg_ hnew_; clear hg_ hnew_; (first | rw [← Ny141.out] at ho14 | (simp only [Int.reduceToNat] at ho14; rw [← Ny141.out] at ho14)); have n0_ := Aside0.mk (Kd.R_lower ho14 (below_size (by repeat (first | (with_reducible first | exact HB.out | apply below_alloc | apply pw_below_drewN | apply below_drew1) | exact HB.out)))); have n1_ := Aside0.mk (below_step (by repeat (first | (with_reducible first | exact HB.out | apply below_alloc | apply pw_below_drewN | apply below_drew1) | exact HB.out)) hb); clear HB; have HO143 := n0_; have HB := n1_; clear n0_ n1_; clear hb ho14) | ((with_reducible refine gate_builtin (b := .append) (xs := #[.tmp 17, .tmp 18]) rfl ?_); (try (refine gate_guard (by rfl) ?_; dsimp only)); at_builtin; refine Kd.R_append_rows k34 (w0 := w) w.heap.size rfl (.tmp 17) (.tmp 18) 22 34 (.agg #[(.int .u64 0), (.int .u64 0)]) 16 rfl Try.underlying22 info34 rfl (by decide) (by omega) v142 y141 l0 _ _ _ (fun _ => True) (fun _ => False) rfl rfl ?aO ?aR (fun _ _ h => h) (fun _ h => h.elim) ?aF ?aB ?aS ?aL ?_; (case aR => repeat (first | exact (Kd.C_below HR0.out HB.out) | (with_reducible refine Kd.C_alloc ?_ _) | (with_reducible refine Kd.C_drewN ?_ _) | (with_reducible refine Kd.C_drew ?_))); (case aB => exact (by repeat (first | (with_reducible first | exact HB.out | apply below_alloc | apply pw_below_drewN | apply below_drew1) | exact HB.out))); (case aF => exact (fun _ _ => trivial)); (case aO => exact (by (with_reducible repeat (first | apply Kd.R_alloc | apply Kd.R_drewN | apply Kd.R_drew)); exact HO143.out)); (case aS => exact (below_size (by repeat (first | (with_reducible first | exact HB.out | apply below_alloc | apply pw_below_drewN | apply below_drew1) | exact HB.out)))); (case aL => have := LMc11.out; omega); intro v145 w15 ho hb hg hat; rw [← Ny144.out] at ho; have n0_ := Aside0.mk (hb); have n1_ := Aside0.mk (ho); clear HB; clear HO143; have HB := n0_; have HO146 := n1_; clear n0_ n1_; clear ho hb hg hat))
     (try simp only [Act.put, List.setIfInBounds_toArray, List.set_cons_zero, List.set_cons_succ])
     go_cut [] (fun wc => ∃ (kq : Nat) (x5_11 : List (S34)), Aside0 (dominolaw03_RangesOrder.j2 kq l0 x5_11 = some r) ∧ Aside0 (kq ≤ kj2) ∧ Aside0 (Kd.R k34 34 wc w.heap.size (fun _ => True) v145 x5_11) ∧ Aside0 (Below w.heap.size w wc))
     case first =>
      have H := HC12.out
      clear HC12
      have H' := Aside0.mk H
      clear H
      go_wp2
      go_loopg [6] kj2 (fun kq v6 w' => ∃ (x5_2 : List (S34)) (x6_2 : Int), v6 = .int .i64 x6_2 ∧ Aside0 (dominolaw03_RangesOrder.l0 kq l0 l1 x5_2 x6_2 = some r) ∧ Aside0 (kq ≤ kj2) ∧ Aside0 (Kd.R k34 34 w' w.heap.size (fun _ => True) v145 x5_2) ∧ Aside0 (Below w.heap.size w w'))
      case atStart => exact ⟨(y144), (0), (by first | rfl | (simp; done) | (simp [*]; done)), H', ⟨Nat.le_refl _⟩, ⟨by (with_reducible repeat (first | apply Kd.R_alloc | apply Kd.R_drewN | apply Kd.R_drew)); exact HO146.out⟩, ⟨by repeat (first | (with_reducible first | exact HB.out | apply below_alloc | apply pw_below_drewN | apply below_drew1) | exact HB.out)⟩⟩
      case round =>
       clear H'
       try clear c1
       try clear p2
       try clear c4
       try clear c5
       try clear c8
       try clear c10
       try clear c11
       try clear c14
       try clear p2
       obtain ⟨x5_2, x6_2, rfl, HA, HK2, HO_5, HB⟩ := hrel
       cases gk with
       | zero => exact absurd HA.out (by simp [dominolaw03_RangesOrder.l0])
       | succ k2 =>
        have H := HA.out
        clear HA
        simp only [dominolaw03_RangesOrder.l0] at H
        by_cases c16 : x6_2 < (x5_2.length : Int)
        ·rw [if_pos c16] at H
         have c16b0 : decide (x6_2 < (x5_2.length : Int)) = true := decide_eq_true c16
         clear c16
         (first | rw [c16b0] | (simp only [i64_w, i32_w]; rw [c16b0]) | skip)
         by_cases c17 : x6_2 < (l1.length : Int)
         ·rw [if_pos c17] at H
          have c17b0 : decide (x6_2 < (l1.length : Int)) = true := decide_eq_true c17
          clear c17
          by_cases c18 : 0 ≤ x6_2
          ·rw [if_pos c18] at H
           have c18b0 : decide (0 ≤ x6_2) = true := decide_eq_true c18
           clear c18
           by_cases c19 : (x5_2.length : Int) = 0
           ·rw [if_pos c19] at H
            exact absurd H (by simp)
           ·rw [if_neg c19] at H
            have c19b0 : ((x5_2.length : Int) == 0) = false := beq_eq_false_iff_ne.mpr c19
            have c19b1 : ((x5_2.length : Int) != 0) = true := bne_iff_ne.mpr c19
            have c19b2 : ¬ (x5_2 = []) := fun h_ => c19 (by rw [h_]; rfl)
            obtain ⟨ji20, hji20⟩ : ∃ j_ : Int, (Int.tmod (wrap64 (rd l1 x6_2)) (x5_2.length : Int)) = j_ := ⟨_, rfl⟩
            replace H : (if 0 ≤ (ji20) then (if (ji20) < (x5_2.length : Int) then (dominolaw03_RangesOrder.l0 k2 l0 l1 ((x5_2.set (x6_2 : Int).toNat (⟨(rd_T34 x5_2 (ji20)).f0, (rd_T34 x5_2 (ji20)).f1⟩ : S34)).set ((ji20) : Int).toNat (⟨(rd_T34 x5_2 x6_2).f0, (rd_T34 x5_2 x6_2).f1⟩ : S34)) (wrap64 (x6_2 + 1))) else (none)) else (none)) = some r := by first | (rw [hji20] at H; exact H) | (simp only [hji20] at H ⊢; exact H)
            by_cases c21 : 0 ≤ (ji20)
            ·rw [if_pos c21] at H
             have c21b0 : decide (0 ≤ (ji20)) = true := decide_eq_true c21
             clear c21
             by_cases c22 : (ji20) < (x5_2.length : Int)
             ·rw [if_pos c22] at H
              have c22b0 : decide ((ji20) < (x5_2.length : Int)) = true := decide_eq_true c22
              clear c22
              obtain ⟨y150, hy150⟩ : ∃ y_ : List (S34), y_ = (x5_2.set (x6_2 : Int).toNat (⟨(rd_T34 x5_2 (ji20)).f0, (rd_T34 x5_2 (ji20)).f1⟩ : S34)) := ⟨_, rfl⟩
              replace H : (dominolaw03_RangesOrder.l0 k2 l0 l1 (y150.set ((ji20) : Int).toNat (⟨(rd_T34 x5_2 x6_2).f0, (rd_T34 x5_2 x6_2).f1⟩ : S34)) (wrap64 (x6_2 + 1))) = some r := by first | (rw [hy150]; with_reducible exact H) | (have H2_ := (Option.bind_some _ _).symm.trans H; rw [hy150]; with_reducible exact H2_) | (have H2_ := (Option.bind_some _ _).symm.trans H; with_reducible exact H2_) | with_reducible exact H | (rw [hy150]; exact H) | exact H
              have Ny150 := Aside0.mk hy150
              clear hy150
              obtain ⟨y151, hy151⟩ : ∃ y_ : List (S34), y_ = (y150.set ((ji20) : Int).toNat (⟨(rd_T34 x5_2 x6_2).f0, (rd_T34 x5_2 x6_2).f1⟩ : S34)) := ⟨_, rfl⟩
              replace H : (dominolaw03_RangesOrder.l0 k2 l0 l1 y151 (wrap64 (x6_2 + 1))) = some r := by first | (rw [hy151]; with_reducible exact H) | (have H2_ := (Option.bind_some _ _).symm.trans H; rw [hy151]; with_reducible exact H2_) | (have H2_ := (Option.bind_some _ _).symm.trans H; with_reducible exact H2_) | with_reducible exact H | (rw [hy151]; exact H) | exact H
              have Ny151 := Aside0.mk hy151
              clear hy151
              have H' := Aside0.mk H
              clear H
              obtain ⟨Ao25, co25, eo25⟩ := Kd.R_slice HO_5.out
              subst eo25
              have p147 : 0 ≤ (x6_2 : Int) := of_decide_eq_true (by first | (with_reducible assumption) | assumption)
              have q147 : x6_2 < (l1.length : Int) := of_decide_eq_true (by first | (with_reducible assumption) | assumption)
              obtain ⟨ad147, e147, hx147_0⟩ := Kd.at_int HR1.out x6_2 p147 q147
              cases e147
              replace hx147_0 := (HB.out.cell (World.block_lt_of_cell? w _ hx147_0)).trans hx147_0
              replace p147 := eq_true p147
              replace q147 := eq_true q147
              try go_wp2
              have n0_ := Aside0.mk (Kd.R_drew HO_5.out)
              have n1_ := Aside0.mk (below_drew1 HB.out)
              clear HO_5
              clear HB
              have HO_5 := n0_
              have HB := n1_
              clear n0_ n1_
              have p148 : 0 ≤ ((ji20) : Int) := of_decide_eq_true (by first | (with_reducible assumption) | assumption)
              have q148 : (ji20) < (x5_2.length : Int) := of_decide_eq_true (by first | (with_reducible assumption) | assumption)
              obtain ⟨ad148, e148, hx148_0, hx148_1⟩ := at_T34 (Kd.R_reads' HO_5.out).2.2 (ji20) p148 q148
              cases e148
              replace p148 := eq_true p148
              replace q148 := eq_true q148
              have p149 : 0 ≤ (x6_2 : Int) := of_decide_eq_true (by first | (with_reducible assumption) | assumption)
              have q149 : x6_2 < (x5_2.length : Int) := of_decide_eq_true (by first | (with_reducible assumption) | assumption)
              obtain ⟨ad149, e149, hx149_0, hx149_1⟩ := at_T34 (Kd.R_reads' HO_5.out).2.2 x6_2 p149 q149
              obtain rfl : ad148 = ad149 := (by injection e149)
              replace p149 := eq_true p149
              replace q149 := eq_true q149
              have p23 : 0 ≤ (x6_2 : Int) := of_decide_eq_true (by first | (with_reducible assumption) | assumption)
              have q23 : (x6_2 : Int) < ((x5_2.length : Int) : Int) := of_decide_eq_true (by first | (with_reducible assumption) | assumption)
              obtain ⟨go23, co23, eo23, gb23, gl23, cl23, HG23⟩ := Kd.R_form HO_5.out (by omega)
              (first | cases eo23 | (injection eo23 with ea_ en_ ec_; (first | subst ea_ | (injection ea_ with ea_; subst ea_)); subst ec_; clear en_))
              have GB23 := Aside0.mk gb23
              have GG23 := Aside0.mk HG23
              clear gb23 gl23 HG23
              (first | simp only [add_plain] at hx148_0 | skip)
              (first | simp only [add_plain] at hx148_1 | skip)
              (first | simp only [add_plain] at hx149_0 | skip)
              (first | simp only [add_plain] at hx149_1 | skip)
              obtain ⟨ce23, hcl23, hM23, hcc23, hfr23⟩ := Kd.R_elem HO_5.out z34 (x6_2 : Int) p23 q23
              obtain rfl := k34_openM hM23
              have hx23_0 : World.cell? _ ⟨go23, (x6_2 : Int).toNat * 2, none⟩ = some (.int .u64 ((rd_T34 x5_2 x6_2).f0)) := hcc23 0 _ rfl
              have hx23_1 : World.cell? _ ⟨go23, (x6_2 : Int).toNat * 2 + 1, none⟩ = some (.int .u64 ((rd_T34 x5_2 x6_2).f1)) := hcc23 1 _ rfl
              have hf23_0 : World.frozen? _ ⟨go23, (x6_2 : Int).toNat * 2, none⟩ = false := hfr23 0
              have hf23_1 : World.frozen? _ ⟨go23, (x6_2 : Int).toNat * 2 + 1, none⟩ = false := hfr23 1
              clear hcl23 hcc23 hfr23 hM23
              replace p23 := eq_true p23
              replace q23 := eq_true q23
              obtain ⟨ce27, hcl27, hM27, hcc27, hfr27⟩ := Kd.R_elem HO_5.out z34 (x6_2 : Int) (of_decide_eq_true (by first | (with_reducible assumption) | assumption)) (by have h_ : (x6_2 : Int) < ((x5_2.length : Int) : Int) := of_decide_eq_true (by first | (with_reducible assumption) | assumption); first | exact h_ | (have e_ := (Kd.R_reads' HO_5.out).1; omega) | simpa using h_)
              obtain rfl := k34_openM hM27
              have HP27 := (Kd.R_seg HO_5.out (x6_2 : Int) (of_decide_eq_true (by first | (with_reducible assumption) | assumption)) (by have h_ : (x6_2 : Int) < ((x5_2.length : Int) : Int) := of_decide_eq_true (by first | (with_reducible assumption) | assumption); first | exact h_ | (have e_ := (Kd.R_reads' HO_5.out).1; omega) | simpa using h_) (seg := [.int .u64 ((rd_T34 x5_2 (ji20)).f0), .int .u64 ((rd_T34 x5_2 (ji20)).f1)]) (j := 0) hcl27 hcc27 (show 2 ≤ 2 from by decide) (x' := (⟨(rd_T34 x5_2 (ji20)).f0, (rd_T34 x5_2 (ji20)).f1⟩ : S34)) (k34_mkM _ _ _ (⟨(rd_T34 x5_2 (ji20)).f0, (rd_T34 x5_2 (ji20)).f1⟩ : S34) ) (fun _ hk => hk)).1
              rw [← Ny150.out] at HP27
              have HQ27 := Aside0.mk HP27
              clear hcl27 hcc27 hfr27 hM27 HP27
              have p24 : 0 ≤ ((ji20) : Int) := of_decide_eq_true (by first | (with_reducible assumption) | assumption)
              have q24 : ((ji20) : Int) < ((x5_2.length : Int) : Int) := of_decide_eq_true (by first | (with_reducible assumption) | assumption)
              obtain ⟨ce24, hcl24, hM24, hcc24, hfr24⟩ := Kd.R_elem HQ27.out z34 ((ji20) : Int) p24 q24
              obtain rfl := k34_openM hM24
              have hx24_0 : World.cell? _ ⟨go23, ((ji20) : Int).toNat * 2, none⟩ = some (.int .u64 ((rd_T34 y150 (ji20)).f0)) := hcc24 0 _ rfl
              have hx24_1 : World.cell? _ ⟨go23, ((ji20) : Int).toNat * 2 + 1, none⟩ = some (.int .u64 ((rd_T34 y150 (ji20)).f1)) := hcc24 1 _ rfl
              have hf24_0 : World.frozen? _ ⟨go23, ((ji20) : Int).toNat * 2, none⟩ = false := hfr24 0
              have hf24_1 : World.frozen? _ ⟨go23, ((ji20) : Int).toNat * 2 + 1, none⟩ = false := hfr24 1
              clear hcl24 hcc24 hfr24 hM24
              replace p24 := eq_true p24
              replace q24 := eq_true q24
              obtain ⟨ce28, hcl28, hM28, hcc28, hfr28⟩ := Kd.R_elem HQ27.out z34 ((ji20) : Int) (of_decide_eq_true (by first | (with_reducible assumption) | assumption)) (by have h_ : ((ji20) : Int) < ((x5_2.length : Int) : Int) := of_decide_eq_true (by first | (with_reducible assumption) | assumption); first | exact h_ | (have e_ := (Kd.R_reads' HO_5.out).1; omega) | simpa using h_)
              obtain rfl := k34_openM hM28
              have HP28 := (Kd.R_seg HQ27.out ((ji20) : Int) (of_decide_eq_true (by first | (with_reducible assumption) | assumption)) (by have h_ : ((ji20) : Int) < ((x5_2.length : Int) : Int) := of_decide_eq_true (by first | (with_reducible assumption) | assumption); first | exact h_ | (have e_ := (Kd.R_reads' HO_5.out).1; omega) | simpa using h_) (seg := [.int .u64 ((rd_T34 x5_2 x6_2).f0), .int .u64 ((rd_T34 x5_2 x6_2).f1)]) (j := 0) hcl28 hcc28 (show 2 ≤ 2 from by decide) (x' := (⟨(rd_T34 x5_2 x6_2).f0, (rd_T34 x5_2 x6_2).f1⟩ : S34)) (k34_mkM _ _ _ (⟨(rd_T34 x5_2 x6_2).f0, (rd_T34 x5_2 x6_2).f1⟩ : S34) ) (fun _ hk => hk)).1
              rw [← Ny151.out] at HP28
              have HQ28 := Aside0.mk HP28
              clear hcl28 hcc28 hfr28 hM28 HP28
              refine start_ (n := 16) (S := fun w' => w'.cell? ⟨go23, (((ji20)).toNat * 2), none⟩ = some (.int .u64 ((rd_T34 x5_2 (ji20)).f0)) ∧ w'.cell? ⟨go23, (((ji20)).toNat * 2) + 1, none⟩ = some (.int .u64 ((rd_T34 x5_2 (ji20)).f1)) ∧ w'.cell? ⟨go23, ((x6_2).toNat * 2), none⟩ = some (.int .u64 ((rd_T34 x5_2 x6_2).f0)) ∧ w'.cell? ⟨go23, ((x6_2).toNat * 2) + 1, none⟩ = some (.int .u64 ((rd_T34 x5_2 x6_2).f1))) (ds := [13, 15]) #[false,false,false,false,false,false,false,false,false,false,false,false,false,false,false,false] (by kernel_rfl) rfl rfl ⟨hx148_0, hx148_1, hx149_0, hx149_1⟩ (fun hHeld => ?_); refine with_tabW dominolaw03_RangesOrder.tab8 dominolaw03_RangesOrder.bits8 (fun HT_ HW_ => ?_)
              generalize wr.drew = w26 at HO_5 HB GG23 HQ27 HQ28 hf23_0 hf23_1 hf24_0 hf24_1 hx148_0 hx148_1 hx149_0 hx149_1 hx23_0 hx23_1 hx24_0 hx24_1 hHeld ⊢
              refine pure_ (i := 0) (N := some 40) (v := ?_) (a' := ?_) #[true,false,false,false,false,false,false,false,false,false,false,false,false,false,false,false] rfl rfl (any_of HT_.out (by kernel_rfl)) (fun _ _ _ h => h) (Or.inl ⟨by rfl, ?_⟩) ?_ ?_
              rotate_left;(intro w';go_simp;with_reducible rfl);rotate_left;(simp only [Act.put, List.setIfInBounds_toArray, List.set_cons_zero, List.set_cons_succ, i64_w, i32_w];rfl)
              refine pure_ (i := 1) (N := some 41) (v := ?_) (a' := ?_) #[true,true,false,false,false,false,false,false,false,false,false,false,false,false,false,false] rfl rfl (any_of HT_.out (by kernel_rfl)) (fun _ _ _ h => h) (Or.inl ⟨by rfl, ?_⟩) ?_ ?_
              rotate_left;(intro w';go_simp;with_reducible rfl);rotate_left;(simp only [Act.put, List.setIfInBounds_toArray, List.set_cons_zero, List.set_cons_succ, i64_w, i32_w];rfl)
              refine pure_ (i := 2) (N := some 42) (v := ?_) (a' := ?_) #[true,true,true,false,false,false,false,false,false,false,false,false,false,false,false,false] rfl rfl (any_of HT_.out (by kernel_rfl)) (fun _ _ _ h => h) (Or.inl ⟨by rfl, ?_⟩) ?_ ?_
              rotate_left;(intro w';go_simp;with_reducible rfl);rotate_left;(simp only [Act.put, List.setIfInBounds_toArray, List.set_cons_zero, List.set_cons_succ, i64_w, i32_w];rfl)
              refine pure_ (i := 3) (N := some 43) (v := ?_) (a' := ?_) #[true,true,true,true,false,false,false,false,false,false,false,false,false,false,false,false] rfl rfl (any_of HT_.out (by kernel_rfl)) (fun _ _ _ h => h) (Or.inl ⟨by rfl, ?_⟩) ?_ ?_
              rotate_left;(intro w';go_simp;with_reducible rfl);rotate_left;(simp only [Act.put, List.setIfInBounds_toArray, List.set_cons_zero, List.set_cons_succ, i64_w, i32_w];rfl)
              refine pure_ (i := 4) (N := some 44) (v := ?_) (a' := ?_) #[true,true,true,true,true,false,false,false,false,false,false,false,false,false,false,false] rfl rfl (any_of HT_.out (by kernel_rfl)) (fun _ _ _ h => h) (Or.inl ⟨by rfl, ?_⟩) ?_ ?_
              rotate_left;(intro w';go_simp;with_reducible rfl);rotate_left;(simp only [Act.put, List.setIfInBounds_toArray, List.set_cons_zero, List.set_cons_succ, i64_w, i32_w];rfl)
              refine pure_ (i := 5) (N := some 45) (v := ?_) (a' := ?_) #[true,true,true,true,true,true,false,false,false,false,false,false,false,false,false,false] rfl rfl (any_of HT_.out (by kernel_rfl)) (fun _ _ _ h => h) (Or.inl ⟨by rfl, ?_⟩) ?_ ?_
              rotate_left;(intro w';go_simp;with_reducible rfl);rotate_left;(simp only [Act.put, List.setIfInBounds_toArray, List.set_cons_zero, List.set_cons_succ, i64_w, i32_w];rfl)
              refine pure_ (i := 6) (N := some 46) (v := ?_) (a' := ?_) #[true,true,true,true,true,true,true,false,false,false,false,false,false,false,false,false] rfl rfl (any_of HT_.out (by kernel_rfl)) (fun _ _ _ h => h) (Or.inl ⟨by rfl, ?_⟩) ?_ ?_
              rotate_left;(intro w';go_simp;with_reducible rfl);rotate_left;(simp only [Act.put, List.setIfInBounds_toArray, List.set_cons_zero, List.set_cons_succ, i64_w, i32_w];rfl)
              refine pure_ (i := 8) (N := some 48) (v := ?_) (a' := ?_) #[true,true,true,true,true,true,true,false,true,false,false,false,false,false,false,false] rfl rfl (any_of HT_.out (by kernel_rfl)) (fun _ _ _ h => h) (Or.inl ⟨by rfl, ?_⟩) ?_ ?_
              rotate_left;(intro w';go_simp;with_reducible rfl);rotate_left;(simp only [Act.put, List.setIfInBounds_toArray, List.set_cons_zero, List.set_cons_succ, i64_w, i32_w];rfl)
              refine pure_ (i := 9) (N := some 49) (v := ?_) (a' := ?_) #[true,true,true,true,true,true,true,false,true,true,false,false,false,false,false,false] rfl rfl (any_of HT_.out (by kernel_rfl)) (fun _ _ _ h => h) (Or.inl ⟨by rfl, ?_⟩) ?_ ?_
              rotate_left;(intro w';go_simp;with_reducible rfl);rotate_left;(simp only [Act.put, List.setIfInBounds_toArray, List.set_cons_zero, List.set_cons_succ, i64_w, i32_w];rfl)
              refine pure_ (i := 10) (N := some 50) (v := ?_) (a' := ?_) #[true,true,true,true,true,true,true,false,true,true,true,false,false,false,false,false] rfl rfl (any_of HT_.out (by kernel_rfl)) (fun _ _ _ h => h) (Or.inl ⟨by rfl, ?_⟩) ?_ ?_
              rotate_left;(intro w';go_simp;with_reducible rfl);rotate_left;(simp only [Act.put, List.setIfInBounds_toArray, List.set_cons_zero, List.set_cons_succ, i64_w, i32_w];rfl)
              refine take_ (i := 7) (N := some 47) (v := ?_) (a' := ?_) #[true,true,true,true,true,true,true,true,true,true,true,false,false,false,false,false] rfl rfl (take_ofW HT_.out HW_.out (by kernel_rfl)) (fun _ _ _ h => h) (Or.inl ⟨by rfl, ?_⟩) hHeld ?_ ?_
              rotate_left
              ·rintro w' ⟨s0, s1, s2, s3⟩
               go_simp
               with_reducible rfl
              rotate_left
              ·simp only [Act.put, List.setIfInBounds_toArray, List.set_cons_zero, List.set_cons_succ, i64_w, i32_w]
               rfl
              refine take_ (i := 11) (N := some 51) (v := ?_) (a' := ?_) #[true,true,true,true,true,true,true,true,true,true,true,true,false,false,false,false] rfl rfl (take_ofW HT_.out HW_.out (by kernel_rfl)) (fun _ _ _ h => h) (Or.inl ⟨by rfl, ?_⟩) hHeld ?_ ?_
              rotate_left
              ·rintro w' ⟨s0, s1, s2, s3⟩
               go_simp
               with_reducible rfl
              rotate_left
              ·simp only [Act.put, List.setIfInBounds_toArray, List.set_cons_zero, List.set_cons_succ, i64_w, i32_w]
               rfl
              refine pure_ (i := 12) (N := some 52) (v := ?_) (a' := ?_) #[true,true,true,true,true,true,true,true,true,true,true,true,true,false,false,false] rfl rfl (any_of HT_.out (by kernel_rfl)) (fun _ _ _ h => h) (Or.inl ⟨by rfl, ?_⟩) ?_ ?_
              rotate_left;(intro w';go_simp;with_reducible rfl);rotate_left;(simp only [Act.put, List.setIfInBounds_toArray, List.set_cons_zero, List.set_cons_succ, i64_w, i32_w];rfl)
              refine last_ (i := 13) (N := none) #[true,true,true,true,true,true,true,true,true,true,true,true,true,true,false,false] rfl rfl (one_of HT_.out (by kernel_rfl)) (by decide) (fun K hK => ?_)
              refine skip_ (w1 := ?_) (by rfl) rfl ?_ ?_
              rotate_left
              ·go_simp
               rfl
              refine hK.out _ _ ?_
              clear hK K
              refine pure_ (i := 14) (N := some 53) (v := ?_) (a' := ?_) #[true,true,true,true,true,true,true,true,true,true,true,true,true,true,true,false] rfl rfl (any_of HT_.out (by kernel_rfl)) (fun _ _ _ h => h) (Or.inl ⟨by rfl, ?_⟩) ?_ ?_
              rotate_left;(intro w';go_simp;with_reducible rfl);rotate_left;(simp only [Act.put, List.setIfInBounds_toArray, List.set_cons_zero, List.set_cons_succ, i64_w, i32_w];rfl)
              refine last_ (i := 15) (N := none) #[true,true,true,true,true,true,true,true,true,true,true,true,true,true,true,true] rfl rfl (one_of HT_.out (by kernel_rfl)) (by decide) (fun K hK => ?_)
              refine skip_ (w1 := ?_) (by rfl) rfl ?_ ?_
              rotate_left
              ·obtain ⟨u0_, hu0_⟩ := cell?_setCell_some (p := ⟨go23, (x6_2).toNat * 2, none⟩) (x := .int .u64 ((rd_T34 x5_2 (ji20)).f0)) hx148_0
               obtain ⟨u2_, hu2_⟩ := cell?_setCell_some (p := ⟨go23, (x6_2).toNat * 2, none⟩) (x := .int .u64 ((rd_T34 x5_2 (ji20)).f0)) hx148_1
               obtain ⟨u1_, hu1_⟩ := cell?_setCell_some (p := ⟨go23, (x6_2).toNat * 2 + 1, none⟩) (x := .int .u64 ((rd_T34 x5_2 (ji20)).f1)) hu2_
               have hf0_ : w26.frozen? ⟨go23, ((ji20) : Int).toNat * 2, none⟩ = false := by rw [← World.frozen?_setCells]; exact hf24_0
               have hf1_ : w26.frozen? ⟨go23, ((ji20) : Int).toNat * 2 + 1, none⟩ = false := by rw [← World.frozen?_setCells]; exact hf24_1
               go_simp
               rfl
              refine hK.out _ _ ?_
              clear hK K
              refine done_ (done_of HT_.out (by kernel_rfl)) ?_
              try go_wp2
              go_roundg k2
              case measure => have := HJ2.out; have := HK2.out; omega
              case rel => exact ⟨(y151), (wrap64 (x6_2 + 1)), (by first | rfl | (simp; done) | (simp [*]; done)), H', ⟨by have := HJ2.out; have := HK2.out; omega⟩, ⟨by (with_reducible repeat (first | apply Kd.R_alloc | apply Kd.R_drewN | apply Kd.R_drew)); exact HQ28.out⟩, ⟨by repeat (first | (with_reducible first | exact HB.out | apply below_alloc | apply pw_below_drewN | apply below_drew1 | refine below_set ?_ GB23.out | refine below_set ?_ GB23.out | refine below_set ?_ GB23.out | refine below_set ?_ GB23.out) | exact HB.out)⟩⟩
             ·rw [if_neg c22] at H
              exact absurd H (by simp)
            ·rw [if_neg c21] at H
             exact absurd H (by simp)
          ·rw [if_neg c18] at H
           exact absurd H (by simp)
         ·rw [if_neg c17] at H
          have c17b0 : decide (x6_2 < (l1.length : Int)) = false := decide_eq_false c17
          clear c17
          have H' := Aside0.mk H
          clear H
          obtain ⟨Ao29, co29, eo29⟩ := Kd.R_slice HO_5.out
          subst eo29
          go_wp2
          go_meet
          case rel => exact ⟨_, (x5_2), H', ⟨by have := HJ2.out; have := HK2.out; first | omega | exact Nat.le_refl _⟩, ⟨by (with_reducible repeat (first | apply Kd.R_alloc | apply Kd.R_drewN | apply Kd.R_drew)); exact HO_5.out⟩, ⟨by repeat (first | (with_reducible first | exact HB.out | apply below_alloc | apply pw_below_drewN | apply below_drew1) | exact HB.out)⟩⟩
        ·rw [if_neg c16] at H
         have c16b0 : decide (x6_2 < (x5_2.length : Int)) = false := decide_eq_false c16
         clear c16
         (first | rw [c16b0] | (simp only [i64_w, i32_w]; rw [c16b0]) | skip)
         have H' := Aside0.mk H
         clear H
         obtain ⟨Ao30, co30, eo30⟩ := Kd.R_slice HO_5.out
         subst eo30
         go_wp2
         go_meet
         case rel => exact ⟨_, (x5_2), H', ⟨by have := HJ2.out; have := HK2.out; first | omega | exact Nat.le_refl _⟩, ⟨by (with_reducible repeat (first | apply Kd.R_alloc | apply Kd.R_drewN | apply Kd.R_drew)); exact HO_5.out⟩, ⟨by repeat (first | (with_reducible first | exact HB.out | apply below_alloc | apply pw_below_drewN | apply below_drew1) | exact HB.out)⟩⟩
     case rest =>
      clear HC12
      try clear c1
      try clear p1
      try clear q1
      try clear hx1
      try clear c2
      try clear p2
      try clear q2
      try clear hx2
      try clear hf2
      try clear c4
      try clear c5
      try clear p6
      try clear c8
      try clear c10
      try clear c11
      try clear c14
      try clear p14
      try clear q14
      try clear hx14
      try clear c16
      try clear c16b0
      try clear c17
      try clear c17b0
      try clear c18
      try clear c18b0
      try clear c19
      try clear c19b0
      try clear c19b1
      try clear c19b2
      try clear c21
      try clear c21b0
      try clear c22
      try clear c22b0
      try clear c23
      try clear p23
      try clear q23
      try clear hx23
      try clear hf23
      try clear c24
      try clear p24
      try clear q24
      try clear hx24
      try clear hf24
      try clear c27
      try clear c28
      try clear hx147_0
      try clear hx148_0
      try clear hx148_1
      try clear hx149_0
      try clear hx149_1
      try clear hx23_0
      try clear hx23_1
      try clear hx24_0
      try clear hx24_1
      try clear p147
      try clear p148
      try clear p149
      try clear p2
      try clear p23
      try clear p24
      try clear q147
      try clear q148
      try clear q149
      try clear q23
      try clear q24
      obtain ⟨kq, x5_11, HA, HJ11, HO_5, HB⟩ := hcut
      cases kq with
      | zero => exact absurd HA.out (by simp [dominolaw03_RangesOrder.j2])
      | succ kj11 =>
       have H := HA.out
       clear HA
       simp only [dominolaw03_RangesOrder.j2] at H
       replace H := Option.bind_eq_some_iff.mp H
       obtain ⟨t152, A310, H⟩ := H
       replace H : ((dominolaw03_its.f kj11 t152).bind fun t155 => (if x5_11.length + l0.length < 8796093022208 then ((ranges_Of.f kj11 (x5_11 ++ l0)).bind fun t161 => ((dominolaw03_its.f kj11 t161).bind fun t164 => ((dominoref03_Same.f kj11 t155 t164).bind fun t167 => (if t167 = true then ((dominolaw03_its.f kj11 t152).bind fun t168 => ((ranges_Of.f kj11 t152).bind fun t171 => ((dominolaw03_its.f kj11 t171).bind fun t174 => ((dominoref03_Same.f kj11 t168 t174).bind fun t177 => (some t177))))) else (none))))) else (none))) = some r := H
       have A31 := Aside0.mk A310
       clear A310
       replace H := Option.bind_eq_some_iff.mp H
       obtain ⟨t155, A320, H⟩ := H
       replace H : (if x5_11.length + l0.length < 8796093022208 then ((ranges_Of.f kj11 (x5_11 ++ l0)).bind fun t161 => ((dominolaw03_its.f kj11 t161).bind fun t164 => ((dominoref03_Same.f kj11 t155 t164).bind fun t167 => (if t167 = true then ((dominolaw03_its.f kj11 t152).bind fun t168 => ((ranges_Of.f kj11 t152).bind fun t171 => ((dominolaw03_its.f kj11 t171).bind fun t174 => ((dominoref03_Same.f kj11 t168 t174).bind fun t177 => (some t177))))) else (none))))) else (none)) = some r := H
       have A32 := Aside0.mk A320
       clear A320
       by_cases c33 : x5_11.length + l0.length < 8796093022208
       ·rw [if_pos c33] at H
        have LMc33 := Aside0.mk c33
        clear c33
        obtain ⟨y158, hy158⟩ : ∃ y_ : List (S34), y_ = (x5_11 ++ l0) := ⟨_, rfl⟩
        replace H : ((ranges_Of.f kj11 y158).bind fun t161 => ((dominolaw03_its.f kj11 t161).bind fun t164 => ((dominoref03_Same.f kj11 t155 t164).bind fun t167 => (if t167 = true then ((dominolaw03_its.f kj11 t152).bind fun t168 => ((ranges_Of.f kj11 t152).bind fun t171 => ((dominolaw03_its.f kj11 t171).bind fun t174 => ((dominoref03_Same.f kj11 t168 t174).bind fun t177 => (some t177))))) else (none))))) = some r := by first | (rw [hy158]; with_reducible exact H) | (have H2_ := (Option.bind_some _ _).symm.trans H; rw [hy158]; with_reducible exact H2_) | (have H2_ := (Option.bind_some _ _).symm.trans H; with_reducible exact H2_) | with_reducible exact H | (rw [hy158]; exact H) | exact H
        have Ny158 := Aside0.mk hy158
        clear hy158
        replace H := Option.bind_eq_some_iff.mp H
        obtain ⟨t161, A340, H⟩ := H
        replace H : ((dominolaw03_its.f kj11 t161).bind fun t164 => ((dominoref03_Same.f kj11 t155 t164).bind fun t167 => (if t167 = true then ((dominolaw03_its.f kj11 t152).bind fun t168 => ((ranges_Of.f kj11 t152).bind fun t171 => ((dominolaw03_its.f kj11 t171).bind fun t174 => ((dominoref03_Same.f kj11 t168 t174).bind fun t177 => (some t177))))) else (none)))) = some r := H
        have A34 := Aside0.mk A340
        clear A340
        replace H := Option.bind_eq_some_iff.mp H
        obtain ⟨t164, A350, H⟩ := H
        replace H : ((dominoref03_Same.f kj11 t155 t164).bind fun t167 => (if t167 = true then ((dominolaw03_its.f kj11 t152).bind fun t168 => ((ranges_Of.f kj11 t152).bind fun t171 => ((dominolaw03_its.f kj11 t171).bind fun t174 => ((dominoref03_Same.f kj11 t168 t174).bind fun t177 => (some t177))))) else (none))) = some r := H
        have A35 := Aside0.mk A350
        clear A350
        replace H := Option.bind_eq_some_iff.mp H
        obtain ⟨t167, A360, H⟩ := H
        replace H : (if t167 = true then ((dominolaw03_its.f kj11 t152).bind fun t168 => ((ranges_Of.f kj11 t152).bind fun t171 => ((dominolaw03_its.f kj11 t171).bind fun t174 => ((dominoref03_Same.f kj11 t168 t174).bind fun t177 => (some t177))))) else (none)) = some r := H
        have A36 := Aside0.mk A360
        clear A360
        by_cases c37 : t167 = true
        ·subst c37
         have H1 : ((dominolaw03_its.f kj11 t152).bind fun t168 => ((ranges_Of.f kj11 t152).bind fun t171 => ((dominolaw03_its.f kj11 t171).bind fun t174 => ((dominoref03_Same.f kj11 t168 t174).bind fun t177 => (some t177))))) = some r := by rw [if_pos rfl] at H; exact H
         clear H
         have H := H1
         clear H1
         replace H := Option.bind_eq_some_iff.mp H
         obtain ⟨t168, A380, H⟩ := H
         replace H : ((ranges_Of.f kj11 t152).bind fun t171 => ((dominolaw03_its.f kj11 t171).bind fun t174 => ((dominoref03_Same.f kj11 t168 t174).bind fun t177 => (some t177)))) = some r := H
         have A38 := Aside0.mk A380
         clear A380
         replace H := Option.bind_eq_some_iff.mp H
         obtain ⟨t171, A390, H⟩ := H
         replace H : ((dominolaw03_its.f kj11 t171).bind fun t174 => ((dominoref03_Same.f kj11 t168 t174).bind fun t177 => (some t177))) = some r := H
         have A39 := Aside0.mk A390
         clear A390
         replace H := Option.bind_eq_some_iff.mp H
         obtain ⟨t174, A400, H⟩ := H
         replace H : ((dominoref03_Same.f kj11 t168 t174).bind fun t177 => (some t177)) = some r := H
         have A40 := Aside0.mk A400
         clear A400
         replace H := Option.bind_eq_some_iff.mp H
         obtain ⟨t177, A410, H⟩ := H
         replace H : (some t177) = some r := H
         have A41 := Aside0.mk A410
         clear A410
         obtain rfl := Option.some.inj H
         go_wp2_with (first | ((with_reducible refine gate_callee (f := 15) rfl ?_); refine goesL_ (some 55) rfl rfl Try.func15 (by kernel_rfl) rfl #[.slice A0 l0.length c0] rfl (by (try simp only [List.map_toArray, List.map_cons, List.map_nil]); first | done | rfl | (simp only [List.length_drop, List.length_take]; rfl)) ?_; (with_reducible refine (ranges_Of.calls kj11 _ _ l0 t152 _ ?side1 ?side2 A31.out).mono ?_); (case side1 => repeat (first | exact (Kd.C_below HR0.out HB.out) | (with_reducible refine Kd.C_alloc ?_ _) | (with_reducible refine Kd.C_drewN ?_ _) | (with_reducible refine Kd.C_drew ?_))); (case side2 => exact HC0.out); rintro e w42 ⟨v153, rfl, ho0, hb⟩; refine ⟨_, rfl, ?_⟩; have n0_ := Aside0.mk (Kd.R_elder' (by (with_reducible repeat (first | apply Kd.R_alloc | apply Kd.R_drewN | apply Kd.R_drew)); exact HO_5.out) (Kd.R_base ho0) hb); have n1_ := Aside0.mk (Kd.R_lower (Kd.R_new' ho0 (Kd.R_lt (by (with_reducible repeat (first | apply Kd.R_alloc | apply Kd.R_drewN | apply Kd.R_drew)); exact HO_5.out))) (below_size (by repeat (first | (with_reducible first | exact HB.out | apply below_alloc | apply pw_below_drewN | apply below_drew1) | exact HB.out)))); have n2_ := Aside0.mk (below_step (by repeat (first | (with_reducible first | exact HB.out | apply below_alloc | apply pw_below_drewN | apply below_drew1) | exact HB.out)) hb); clear HO_5; clear HB; have HO_5 := n0_; have HO154 := n1_; have HB := n2_; clear n0_ n1_ n2_; (try clear hb); (try clear hb2); (try clear hk); (try clear hi); (try clear ho0); obtain ⟨Ao43, co43, eo43⟩ := Kd.R_slice HO154.out; subst eo43) | ((with_reducible refine gate_callee (f := 13) rfl ?_); refine goesL_ (some 57) rfl rfl Try.func13 (by kernel_rfl) rfl #[.slice Ao43 t152.length co43] rfl (by (try simp only [List.map_toArray, List.map_cons, List.map_nil]); first | done | rfl | (simp only [List.length_drop, List.length_take]; rfl)) ?_; (with_reducible refine (dominolaw03_its.calls kj11 _ _ t152 t155 _ ?side1 ?side2 A32.out).mono ?_); (case side1 => repeat (first | exact (Kd.R_reads' HO154.out).2.2 | (with_reducible refine Kd.C_alloc ?_ _) | (with_reducible refine Kd.C_drewN ?_ _) | (with_reducible refine Kd.C_drew ?_))); (case side2 => exact (Kd.R_reads' HO154.out).2.1); rintro e w44 ⟨v156, rfl, ho0, hb⟩; refine ⟨_, rfl, ?_⟩; have n0_ := Aside0.mk (Kd.R_below (by (with_reducible repeat (first | apply Kd.R_alloc | apply Kd.R_drewN | apply Kd.R_drew)); exact HO_5.out) hb); have n1_ := Aside0.mk (Kd.R_below (by (with_reducible repeat (first | apply Kd.R_alloc | apply Kd.R_drewN | apply Kd.R_drew)); exact HO154.out) hb); have n2_ := Aside0.mk (Kd.R_lower ho0 (below_size (by repeat (first | (with_reducible first | exact HB.out | apply below_alloc | apply pw_below_drewN | apply below_drew1) | exact HB.out)))); have n3_ := Aside0.mk (below_step (by repeat (first | (with_reducible first | exact HB.out | apply below_alloc | apply pw_below_drewN | apply below_drew1) | exact HB.out)) hb); clear HO_5; clear HO154; clear HB; have HO_5 := n0_; have HO154 := n1_; have HO157 := n2_; have HB := n3_; clear n0_ n1_ n2_ n3_; (try clear hb); (try clear hb2); (try clear hk); (try clear hi); (try clear ho0)) | ((with_reducible refine gate_builtin (b := .append) (xs := #[.tmp 58, .tmp 59]) rfl ?_); (try (refine gate_guard (by rfl) ?_; dsimp only)); at_builtin; refine Kd.R_append_rows k34 (w0 := w) w.heap.size rfl (.tmp 58) (.tmp 59) 22 34 (.agg #[(.int .u64 0), (.int .u64 0)]) 16 rfl Try.underlying22 info34 rfl (by decide) (by omega) v145 x5_11 l0 _ _ _ (fun k_ => some k_ ≠ (.slice Ao43 t152.length co43 : Value).ownBlock) (fun _ => False) rfl rfl ?aO ?aR (fun _ _ h => h) (fun _ h => h.elim) ?aF ?aB ?aS ?aL ?_; (case aR => repeat (first | exact (Kd.C_below HR0.out HB.out) | (with_reducible refine Kd.C_alloc ?_ _) | (with_reducible refine Kd.C_drewN ?_ _) | (with_reducible refine Kd.C_drew ?_))); (case aB => exact (by repeat (first | (with_reducible first | exact HB.out | apply below_alloc | apply pw_below_drewN | apply below_drew1) | exact HB.out))); (case aF => exact (fun k_ hk => Kd.fresh' (Kd.R_lt (by (with_reducible repeat (first | apply Kd.R_alloc | apply Kd.R_drewN | apply Kd.R_drew)); exact HO154.out)) k_ hk)); (case aO => exact (by (with_reducible repeat (first | apply Kd.R_alloc | apply Kd.R_drewN | apply Kd.R_drew)); exact Kd.R_mono HO_5.out (fun _ hk => hk.2))); (case aS => exact (below_size (by repeat (first | (with_reducible first | exact HB.out | apply below_alloc | apply pw_below_drewN | apply below_drew1) | exact HB.out)))); (case aL => have := LMc33.out; omega); intro v159 w45 ho hb hg hat; rw [← Ny158.out] at ho; have n0_ := Aside0.mk (Kd.R_after (ok := (fun _ => True)) (by (with_reducible repeat (first | apply Kd.R_alloc | apply Kd.R_drewN | apply Kd.R_drew)); exact HO154.out) hg hat); have n1_ := Aside0.mk (Kd.R_over' (by (with_reducible repeat (first | apply Kd.R_alloc | apply Kd.R_drewN | apply Kd.R_drew)); exact HO157.out) (Kd.R_typed (by (with_reducible repeat (first | apply Kd.R_alloc | apply Kd.R_drewN | apply Kd.R_drew)); exact HO_5.out)) (by decide) hg); have n2_ := Aside0.mk (hb); have n3_ := Aside0.mk (ho); clear HO154; clear HO157; clear HB; clear HO_5; have HO154 := n0_; have HO157 := n1_; have HB := n2_; have HO160 := n3_; clear n0_ n1_ n2_ n3_; clear ho hb hg hat; obtain ⟨Ao46, co46, eo46⟩ := Kd.R_slice HO160.out; subst eo46) | ((with_reducible refine gate_callee (f := 15) rfl ?_); refine goesL_ (some 61) rfl rfl Try.func15 (by kernel_rfl) rfl #[.slice Ao46 y158.length co46] rfl (by (try simp only [List.map_toArray, List.map_cons, List.map_nil]); first | done | rfl | (simp only [List.length_drop, List.length_take]; rfl)) ?_; (with_reducible refine (ranges_Of.calls kj11 _ _ y158 t161 _ ?side1 ?side2 A34.out).mono ?_); (case side1 => repeat (first | exact (Kd.R_reads' HO160.out).2.2 | (with_reducible refine Kd.C_alloc ?_ _) | (with_reducible refine Kd.C_drewN ?_ _) | (with_reducible refine Kd.C_drew ?_))); (case side2 => exact (Kd.R_reads' HO160.out).2.1); rintro e w47 ⟨v162, rfl, ho0, hb⟩; refine ⟨_, rfl, ?_⟩; have n0_ := Aside0.mk (Kd.R_elder' (by (with_reducible repeat (first | apply Kd.R_alloc | apply Kd.R_drewN | apply Kd.R_drew)); exact HO154.out) (Kd.R_base ho0) hb); have n1_ := Aside0.mk (Kd.R_below (by (with_reducible repeat (first | apply Kd.R_alloc | apply Kd.R_drewN | apply Kd.R_drew)); exact HO157.out) hb); have n2_ := Aside0.mk (Kd.R_elder' (by (with_reducible repeat (first | apply Kd.R_alloc | apply Kd.R_drewN | apply Kd.R_drew)); exact HO160.out) (Kd.R_base ho0) hb); have n3_ := Aside0.mk (Kd.R_lower (Kd.R_new' (Kd.R_new' ho0 (Kd.R_lt (by (with_reducible repeat (first | apply Kd.R_alloc | apply Kd.R_drewN | apply Kd.R_drew)); exact HO154.out))) (Kd.R_lt (by (with_reducible repeat (first | apply Kd.R_alloc | apply Kd.R_drewN | apply Kd.R_drew)); exact HO160.out))) (below_size (by repeat (first | (with_reducible first | exact HB.out | apply below_alloc | apply pw_below_drewN | apply below_drew1) | exact HB.out)))); have n4_ := Aside0.mk (below_step (by repeat (first | (with_reducible first | exact HB.out | apply below_alloc | apply pw_below_drewN | apply below_drew1) | exact HB.out)) hb); clear HO154; clear HO157; clear HO160; clear HB; have HO154 := n0_; have HO157 := n1_; have HO160 := n2_; have HO163 := n3_; have HB := n4_; clear n0_ n1_ n2_ n3_ n4_; (try clear hb); (try clear hb2); (try clear hk); (try clear hi); (try clear ho0); obtain ⟨Ao48, co48, eo48⟩ := Kd.R_slice HO163.out; subst eo48) | ((with_reducible refine gate_callee (f := 13) rfl ?_); refine goesL_ (some 62) rfl rfl Try.func13 (by kernel_rfl) rfl #[.slice Ao48 t161.length co48] rfl (by (try simp only [List.map_toArray, List.map_cons, List.map_nil]); first | done | rfl | (simp only [List.length_drop, List.length_take]; rfl)) ?_; (with_reducible refine (dominolaw03_its.calls kj11 _ _ t161 t164 _ ?side1 ?side2 A35.out).mono ?_); (case side1 => repeat (first | exact (Kd.R_reads' HO163.out).2.2 | (with_reducible refine Kd.C_alloc ?_ _) | (with_reducible refine Kd.C_drewN ?_ _) | (with_reducible refine Kd.C_drew ?_))); (case side2 => exact (Kd.R_reads' HO163.out).2.1); rintro e w49 ⟨v165, rfl, ho0, hb⟩; refine ⟨_, rfl, ?_⟩; have n0_ := Aside0.mk (Kd.R_below (by (with_reducible repeat (first | apply Kd.R_alloc | apply Kd.R_drewN | apply Kd.R_drew)); exact HO154.out) hb); have n1_ := Aside0.mk (Kd.R_elder' (by (with_reducible repeat (first | apply Kd.R_alloc | apply Kd.R_drewN | apply Kd.R_drew)); exact HO157.out) (Kd.R_base ho0) hb); have n2_ := Aside0.mk (Kd.R_below (by (with_reducible repeat (first | apply Kd.R_alloc | apply Kd.R_drewN | apply Kd.R_drew)); exact HO160.out) hb); have n3_ := Aside0.mk (Kd.R_below (by (with_reducible repeat (first | apply Kd.R_alloc | apply Kd.R_drewN | apply Kd.R_drew)); exact HO163.out) hb); have n4_ := Aside0.mk (Kd.R_lower (Kd.R_new' ho0 (Kd.R_lt (by (with_reducible repeat (first | apply Kd.R_alloc | apply Kd.R_drewN | apply Kd.R_drew)); exact HO157.out))) (below_size (by repeat (first | (with_reducible first | exact HB.out | apply below_alloc | apply pw_below_drewN | apply below_drew1) | exact HB.out)))); have n5_ := Aside0.mk (below_step (by repeat (first | (with_reducible first | exact HB.out | apply below_alloc | apply pw_below_drewN | apply below_drew1) | exact HB.out)) hb); clear HO154; clear HO157; clear HO160; clear HO163; clear HB; have HO154 := n0_; have HO157 := n1_; have HO160 := n2_; have HO163 := n3_; have HO166 := n4_; have HB := n5_; clear n0_ n1_ n2_ n3_ n4_ n5_; (try clear hb); (try clear hb2); (try clear hk); (try clear hi); (try clear ho0); obtain ⟨Ao50, co50, eo50⟩ := Kd.R_slice HO157.out; subst eo50; obtain ⟨Ao51, co51, eo51⟩ := Kd.R_slice HO166.out; subst eo51) | ((with_reducible refine gate_callee (f := 16) rfl ?_); refine goesL_ (some 63) rfl rfl Try.func16 (by kernel_rfl) rfl #[.slice Ao50 t155.length co50, .slice Ao51 t164.length co51] rfl (by (try simp only [List.map_toArray, List.map_cons, List.map_nil]); first | done | rfl | (simp only [List.length_drop, List.length_take]; rfl)) ?_; (with_reducible refine (dominoref03_Same.calls kj11 _ _ t155 _ _ t164 true _ ?side1 ?side2 ?side3 ?side4 A36.out).mono ?_); (case side1 => repeat (first | exact (Kd.R_reads' HO157.out).2.2 | (with_reducible refine Kd.C_alloc ?_ _) | (with_reducible refine Kd.C_drewN ?_ _) | (with_reducible refine Kd.C_drew ?_))); (case side2 => exact (Kd.R_reads' HO157.out).2.1); (case side3 => repeat (first | exact (Kd.R_reads' HO166.out).2.2 | (with_reducible refine Kd.C_alloc ?_ _) | (with_reducible refine Kd.C_drewN ?_ _) | (with_reducible refine Kd.C_drew ?_))); (case side4 => exact (Kd.R_reads' HO166.out).2.1); rintro e w' ⟨rfl, ⟨nd, rfl⟩⟩; refine ⟨_, rfl, ?_⟩) | (go_at_call 13; (with_reducible refine (dominolaw03_its.calls kj11 _ _ t152 t168 _ ?side1 ?side2 A38.out).mono ?_); (case side1 => repeat (first | exact (Kd.R_reads' HO154.out).2.2 | (with_reducible refine Kd.C_alloc ?_ _) | (with_reducible refine Kd.C_drewN ?_ _) | (with_reducible refine Kd.C_drew ?_))); (case side2 => exact (Kd.R_reads' HO154.out).2.1); rintro e w52 ⟨v169, rfl, ho0, hb⟩; have n0_ := Aside0.mk (Kd.R_below (by (with_reducible repeat (first | apply Kd.R_alloc | apply Kd.R_drewN | apply Kd.R_drew)); exact HO154.out) hb); have n1_ := Aside0.mk (Kd.R_elder' (by (with_reducible repeat (first | apply Kd.R_alloc | apply Kd.R_drewN | apply Kd.R_drew)); exact HO157.out) (Kd.R_base ho0) hb); have n2_ := Aside0.mk (Kd.R_below (by (with_reducible repeat (first | apply Kd.R_alloc | apply Kd.R_drewN | apply Kd.R_drew)); exact HO160.out) hb); have n3_ := Aside0.mk (Kd.R_below (by (with_reducible repeat (first | apply Kd.R_alloc | apply Kd.R_drewN | apply Kd.R_drew)); exact HO163.out) hb); have n4_ := Aside0.mk (Kd.R_elder' (by (with_reducible repeat (first | apply Kd.R_alloc | apply Kd.R_drewN | apply Kd.R_drew)); exact HO166.out) (Kd.R_base ho0) hb); have n5_ := Aside0.mk (Kd.R_lower (Kd.R_new' (Kd.R_new' ho0 (Kd.R_lt (by (with_reducible repeat (first | apply Kd.R_alloc | apply Kd.R_drewN | apply Kd.R_drew)); exact HO157.out))) (Kd.R_lt (by (with_reducible repeat (first | apply Kd.R_alloc | apply Kd.R_drewN | apply Kd.R_drew)); exact HO166.out))) (below_size (by repeat (first | (with_reducible first | exact HB.out | apply below_alloc | apply pw_below_drewN | apply below_drew1) | exact HB.out)))); have n6_ := Aside0.mk (below_step (by repeat (first | (with_reducible first | exact HB.out | apply below_alloc | apply pw_below_drewN | apply below_drew1) | exact HB.out)) hb); clear HO154; clear HO157; clear HO160; clear HO163; clear HO166; clear HB; have HO154 := n0_; have HO157 := n1_; have HO160 := n2_; have HO163 := n3_; have HO166 := n4_; have HO170 := n5_; have HB := n6_; clear n0_ n1_ n2_ n3_ n4_ n5_ n6_; (try clear hb); (try clear hb2); (try clear hk); (try clear hi); (try clear ho0)) | (go_at_call 15; (with_reducible refine (ranges_Of.calls kj11 _ _ t152 t171 _ ?side1 ?side2 A39.out).mono ?_); (case side1 => repeat (first | exact (Kd.R_reads' HO154.out).2.2 | (with_reducible refine Kd.C_alloc ?_ _) | (with_reducible refine Kd.C_drewN ?_ _) | (with_reducible refine Kd.C_drew ?_))); (case side2 => exact (Kd.R_reads' HO154.out).2.1); rintro e w53 ⟨v172, rfl, ho0, hb⟩; have n0_ := Aside0.mk (Kd.R_elder' (by (with_reducible repeat (first | apply Kd.R_alloc | apply Kd.R_drewN | apply Kd.R_drew)); exact HO154.out) (Kd.R_base ho0) hb); have n1_ := Aside0.mk (Kd.R_below (by (with_reducible repeat (first | apply Kd.R_alloc | apply Kd.R_drewN | apply Kd.R_drew)); exact HO157.out) hb); have n2_ := Aside0.mk (Kd.R_elder' (by (with_reducible repeat (first | apply Kd.R_alloc | apply Kd.R_drewN | apply Kd.R_drew)); exact HO160.out) (Kd.R_base ho0) hb); have n3_ := Aside0.mk (Kd.R_elder' (by (with_reducible repeat (first | apply Kd.R_alloc | apply Kd.R_drewN | apply Kd.R_drew)); exact HO163.out) (Kd.R_base ho0) hb); have n4_ := Aside0.mk (Kd.R_below (by (with_reducible repeat (first | apply Kd.R_alloc | apply Kd.R_drewN | apply Kd.R_drew)); exact HO166.out) hb); have n5_ := Aside0.mk (Kd.R_below (by (with_reducible repeat (first | apply Kd.R_alloc | apply Kd.R_drewN | apply Kd.R_drew)); exact HO170.out) hb); have n6_ := Aside0.mk (Kd.R_lower (Kd.R_new' (Kd.R_new' (Kd.R_new' ho0 (Kd.R_lt (by (with_reducible repeat (first | apply Kd.R_alloc | apply Kd.R_drewN | apply Kd.R_drew)); exact HO154.out))) (Kd.R_lt (by (with_reducible repeat (first | apply Kd.R_alloc | apply Kd.R_drewN | apply Kd.R_drew)); exact HO160.out))) (Kd.R_lt (by (with_reducible repeat (first | apply Kd.R_alloc | apply Kd.R_drewN | apply Kd.R_drew)); exact HO163.out))) (below_size (by repeat (first | (with_reducible first | exact HB.out | apply below_alloc | apply pw_below_drewN | apply below_drew1) | exact HB.out)))); have n7_ := Aside0.mk (below_step (by repeat (first | (with_reducible first | exact HB.out | apply below_alloc | apply pw_below_drewN | apply below_drew1) | exact HB.out)) hb); clear HO154; clear HO157; clear HO160; clear HO163; clear HO166; clear HO170; clear HB; have HO154 := n0_; have HO157 := n1_; have HO160 := n2_; have HO163 := n3_; have HO166 := n4_; have HO170 := n5_; have HO173 := n6_; have HB := n7_; clear n0_ n1_ n2_ n3_ n4_ n5_ n6_ n7_; (try clear hb); (try clear hb2); (try clear hk); (try clear hi); (try clear ho0); obtain ⟨Ao54, co54, eo54⟩ := Kd.R_slice HO173.out; subst eo54) | (go_at_call 13; (with_reducible refine (dominolaw03_its.calls kj11 _ _ t171 t174 _ ?side1 ?side2 A40.out).mono ?_); (case side1 => repeat (first | exact (Kd.R_reads' HO173.out).2.2 | (with_reducible refine Kd.C_alloc ?_ _) | (with_reducible refine Kd.C_drewN ?_ _) | (with_reducible refine Kd.C_drew ?_))); (case side2 => exact (Kd.R_reads' HO173.out).2.1); rintro e w55 ⟨v175, rfl, ho0, hb⟩; have n0_ := Aside0.mk (Kd.R_below (by (with_reducible repeat (first | apply Kd.R_alloc | apply Kd.R_drewN | apply Kd.R_drew)); exact HO154.out) hb); have n1_ := Aside0.mk (Kd.R_elder' (by (with_reducible repeat (first | apply Kd.R_alloc | apply Kd.R_drewN | apply Kd.R_drew)); exact HO157.out) (Kd.R_base ho0) hb); have n2_ := Aside0.mk (Kd.R_below (by (with_reducible repeat (first | apply Kd.R_alloc | apply Kd.R_drewN | apply Kd.R_drew)); exact HO160.out) hb); have n3_ := Aside0.mk (Kd.R_below (by (with_reducible repeat (first | apply Kd.R_alloc | apply Kd.R_drewN | apply Kd.R_drew)); exact HO163.out) hb); have n4_ := Aside0.mk (Kd.R_elder' (by (with_reducible repeat (first | apply Kd.R_alloc | apply Kd.R_drewN | apply Kd.R_drew)); exact HO166.out) (Kd.R_base ho0) hb); have n5_ := Aside0.mk (Kd.R_elder' (by (with_reducible repeat (first | apply Kd.R_alloc | apply Kd.R_drewN | apply Kd.R_drew)); exact HO170.out) (Kd.R_base ho0) hb); have n6_ := Aside0.mk (Kd.R_below (by (with_reducible repeat (first | apply Kd.R_alloc | apply Kd.R_drewN | apply Kd.R_drew)); exact HO173.out) hb); have n7_ := Aside0.mk (Kd.R_lower (Kd.R_new' (Kd.R_new' (Kd.R_new' ho0 (Kd.R_lt (by (with_reducible repeat (first | apply Kd.R_alloc | apply Kd.R_drewN | apply Kd.R_drew)); exact HO157.out))) (Kd.R_lt (by (with_reducible repeat (first | apply Kd.R_alloc | apply Kd.R_drewN | apply Kd.R_drew)); exact HO166.out))) (Kd.R_lt (by (with_reducible repeat (first | apply Kd.R_alloc | apply Kd.R_drewN | apply Kd.R_drew)); exact HO170.out))) (below_size (by repeat (first | (with_reducible first | exact HB.out | apply below_alloc | apply pw_below_drewN | apply below_drew1) | exact HB.out)))); have n8_ := Aside0.mk (below_step (by repeat (first | (with_reducible first | exact HB.out | apply below_alloc | apply pw_below_drewN | apply below_drew1) | exact HB.out)) hb); clear HO154; clear HO157; clear HO160; clear HO163; clear HO166; clear HO170; clear HO173; clear HB; have HO154 := n0_; have HO157 := n1_; have HO160 := n2_; have HO163 := n3_; have HO166 := n4_; have HO170 := n5_; have HO173 := n6_; have HO176 := n7_; have HB := n8_; clear n0_ n1_ n2_ n3_ n4_ n5_ n6_ n7_ n8_; (try clear hb); (try clear hb2); (try clear hk); (try clear hi); (try clear ho0); obtain ⟨Ao56, co56, eo56⟩ := Kd.R_slice HO170.out; subst eo56; obtain ⟨Ao57, co57, eo57⟩ := Kd.R_slice HO176.out; subst eo57) | (go_at_call 16; (with_reducible refine (dominoref03_Same.calls kj11 _ _ t168 _ _ t174 t177 _ ?side1 ?side2 ?side3 ?side4 A41.out).mono ?_); (case side1 => repeat (first | exact (Kd.R_reads' HO170.out).2.2 | (with_reducible refine Kd.C_alloc ?_ _) | (with_reducible refine Kd.C_drewN ?_ _) | (with_reducible refine Kd.C_drew ?_))); (case side2 => exact (Kd.R_reads' HO170.out).2.1); (case side3 => repeat (first | exact (Kd.R_reads' HO176.out).2.2 | (with_reducible refine Kd.C_alloc ?_ _) | (with_reducible refine Kd.C_drewN ?_ _) | (with_reducible refine Kd.C_drew ?_))); (case side4 => exact (Kd.R_reads' HO176.out).2.1); rintro e w' ⟨rfl, ⟨nd, rfl⟩⟩))
         go_ret
         exact ⟨by first | rfl | (simp [errW_none, errW_some] <;> rfl) | (simp [*, errW_none, errW_some] <;> rfl), by repeat (first | (with_reducible first | exact HB.out | apply below_alloc | apply pw_below_drewN | apply below_drew1) | exact HB.out)⟩
        ·replace c37 := Bool.eq_false_iff.mpr c37
         subst c37
         have H1 : (none) = some r := by rw [if_neg (show ¬ (false = true) by decide)] at H; exact H
         clear H
         have H := H1
         clear H1
         exact absurd H (by simp)
       ·rw [if_neg c33] at H
        exact absurd H (by simp)
    ·rw [if_neg c11] at H
     exact absurd H (by simp)

/-- THE ONE PURE STATEMENT of dominolaw03_RangesOrder: yours. -/
def dominolaw03_RangesOrder.Pure : Prop := ∀ (l0 : List (S34)) (l1 : List Int), l0.length ≤ maxLen → l0.length * 16 ≤ 140737488351232 → (∀ x ∈ l0, ((Lit.int .u64 x.f0).wf = true ∧ (Lit.int .u64 x.f1).wf = true)) → l1.length ≤ maxLen → l1.length * 1 ≤ 140737488351232 → (∀ x ∈ l1, (Lit.int .u8 x).wf = true) → ∃ k, dominolaw03_RangesOrder.f k l0 l1 = some true
theorem dominolaw03_RangesOrder.walk (P : dominolaw03_RangesOrder.Pure) (a0 : Option Addr) (cap0 : Nat) (l0 : List (S34)) (a1 : Option Addr) (len1 cap1 : Nat) (z1 : List Int) (w : World) (hr0 : Kd.C k34 w a0 l0.length l0) (hc0 : l0.length ≤ cap0) (w0_0 : l0.length ≤ maxLen) (w0_1 : l0.length * 16 ≤ 140737488351232) (w0_2 : (∀ x ∈ l0, ((Lit.int .u64 x.f0).wf = true ∧ (Lit.int .u64 x.f1).wf = true))) (w1 : (a1 = none ∧ len1 = 0 ∧ cap1 = 0 ∧ z1 = []) ∨ ∃ x, a1 = some x ∧ len1 ≤ cap1 ∧ cap1 ≤ maxLen ∧ z1.length = cap1 ∧ (∀ i, i < z1.length → w.cell? (x.add i) = some (.int .u8 (z1.getD i 0))) ∧ ∀ n ∈ z1, (Lit.int .u8 n).wf = true) (y1 : len1 * 1 ≤ 140737488351232) :
  Calls Try.prog 4 #[.slice a0 l0.length cap0, .slice a1 len1 cap1] w fun e w' => e = .returned (.bool true) ∧ Below w.heap.size w w' := by
 obtain ⟨l1, rfl, hr1, hm1, hw1, hc1⟩ := ReadsInt.ofRowC w1
 obtain ⟨k, h⟩ := P l0 l1 w0_0 w0_1 w0_2 hm1 y1 hw1
 refine (dominolaw03_RangesOrder.calls k a0 cap0 l0 _ _ l1 true w hr0 hc0 (Kd.C_of_reads (d := (0 : Int)) (h1 := fun _ => rfl) hr1) hc1 h).mono ?_
 rintro e w' ⟨rfl, hd⟩
 exact ⟨rfl, hd⟩

end Go.Proofs.Ytpjohlcidmnikaa.PRgx
