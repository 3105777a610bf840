-- printed for this claim by a program of the claim (wip/tools/pp.py over the kit's print)
import Derived.Test.YtpjohlcidmnikaaPRgxx0
import Derived.Test.YtpjohlcidmnikaaPRgxx1
import Derived.Test.YtpjohlcidmnikaaPRgxx3
namespace Go.Proofs.Ytpjohlcidmnikaa.PRgx
open Go.RowKit Go.Proofs.YtpjohlcidmnikaaW.PrintWords Go.Proofs.YtpjohlcidmnikaaW.PrintLast Go.Proofs.YtpjohlcidmnikaaW.PrintMore
attribute [local go_sem] max2_int min2_int max_two min_two max_three min_three max_four min_four   -- for this text's walks alone
set_option linter.unusedVariables false
set_option linter.unusedSimpArgs false

attribute [local go_sem] isSome_setCell_
attribute [local go_sem high] eqA34
/-! ### dominolaw03_shown: function 10 -/
def dominolaw03_shown.f (k : Nat)  : Option (Bool) := (ranges_Of.f k (([(⟨3, 4⟩ : S34), (⟨1, 2⟩ : S34), (⟨7, 6⟩ : S34)] : List (S34)))).bind fun t120 => (if (t120.length : Int) = 1 then (if 0 < (t120.length : Int) then (if (((rd_T34 t120 0).f0) == 1 && (((rd_T34 t120 0).f1) == 4)) = true then ((ranges_May.f k t120).bind fun t124 => (if t124 = true then ((ranges_Has.f t120 3).bind fun t125 => (if t125 = true then ((ranges_Count.f k t120).bind fun t126 => (some (t126 == 4))) else (none))) else (none))) else (none)) else (none)) else (none))
theorem dominolaw03_shown.mono : ∀ k, LeO (dominolaw03_shown.f k ) (dominolaw03_shown.f (k + 1) ) := by
 intro  k
 unfold dominolaw03_shown.f
 repeat' first
   | (with_reducible exact ranges_Count.mono _ _)
   | (with_reducible exact ranges_May.mono _ _)
   | (with_reducible exact ranges_Of.mono _ _)
   | (with_reducible exact LeO.refl _)
   | (with_reducible exact LeO.none _)
   | (with_reducible refine LeO.ite ?_ ?_)
   | (with_reducible refine LeO.bind ?_ (fun _ => ?_))
   | exact ranges_Count.mono _ _
   | exact ranges_May.mono _ _
   | exact ranges_Of.mono _ _
   | exact LeO.none _
   | refine LeO.ite ?_ ?_
   | refine LeO.bind ?_ (fun _ => ?_)
set_option maxHeartbeats 8000000 in
set_option maxRecDepth 100000 in
theorem dominolaw03_shown.calls (k : Nat)  (r : Bool) (w : World) (h : dominolaw03_shown.f k  = some r) :
  Calls Try.prog 10 #[] w fun e w' => e = .returned (.bool r) ∧ Below w.heap.size w w' := by
 have hu34 := Try.underlying34
 have HB := Aside0.mk (Below.refl w.heap.size w)
 have H : ((ranges_Of.f k (([(⟨3, 4⟩ : S34), (⟨1, 2⟩ : S34), (⟨7, 6⟩ : S34)] : List (S34)))).bind fun t120 => (if (t120.length : Int) = 1 then (if 0 < (t120.length : Int) then (if (((rd_T34 t120 0).f0) == 1 && (((rd_T34 t120 0).f1) == 4)) = true then ((ranges_May.f k t120).bind fun t124 => (if t124 = true then ((ranges_Has.f t120 3).bind fun t125 => (if t125 = true then ((ranges_Count.f k t120).bind fun t126 => (some (t126 == 4))) else (none))) else (none))) else (none)) else (none)) else (none))) = some r := h
 clear h
 obtain ⟨y117, hy117⟩ : ∃ y_ : List (S34), y_ = (([(⟨3, 4⟩ : S34), (⟨1, 2⟩ : S34), (⟨7, 6⟩ : S34)] : List (S34))) := ⟨_, rfl⟩
 replace H : ((ranges_Of.f k y117).bind fun t120 => (if (t120.length : Int) = 1 then (if 0 < (t120.length : Int) then (if (((rd_T34 t120 0).f0) == 1 && (((rd_T34 t120 0).f1) == 4)) = true then ((ranges_May.f k t120).bind fun t124 => (if t124 = true then ((ranges_Has.f t120 3).bind fun t125 => (if t125 = true then ((ranges_Count.f k t120).bind fun t126 => (some (t126 == 4))) else (none))) else (none))) else (none)) else (none)) else (none))) = some r := by first | (rw [hy117]; with_reducible exact H) | (have H2_ := (Option.bind_some _ _).symm.trans H; rw [hy117]; with_reducible exact H2_) | (have H2_ := (Option.bind_some _ _).symm.trans H; with_reducible exact H2_) | with_reducible exact H | (rw [hy117]; exact H) | exact H
 have Ny117 := Aside0.mk hy117
 clear hy117
 replace H := Option.bind_eq_some_iff.mp H
 obtain ⟨t120, A10, H⟩ := H
 replace H : (if (t120.length : Int) = 1 then (if 0 < (t120.length : Int) then (if (((rd_T34 t120 0).f0) == 1 && (((rd_T34 t120 0).f1) == 4)) = true then ((ranges_May.f k t120).bind fun t124 => (if t124 = true then ((ranges_Has.f t120 3).bind fun t125 => (if t125 = true then ((ranges_Count.f k t120).bind fun t126 => (some (t126 == 4))) else (none))) else (none))) else (none)) else (none)) else (none)) = some r := H
 have A1 := Aside0.mk A10
 clear A10
 by_cases c2 : (t120.length : Int) = 1
 ·rw [if_pos c2] at H
  have c2b0 : ((t120.length : Int) == 1) = true := beq_iff_eq.mpr c2
  have c2b1 : ((t120.length : Int) != 1) = false := bne_eq_false_iff_eq.mpr c2
  clear c2
  by_cases c3 : 0 < (t120.length : Int)
  ·rw [if_pos c3] at H
   have c3b0 : decide (0 < (t120.length : Int)) = true := decide_eq_true c3
   have c3b1 : decide (0 < t120.length) = true := decide_eq_true (by omega)
   clear c3
   by_cases c4 : (((rd_T34 t120 0).f0) == 1 && (((rd_T34 t120 0).f1) == 4)) = true
   ·rw [if_pos c4] at H
    have c4b0 : (((rd_T34 t120 0).f0) == 1 && (((rd_T34 t120 0).f1) == 4)) = true := c4
    have c4q := c4
    simp only [Bool.not_false, Bool.not_true, Bool.true_and, Bool.and_eq_true, Bool.or_eq_false_iff, Bool.not_eq_eq_eq_not, beq_iff_eq] at c4q
    replace c4q := eq_true c4q
    (try (have c4b1 : decide (((rd_T34 t120 0).f0) = 1 && (((rd_T34 t120 0).f1) == 4)) = true := by simpa using c4))
    (try (have c4b2 : (((rd_T34 t120 0).f0) == 1 && (((rd_T34 t120 0).f1) == 4)) = true := by simpa using c4))
    clear c4
    replace H := Option.bind_eq_some_iff.mp H
    obtain ⟨t124, A50, H⟩ := H
    replace H : (if t124 = true then ((ranges_Has.f t120 3).bind fun t125 => (if t125 = true then ((ranges_Count.f k t120).bind fun t126 => (some (t126 == 4))) else (none))) else (none)) = some r := H
    have A5 := Aside0.mk A50
    clear A50
    by_cases c6 : t124 = true
    ·subst c6
     have H1 : ((ranges_Has.f t120 3).bind fun t125 => (if t125 = true then ((ranges_Count.f k t120).bind fun t126 => (some (t126 == 4))) else (none))) = some r := by rw [if_pos rfl] at H; exact H
     clear H
     have H := H1
     clear H1
     replace H := Option.bind_eq_some_iff.mp H
     obtain ⟨t125, A70, H⟩ := H
     replace H : (if t125 = true then ((ranges_Count.f k t120).bind fun t126 => (some (t126 == 4))) else (none)) = some r := H
     have A7 := Aside0.mk A70
     clear A70
     by_cases c8 : t125 = true
     ·subst c8
      have H1 : ((ranges_Count.f k t120).bind fun t126 => (some (t126 == 4))) = some r := by rw [if_pos rfl] at H; exact H
      clear H
      have H := H1
      clear H1
      replace H := Option.bind_eq_some_iff.mp H
      obtain ⟨t126, A90, H⟩ := H
      replace H : (some (t126 == 4)) = some r := H
      have A9 := Aside0.mk A90
      clear A90
      obtain rfl := Option.some.inj H
      go_enter Try.func10, Try.ntmps10
      go_wp2_with (first | ((with_reducible refine gate_dst (N := 5) rfl ?_); refine Kd.R_lit k34 _ 34 ?hg (N := 5) ?hd (xs := ([(⟨3, 4⟩ : S34), (⟨1, 2⟩ : S34), (⟨7, 6⟩ : S34)] : List (S34))) (inner := [.int .u64 3, .int .u64 4, .int .u64 1, .int .u64 2, .int .u64 7, .int .u64 6]) (ok := fun _ => True) (okp := fun _ => True) ?hr ?hp (fun _ hk => hk) trivial (Below.refl _ _) (Nat.le_refl _) (by simp) ?_; (case hd => rfl); (case hg => rfl); (case hr => first | (go_simp; done) | (go_simp; rfl)); (case hp => exact (Reps.c2 (show Kd.M k34 _ _ _ (⟨3, 4⟩ : S34) [.int .u64 3, .int .u64 4] from (k34_mkM _ _ _ (⟨3, 4⟩ : S34) )) (Reps.c2 (show Kd.M k34 _ _ _ (⟨1, 2⟩ : S34) [.int .u64 1, .int .u64 2] from (k34_mkM _ _ _ (⟨1, 2⟩ : S34) )) (Reps.c2 (show Kd.M k34 _ _ _ (⟨7, 6⟩ : S34) [.int .u64 7, .int .u64 6] from (k34_mkM _ _ _ (⟨7, 6⟩ : S34) )) (Reps.none _ _))))); intro v118 w10 ho11 hb hg_ hnew_; clear hg_ hnew_; (first | rw [← Ny117.out] at ho11 | (simp only [Int.reduceToNat] at ho11; rw [← Ny117.out] at ho11)); have n0_ := Aside0.mk (Kd.R_lower ho11 (below_size (by repeat (first | (with_reducible first | exact HB.out | apply below_alloc | apply pw_below_drewN | apply below_drew1) | exact HB.out)))); have n1_ := Aside0.mk (below_step (by repeat (first | (with_reducible first | exact HB.out | apply below_alloc | apply pw_below_drewN | apply below_drew1) | exact HB.out)) hb); clear HB; have HO119 := n0_; have HB := n1_; clear n0_ n1_; clear hb ho11; obtain ⟨Ao12, co12, eo12⟩ := Kd.R_slice HO119.out; subst eo12) | ((with_reducible refine gate_callee (f := 15) rfl ?_); refine goesL_ (some 6) rfl rfl Try.func15 (by kernel_rfl) rfl #[.slice Ao12 y117.length co12] rfl (by (try simp only [List.map_toArray, List.map_cons, List.map_nil]); first | done | rfl | (simp only [List.length_drop, List.length_take]; rfl)) ?_; (with_reducible refine (ranges_Of.calls k _ _ y117 t120 _ ?side1 ?side2 A1.out).mono ?_); (case side1 => repeat (first | exact (Kd.R_reads' HO119.out).2.2 | (with_reducible refine Kd.C_alloc ?_ _) | (with_reducible refine Kd.C_drewN ?_ _) | (with_reducible refine Kd.C_drew ?_))); (case side2 => exact (Kd.R_reads' HO119.out).2.1); rintro e w13 ⟨v121, rfl, ho0, hb⟩; refine ⟨_, rfl, ?_⟩; have n0_ := Aside0.mk (Kd.R_elder' (by (with_reducible repeat (first | apply Kd.R_alloc | apply Kd.R_drewN | apply Kd.R_drew)); exact HO119.out) (Kd.R_base ho0) hb); have n1_ := Aside0.mk (Kd.R_lower (Kd.R_new' ho0 (Kd.R_lt (by (with_reducible repeat (first | apply Kd.R_alloc | apply Kd.R_drewN | apply Kd.R_drew)); exact HO119.out))) (below_size (by repeat (first | (with_reducible first | exact HB.out | apply below_alloc | apply pw_below_drewN | apply below_drew1) | exact HB.out)))); have n2_ := Aside0.mk (below_step (by repeat (first | (with_reducible first | exact HB.out | apply below_alloc | apply pw_below_drewN | apply below_drew1) | exact HB.out)) hb); clear HO119; clear HB; have HO119 := n0_; have HO122 := n1_; have HB := n2_; clear n0_ n1_ n2_; (try clear hb); (try clear hb2); (try clear hk); (try clear hi); (try clear ho0); obtain ⟨Ao14, co14, eo14⟩ := Kd.R_slice HO122.out; subst eo14; have p123 : 0 ≤ (0 : Int) := (by omega); have q123 : 0 < (t120.length : Int) := of_decide_eq_true (by first | (with_reducible assumption) | assumption); obtain ⟨ad123, e123, hx123_0, hx123_1⟩ := at_T34 (Kd.R_reads' HO122.out).2.2 0 p123 q123; cases e123; have qi123 : (0 < t120.length) = True := eq_true (by omega); (try rw [show ((0 : Int)).toNat = 0 from rfl] at hx123_0); (try rw [show 0 * 2 = 0 from rfl] at hx123_0); (try rw [Addr.add_zero'] at hx123_0); (try rw [show ((0 : Int)).toNat = 0 from rfl] at hx123_1); (try rw [show 0 * 2 = 0 from rfl] at hx123_1); (try rw [Addr.add_zero'] at hx123_1); replace p123 := eq_true p123; replace q123 := eq_true q123) | (go_at_call 11; (with_reducible refine (ranges_May.calls k _ _ t120 true _ ?side1 ?side2 A5.out).mono ?_); (case side1 => repeat (first | exact (Kd.R_reads' HO122.out).2.2 | (with_reducible refine Kd.C_alloc ?_ _) | (with_reducible refine Kd.C_drewN ?_ _) | (with_reducible refine Kd.C_drew ?_))); (case side2 => exact (Kd.R_reads' HO122.out).2.1); rintro e w15 ⟨rfl, hb⟩; have n0_ := Aside0.mk (Kd.R_below (by (with_reducible repeat (first | apply Kd.R_alloc | apply Kd.R_drewN | apply Kd.R_drew)); exact HO119.out) hb); have n1_ := Aside0.mk (Kd.R_below (by (with_reducible repeat (first | apply Kd.R_alloc | apply Kd.R_drewN | apply Kd.R_drew)); exact HO122.out) hb); have n2_ := Aside0.mk (below_step (by repeat (first | (with_reducible first | exact HB.out | apply below_alloc | apply pw_below_drewN | apply below_drew1) | exact HB.out)) hb); clear HO119; clear HO122; clear HB; have HO119 := n0_; have HO122 := n1_; have HB := n2_; clear n0_ n1_ n2_; (try clear hb); (try clear hb2); (try clear hk); (try clear hi)) | (go_at_call 19; (with_reducible refine (ranges_Has.calls _ _ t120 3 true _ ?side1 ?side2 A7.out).mono ?_); (case side1 => repeat (first | exact (Kd.R_reads' HO122.out).2.2 | (with_reducible refine Kd.C_alloc ?_ _) | (with_reducible refine Kd.C_drewN ?_ _) | (with_reducible refine Kd.C_drew ?_))); (case side2 => exact (Kd.R_reads' HO122.out).2.1); rintro e w16 ⟨rfl, hb⟩; have n0_ := Aside0.mk (Kd.R_below (by (with_reducible repeat (first | apply Kd.R_alloc | apply Kd.R_drewN | apply Kd.R_drew)); exact HO119.out) hb); have n1_ := Aside0.mk (Kd.R_below (by (with_reducible repeat (first | apply Kd.R_alloc | apply Kd.R_drewN | apply Kd.R_drew)); exact HO122.out) hb); have n2_ := Aside0.mk (below_step (by repeat (first | (with_reducible first | exact HB.out | apply below_alloc | apply pw_below_drewN | apply below_drew1) | exact HB.out)) hb); clear HO119; clear HO122; clear HB; have HO119 := n0_; have HO122 := n1_; have HB := n2_; clear n0_ n1_ n2_; (try clear hb); (try clear hb2); (try clear hk); (try clear hi)) | (go_at_call 28; (with_reducible refine (ranges_Count.calls k _ _ t120 t126 _ ?side1 ?side2 A9.out).mono ?_); (case side1 => repeat (first | exact (Kd.R_reads' HO122.out).2.2 | (with_reducible refine Kd.C_alloc ?_ _) | (with_reducible refine Kd.C_drewN ?_ _) | (with_reducible refine Kd.C_drew ?_))); (case side2 => exact (Kd.R_reads' HO122.out).2.1); rintro e w17 ⟨rfl, hb⟩; have n0_ := Aside0.mk (Kd.R_below (by (with_reducible repeat (first | apply Kd.R_alloc | apply Kd.R_drewN | apply Kd.R_drew)); exact HO119.out) hb); have n1_ := Aside0.mk (Kd.R_below (by (with_reducible repeat (first | apply Kd.R_alloc | apply Kd.R_drewN | apply Kd.R_drew)); exact HO122.out) hb); have n2_ := Aside0.mk (below_step (by repeat (first | (with_reducible first | exact HB.out | apply below_alloc | apply pw_below_drewN | apply below_drew1) | exact HB.out)) hb); clear HO119; clear HO122; clear HB; have HO119 := n0_; have HO122 := n1_; have HB := n2_; clear n0_ n1_ n2_; (try clear hb); (try clear hb2); (try clear hk); (try clear hi)))
      go_ret
      exact ⟨by first | rfl | (have hq_ := of_eq_true c4q; simp [errW_none, errW_some, hq_, bne]; done) | (have hq_ := of_eq_true c4q; simp [errW_none, errW_some, hq_, bne]; rfl) | (simp [errW_none, errW_some] <;> rfl) | (simp [*, errW_none, errW_some] <;> rfl), by repeat (first | (with_reducible first | exact HB.out | apply below_alloc | apply pw_below_drewN | apply below_drew1) | exact HB.out)⟩
     ·replace c8 := Bool.eq_false_iff.mpr c8
      subst c8
      have H1 : (none) = some r := by rw [if_neg (show ¬ (false = true) by decide)] at H; exact H
      clear H
      have H := H1
      clear H1
      exact absurd H (by simp)
    ·replace c6 := Bool.eq_false_iff.mpr c6
     subst c6
     have H1 : (none) = some r := by rw [if_neg (show ¬ (false = true) by decide)] at H; exact H
     clear H
     have H := H1
     clear H1
     exact absurd H (by simp)
   ·rw [if_neg c4] at H
    exact absurd H (by simp)
  ·rw [if_neg c3] at H
   exact absurd H (by simp)
 ·rw [if_neg c2] at H
  exact absurd H (by simp)

/-! ### dominoref03_May: function 12 -/
def dominoref03_May.l0 : Nat → List (S42) → Int → Option (Bool)
 | 0, _, _ => none
 | k + 1, x0, x3 => if x3 < (x0.length : Int) then (if 0 ≤ x3 then (if ((rd_T42 x0 x3).f1) < ((rd_T42 x0 x3).f0) then (some false) else (if ((rd_T42 x0 x3).f1) ≥ 9223372036854775808 then (some false) else (if x3 > 0 then (if 0 ≤ (wrap64 (x3 - 1)) then (if (wrap64 (x3 - 1)) < (x0.length : Int) then (if ((rd_T42 x0 x3).f0) < (IntKind.u64.wrap (((rd_T42 x0 (wrap64 (x3 - 1))).f1) + 2)) then (some false) else (dominoref03_May.l0 k x0 (wrap64 (x3 + 1)))) else (none)) else (none)) else (dominoref03_May.l0 k x0 (wrap64 (x3 + 1)))))) else (none)) else (some true)
def dominoref03_May.f (k : Nat) (l0 : List (S42)) : Option (Bool) := dominoref03_May.l0 k l0 0
theorem dominoref03_May.mono_l : ∀ k, (∀ y0 y1, LeO (dominoref03_May.l0 k y0 y1) (dominoref03_May.l0 (k + 1) y0 y1))
 | 0 => fun _ _ r h => by simp [dominoref03_May.l0] at h
 | k + 1 => by
  have ih0 := dominoref03_May.mono_l k
  ·intro y0 y1
   unfold dominoref03_May.l0
   repeat' first
   | (with_reducible exact ih0 _ _)
   | (with_reducible exact LeO.refl _)
   | (with_reducible exact LeO.none _)
   | (with_reducible refine LeO.ite ?_ ?_)
   | (with_reducible refine LeO.bind ?_ (fun _ => ?_))
   | exact ih0 _ _
   | exact LeO.none _
   | refine LeO.ite ?_ ?_
   | refine LeO.bind ?_ (fun _ => ?_)
theorem dominoref03_May.mono : ∀ a0 k, LeO (dominoref03_May.f k a0) (dominoref03_May.f (k + 1) a0) := by
 intro a0 k
 have ih0 := dominoref03_May.mono_l k
 unfold dominoref03_May.f
 repeat' first
   | (with_reducible exact ih0 _ _)
   | (with_reducible exact LeO.refl _)
   | (with_reducible exact LeO.none _)
   | (with_reducible refine LeO.ite ?_ ?_)
   | (with_reducible refine LeO.bind ?_ (fun _ => ?_))
   | exact ih0 _ _
   | exact LeO.none _
   | refine LeO.ite ?_ ?_
   | refine LeO.bind ?_ (fun _ => ?_)
set_option maxHeartbeats 8000000 in
set_option maxRecDepth 100000 in
theorem dominoref03_May.calls (k : Nat) (A0 : Option Addr) (c0 : Nat) (l0 : List (S42)) (r : Bool) (w : World) (hr0 : Kd.C k42 w A0 l0.length l0) (hc0 : l0.length ≤ c0) (h : dominoref03_May.f k l0 = some r) :
  Calls Try.prog 12 #[.slice A0 l0.length c0] w fun e w' => e = .returned (.bool r) ∧ Drawn0 w w' := by
 have HR0 := Aside0.mk hr0
 have HC0 := Aside0.mk hc0
 clear hr0 hc0
 have H : (dominoref03_May.l0 k l0 0) = some r := h
 clear h
 have H' := Aside0.mk H
 clear H
 go_enter Try.func12, Try.ntmps12
 go_wp2
 repeat (go_quiet (fail); try go_wp2)
 go_loopg [3] k (fun kq v3 w' => ∃ (x3_1 : Int), v3 = .int .i64 x3_1 ∧ Aside0 (dominoref03_May.l0 kq l0 x3_1 = some r) ∧ Aside0 (kq ≤ k) ∧ Drawn0 w w')
 case atStart => exact ⟨(0), (by first | rfl | (simp; done) | (simp [*]; done)), H', ⟨Nat.le_refl _⟩, by repeat (first | exact Drawn0.refl _ | apply Drawn0.step)⟩
 case round =>
  clear H'
  try clear c1
  obtain ⟨x3_1, rfl, HA, HK1, ⟨m1, rfl⟩⟩ := hrel
  cases gk with
  | zero => exact absurd HA.out (by simp [dominoref03_May.l0])
  | succ k1 =>
   have H := HA.out
   clear HA
   simp only [dominoref03_May.l0] at H
   by_cases c2 : x3_1 < (l0.length : Int)
   ·rw [if_pos c2] at H
    have c2b0 : decide (x3_1 < (l0.length : Int)) = true := decide_eq_true c2
    clear c2
    by_cases c3 : 0 ≤ x3_1
    ·rw [if_pos c3] at H
     have c3b0 : decide (0 ≤ x3_1) = true := decide_eq_true c3
     clear c3
     by_cases c4 : ((rd_T42 l0 x3_1).f1) < ((rd_T42 l0 x3_1).f0)
     ·rw [if_pos c4] at H
      have c4b0 : decide (((rd_T42 l0 x3_1).f1) < ((rd_T42 l0 x3_1).f0)) = true := decide_eq_true c4
      clear c4
      obtain rfl := Option.some.inj H
      have p127 : 0 ≤ (x3_1 : Int) := of_decide_eq_true (by first | (with_reducible assumption) | assumption)
      have q127 : x3_1 < (l0.length : Int) := of_decide_eq_true (by first | (with_reducible assumption) | assumption)
      obtain ⟨ad127, e127, hx127_0, hx127_1⟩ := at_T42 HR0.out x3_1 p127 q127
      cases e127
      replace p127 := eq_true p127
      replace q127 := eq_true q127
      have p128 : 0 ≤ (x3_1 : Int) := of_decide_eq_true (by first | (with_reducible assumption) | assumption)
      have q128 : x3_1 < (l0.length : Int) := of_decide_eq_true (by first | (with_reducible assumption) | assumption)
      obtain ⟨ad128, e128, hx128_0, hx128_1⟩ := at_T42 HR0.out x3_1 p128 q128
      obtain rfl : ad127 = ad128 := (by injection e128)
      replace p128 := eq_true p128
      replace q128 := eq_true q128
      go_wp2
      repeat (go_quiet (fail); try go_wp2)
      go_ret
      exact ⟨by first | rfl | (simp; done) | (simp [*]; done), by repeat (first | exact Drawn0.refl _ | apply Drawn0.step)⟩
     ·rw [if_neg c4] at H
      have c4b0 : decide (((rd_T42 l0 x3_1).f1) < ((rd_T42 l0 x3_1).f0)) = false := decide_eq_false c4
      clear c4
      by_cases c5 : ((rd_T42 l0 x3_1).f1) ≥ 9223372036854775808
      ·rw [if_pos c5] at H
       have c5b0 : decide (9223372036854775808 ≤ ((rd_T42 l0 x3_1).f1)) = true := decide_eq_true c5
       clear c5
       obtain rfl := Option.some.inj H
       have p127 : 0 ≤ (x3_1 : Int) := of_decide_eq_true (by first | (with_reducible assumption) | assumption)
       have q127 : x3_1 < (l0.length : Int) := of_decide_eq_true (by first | (with_reducible assumption) | assumption)
       obtain ⟨ad127, e127, hx127_0, hx127_1⟩ := at_T42 HR0.out x3_1 p127 q127
       cases e127
       replace p127 := eq_true p127
       replace q127 := eq_true q127
       have p128 : 0 ≤ (x3_1 : Int) := of_decide_eq_true (by first | (with_reducible assumption) | assumption)
       have q128 : x3_1 < (l0.length : Int) := of_decide_eq_true (by first | (with_reducible assumption) | assumption)
       obtain ⟨ad128, e128, hx128_0, hx128_1⟩ := at_T42 HR0.out x3_1 p128 q128
       obtain rfl : ad127 = ad128 := (by injection e128)
       replace p128 := eq_true p128
       replace q128 := eq_true q128
       have p129 : 0 ≤ (x3_1 : Int) := of_decide_eq_true (by first | (with_reducible assumption) | assumption)
       have q129 : x3_1 < (l0.length : Int) := of_decide_eq_true (by first | (with_reducible assumption) | assumption)
       obtain ⟨ad129, e129, hx129_0, hx129_1⟩ := at_T42 HR0.out x3_1 p129 q129
       obtain rfl : ad127 = ad129 := (by injection e129)
       replace p129 := eq_true p129
       replace q129 := eq_true q129
       go_wp2
       repeat (go_quiet (fail); try go_wp2)
       go_ret
       exact ⟨by first | rfl | (simp; done) | (simp [*]; done), by repeat (first | exact Drawn0.refl _ | apply Drawn0.step)⟩
      ·rw [if_neg c5] at H
       have c5b0 : decide (9223372036854775808 ≤ ((rd_T42 l0 x3_1).f1)) = false := decide_eq_false c5
       clear c5
       by_cases c6 : x3_1 > 0
       ·rw [if_pos c6] at H
        have c6b0 : decide (0 < x3_1) = true := decide_eq_true c6
        clear c6
        obtain ⟨ji7, hji7⟩ : ∃ j_ : Int, (wrap64 (x3_1 - 1)) = j_ := ⟨_, rfl⟩
        replace H : (if 0 ≤ (ji7) then (if (ji7) < (l0.length : Int) then (if ((rd_T42 l0 x3_1).f0) < (IntKind.u64.wrap (((rd_T42 l0 (ji7)).f1) + 2)) then (some false) else (dominoref03_May.l0 k1 l0 (wrap64 (x3_1 + 1)))) else (none)) else (none)) = some r := by first | (rw [hji7] at H; exact H) | (simp only [hji7] at H ⊢; exact H)
        have hji7w : (IntKind.i64.wrap (x3_1 - 1)) = ji7 := (i64_w _).trans hji7
        by_cases c8 : 0 ≤ (ji7)
        ·rw [if_pos c8] at H
         have c8b0 : decide (0 ≤ (ji7)) = true := decide_eq_true c8
         clear c8
         by_cases c9 : (ji7) < (l0.length : Int)
         ·rw [if_pos c9] at H
          have c9b0 : decide ((ji7) < (l0.length : Int)) = true := decide_eq_true c9
          clear c9
          by_cases c10 : ((rd_T42 l0 x3_1).f0) < (IntKind.u64.wrap (((rd_T42 l0 (ji7)).f1) + 2))
          ·rw [if_pos c10] at H
           have c10b0 : decide (((rd_T42 l0 x3_1).f0) < (IntKind.u64.wrap (((rd_T42 l0 (ji7)).f1) + 2))) = true := decide_eq_true c10
           clear c10
           obtain rfl := Option.some.inj H
           have p127 : 0 ≤ (x3_1 : Int) := of_decide_eq_true (by first | (with_reducible assumption) | assumption)
           have q127 : x3_1 < (l0.length : Int) := of_decide_eq_true (by first | (with_reducible assumption) | assumption)
           obtain ⟨ad127, e127, hx127_0, hx127_1⟩ := at_T42 HR0.out x3_1 p127 q127
           cases e127
           replace p127 := eq_true p127
           replace q127 := eq_true q127
           have p128 : 0 ≤ (x3_1 : Int) := of_decide_eq_true (by first | (with_reducible assumption) | assumption)
           have q128 : x3_1 < (l0.length : Int) := of_decide_eq_true (by first | (with_reducible assumption) | assumption)
           obtain ⟨ad128, e128, hx128_0, hx128_1⟩ := at_T42 HR0.out x3_1 p128 q128
           obtain rfl : ad127 = ad128 := (by injection e128)
           replace p128 := eq_true p128
           replace q128 := eq_true q128
           have p129 : 0 ≤ (x3_1 : Int) := of_decide_eq_true (by first | (with_reducible assumption) | assumption)
           have q129 : x3_1 < (l0.length : Int) := of_decide_eq_true (by first | (with_reducible assumption) | assumption)
           obtain ⟨ad129, e129, hx129_0, hx129_1⟩ := at_T42 HR0.out x3_1 p129 q129
           obtain rfl : ad127 = ad129 := (by injection e129)
           replace p129 := eq_true p129
           replace q129 := eq_true q129
           have p130 : 0 ≤ (x3_1 : Int) := of_decide_eq_true (by first | (with_reducible assumption) | assumption)
           have q130 : x3_1 < (l0.length : Int) := of_decide_eq_true (by first | (with_reducible assumption) | assumption)
           obtain ⟨ad130, e130, hx130_0, hx130_1⟩ := at_T42 HR0.out x3_1 p130 q130
           obtain rfl : ad127 = ad130 := (by injection e130)
           replace p130 := eq_true p130
           replace q130 := eq_true q130
           have p131 : 0 ≤ ((ji7) : Int) := of_decide_eq_true (by first | (with_reducible assumption) | assumption)
           have q131 : (ji7) < (l0.length : Int) := of_decide_eq_true (by first | (with_reducible assumption) | assumption)
           obtain ⟨ad131, e131, hx131_0, hx131_1⟩ := at_T42 HR0.out (ji7) p131 q131
           obtain rfl : ad127 = ad131 := (by injection e131)
           replace p131 := eq_true p131
           replace q131 := eq_true q131
           go_wp2
           repeat (go_quiet (fail); try go_wp2)
           go_ret
           exact ⟨by first | rfl | (simp; done) | (simp only [← hji7] <;> (first | rfl | simp)) | (simp [*]; done), by repeat (first | exact Drawn0.refl _ | apply Drawn0.step)⟩
          ·rw [if_neg c10] at H
           have c10b0 : decide (((rd_T42 l0 x3_1).f0) < (IntKind.u64.wrap (((rd_T42 l0 (ji7)).f1) + 2))) = false := decide_eq_false c10
           clear c10
           have H' := Aside0.mk H
           clear H
           have p127 : 0 ≤ (x3_1 : Int) := of_decide_eq_true (by first | (with_reducible assumption) | assumption)
           have q127 : x3_1 < (l0.length : Int) := of_decide_eq_true (by first | (with_reducible assumption) | assumption)
           obtain ⟨ad127, e127, hx127_0, hx127_1⟩ := at_T42 HR0.out x3_1 p127 q127
           cases e127
           replace p127 := eq_true p127
           replace q127 := eq_true q127
           have p128 : 0 ≤ (x3_1 : Int) := of_decide_eq_true (by first | (with_reducible assumption) | assumption)
           have q128 : x3_1 < (l0.length : Int) := of_decide_eq_true (by first | (with_reducible assumption) | assumption)
           obtain ⟨ad128, e128, hx128_0, hx128_1⟩ := at_T42 HR0.out x3_1 p128 q128
           obtain rfl : ad127 = ad128 := (by injection e128)
           replace p128 := eq_true p128
           replace q128 := eq_true q128
           have p129 : 0 ≤ (x3_1 : Int) := of_decide_eq_true (by first | (with_reducible assumption) | assumption)
           have q129 : x3_1 < (l0.length : Int) := of_decide_eq_true (by first | (with_reducible assumption) | assumption)
           obtain ⟨ad129, e129, hx129_0, hx129_1⟩ := at_T42 HR0.out x3_1 p129 q129
           obtain rfl : ad127 = ad129 := (by injection e129)
           replace p129 := eq_true p129
           replace q129 := eq_true q129
           have p130 : 0 ≤ (x3_1 : Int) := of_decide_eq_true (by first | (with_reducible assumption) | assumption)
           have q130 : x3_1 < (l0.length : Int) := of_decide_eq_true (by first | (with_reducible assumption) | assumption)
           obtain ⟨ad130, e130, hx130_0, hx130_1⟩ := at_T42 HR0.out x3_1 p130 q130
           obtain rfl : ad127 = ad130 := (by injection e130)
           replace p130 := eq_true p130
           replace q130 := eq_true q130
           have p131 : 0 ≤ ((ji7) : Int) := of_decide_eq_true (by first | (with_reducible assumption) | assumption)
           have q131 : (ji7) < (l0.length : Int) := of_decide_eq_true (by first | (with_reducible assumption) | assumption)
           obtain ⟨ad131, e131, hx131_0, hx131_1⟩ := at_T42 HR0.out (ji7) p131 q131
           obtain rfl : ad127 = ad131 := (by injection e131)
           replace p131 := eq_true p131
           replace q131 := eq_true q131
           go_wp2
           repeat (go_quiet (fail); try go_wp2)
           go_roundg k1
           case measure => have := HK1.out; omega
           case rel => exact ⟨(wrap64 (x3_1 + 1)), (by first | rfl | (simp; done) | (simp [*]; done)), H', ⟨by have := HK1.out; omega⟩, by repeat (first | exact Drawn0.refl _ | apply Drawn0.step)⟩
         ·rw [if_neg c9] at H
          exact absurd H (by simp)
        ·rw [if_neg c8] at H
         exact absurd H (by simp)
       ·rw [if_neg c6] at H
        have c6b0 : decide (0 < x3_1) = false := decide_eq_false c6
        clear c6
        have H' := Aside0.mk H
        clear H
        have p127 : 0 ≤ (x3_1 : Int) := of_decide_eq_true (by first | (with_reducible assumption) | assumption)
        have q127 : x3_1 < (l0.length : Int) := of_decide_eq_true (by first | (with_reducible assumption) | assumption)
        obtain ⟨ad127, e127, hx127_0, hx127_1⟩ := at_T42 HR0.out x3_1 p127 q127
        cases e127
        replace p127 := eq_true p127
        replace q127 := eq_true q127
        have p128 : 0 ≤ (x3_1 : Int) := of_decide_eq_true (by first | (with_reducible assumption) | assumption)
        have q128 : x3_1 < (l0.length : Int) := of_decide_eq_true (by first | (with_reducible assumption) | assumption)
        obtain ⟨ad128, e128, hx128_0, hx128_1⟩ := at_T42 HR0.out x3_1 p128 q128
        obtain rfl : ad127 = ad128 := (by injection e128)
        replace p128 := eq_true p128
        replace q128 := eq_true q128
        have p129 : 0 ≤ (x3_1 : Int) := of_decide_eq_true (by first | (with_reducible assumption) | assumption)
        have q129 : x3_1 < (l0.length : Int) := of_decide_eq_true (by first | (with_reducible assumption) | assumption)
        obtain ⟨ad129, e129, hx129_0, hx129_1⟩ := at_T42 HR0.out x3_1 p129 q129
        obtain rfl : ad127 = ad129 := (by injection e129)
        replace p129 := eq_true p129
        replace q129 := eq_true q129
        go_wp2
        repeat (go_quiet (fail); try go_wp2)
        go_roundg k1
        case measure => have := HK1.out; omega
        case rel => exact ⟨(wrap64 (x3_1 + 1)), (by first | rfl | (simp; done) | (simp [*]; done)), H', ⟨by have := HK1.out; omega⟩, by repeat (first | exact Drawn0.refl _ | apply Drawn0.step)⟩
    ·rw [if_neg c3] at H
     exact absurd H (by simp)
   ·rw [if_neg c2] at H
    have c2b0 : decide (x3_1 < (l0.length : Int)) = false := decide_eq_false c2
    clear c2
    obtain rfl := Option.some.inj H
    go_wp2
    repeat (go_quiet (fail); try go_wp2)
    go_ret
    exact ⟨by first | rfl | (simp; done) | (simp [*]; done), by repeat (first | exact Drawn0.refl _ | apply Drawn0.step)⟩

/-! ### dominolaw03_its: function 13 -/
def dominolaw03_its.l0 : Nat → List (S34) → List (S42) → Int → Option ((List (S42)))
 | 0, _, _, _ => none
 | k + 1, x0, x3, x4 => if x4 < (x0.length : Int) then (if 0 ≤ x4 then (if x3.length < 8796093022208 then (dominolaw03_its.l0 k x0 (x3 ++ [(⟨(rd_T34 x0 x4).f0, (rd_T34 x0 x4).f1⟩ : S42)]) (wrap64 (x4 + 1))) else (none)) else (none)) else (some x3)
def dominolaw03_its.f (k : Nat) (l0 : List (S34)) : Option ((List (S42))) := dominolaw03_its.l0 k l0 (([] : List (S42))) 0
theorem dominolaw03_its.mono_l : ∀ k, (∀ y0 y1 y2, LeO (dominolaw03_its.l0 k y0 y1 y2) (dominolaw03_its.l0 (k + 1) y0 y1 y2))
 | 0 => fun _ _ _ r h => by simp [dominolaw03_its.l0] at h
 | k + 1 => by
  have ih0 := dominolaw03_its.mono_l k
  ·intro y0 y1 y2
   unfold dominolaw03_its.l0
   repeat' first
   | (with_reducible exact ih0 _ _ _)
   | (with_reducible exact LeO.refl _)
   | (with_reducible exact LeO.none _)
   | (with_reducible refine LeO.ite ?_ ?_)
   | (with_reducible refine LeO.bind ?_ (fun _ => ?_))
   | exact ih0 _ _ _
   | exact LeO.none _
   | refine LeO.ite ?_ ?_
   | refine LeO.bind ?_ (fun _ => ?_)
theorem dominolaw03_its.mono : ∀ a0 k, LeO (dominolaw03_its.f k a0) (dominolaw03_its.f (k + 1) a0) := by
 intro a0 k
 have ih0 := dominolaw03_its.mono_l k
 unfold dominolaw03_its.f
 repeat' first
   | (with_reducible exact ih0 _ _ _)
   | (with_reducible exact LeO.refl _)
   | (with_reducible exact LeO.none _)
   | (with_reducible refine LeO.ite ?_ ?_)
   | (with_reducible refine LeO.bind ?_ (fun _ => ?_))
   | exact ih0 _ _ _
   | exact LeO.none _
   | refine LeO.ite ?_ ?_
   | refine LeO.bind ?_ (fun _ => ?_)
set_option maxHeartbeats 8000000 in
set_option maxRecDepth 100000 in
theorem dominolaw03_its.calls (k : Nat) (A0 : Option Addr) (c0 : Nat) (l0 : List (S34)) (r : List (S42)) (w : World) (hr0 : Kd.C k34 w A0 l0.length l0) (hc0 : l0.length ≤ c0) (h : dominolaw03_its.f k l0 = some r) :
  Calls Try.prog 13 #[.slice A0 l0.length c0] w fun e w' => ∃ v0_ : Value, e = .returned (v0_) ∧ Kd.R k42 42 w' w.heap.size (fun _ => True) v0_ r ∧ Below w.heap.size w w' := by
 have hu34 := Try.underlying34
 have HR0 := Aside0.mk hr0
 have HC0 := Aside0.mk hc0
 clear hr0 hc0
 have HB := Aside0.mk (Below.refl w.heap.size w)
 have H : (dominolaw03_its.l0 k l0 (([] : List (S42))) 0) = some r := h
 clear h
 obtain ⟨y132, hy132⟩ : ∃ y_ : List (S42), y_ = (([] : List (S42))) := ⟨_, rfl⟩
 replace H : (dominolaw03_its.l0 k l0 y132 0) = some r := by first | (rw [hy132]; with_reducible exact H) | (have H2_ := (Option.bind_some _ _).symm.trans H; rw [hy132]; with_reducible exact H2_) | (have H2_ := (Option.bind_some _ _).symm.trans H; with_reducible exact H2_) | with_reducible exact H | (rw [hy132]; exact H) | exact H
 have Ny132 := Aside0.mk hy132
 clear hy132
 have H' := Aside0.mk H
 clear H
 go_enter Try.func13, Try.ntmps13
 go_wp2_with (first | ((with_reducible refine gate_dst (N := 5) rfl ?_); refine Kd.R_lit k42 _ 42 ?hg (N := 5) ?hd (xs := ([] : List (S42))) (inner := []) (ok := fun _ => True) (okp := fun _ => True) ?hr ?hp (fun _ hk => hk) trivial (Below.refl _ _) (Nat.le_refl _) (by simp) ?_; (case hd => rfl); (case hg => rfl); (case hr => first | (go_simp; done) | (go_simp; rfl)); (case hp => exact (Reps.none _ _)); intro v133 w2 ho3 hb hg_ hnew_; clear hg_ hnew_; (first | rw [← Ny132.out] at ho3 | (simp only [Int.reduceToNat] at ho3; rw [← Ny132.out] at ho3)); have n0_ := Aside0.mk (Kd.R_lower ho3 (below_size (by repeat (first | (with_reducible first | exact HB.out | apply below_alloc | apply pw_below_drewN | apply below_drew1) | exact HB.out)))); have n1_ := Aside0.mk (below_step (by repeat (first | (with_reducible first | exact HB.out | apply below_alloc | apply pw_below_drewN | apply below_drew1) | exact HB.out)) hb); clear HB; have HO134 := n0_; have HB := n1_; clear n0_ n1_; clear hb ho3))
 go_loopg [3, 4] k (fun kq v3 v4 w' => ∃ (x3_1 : List (S42)) (x4_1 : Int), v4 = .int .i64 x4_1 ∧ Aside0 (dominolaw03_its.l0 kq l0 x3_1 x4_1 = some r) ∧ Aside0 (kq ≤ k) ∧ Aside0 (Kd.R k42 42 w' w.heap.size (fun _ => True) v3 x3_1) ∧ Aside0 (Below w.heap.size w w'))
 case atStart => exact ⟨(y132), (0), (by first | rfl | (simp; done) | (simp [*]; done)), H', ⟨Nat.le_refl _⟩, ⟨by (with_reducible repeat (first | apply Kd.R_alloc | apply Kd.R_drewN | apply Kd.R_drew)); exact HO134.out⟩, ⟨by repeat (first | (with_reducible first | exact HB.out | apply below_alloc | apply pw_below_drewN | apply below_drew1) | exact HB.out)⟩⟩
 case round =>
  clear H'
  try clear c1
  try clear p2
  obtain ⟨x3_1, x4_1, rfl, HA, HK1, HO_3, HB⟩ := hrel
  cases gk with
  | zero => exact absurd HA.out (by simp [dominolaw03_its.l0])
  | succ k1 =>
   have H := HA.out
   clear HA
   simp only [dominolaw03_its.l0] at H
   by_cases c4 : x4_1 < (l0.length : Int)
   ·rw [if_pos c4] at H
    have c4b0 : decide (x4_1 < (l0.length : Int)) = true := decide_eq_true c4
    clear c4
    by_cases c5 : 0 ≤ x4_1
    ·rw [if_pos c5] at H
     have c5b0 : decide (0 ≤ x4_1) = true := decide_eq_true c5
     clear c5
     by_cases c6 : x3_1.length < 8796093022208
     ·rw [if_pos c6] at H
      have LMc6 := Aside0.mk c6
      clear c6
      obtain ⟨y136, hy136⟩ : ∃ y_ : List (S42), y_ = (x3_1 ++ [(⟨(rd_T34 l0 x4_1).f0, (rd_T34 l0 x4_1).f1⟩ : S42)]) := ⟨_, rfl⟩
      replace H : (dominolaw03_its.l0 k1 l0 y136 (wrap64 (x4_1 + 1))) = some r := by first | (rw [hy136]; with_reducible exact H) | (have H2_ := (Option.bind_some _ _).symm.trans H; rw [hy136]; with_reducible exact H2_) | (have H2_ := (Option.bind_some _ _).symm.trans H; with_reducible exact H2_) | with_reducible exact H | (rw [hy136]; exact H) | exact H
      have Ny136 := Aside0.mk hy136
      clear hy136
      have H' := Aside0.mk H
      clear H
      have p135 : 0 ≤ (x4_1 : Int) := of_decide_eq_true (by first | (with_reducible assumption) | assumption)
      have q135 : x4_1 < (l0.length : Int) := of_decide_eq_true (by first | (with_reducible assumption) | assumption)
      obtain ⟨ad135, e135, hx135_0, hx135_1⟩ := at_T34 HR0.out x4_1 p135 q135
      cases e135
      replace hx135_0 := (HB.out.cell (World.block_lt_of_cell? w _ hx135_0)).trans hx135_0
      replace hx135_1 := (HB.out.cell (World.block_lt_of_cell? w _ hx135_1)).trans hx135_1
      replace p135 := eq_true p135
      replace q135 := eq_true q135
      go_wp2_with (first | ((with_reducible refine gate_builtin (b := .append) (xs := #[.tmp 12, .tmp 17]) rfl ?_); at_builtin; refine Kd.R_append k42 (w0 := w) w.heap.size rfl (.tmp 12) (.tmp 17) 28 42 (.agg #[(.int .u64 0), (.int .u64 0)]) 16 rfl Try.underlying28 info42 rfl (by decide) (by omega) u3 x3_1 (⟨(rd_T34 l0 x4_1).f0, (rd_T34 l0 x4_1).f1⟩ : S42) [.int .u64 ((rd_T34 l0 x4_1).f0), .int .u64 ((rd_T34 l0 x4_1).f1)] (fun _ => True) (fun _ => False) rfl rfl ?aP (fun _ hk => hk.elim) ?aF ?aO ?aB ?aS ?aL ?_; (case aP => exact k42_mkM _ _ _ (⟨(rd_T34 l0 x4_1).f0, (rd_T34 l0 x4_1).f1⟩ : S42)); (case aB => exact (by repeat (first | (with_reducible first | exact HB.out | apply below_alloc | apply pw_below_drewN | apply below_drew1) | exact HB.out))); (case aF => exact (fun _ _ => trivial)); (case aO => exact (by (with_reducible repeat (first | apply Kd.R_alloc | apply Kd.R_drewN | apply Kd.R_drew)); exact HO_3.out)); (case aS => exact (below_size (by repeat (first | (with_reducible first | exact HB.out | apply below_alloc | apply pw_below_drewN | apply below_drew1) | exact HB.out)))); (case aL => have := LMc6.out; omega); intro v137 w7 ho hb hg hat; rw [← Ny136.out] at ho; have n0_ := Aside0.mk (hb); have n1_ := Aside0.mk (ho); clear HB; clear HO_3; have HB := n0_; have HO138 := n1_; clear n0_ n1_; clear ho hb hg hat))
      go_roundg k1
      case measure => have := HK1.out; omega
      case rel => exact ⟨(y136), (wrap64 (x4_1 + 1)), (by first | rfl | (simp; done) | (simp [*]; done)), H', ⟨by have := HK1.out; omega⟩, ⟨by (with_reducible repeat (first | apply Kd.R_alloc | apply Kd.R_drewN | apply Kd.R_drew)); exact HO138.out⟩, ⟨by repeat (first | (with_reducible first | exact HB.out | apply below_alloc | apply pw_below_drewN | apply below_drew1) | exact HB.out)⟩⟩
     ·rw [if_neg c6] at H
      exact absurd H (by simp)
    ·rw [if_neg c5] at H
     exact absurd H (by simp)
   ·rw [if_neg c4] at H
    have c4b0 : decide (x4_1 < (l0.length : Int)) = false := decide_eq_false c4
    clear c4
    obtain rfl := Option.some.inj H
    go_wp2
    go_ret
    exact ⟨_, by first | rfl | (simp [errW_none, errW_some] <;> rfl) | (simp [*, errW_none, errW_some] <;> rfl), by (with_reducible repeat (first | apply Kd.R_alloc | apply Kd.R_drewN | apply Kd.R_drew)); exact HO_3.out, by repeat (first | (with_reducible first | exact HB.out | apply below_alloc | apply pw_below_drewN | apply below_drew1) | exact HB.out)⟩

/-! ### dominolaw03_RangesMay: function 3 -/
def dominolaw03_RangesMay.j0 : Nat → List (S34) → Bool → Option (Bool)
 | 0, _, _ => none
 | k + 1, x0, x9 => if x9 = true then ((dominolaw03_shown.f k).bind fun t140 => (some t140)) else ((ranges_May.f k x0).bind fun t141 => ((dominolaw03_its.f k x0).bind fun t142 => ((dominoref03_May.f k t142).bind fun t145 => (some (t141 == t145)))))
def dominolaw03_RangesMay.f (k : Nat) (l0 : List (S34)) : Option (Bool) := if (l0.length : Int) > 40 then (dominolaw03_RangesMay.j0 k l0 true) else ((dominolaw03_shown.f k).bind fun t139 => (dominolaw03_RangesMay.j0 k l0 (!t139)))
theorem dominolaw03_RangesMay.mono_l : ∀ k, (∀ y0 y1, LeO (dominolaw03_RangesMay.j0 k y0 y1) (dominolaw03_RangesMay.j0 (k + 1) y0 y1))
 | 0 => fun _ _ r h => by simp [dominolaw03_RangesMay.j0] at h
 | k + 1 => by
  have ih0 := dominolaw03_RangesMay.mono_l k
  ·intro y0 y1
   unfold dominolaw03_RangesMay.j0
   repeat' first
   | (with_reducible exact ih0 _ _)
   | (with_reducible exact dominolaw03_its.mono _ _)
   | (with_reducible exact dominolaw03_shown.mono _)
   | (with_reducible exact dominoref03_May.mono _ _)
   | (with_reducible exact ranges_May.mono _ _)
   | (with_reducible exact LeO.refl _)
   | (with_reducible exact LeO.none _)
   | (with_reducible refine LeO.ite ?_ ?_)
   | (with_reducible refine LeO.bind ?_ (fun _ => ?_))
   | exact ih0 _ _
   | exact dominolaw03_its.mono _ _
   | exact dominolaw03_shown.mono _
   | exact dominoref03_May.mono _ _
   | exact ranges_May.mono _ _
   | exact LeO.none _
   | refine LeO.ite ?_ ?_
   | refine LeO.bind ?_ (fun _ => ?_)
theorem dominolaw03_RangesMay.mono : ∀ a0 k, LeO (dominolaw03_RangesMay.f k a0) (dominolaw03_RangesMay.f (k + 1) a0) := by
 intro a0 k
 have ih0 := dominolaw03_RangesMay.mono_l k
 unfold dominolaw03_RangesMay.f
 repeat' first
   | (with_reducible exact ih0 _ _)
   | (with_reducible exact dominolaw03_its.mono _ _)
   | (with_reducible exact dominolaw03_shown.mono _)
   | (with_reducible exact dominoref03_May.mono _ _)
   | (with_reducible exact ranges_May.mono _ _)
   | (with_reducible exact LeO.refl _)
   | (with_reducible exact LeO.none _)
   | (with_reducible refine LeO.ite ?_ ?_)
   | (with_reducible refine LeO.bind ?_ (fun _ => ?_))
   | exact ih0 _ _
   | exact dominolaw03_its.mono _ _
   | exact dominolaw03_shown.mono _
   | exact dominoref03_May.mono _ _
   | exact ranges_May.mono _ _
   | exact LeO.none _
   | refine LeO.ite ?_ ?_
   | refine LeO.bind ?_ (fun _ => ?_)
set_option maxHeartbeats 8000000 in
set_option maxRecDepth 100000 in
theorem dominolaw03_RangesMay.calls (k : Nat) (A0 : Option Addr) (c0 : Nat) (l0 : List (S34)) (r : Bool) (w : World) (hr0 : Kd.C k34 w A0 l0.length l0) (hc0 : l0.length ≤ c0) (h : dominolaw03_RangesMay.f k l0 = some r) :
  Calls Try.prog 3 #[.slice A0 l0.length c0] w fun e w' => e = .returned (.bool r) ∧ Below w.heap.size w w' := by
 have HR0 := Aside0.mk hr0
 have HC0 := Aside0.mk hc0
 clear hr0 hc0
 have HB := Aside0.mk (Below.refl w.heap.size w)
 have H : (if (l0.length : Int) > 40 then (dominolaw03_RangesMay.j0 k l0 true) else ((dominolaw03_shown.f k).bind fun t139 => (dominolaw03_RangesMay.j0 k l0 (!t139)))) = some r := h
 clear h
 have HC2 := Aside0.mk H
 clear H
 go_enter Try.func3, Try.ntmps3
 go_upto_region 1 with (fail)
 go_cut [9] (fun v9 wc => ∃ (kq : Nat) (x9_1 : Bool), v9 = .bool x9_1 ∧ Aside0 (dominolaw03_RangesMay.j0 kq l0 x9_1 = some r) ∧ Aside0 (kq ≤ k) ∧ Aside0 (Below w.heap.size w wc))
 case first =>
  have H := HC2.out
  clear HC2
  by_cases c3 : (l0.length : Int) > 40
  ·rw [if_pos c3] at H
   have c3b0 : decide (40 < (l0.length : Int)) = true := decide_eq_true c3
   have c3b1 : decide (40 < l0.length) = true := decide_eq_true (by omega)
   clear c3
   (first | rw [c3b0] | (simp only [i64_w, i32_w]; rw [c3b0]) | skip)
   have H' := Aside0.mk H
   clear H
   go_wp2
   go_meet
   case rel => exact ⟨_, (true), (by first | rfl | (simp; done) | (simp [*]; done)), H', ⟨by first | omega | exact Nat.le_refl _⟩, ⟨by repeat (first | (with_reducible first | exact HB.out | apply below_alloc | apply pw_below_drewN | apply below_drew1) | exact HB.out)⟩⟩
  ·rw [if_neg c3] at H
   have c3b0 : decide (40 < (l0.length : Int)) = false := decide_eq_false c3
   have c3b1 : decide (40 < l0.length) = false := decide_eq_false (by omega)
   clear c3
   (first | rw [c3b0] | (simp only [i64_w, i32_w]; rw [c3b0]) | skip)
   replace H := Option.bind_eq_some_iff.mp H
   obtain ⟨t139, A40, H⟩ := H
   replace H : (dominolaw03_RangesMay.j0 k l0 (!t139)) = some r := H
   have A4 := Aside0.mk A40
   clear A40
   have H' := Aside0.mk H
   clear H
   go_wp2_with (first | (go_at_call 10; (with_reducible refine (dominolaw03_shown.calls k  t139 _ A4.out).mono ?_); rintro e w5 ⟨rfl, hb⟩; have n0_ := Aside0.mk (below_step (by repeat (first | (with_reducible first | exact HB.out | apply below_alloc | apply pw_below_drewN | apply below_drew1) | exact HB.out)) hb); clear HB; have HB := n0_; clear n0_; (try clear hb); (try clear hb2); (try clear hk); (try clear hi)))
   go_meet
   case rel => exact ⟨_, (!t139), (by first | rfl | (simp; done) | (simp [*]; done)), H', ⟨by first | omega | exact Nat.le_refl _⟩, ⟨by repeat (first | (with_reducible first | exact HB.out | apply below_alloc | apply pw_below_drewN | apply below_drew1) | exact HB.out)⟩⟩
 case rest =>
  clear HC2
  try clear p2
  try clear c3
  try clear c3b0
  try clear c3b1
  obtain ⟨kq, x9_1, rfl, HA, HJ1, HB⟩ := hcut
  cases kq with
  | zero => exact absurd HA.out (by simp [dominolaw03_RangesMay.j0])
  | succ kj1 =>
   have H := HA.out
   clear HA
   simp only [dominolaw03_RangesMay.j0] at H
   by_cases c6 : x9_1 = true
   ·subst c6
    have H1 : ((dominolaw03_shown.f kj1).bind fun t140 => (some t140)) = some r := by rw [if_pos rfl] at H; exact H
    clear H
    have H := H1
    clear H1
    replace H := Option.bind_eq_some_iff.mp H
    obtain ⟨t140, A70, H⟩ := H
    replace H : (some t140) = some r := H
    have A7 := Aside0.mk A70
    clear A70
    obtain rfl := Option.some.inj H
    go_wp2_with (first | ((with_reducible refine gate_callee (f := 10) rfl ?_); refine goesL_ (some 10) rfl rfl Try.func10 (by kernel_rfl) rfl #[] rfl (by (try simp only [List.map_toArray, List.map_cons, List.map_nil]); first | done | rfl | (simp only [List.length_drop, List.length_take]; rfl)) ?_; (with_reducible refine (dominolaw03_shown.calls kj1  t140 _ A7.out).mono ?_); rintro e w8 ⟨rfl, hb⟩; refine ⟨_, rfl, ?_⟩; have n0_ := Aside0.mk (below_step (by repeat (first | (with_reducible first | exact HB.out | apply below_alloc | apply pw_below_drewN | apply below_drew1) | exact HB.out)) hb); clear HB; have HB := n0_; clear n0_; (try clear hb); (try clear hb2); (try clear hk); (try clear hi)))
    go_ret
    exact ⟨by first | rfl | (simp [errW_none, errW_some] <;> rfl) | (simp [*, errW_none, errW_some] <;> rfl), by repeat (first | (with_reducible first | exact HB.out | apply below_alloc | apply pw_below_drewN | apply below_drew1) | exact HB.out)⟩
   ·replace c6 := Bool.eq_false_iff.mpr c6
    subst c6
    have H1 : ((ranges_May.f kj1 l0).bind fun t141 => ((dominolaw03_its.f kj1 l0).bind fun t142 => ((dominoref03_May.f kj1 t142).bind fun t145 => (some (t141 == t145))))) = some r := by rw [if_neg (show ¬ (false = true) by decide)] at H; exact H
    clear H
    have H := H1
    clear H1
    replace H := Option.bind_eq_some_iff.mp H
    obtain ⟨t141, A90, H⟩ := H
    replace H : ((dominolaw03_its.f kj1 l0).bind fun t142 => ((dominoref03_May.f kj1 t142).bind fun t145 => (some (t141 == t145)))) = some r := H
    have A9 := Aside0.mk A90
    clear A90
    replace H := Option.bind_eq_some_iff.mp H
    obtain ⟨t142, A100, H⟩ := H
    replace H : ((dominoref03_May.f kj1 t142).bind fun t145 => (some (t141 == t145))) = some r := H
    have A10 := Aside0.mk A100
    clear A100
    replace H := Option.bind_eq_some_iff.mp H
    obtain ⟨t145, A110, H⟩ := H
    replace H : (some (t141 == t145)) = some r := H
    have A11 := Aside0.mk A110
    clear A110
    obtain rfl := Option.some.inj H
    go_wp2_with (first | ((with_reducible refine gate_callee (f := 11) rfl ?_); refine goesL_ (some 12) rfl rfl Try.func11 (by kernel_rfl) rfl #[.slice A0 l0.length c0] rfl (by (try simp only [List.map_toArray, List.map_cons, List.map_nil]); first | done | rfl | (simp only [List.length_drop, List.length_take]; rfl)) ?_; (with_reducible refine (ranges_May.calls kj1 _ _ l0 t141 _ ?side1 ?side2 A9.out).mono ?_); (case side1 => repeat (first | exact (Kd.C_below HR0.out HB.out) | (with_reducible refine Kd.C_alloc ?_ _) | (with_reducible refine Kd.C_drewN ?_ _) | (with_reducible refine Kd.C_drew ?_))); (case side2 => exact HC0.out); rintro e w12 ⟨rfl, hb⟩; refine ⟨_, rfl, ?_⟩; have n0_ := Aside0.mk (below_step (by repeat (first | (with_reducible first | exact HB.out | apply below_alloc | apply pw_below_drewN | apply below_drew1) | exact HB.out)) hb); clear HB; have HB := n0_; clear n0_; (try clear hb); (try clear hb2); (try clear hk); (try clear hi)) | ((with_reducible refine gate_callee (f := 13) rfl ?_); refine goesL_ (some 14) rfl rfl Try.func13 (by kernel_rfl) rfl #[.slice A0 l0.length c0] rfl (by (try simp only [List.map_toArray, List.map_cons, List.map_nil]); first | done | rfl | (simp only [List.length_drop, List.length_take]; rfl)) ?_; (with_reducible refine (dominolaw03_its.calls kj1 _ _ l0 t142 _ ?side1 ?side2 A10.out).mono ?_); (case side1 => repeat (first | exact (Kd.C_below HR0.out HB.out) | (with_reducible refine Kd.C_alloc ?_ _) | (with_reducible refine Kd.C_drewN ?_ _) | (with_reducible refine Kd.C_drew ?_))); (case side2 => exact HC0.out); rintro e w13 ⟨v143, rfl, ho0, hb⟩; refine ⟨_, rfl, ?_⟩; have n0_ := Aside0.mk (Kd.R_lower ho0 (below_size (by repeat (first | (with_reducible first | exact HB.out | apply below_alloc | apply pw_below_drewN | apply below_drew1) | exact HB.out)))); have n1_ := Aside0.mk (below_step (by repeat (first | (with_reducible first | exact HB.out | apply below_alloc | apply pw_below_drewN | apply below_drew1) | exact HB.out)) hb); clear HB; have HO144 := n0_; have HB := n1_; clear n0_ n1_; (try clear hb); (try clear hb2); (try clear hk); (try clear hi); (try clear ho0); obtain ⟨Ao14, co14, eo14⟩ := Kd.R_slice HO144.out; subst eo14) | ((with_reducible refine gate_callee (f := 12) rfl ?_); refine goesL_ (some 15) rfl rfl Try.func12 (by kernel_rfl) rfl #[.slice Ao14 t142.length co14] rfl (by (try simp only [List.map_toArray, List.map_cons, List.map_nil]); first | done | rfl | (simp only [List.length_drop, List.length_take]; rfl)) ?_; (with_reducible refine (dominoref03_May.calls kj1 _ _ t142 t145 _ ?side1 ?side2 A11.out).mono ?_); (case side1 => repeat (first | exact (Kd.R_reads' HO144.out).2.2 | (with_reducible refine Kd.C_alloc ?_ _) | (with_reducible refine Kd.C_drewN ?_ _) | (with_reducible refine Kd.C_drew ?_))); (case side2 => exact (Kd.R_reads' HO144.out).2.1); rintro e w' ⟨rfl, ⟨nd, rfl⟩⟩; refine ⟨_, rfl, ?_⟩))
    go_ret
    exact ⟨by first | rfl | (simp [errW_none, errW_some] <;> rfl) | (simp [*, errW_none, errW_some] <;> rfl), by repeat (first | (with_reducible first | exact HB.out | apply below_alloc | apply pw_below_drewN | apply below_drew1) | exact HB.out)⟩

/-- THE ONE PURE STATEMENT of dominolaw03_RangesMay: yours. -/
def dominolaw03_RangesMay.Pure : Prop := ∀ (l0 : List (S34)), l0.length ≤ maxLen → l0.length * 16 ≤ 140737488351232 → (∀ x ∈ l0, ((Lit.int .u64 x.f0).wf = true ∧ (Lit.int .u64 x.f1).wf = true)) → ∃ k, dominolaw03_RangesMay.f k l0 = some true
theorem dominolaw03_RangesMay.walk (P : dominolaw03_RangesMay.Pure) (a0 : Option Addr) (cap0 : Nat) (l0 : List (S34)) (w : World) (hr0 : Kd.C k34 w a0 l0.length l0) (hc0 : l0.length ≤ cap0) (w0_0 : l0.length ≤ maxLen) (w0_1 : l0.length * 16 ≤ 140737488351232) (w0_2 : (∀ x ∈ l0, ((Lit.int .u64 x.f0).wf = true ∧ (Lit.int .u64 x.f1).wf = true))) :
  Calls Try.prog 3 #[.slice a0 l0.length cap0] w fun e w' => e = .returned (.bool true) ∧ Below w.heap.size w w' := by
 obtain ⟨k, h⟩ := P l0 w0_0 w0_1 w0_2
 refine (dominolaw03_RangesMay.calls k a0 cap0 l0 true w hr0 hc0 h).mono ?_
 rintro e w' ⟨rfl, hd⟩
 exact ⟨rfl, hd⟩

/-! ### dominolaw03_low: function 14 -/
def dominolaw03_low.l0 : Nat → List (S34) → Int → Option (Bool)
 | 0, _, _ => none
 | k + 1, x0, x3 => if x3 < (x0.length : Int) then (if 0 ≤ x3 then (if ((rd_T34 x0 x3).f0) ≥ 9223372036854775808 then (some false) else (if ((rd_T34 x0 x3).f1) ≥ 9223372036854775808 then (some false) else (dominolaw03_low.l0 k x0 (wrap64 (x3 + 1))))) else (none)) else (some (decide ((x0.length : Int) ≤ 40)))
def dominolaw03_low.f (k : Nat) (l0 : List (S34)) : Option (Bool) := dominolaw03_low.l0 k l0 0
theorem dominolaw03_low.mono_l : ∀ k, (∀ y0 y1, LeO (dominolaw03_low.l0 k y0 y1) (dominolaw03_low.l0 (k + 1) y0 y1))
 | 0 => fun _ _ r h => by simp [dominolaw03_low.l0] at h
 | k + 1 => by
  have ih0 := dominolaw03_low.mono_l k
  ·intro y0 y1
   unfold dominolaw03_low.l0
   repeat' first
   | (with_reducible exact ih0 _ _)
   | (with_reducible exact LeO.refl _)
   | (with_reducible exact LeO.none _)
   | (with_reducible refine LeO.ite ?_ ?_)
   | (with_reducible refine LeO.bind ?_ (fun _ => ?_))
   | exact ih0 _ _
   | exact LeO.none _
   | refine LeO.ite ?_ ?_
   | refine LeO.bind ?_ (fun _ => ?_)
theorem dominolaw03_low.mono : ∀ a0 k, LeO (dominolaw03_low.f k a0) (dominolaw03_low.f (k + 1) a0) := by
 intro a0 k
 have ih0 := dominolaw03_low.mono_l k
 unfold dominolaw03_low.f
 repeat' first
   | (with_reducible exact ih0 _ _)
   | (with_reducible exact LeO.refl _)
   | (with_reducible exact LeO.none _)
   | (with_reducible refine LeO.ite ?_ ?_)
   | (with_reducible refine LeO.bind ?_ (fun _ => ?_))
   | exact ih0 _ _
   | exact LeO.none _
   | refine LeO.ite ?_ ?_
   | refine LeO.bind ?_ (fun _ => ?_)
set_option maxHeartbeats 8000000 in
set_option maxRecDepth 100000 in
theorem dominolaw03_low.calls (k : Nat) (A0 : Option Addr) (c0 : Nat) (l0 : List (S34)) (r : Bool) (w : World) (hr0 : Kd.C k34 w A0 l0.length l0) (hc0 : l0.length ≤ c0) (h : dominolaw03_low.f k l0 = some r) :
  Calls Try.prog 14 #[.slice A0 l0.length c0] w fun e w' => e = .returned (.bool r) ∧ Drawn0 w w' := by
 have HR0 := Aside0.mk hr0
 have HC0 := Aside0.mk hc0
 clear hr0 hc0
 have H : (dominolaw03_low.l0 k l0 0) = some r := h
 clear h
 have H' := Aside0.mk H
 clear H
 go_enter Try.func14, Try.ntmps14
 go_wp2
 go_loopg [3] k (fun kq v3 w' => ∃ (x3_1 : Int), v3 = .int .i64 x3_1 ∧ Aside0 (dominolaw03_low.l0 kq l0 x3_1 = some r) ∧ Aside0 (kq ≤ k) ∧ Drawn0 w w')
 case atStart => exact ⟨(0), (by first | rfl | (simp; done) | (simp [*]; done)), H', ⟨Nat.le_refl _⟩, by repeat (first | exact Drawn0.refl _ | apply Drawn0.step)⟩
 case round =>
  clear H'
  try clear c1
  obtain ⟨x3_1, rfl, HA, HK1, ⟨m1, rfl⟩⟩ := hrel
  cases gk with
  | zero => exact absurd HA.out (by simp [dominolaw03_low.l0])
  | succ k1 =>
   have H := HA.out
   clear HA
   simp only [dominolaw03_low.l0] at H
   by_cases c2 : x3_1 < (l0.length : Int)
   ·rw [if_pos c2] at H
    have c2b0 : decide (x3_1 < (l0.length : Int)) = true := decide_eq_true c2
    clear c2
    by_cases c3 : 0 ≤ x3_1
    ·rw [if_pos c3] at H
     have c3b0 : decide (0 ≤ x3_1) = true := decide_eq_true c3
     clear c3
     by_cases c4 : ((rd_T34 l0 x3_1).f0) ≥ 9223372036854775808
     ·rw [if_pos c4] at H
      have c4b0 : decide (9223372036854775808 ≤ ((rd_T34 l0 x3_1).f0)) = true := decide_eq_true c4
      clear c4
      obtain rfl := Option.some.inj H
      have p146 : 0 ≤ (x3_1 : Int) := of_decide_eq_true (by first | (with_reducible assumption) | assumption)
      have q146 : x3_1 < (l0.length : Int) := of_decide_eq_true (by first | (with_reducible assumption) | assumption)
      obtain ⟨ad146, e146, hx146_0, hx146_1⟩ := at_T34 HR0.out x3_1 p146 q146
      cases e146
      replace p146 := eq_true p146
      replace q146 := eq_true q146
      go_wp2
      go_ret
      exact ⟨by first | rfl | (simp; done) | (simp [*]; done), by repeat (first | exact Drawn0.refl _ | apply Drawn0.step)⟩
     ·rw [if_neg c4] at H
      have c4b0 : decide (9223372036854775808 ≤ ((rd_T34 l0 x3_1).f0)) = false := decide_eq_false c4
      clear c4
      by_cases c5 : ((rd_T34 l0 x3_1).f1) ≥ 9223372036854775808
      ·rw [if_pos c5] at H
       have c5b0 : decide (9223372036854775808 ≤ ((rd_T34 l0 x3_1).f1)) = true := decide_eq_true c5
       clear c5
       obtain rfl := Option.some.inj H
       have p146 : 0 ≤ (x3_1 : Int) := of_decide_eq_true (by first | (with_reducible assumption) | assumption)
       have q146 : x3_1 < (l0.length : Int) := of_decide_eq_true (by first | (with_reducible assumption) | assumption)
       obtain ⟨ad146, e146, hx146_0, hx146_1⟩ := at_T34 HR0.out x3_1 p146 q146
       cases e146
       replace p146 := eq_true p146
       replace q146 := eq_true q146
       have p147 : 0 ≤ (x3_1 : Int) := of_decide_eq_true (by first | (with_reducible assumption) | assumption)
       have q147 : x3_1 < (l0.length : Int) := of_decide_eq_true (by first | (with_reducible assumption) | assumption)
       obtain ⟨ad147, e147, hx147_0, hx147_1⟩ := at_T34 HR0.out x3_1 p147 q147
       obtain rfl : ad146 = ad147 := (by injection e147)
       replace p147 := eq_true p147
       replace q147 := eq_true q147
       go_wp2
       go_ret
       exact ⟨by first | rfl | (simp; done) | (simp [*]; done), by repeat (first | exact Drawn0.refl _ | apply Drawn0.step)⟩
      ·rw [if_neg c5] at H
       have c5b0 : decide (9223372036854775808 ≤ ((rd_T34 l0 x3_1).f1)) = false := decide_eq_false c5
       clear c5
       have H' := Aside0.mk H
       clear H
       have p146 : 0 ≤ (x3_1 : Int) := of_decide_eq_true (by first | (with_reducible assumption) | assumption)
       have q146 : x3_1 < (l0.length : Int) := of_decide_eq_true (by first | (with_reducible assumption) | assumption)
       obtain ⟨ad146, e146, hx146_0, hx146_1⟩ := at_T34 HR0.out x3_1 p146 q146
       cases e146
       replace p146 := eq_true p146
       replace q146 := eq_true q146
       have p147 : 0 ≤ (x3_1 : Int) := of_decide_eq_true (by first | (with_reducible assumption) | assumption)
       have q147 : x3_1 < (l0.length : Int) := of_decide_eq_true (by first | (with_reducible assumption) | assumption)
       obtain ⟨ad147, e147, hx147_0, hx147_1⟩ := at_T34 HR0.out x3_1 p147 q147
       obtain rfl : ad146 = ad147 := (by injection e147)
       replace p147 := eq_true p147
       replace q147 := eq_true q147
       go_wp2
       go_roundg k1
       case measure => have := HK1.out; omega
       case rel => exact ⟨(wrap64 (x3_1 + 1)), (by first | rfl | (simp; done) | (simp [*]; done)), H', ⟨by have := HK1.out; omega⟩, by repeat (first | exact Drawn0.refl _ | apply Drawn0.step)⟩
    ·rw [if_neg c3] at H
     exact absurd H (by simp)
   ·rw [if_neg c2] at H
    have c2b0 : decide (x3_1 < (l0.length : Int)) = false := decide_eq_false c2
    clear c2
    obtain rfl := Option.some.inj H
    go_wp2
    go_ret
    exact ⟨by first | rfl | (simp; done) | (simp [*]; done), by repeat (first | exact Drawn0.refl _ | apply Drawn0.step)⟩

end Go.Proofs.Ytpjohlcidmnikaa.PRgx
