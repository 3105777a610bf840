-- printed for this claim by a program of the claim (wip/tools/pp.py over the kit's print)
import Derived.Test.YtghdmlcmoeoohaaPKfxx0
import Derived.Test.YtghdmlcmoeoohaaPKfxx1
import Derived.Test.YtghdmlcmoeoohaaPKfxx7
import Derived.Test.YtghdmlcmoeoohaaPKfxx11
import Derived.Test.YtghdmlcmoeoohaaPKfxx13
namespace Go.Proofs.Ytghdmlcmoeoohaa.PKfx
open Go.RowKit Go.Proofs.YtghdmlcmoeoohaaW.PrintWords Go.Proofs.YtghdmlcmoeoohaaW.PrintLast Go.Proofs.YtghdmlcmoeoohaaW.PrintMore
attribute [local go_sem] max2_int min2_int max_two min_two max_three min_three max_four min_four   -- for this text's walks alone
set_option linter.unusedVariables false
set_option linter.unusedSimpArgs false

attribute [local go_sem] isSome_setCell_
attribute [local go_sem high] eqA30
/-! ### dominolaw08_KdfKeys: function 8 -/
def dominolaw08_KdfKeys.j0 : Nat → ByteArray → ByteArray → ByteArray → ByteArray → ByteArray → Bool → Option (Bool)
  | 0, _, _, _, _, _, _ => none
  | k + 1, x0, x1, x2, x3, x4, x41 => if x41 = true then ((dominolaw08_shown.f k).bind fun t292 => (some t292)) else ((kdf_Shared.f k x1 x2 x3).bind fun bt293 => ((dominoref08_Shared.f k x1 x2 x3).bind fun bt295 => ((kdf_Of.f k x0).bind fun bt297 => ((dominoref08_Of.f k x0).bind fun bt300 => (if (bt297.1.toList == bt300.1.toList && (bt297.2.1.toList == bt300.2.1.toList && (bt297.2.2.toList == bt300.2.2.toList))) = true then ((kdf_Next.f k x0).bind fun t303 => ((dominoref08_Next.f k x0).bind fun t304 => (if t303.toList = t304.toList then (if bt293.1.toList = bt295.1.toList then (if bt293.2.toList = bt295.2.toList then ((kdf_Reset.f x0 x4).bind fun t305 => ((dominoref08_Reset.f k x0 x4).bind fun t306 => (some (t305.toList == t306.toList)))) else (none)) else (none)) else (none)))) else (none))))))
def dominolaw08_KdfKeys.f (k : Nat) (a0 : ByteArray) (a1 : ByteArray) (a2 : ByteArray) (a3 : ByteArray) (a4 : ByteArray) : Option (Bool) := if (a0.size : Int) > 100 then (dominolaw08_KdfKeys.j0 k a0 a1 a2 a3 a4 true) else (if (a1.size : Int) > 100 then (dominolaw08_KdfKeys.j0 k a0 a1 a2 a3 a4 true) else (if (a2.size : Int) > 200 then (dominolaw08_KdfKeys.j0 k a0 a1 a2 a3 a4 true) else (if (a3.size : Int) > 200 then (dominolaw08_KdfKeys.j0 k a0 a1 a2 a3 a4 true) else (if (a4.size : Int) > 50 then (dominolaw08_KdfKeys.j0 k a0 a1 a2 a3 a4 true) else ((dominolaw08_shown.f k).bind fun t291 => (dominolaw08_KdfKeys.j0 k a0 a1 a2 a3 a4 (!t291)))))))
theorem dominolaw08_KdfKeys.mono_l : ∀ k, (∀ y0 y1 y2 y3 y4 y5, LeO (dominolaw08_KdfKeys.j0 k y0 y1 y2 y3 y4 y5) (dominolaw08_KdfKeys.j0 (k + 1) y0 y1 y2 y3 y4 y5))
  | 0 => fun _ _ _ _ _ _ r h => by simp [dominolaw08_KdfKeys.j0] at h
  | k + 1 => by
    have ih0 := dominolaw08_KdfKeys.mono_l k
    · intro y0 y1 y2 y3 y4 y5
      unfold dominolaw08_KdfKeys.j0
      repeat' first
      | (with_reducible exact ih0 _ _ _ _ _ _)
      | (with_reducible exact dominolaw08_shown.mono _)
      | (with_reducible exact dominoref08_Next.mono _ _)
      | (with_reducible exact dominoref08_Of.mono _ _)
      | (with_reducible exact dominoref08_Reset.mono _ _ _)
      | (with_reducible exact dominoref08_Shared.mono _ _ _ _)
      | (with_reducible exact kdf_Next.mono _ _)
      | (with_reducible exact kdf_Of.mono _ _)
      | (with_reducible exact kdf_Shared.mono _ _ _ _)
      | (with_reducible exact LeO.refl _)
      | (with_reducible exact LeO.none _)
      | (with_reducible refine LeO.ite ?_ ?_)
      | (with_reducible refine LeO.bind ?_ (fun _ => ?_))
      | exact ih0 _ _ _ _ _ _
      | exact dominolaw08_shown.mono _
      | exact dominoref08_Next.mono _ _
      | exact dominoref08_Of.mono _ _
      | exact dominoref08_Reset.mono _ _ _
      | exact dominoref08_Shared.mono _ _ _ _
      | exact kdf_Next.mono _ _
      | exact kdf_Of.mono _ _
      | exact kdf_Shared.mono _ _ _ _
      | exact LeO.none _
      | refine LeO.ite ?_ ?_
      | refine LeO.bind ?_ (fun _ => ?_)
theorem dominolaw08_KdfKeys.mono : ∀ a0 a1 a2 a3 a4 k, LeO (dominolaw08_KdfKeys.f k a0 a1 a2 a3 a4) (dominolaw08_KdfKeys.f (k + 1) a0 a1 a2 a3 a4) := by
  intro a0 a1 a2 a3 a4 k
  have ih0 := dominolaw08_KdfKeys.mono_l k
  unfold dominolaw08_KdfKeys.f
  repeat' first
      | (with_reducible exact ih0 _ _ _ _ _ _)
      | (with_reducible exact dominolaw08_shown.mono _)
      | (with_reducible exact dominoref08_Next.mono _ _)
      | (with_reducible exact dominoref08_Of.mono _ _)
      | (with_reducible exact dominoref08_Reset.mono _ _ _)
      | (with_reducible exact dominoref08_Shared.mono _ _ _ _)
      | (with_reducible exact kdf_Next.mono _ _)
      | (with_reducible exact kdf_Of.mono _ _)
      | (with_reducible exact kdf_Shared.mono _ _ _ _)
      | (with_reducible exact LeO.refl _)
      | (with_reducible exact LeO.none _)
      | (with_reducible refine LeO.ite ?_ ?_)
      | (with_reducible refine LeO.bind ?_ (fun _ => ?_))
      | exact ih0 _ _ _ _ _ _
      | exact dominolaw08_shown.mono _
      | exact dominoref08_Next.mono _ _
      | exact dominoref08_Of.mono _ _
      | exact dominoref08_Reset.mono _ _ _
      | exact dominoref08_Shared.mono _ _ _ _
      | exact kdf_Next.mono _ _
      | exact kdf_Of.mono _ _
      | exact kdf_Shared.mono _ _ _ _
      | exact LeO.none _
      | refine LeO.ite ?_ ?_
      | refine LeO.bind ?_ (fun _ => ?_)
set_option maxHeartbeats 8000000 in
set_option maxRecDepth 100000 in
theorem dominolaw08_KdfKeys.calls (k : Nat) (a0 : ByteArray) (a1 : ByteArray) (a2 : ByteArray) (a3 : ByteArray) (a4 : ByteArray) (r : Bool) (w : World) (h : dominolaw08_KdfKeys.f k a0 a1 a2 a3 a4 = some r) :
    Calls Try.prog 8 #[.string a0, .string a1, .string a2, .string a3, .string a4] w fun e w' => e = .returned (.bool r) ∧ Below w.heap.size w w' := by
  have HB := Aside0.mk (Below.refl w.heap.size w)
  have H : (if (a0.size : Int) > 100 then (dominolaw08_KdfKeys.j0 k a0 a1 a2 a3 a4 true) else (if (a1.size : Int) > 100 then (dominolaw08_KdfKeys.j0 k a0 a1 a2 a3 a4 true) else (if (a2.size : Int) > 200 then (dominolaw08_KdfKeys.j0 k a0 a1 a2 a3 a4 true) else (if (a3.size : Int) > 200 then (dominolaw08_KdfKeys.j0 k a0 a1 a2 a3 a4 true) else (if (a4.size : Int) > 50 then (dominolaw08_KdfKeys.j0 k a0 a1 a2 a3 a4 true) else ((dominolaw08_shown.f k).bind fun t291 => (dominolaw08_KdfKeys.j0 k a0 a1 a2 a3 a4 (!t291)))))))) = some r := h
  clear h
  have HC6 := Aside0.mk H
  clear H
  go_enter Try.func8, Try.ntmps8
  go_upto_region 1 with (fail)
  go_cut [41] (fun v41 wc => ∃ (kq : Nat) (x41_5 : Bool), v41 = .bool x41_5 ∧ Aside0 (dominolaw08_KdfKeys.j0 kq a0 a1 a2 a3 a4 x41_5 = some r) ∧ Aside0 (kq ≤ k) ∧ Aside0 (Below w.heap.size w wc))
  case first =>
    have H := HC6.out
    clear HC6
    by_cases c7 : (a0.size : Int) > 100
    · rw [if_pos c7] at H
      have c7b0 : decide (100 < (a0.size : Int)) = true := decide_eq_true c7
      have c7b1 : decide (100 < a0.size) = true := decide_eq_true (by omega)
      clear c7
      (first | rw [c7b0] | (simp only [i64_w, i32_w]; rw [c7b0]) | skip)
      have H' := Aside0.mk H
      clear H
      go_wp2
      go_meet
      case rel => exact ⟨_, (true), (by first | rfl | (simp; done) | (simp [*]; done)), H', ⟨by first | omega | exact Nat.le_refl _⟩, ⟨by repeat (first | (with_reducible first | exact HB.out | apply below_alloc | apply pw_below_drewN | apply below_drew1) | exact HB.out)⟩⟩
    · rw [if_neg c7] at H
      have c7b0 : decide (100 < (a0.size : Int)) = false := decide_eq_false c7
      have c7b1 : decide (100 < a0.size) = false := decide_eq_false (by omega)
      clear c7
      (first | rw [c7b0] | (simp only [i64_w, i32_w]; rw [c7b0]) | skip)
      by_cases c8 : (a1.size : Int) > 100
      · rw [if_pos c8] at H
        have c8b0 : decide (100 < (a1.size : Int)) = true := decide_eq_true c8
        have c8b1 : decide (100 < a1.size) = true := decide_eq_true (by omega)
        clear c8
        have H' := Aside0.mk H
        clear H
        go_wp2
        go_meet
        case rel => exact ⟨_, (true), (by first | rfl | (simp; done) | (simp [*]; done)), H', ⟨by first | omega | exact Nat.le_refl _⟩, ⟨by repeat (first | (with_reducible first | exact HB.out | apply below_alloc | apply pw_below_drewN | apply below_drew1) | exact HB.out)⟩⟩
      · rw [if_neg c8] at H
        have c8b0 : decide (100 < (a1.size : Int)) = false := decide_eq_false c8
        have c8b1 : decide (100 < a1.size) = false := decide_eq_false (by omega)
        clear c8
        by_cases c9 : (a2.size : Int) > 200
        · rw [if_pos c9] at H
          have c9b0 : decide (200 < (a2.size : Int)) = true := decide_eq_true c9
          have c9b1 : decide (200 < a2.size) = true := decide_eq_true (by omega)
          clear c9
          have H' := Aside0.mk H
          clear H
          go_wp2
          go_meet
          case rel => exact ⟨_, (true), (by first | rfl | (simp; done) | (simp [*]; done)), H', ⟨by first | omega | exact Nat.le_refl _⟩, ⟨by repeat (first | (with_reducible first | exact HB.out | apply below_alloc | apply pw_below_drewN | apply below_drew1) | exact HB.out)⟩⟩
        · rw [if_neg c9] at H
          have c9b0 : decide (200 < (a2.size : Int)) = false := decide_eq_false c9
          have c9b1 : decide (200 < a2.size) = false := decide_eq_false (by omega)
          clear c9
          by_cases c10 : (a3.size : Int) > 200
          · rw [if_pos c10] at H
            have c10b0 : decide (200 < (a3.size : Int)) = true := decide_eq_true c10
            have c10b1 : decide (200 < a3.size) = true := decide_eq_true (by omega)
            clear c10
            have H' := Aside0.mk H
            clear H
            go_wp2
            go_meet
            case rel => exact ⟨_, (true), (by first | rfl | (simp; done) | (simp [*]; done)), H', ⟨by first | omega | exact Nat.le_refl _⟩, ⟨by repeat (first | (with_reducible first | exact HB.out | apply below_alloc | apply pw_below_drewN | apply below_drew1) | exact HB.out)⟩⟩
          · rw [if_neg c10] at H
            have c10b0 : decide (200 < (a3.size : Int)) = false := decide_eq_false c10
            have c10b1 : decide (200 < a3.size) = false := decide_eq_false (by omega)
            clear c10
            by_cases c11 : (a4.size : Int) > 50
            · rw [if_pos c11] at H
              have c11b0 : decide (50 < (a4.size : Int)) = true := decide_eq_true c11
              have c11b1 : decide (50 < a4.size) = true := decide_eq_true (by omega)
              clear c11
              have H' := Aside0.mk H
              clear H
              go_wp2
              go_meet
              case rel => exact ⟨_, (true), (by first | rfl | (simp; done) | (simp [*]; done)), H', ⟨by first | omega | exact Nat.le_refl _⟩, ⟨by repeat (first | (with_reducible first | exact HB.out | apply below_alloc | apply pw_below_drewN | apply below_drew1) | exact HB.out)⟩⟩
            · rw [if_neg c11] at H
              have c11b0 : decide (50 < (a4.size : Int)) = false := decide_eq_false c11
              have c11b1 : decide (50 < a4.size) = false := decide_eq_false (by omega)
              clear c11
              replace H := Option.bind_eq_some_iff.mp H
              obtain ⟨t291, A120, H⟩ := H
              replace H : (dominolaw08_KdfKeys.j0 k a0 a1 a2 a3 a4 (!t291)) = some r := H
              have A12 := Aside0.mk A120
              clear A120
              have H' := Aside0.mk H
              clear H
              go_wp2_with (first | (go_at_call 9; (with_reducible refine (dominolaw08_shown.calls k  t291 _ A12.out).mono ?_); rintro e w13 ⟨rfl, hb⟩; have n0_ := Aside0.mk (below_step (by repeat (first | (with_reducible first | exact HB.out | apply below_alloc | apply pw_below_drewN | apply below_drew1) | exact HB.out)) hb); clear HB; have HB := n0_; clear n0_; (try clear hb); (try clear hb2); (try clear hk); (try clear hi)))
              go_meet
              case rel => exact ⟨_, (!t291), (by first | rfl | (simp; done) | (simp [*]; done)), H', ⟨by first | omega | exact Nat.le_refl _⟩, ⟨by repeat (first | (with_reducible first | exact HB.out | apply below_alloc | apply pw_below_drewN | apply below_drew1) | exact HB.out)⟩⟩
  case rest =>
    clear HC6
    try clear c1
    try clear p2
    try clear c7
    try clear c7b0
    try clear c7b1
    try clear c8
    try clear c8b0
    try clear c8b1
    try clear c9
    try clear c9b0
    try clear c9b1
    try clear c10
    try clear c10b0
    try clear c10b1
    try clear c11
    try clear c11b0
    try clear c11b1
    obtain ⟨kq, x41_5, rfl, HA, HJ5, HB⟩ := hcut
    cases kq with
    | zero => exact absurd HA.out (by simp [dominolaw08_KdfKeys.j0])
    | succ kj5 =>
      have H := HA.out
      clear HA
      simp only [dominolaw08_KdfKeys.j0] at H
      by_cases c14 : x41_5 = true
      · subst c14
        have H1 : ((dominolaw08_shown.f kj5).bind fun t292 => (some t292)) = some r := by rw [if_pos rfl] at H; exact H
        clear H
        have H := H1
        clear H1
        replace H := Option.bind_eq_some_iff.mp H
        obtain ⟨t292, A150, H⟩ := H
        replace H : (some t292) = some r := H
        have A15 := Aside0.mk A150
        clear A150
        obtain rfl := Option.some.inj H
        go_wp2_with (first | ((with_reducible refine gate_callee (f := 9) rfl ?_); refine goesL_ (some 42) rfl rfl Try.func9 (by kernel_rfl) rfl #[] rfl (by (try simp only [List.map_toArray, List.map_cons, List.map_nil]); first | done | rfl | (simp only [List.length_drop, List.length_take]; rfl)) ?_; (with_reducible refine (dominolaw08_shown.calls kj5  t292 _ A15.out).mono ?_); rintro e w16 ⟨rfl, hb⟩; refine ⟨_, rfl, ?_⟩; have n0_ := Aside0.mk (below_step (by repeat (first | (with_reducible first | exact HB.out | apply below_alloc | apply pw_below_drewN | apply below_drew1) | exact HB.out)) hb); clear HB; have HB := n0_; clear n0_; (try clear hb); (try clear hb2); (try clear hk); (try clear hi)))
        go_ret
        exact ⟨by first | rfl | (simp [errW_none, errW_some] <;> rfl) | (simp [*, errW_none, errW_some] <;> rfl), by repeat (first | (with_reducible first | exact HB.out | apply below_alloc | apply pw_below_drewN | apply below_drew1) | exact HB.out)⟩
      · replace c14 := Bool.eq_false_iff.mpr c14
        subst c14
        have H1 : ((kdf_Shared.f kj5 a1 a2 a3).bind fun bt293 => ((dominoref08_Shared.f kj5 a1 a2 a3).bind fun bt295 => ((kdf_Of.f kj5 a0).bind fun bt297 => ((dominoref08_Of.f kj5 a0).bind fun bt300 => (if (bt297.1.toList == bt300.1.toList && (bt297.2.1.toList == bt300.2.1.toList && (bt297.2.2.toList == bt300.2.2.toList))) = true then ((kdf_Next.f kj5 a0).bind fun t303 => ((dominoref08_Next.f kj5 a0).bind fun t304 => (if t303.toList = t304.toList then (if bt293.1.toList = bt295.1.toList then (if bt293.2.toList = bt295.2.toList then ((kdf_Reset.f a0 a4).bind fun t305 => ((dominoref08_Reset.f kj5 a0 a4).bind fun t306 => (some (t305.toList == t306.toList)))) else (none)) else (none)) else (none)))) else (none)))))) = some r := by rw [if_neg (show ¬ (false = true) by decide)] at H; exact H
        clear H
        have H := H1
        clear H1
        replace H := Option.bind_eq_some_iff.mp H
        obtain ⟨⟨t293, t294⟩, A170, H⟩ := H
        replace H : ((dominoref08_Shared.f kj5 a1 a2 a3).bind fun bt295 => ((kdf_Of.f kj5 a0).bind fun bt297 => ((dominoref08_Of.f kj5 a0).bind fun bt300 => (if (bt297.1.toList == bt300.1.toList && (bt297.2.1.toList == bt300.2.1.toList && (bt297.2.2.toList == bt300.2.2.toList))) = true then ((kdf_Next.f kj5 a0).bind fun t303 => ((dominoref08_Next.f kj5 a0).bind fun t304 => (if t303.toList = t304.toList then (if t293.toList = bt295.1.toList then (if t294.toList = bt295.2.toList then ((kdf_Reset.f a0 a4).bind fun t305 => ((dominoref08_Reset.f kj5 a0 a4).bind fun t306 => (some (t305.toList == t306.toList)))) else (none)) else (none)) else (none)))) else (none))))) = some r := H
        have A17 := Aside0.mk A170
        clear A170
        replace H := Option.bind_eq_some_iff.mp H
        obtain ⟨⟨t295, t296⟩, A180, H⟩ := H
        replace H : ((kdf_Of.f kj5 a0).bind fun bt297 => ((dominoref08_Of.f kj5 a0).bind fun bt300 => (if (bt297.1.toList == bt300.1.toList && (bt297.2.1.toList == bt300.2.1.toList && (bt297.2.2.toList == bt300.2.2.toList))) = true then ((kdf_Next.f kj5 a0).bind fun t303 => ((dominoref08_Next.f kj5 a0).bind fun t304 => (if t303.toList = t304.toList then (if t293.toList = t295.toList then (if t294.toList = t296.toList then ((kdf_Reset.f a0 a4).bind fun t305 => ((dominoref08_Reset.f kj5 a0 a4).bind fun t306 => (some (t305.toList == t306.toList)))) else (none)) else (none)) else (none)))) else (none)))) = some r := H
        have A18 := Aside0.mk A180
        clear A180
        replace H := Option.bind_eq_some_iff.mp H
        obtain ⟨⟨t297, t298, t299⟩, A190, H⟩ := H
        replace H : ((dominoref08_Of.f kj5 a0).bind fun bt300 => (if (t297.toList == bt300.1.toList && (t298.toList == bt300.2.1.toList && (t299.toList == bt300.2.2.toList))) = true then ((kdf_Next.f kj5 a0).bind fun t303 => ((dominoref08_Next.f kj5 a0).bind fun t304 => (if t303.toList = t304.toList then (if t293.toList = t295.toList then (if t294.toList = t296.toList then ((kdf_Reset.f a0 a4).bind fun t305 => ((dominoref08_Reset.f kj5 a0 a4).bind fun t306 => (some (t305.toList == t306.toList)))) else (none)) else (none)) else (none)))) else (none))) = some r := H
        have A19 := Aside0.mk A190
        clear A190
        replace H := Option.bind_eq_some_iff.mp H
        obtain ⟨⟨t300, t301, t302⟩, A200, H⟩ := H
        replace H : (if (t297.toList == t300.toList && (t298.toList == t301.toList && (t299.toList == t302.toList))) = true then ((kdf_Next.f kj5 a0).bind fun t303 => ((dominoref08_Next.f kj5 a0).bind fun t304 => (if t303.toList = t304.toList then (if t293.toList = t295.toList then (if t294.toList = t296.toList then ((kdf_Reset.f a0 a4).bind fun t305 => ((dominoref08_Reset.f kj5 a0 a4).bind fun t306 => (some (t305.toList == t306.toList)))) else (none)) else (none)) else (none)))) else (none)) = some r := H
        have A20 := Aside0.mk A200
        clear A200
        by_cases c21 : (t297.toList == t300.toList && (t298.toList == t301.toList && (t299.toList == t302.toList))) = true
        · rw [if_pos c21] at H
          have c21b0 : (t297.toList == t300.toList && (t298.toList == t301.toList && (t299.toList == t302.toList))) = true := c21
          have c21q := c21
          simp only [Bool.not_false, Bool.not_true, Bool.true_and, Bool.and_eq_true, Bool.or_eq_false_iff, Bool.not_eq_eq_eq_not, beq_iff_eq] at c21q
          replace c21q := eq_true c21q
          (try (have c21b1 : decide (t297.toList = t300.toList && (t298.toList == t301.toList && (t299.toList == t302.toList))) = true := by simpa using c21))
          (try (have c21b2 : (t297.toList == t300.toList && (t298.toList == t301.toList && (t299.toList == t302.toList))) = true := by simpa using c21))
          clear c21
          replace H := Option.bind_eq_some_iff.mp H
          obtain ⟨t303, A220, H⟩ := H
          replace H : ((dominoref08_Next.f kj5 a0).bind fun t304 => (if t303.toList = t304.toList then (if t293.toList = t295.toList then (if t294.toList = t296.toList then ((kdf_Reset.f a0 a4).bind fun t305 => ((dominoref08_Reset.f kj5 a0 a4).bind fun t306 => (some (t305.toList == t306.toList)))) else (none)) else (none)) else (none))) = some r := H
          have A22 := Aside0.mk A220
          clear A220
          replace H := Option.bind_eq_some_iff.mp H
          obtain ⟨t304, A230, H⟩ := H
          replace H : (if t303.toList = t304.toList then (if t293.toList = t295.toList then (if t294.toList = t296.toList then ((kdf_Reset.f a0 a4).bind fun t305 => ((dominoref08_Reset.f kj5 a0 a4).bind fun t306 => (some (t305.toList == t306.toList)))) else (none)) else (none)) else (none)) = some r := H
          have A23 := Aside0.mk A230
          clear A230
          by_cases c24 : t303.toList = t304.toList
          · rw [if_pos c24] at H
            have c24b0 : (t303.toList == t304.toList) = true := beq_iff_eq.mpr c24
            have c24b1 : (t303.toList != t304.toList) = false := bne_eq_false_iff_eq.mpr c24
            clear c24
            by_cases c25 : t293.toList = t295.toList
            · rw [if_pos c25] at H
              have c25b0 : (t293.toList == t295.toList) = true := beq_iff_eq.mpr c25
              have c25b1 : (t293.toList != t295.toList) = false := bne_eq_false_iff_eq.mpr c25
              clear c25
              by_cases c26 : t294.toList = t296.toList
              · rw [if_pos c26] at H
                have c26b0 : (t294.toList == t296.toList) = true := beq_iff_eq.mpr c26
                have c26b1 : (t294.toList != t296.toList) = false := bne_eq_false_iff_eq.mpr c26
                clear c26
                replace H := Option.bind_eq_some_iff.mp H
                obtain ⟨t305, A270, H⟩ := H
                replace H : ((dominoref08_Reset.f kj5 a0 a4).bind fun t306 => (some (t305.toList == t306.toList))) = some r := H
                have A27 := Aside0.mk A270
                clear A270
                replace H := Option.bind_eq_some_iff.mp H
                obtain ⟨t306, A280, H⟩ := H
                replace H : (some (t305.toList == t306.toList)) = some r := H
                have A28 := Aside0.mk A280
                clear A280
                obtain rfl := Option.some.inj H
                go_wp2_with (first | ((with_reducible refine gate_callee (f := 22) rfl ?_); refine goesL_ (some 47) rfl rfl Try.func22 (by kernel_rfl) rfl #[.string a1, .string a2, .string a3] rfl (by (try simp only [List.map_toArray, List.map_cons, List.map_nil]); first | done | rfl | (simp only [List.length_drop, List.length_take]; rfl)) ?_; (with_reducible refine (kdf_Shared.calls kj5 a1 a2 a3 t293 t294 _ A17.out).mono ?_); rintro e w29 ⟨rfl, hb⟩; refine ⟨_, rfl, ?_⟩; have n0_ := Aside0.mk (below_step (by repeat (first | (with_reducible first | exact HB.out | apply below_alloc | apply pw_below_drewN | apply below_drew1) | exact HB.out)) hb); clear HB; have HB := n0_; clear n0_; (try clear hb); (try clear hb2); (try clear hk); (try clear hi)) | ((with_reducible refine gate_callee (f := 25) rfl ?_); refine goesL_ (some 54) rfl rfl Try.func25 (by kernel_rfl) rfl #[.string a1, .string a2, .string a3] rfl (by (try simp only [List.map_toArray, List.map_cons, List.map_nil]); first | done | rfl | (simp only [List.length_drop, List.length_take]; rfl)) ?_; (with_reducible refine (dominoref08_Shared.calls kj5 a1 a2 a3 t295 t296 _ A18.out).mono ?_); rintro e w30 ⟨rfl, hb⟩; refine ⟨_, rfl, ?_⟩; have n0_ := Aside0.mk (below_step (by repeat (first | (with_reducible first | exact HB.out | apply below_alloc | apply pw_below_drewN | apply below_drew1) | exact HB.out)) hb); clear HB; have HB := n0_; clear n0_; (try clear hb); (try clear hb2); (try clear hk); (try clear hi)) | ((with_reducible refine gate_callee (f := 14) rfl ?_); refine goesL_ (some 58) rfl rfl Try.func14 (by kernel_rfl) rfl #[.string a0] rfl (by (try simp only [List.map_toArray, List.map_cons, List.map_nil]); first | done | rfl | (simp only [List.length_drop, List.length_take]; rfl)) ?_; (with_reducible refine (kdf_Of.calls kj5 a0 t297 t298 t299 _ A19.out).mono ?_); rintro e w31 ⟨rfl, hb⟩; refine ⟨_, rfl, ?_⟩; have n0_ := Aside0.mk (below_step (by repeat (first | (with_reducible first | exact HB.out | apply below_alloc | apply pw_below_drewN | apply below_drew1) | exact HB.out)) hb); clear HB; have HB := n0_; clear n0_; (try clear hb); (try clear hb2); (try clear hk); (try clear hi)) | ((with_reducible refine gate_callee (f := 24) rfl ?_); refine goesL_ (some 60) rfl rfl Try.func24 (by kernel_rfl) rfl #[.string a0] rfl (by (try simp only [List.map_toArray, List.map_cons, List.map_nil]); first | done | rfl | (simp only [List.length_drop, List.length_take]; rfl)) ?_; (with_reducible refine (dominoref08_Of.calls kj5 a0 t300 t301 t302 _ A20.out).mono ?_); rintro e w32 ⟨rfl, hb⟩; refine ⟨_, rfl, ?_⟩; have n0_ := Aside0.mk (below_step (by repeat (first | (with_reducible first | exact HB.out | apply below_alloc | apply pw_below_drewN | apply below_drew1) | exact HB.out)) hb); clear HB; have HB := n0_; clear n0_; (try clear hb); (try clear hb2); (try clear hk); (try clear hi)) | (go_at_call 23; (with_reducible refine (kdf_Next.calls kj5 a0 t303 _ A22.out).mono ?_); rintro e w33 ⟨rfl, hb⟩; have n0_ := Aside0.mk (below_step (by repeat (first | (with_reducible first | exact HB.out | apply below_alloc | apply pw_below_drewN | apply below_drew1) | exact HB.out)) hb); clear HB; have HB := n0_; clear n0_; (try clear hb); (try clear hb2); (try clear hk); (try clear hi)) | (go_at_call 26; (with_reducible refine (dominoref08_Next.calls kj5 a0 t304 _ A23.out).mono ?_); rintro e w34 ⟨rfl, hb⟩; have n0_ := Aside0.mk (below_step (by repeat (first | (with_reducible first | exact HB.out | apply below_alloc | apply pw_below_drewN | apply below_drew1) | exact HB.out)) hb); clear HB; have HB := n0_; clear n0_; (try clear hb); (try clear hb2); (try clear hk); (try clear hi)) | (go_at_call 15; (with_reducible refine (kdf_Reset.calls a0 a4 t305 _ A27.out).mono ?_); rintro e w35 ⟨rfl, hb⟩; have n0_ := Aside0.mk (below_step (by repeat (first | (with_reducible first | exact HB.out | apply below_alloc | apply pw_below_drewN | apply below_drew1) | exact HB.out)) hb); clear HB; have HB := n0_; clear n0_; (try clear hb); (try clear hb2); (try clear hk); (try clear hi)) | (go_at_call 27; (with_reducible refine (dominoref08_Reset.calls kj5 a0 a4 t306 _ A28.out).mono ?_); rintro e w36 ⟨rfl, hb⟩; have n0_ := Aside0.mk (below_step (by repeat (first | (with_reducible first | exact HB.out | apply below_alloc | apply pw_below_drewN | apply below_drew1) | exact HB.out)) hb); clear HB; have HB := n0_; clear n0_; (try clear hb); (try clear hb2); (try clear hk); (try clear hi)))
                go_ret
                exact ⟨by first | rfl | (have hq_ := of_eq_true c21q; simp [errW_none, errW_some, hq_, bne]; done) | (have hq_ := of_eq_true c21q; simp [errW_none, errW_some, hq_, bne]; rfl) | (simp [errW_none, errW_some] <;> rfl) | (simp [*, errW_none, errW_some] <;> rfl), by repeat (first | (with_reducible first | exact HB.out | apply below_alloc | apply pw_below_drewN | apply below_drew1) | exact HB.out)⟩
                all_goals (have hq_ := of_eq_true c21q; first | (exact absurd hq_.1 (by assumption)) | (exact absurd hq_.2.1 (by assumption)) | (exact absurd hq_.2.2 (by assumption)))
              · rw [if_neg c26] at H
                exact absurd H (by simp)
            · rw [if_neg c25] at H
              exact absurd H (by simp)
          · rw [if_neg c24] at H
            exact absurd H (by simp)
        · rw [if_neg c21] at H
          exact absurd H (by simp)

/-- THE ONE PURE STATEMENT of dominolaw08_KdfKeys: yours. -/
def dominolaw08_KdfKeys.Pure : Prop := ∀ (a0 : ByteArray) (a1 : ByteArray) (a2 : ByteArray) (a3 : ByteArray) (a4 : ByteArray), a0.size ≤ 140737488351232 → a1.size ≤ 140737488351232 → a2.size ≤ 140737488351232 → a3.size ≤ 140737488351232 → a4.size ≤ 140737488351232 → ∃ k, dominolaw08_KdfKeys.f k a0 a1 a2 a3 a4 = some true
theorem dominolaw08_KdfKeys.walk (P : dominolaw08_KdfKeys.Pure) (a0 : ByteArray) (a1 : ByteArray) (a2 : ByteArray) (a3 : ByteArray) (a4 : ByteArray) (w : World) (w0 : a0.size ≤ 140737488351232) (w1 : a1.size ≤ 140737488351232) (w2 : a2.size ≤ 140737488351232) (w3 : a3.size ≤ 140737488351232) (w4 : a4.size ≤ 140737488351232) :
    Calls Try.prog 8 #[.string a0, .string a1, .string a2, .string a3, .string a4] w fun e w' => e = .returned (.bool true) ∧ Below w.heap.size w w' := by
  obtain ⟨k, h⟩ := P a0 a1 a2 a3 a4 w0 w1 w2 w3 w4
  refine (dominolaw08_KdfKeys.calls k a0 a1 a2 a3 a4 true w h).mono ?_
  rintro e w' ⟨rfl, hd⟩
  exact ⟨rfl, hd⟩

end Go.Proofs.Ytghdmlcmoeoohaa.PKfx
