-- printed for this claim by a program of the claim (wip/tools/pp.py over the kit's print)
import Derived.Test.YtlcfjimgnfcdkaaPAkyx0
namespace Go.Proofs.Ytlcfjimgnfcdkaa.PAky
open Go.RowKit Go.Proofs.YtlcfjimgnfcdkaaW.PrintWords Go.Proofs.YtlcfjimgnfcdkaaW.PrintLast Go.Proofs.YtlcfjimgnfcdkaaW.PrintMore
attribute [local go_sem] max2_int min2_int max_two min_two max_three min_three max_four min_four   -- for this text's walks alone
set_option linter.unusedVariables false
set_option linter.unusedSimpArgs false

attribute [local go_sem] isSome_setCell_
/-! ### dominoref06_shape: function 31 -/
mutual
def dominoref06_shape.j0 : Nat → Int → Bool → Option (ByteArray)
  | 0, _, _ => none
  | k + 1, x3, x4 => if x4 = true then (some (⟨#[45]⟩ : ByteArray)) else (if x3 = 2 then (some (⟨#[101, 115]⟩ : ByteArray)) else (if x3 = 4 then (some (⟨#[105, 99, 109]⟩ : ByteArray)) else (if x3 = 5 then (some (⟨#[105, 99]⟩ : ByteArray)) else (if x3 = 6 then (some (⟨#[111, 100]⟩ : ByteArray)) else (if x3 = 8 then (some (⟨#[105, 111, 102, 100]⟩ : ByteArray)) else (if x3 = 16 then (dominoref06_shape.j1 k x3 (x3 == 16)) else (if x3 = 18 then (dominoref06_shape.j1 k x3 (x3 == 18)) else (if x3 = 19 then (dominoref06_shape.j1 k x3 (x3 == 19)) else (if x3 = 20 then (dominoref06_shape.j1 k x3 (x3 == 20)) else (if x3 = 22 then (dominoref06_shape.j1 k x3 (x3 == 22)) else (dominoref06_shape.j1 k x3 (x3 == 23))))))))))))
def dominoref06_shape.j1 : Nat → Int → Bool → Option (ByteArray)
  | 0, _, _ => none
  | k + 1, x3, x18 => if x18 = true then (some (⟨#[109]⟩ : ByteArray)) else (if x3 = 17 then (dominoref06_shape.j2 k x3 (x3 == 17)) else (dominoref06_shape.j2 k x3 (x3 == 21)))
def dominoref06_shape.j2 : Nat → Int → Bool → Option (ByteArray)
  | 0, _, _ => none
  | k + 1, x3, x25 => if x25 = true then (some (⟨#[105, 109]⟩ : ByteArray)) else (if x3 = 24 then (some (⟨#[113, 112, 110, 116]⟩ : ByteArray)) else (if x3 = 25 then (some (⟨#[113]⟩ : ByteArray)) else (if x3 = 26 then (dominoref06_shape.j3 k x3 (x3 == 26)) else (dominoref06_shape.j3 k x3 (x3 == 27)))))
def dominoref06_shape.j3 : Nat → Int → Bool → Option (ByteArray)
  | 0, _, _ => none
  | k + 1, x3, x32 => if x32 = true then (some (⟨#[116]⟩ : ByteArray)) else (if x3 = 28 then (some (⟨#[99, 101, 100]⟩ : ByteArray)) else (if x3 = 29 then (some (⟨#[99, 100]⟩ : ByteArray)) else (some (⟨#[]⟩ : ByteArray))))
end
def dominoref06_shape.f (k : Nat) (a0 : Int) : Option (ByteArray) := if a0 = 0 then (dominoref06_shape.j0 k a0 (a0 == 0)) else (if a0 = 1 then (dominoref06_shape.j0 k a0 (a0 == 1)) else (dominoref06_shape.j0 k a0 (a0 == 30)))
theorem dominoref06_shape.mono_l : ∀ k, (∀ y0 y1, LeO (dominoref06_shape.j0 k y0 y1) (dominoref06_shape.j0 (k + 1) y0 y1)) ∧ (∀ y0 y1, LeO (dominoref06_shape.j1 k y0 y1) (dominoref06_shape.j1 (k + 1) y0 y1)) ∧ (∀ y0 y1, LeO (dominoref06_shape.j2 k y0 y1) (dominoref06_shape.j2 (k + 1) y0 y1)) ∧ (∀ y0 y1, LeO (dominoref06_shape.j3 k y0 y1) (dominoref06_shape.j3 (k + 1) y0 y1))
  | 0 => ⟨fun _ _ r h => by simp [dominoref06_shape.j0] at h, fun _ _ r h => by simp [dominoref06_shape.j1] at h, fun _ _ r h => by simp [dominoref06_shape.j2] at h, fun _ _ r h => by simp [dominoref06_shape.j3] at h⟩
  | k + 1 => by
    obtain ⟨ih0, ih1, ih2, ih3⟩ := dominoref06_shape.mono_l k
    refine ⟨?_, ?_, ?_, ?_⟩
    · intro y0 y1
      unfold dominoref06_shape.j0
      repeat' first
      | (with_reducible exact ih0 _ _)
      | (with_reducible exact ih1 _ _)
      | (with_reducible exact ih2 _ _)
      | (with_reducible exact ih3 _ _)
      | (with_reducible exact LeO.refl _)
      | (with_reducible exact LeO.none _)
      | (with_reducible refine LeO.ite ?_ ?_)
      | (with_reducible refine LeO.bind ?_ (fun _ => ?_))
      | exact ih0 _ _
      | exact ih1 _ _
      | exact ih2 _ _
      | exact ih3 _ _
      | exact LeO.none _
      | refine LeO.ite ?_ ?_
      | refine LeO.bind ?_ (fun _ => ?_)
    · intro y0 y1
      unfold dominoref06_shape.j1
      repeat' first
      | (with_reducible exact ih0 _ _)
      | (with_reducible exact ih1 _ _)
      | (with_reducible exact ih2 _ _)
      | (with_reducible exact ih3 _ _)
      | (with_reducible exact LeO.refl _)
      | (with_reducible exact LeO.none _)
      | (with_reducible refine LeO.ite ?_ ?_)
      | (with_reducible refine LeO.bind ?_ (fun _ => ?_))
      | exact ih0 _ _
      | exact ih1 _ _
      | exact ih2 _ _
      | exact ih3 _ _
      | exact LeO.none _
      | refine LeO.ite ?_ ?_
      | refine LeO.bind ?_ (fun _ => ?_)
    · intro y0 y1
      unfold dominoref06_shape.j2
      repeat' first
      | (with_reducible exact ih0 _ _)
      | (with_reducible exact ih1 _ _)
      | (with_reducible exact ih2 _ _)
      | (with_reducible exact ih3 _ _)
      | (with_reducible exact LeO.refl _)
      | (with_reducible exact LeO.none _)
      | (with_reducible refine LeO.ite ?_ ?_)
      | (with_reducible refine LeO.bind ?_ (fun _ => ?_))
      | exact ih0 _ _
      | exact ih1 _ _
      | exact ih2 _ _
      | exact ih3 _ _
      | exact LeO.none _
      | refine LeO.ite ?_ ?_
      | refine LeO.bind ?_ (fun _ => ?_)
    · intro y0 y1
      unfold dominoref06_shape.j3
      repeat' first
      | (with_reducible exact ih0 _ _)
      | (with_reducible exact ih1 _ _)
      | (with_reducible exact ih2 _ _)
      | (with_reducible exact ih3 _ _)
      | (with_reducible exact LeO.refl _)
      | (with_reducible exact LeO.none _)
      | (with_reducible refine LeO.ite ?_ ?_)
      | (with_reducible refine LeO.bind ?_ (fun _ => ?_))
      | exact ih0 _ _
      | exact ih1 _ _
      | exact ih2 _ _
      | exact ih3 _ _
      | exact LeO.none _
      | refine LeO.ite ?_ ?_
      | refine LeO.bind ?_ (fun _ => ?_)
theorem dominoref06_shape.mono : ∀ a0 k, LeO (dominoref06_shape.f k a0) (dominoref06_shape.f (k + 1) a0) := by
  intro a0 k
  obtain ⟨ih0, ih1, ih2, ih3⟩ := dominoref06_shape.mono_l k
  unfold dominoref06_shape.f
  repeat' first
      | (with_reducible exact ih0 _ _)
      | (with_reducible exact ih1 _ _)
      | (with_reducible exact ih2 _ _)
      | (with_reducible exact ih3 _ _)
      | (with_reducible exact LeO.refl _)
      | (with_reducible exact LeO.none _)
      | (with_reducible refine LeO.ite ?_ ?_)
      | (with_reducible refine LeO.bind ?_ (fun _ => ?_))
      | exact ih0 _ _
      | exact ih1 _ _
      | exact ih2 _ _
      | exact ih3 _ _
      | exact LeO.none _
      | refine LeO.ite ?_ ?_
      | refine LeO.bind ?_ (fun _ => ?_)
set_option maxHeartbeats 8000000 in
set_option maxRecDepth 100000 in
theorem dominoref06_shape.calls (k : Nat) (a0 : Int) (r : ByteArray) (w : World) (h : dominoref06_shape.f k a0 = some r) :
    Calls Try.prog 31 #[.int .u64 a0] w fun e w' => e = .returned (.string r) ∧ Drawn0 w w' := by
  have H : (if a0 = 0 then (dominoref06_shape.j0 k a0 (a0 == 0)) else (if a0 = 1 then (dominoref06_shape.j0 k a0 (a0 == 1)) else (dominoref06_shape.j0 k a0 (a0 == 30)))) = some r := h
  clear h
  have HC2 := Aside0.mk H
  clear H
  go_enter Try.func31, Try.ntmps31
  go_upto_if 4 with (fail)
  go_cut [4] (fun v4 wc => ∃ (kq : Nat) (x4_1 : Bool), v4 = .bool x4_1 ∧ Aside0 (dominoref06_shape.j0 kq a0 x4_1 = some r) ∧ Aside0 (kq ≤ k) ∧ Drawn0 w wc)
  case first =>
    have H := HC2.out
    clear HC2
    by_cases c3 : a0 = 0
    · rw [if_pos c3] at H
      have c3b0 : (a0 == 0) = true := beq_iff_eq.mpr c3
      have c3b1 : (a0 != 0) = false := bne_eq_false_iff_eq.mpr c3
      clear c3
      (first | rw [c3b0] | (simp only [i64_w, i32_w]; rw [c3b0]) | skip)
      have H' := Aside0.mk H
      clear H
      go_wp2
      go_meet
      case rel => exact ⟨_, ((a0 == 0)), (by first | rfl | (simp; done) | (simp [*]; done)), H', ⟨by first | omega | exact Nat.le_refl _⟩, by repeat (first | exact Drawn0.refl _ | apply Drawn0.step)⟩
    · rw [if_neg c3] at H
      have c3b0 : (a0 == 0) = false := beq_eq_false_iff_ne.mpr c3
      have c3b1 : (a0 != 0) = true := bne_iff_ne.mpr c3
      (first | rw [c3b0] | (simp only [i64_w, i32_w]; rw [c3b0]) | skip)
      by_cases c4 : a0 = 1
      · rw [if_pos c4] at H
        have c4b0 : (a0 == 1) = true := beq_iff_eq.mpr c4
        have c4b1 : (a0 != 1) = false := bne_eq_false_iff_eq.mpr c4
        clear c4
        have H' := Aside0.mk H
        clear H
        go_wp2
        go_meet
        case rel => exact ⟨_, ((a0 == 1)), (by first | rfl | (simp; done) | (simp [*]; done)), H', ⟨by first | omega | exact Nat.le_refl _⟩, by repeat (first | exact Drawn0.refl _ | apply Drawn0.step)⟩
      · rw [if_neg c4] at H
        have c4b0 : (a0 == 1) = false := beq_eq_false_iff_ne.mpr c4
        have c4b1 : (a0 != 1) = true := bne_iff_ne.mpr c4
        have H' := Aside0.mk H
        clear H
        go_wp2
        go_meet
        case rel => exact ⟨_, ((a0 == 30)), (by first | rfl | (simp; done) | (simp [*]; done)), H', ⟨by first | omega | exact Nat.le_refl _⟩, by repeat (first | exact Drawn0.refl _ | apply Drawn0.step)⟩
  case rest =>
    clear HC2
    try clear p2
    try clear c3
    try clear c3b0
    try clear c3b1
    try clear c4
    try clear c4b0
    try clear c4b1
    obtain ⟨kq, x4_1, rfl, HA, HJ1, ⟨mc1, rfl⟩⟩ := hcut
    cases kq with
    | zero => exact absurd HA.out (by simp [dominoref06_shape.j0])
    | succ kj1 =>
      have H := HA.out
      clear HA
      simp only [dominoref06_shape.j0] at H
      by_cases c5 : x4_1 = true
      · subst c5
        have H1 : (some (⟨#[45]⟩ : ByteArray)) = some r := by rw [if_pos rfl] at H; exact H
        clear H
        have H := H1
        clear H1
        obtain rfl := Option.some.inj H
        go_wp2
        go_ret
        exact ⟨by first | rfl | (simp; done) | (simp [*]; done), by repeat (first | exact Drawn0.refl _ | apply Drawn0.step)⟩
      · replace c5 := Bool.eq_false_iff.mpr c5
        subst c5
        have H1 : (if a0 = 2 then (some (⟨#[101, 115]⟩ : ByteArray)) else (if a0 = 4 then (some (⟨#[105, 99, 109]⟩ : ByteArray)) else (if a0 = 5 then (some (⟨#[105, 99]⟩ : ByteArray)) else (if a0 = 6 then (some (⟨#[111, 100]⟩ : ByteArray)) else (if a0 = 8 then (some (⟨#[105, 111, 102, 100]⟩ : ByteArray)) else (if a0 = 16 then (dominoref06_shape.j1 kj1 a0 (a0 == 16)) else (if a0 = 18 then (dominoref06_shape.j1 kj1 a0 (a0 == 18)) else (if a0 = 19 then (dominoref06_shape.j1 kj1 a0 (a0 == 19)) else (if a0 = 20 then (dominoref06_shape.j1 kj1 a0 (a0 == 20)) else (if a0 = 22 then (dominoref06_shape.j1 kj1 a0 (a0 == 22)) else (dominoref06_shape.j1 kj1 a0 (a0 == 23)))))))))))) = some r := by rw [if_neg (show ¬ (false = true) by decide)] at H; exact H
        clear H
        have H := H1
        clear H1
        by_cases c6 : a0 = 2
        · rw [if_pos c6] at H
          have c6b0 : (a0 == 2) = true := beq_iff_eq.mpr c6
          have c6b1 : (a0 != 2) = false := bne_eq_false_iff_eq.mpr c6
          clear c6
          obtain rfl := Option.some.inj H
          go_wp2
          go_ret
          exact ⟨by first | rfl | (simp; done) | (simp [*]; done), by repeat (first | exact Drawn0.refl _ | apply Drawn0.step)⟩
        · rw [if_neg c6] at H
          have c6b0 : (a0 == 2) = false := beq_eq_false_iff_ne.mpr c6
          have c6b1 : (a0 != 2) = true := bne_iff_ne.mpr c6
          by_cases c7 : a0 = 4
          · rw [if_pos c7] at H
            have c7b0 : (a0 == 4) = true := beq_iff_eq.mpr c7
            have c7b1 : (a0 != 4) = false := bne_eq_false_iff_eq.mpr c7
            clear c7
            obtain rfl := Option.some.inj H
            go_wp2
            go_ret
            exact ⟨by first | rfl | (simp; done) | (simp [*]; done), by repeat (first | exact Drawn0.refl _ | apply Drawn0.step)⟩
          · rw [if_neg c7] at H
            have c7b0 : (a0 == 4) = false := beq_eq_false_iff_ne.mpr c7
            have c7b1 : (a0 != 4) = true := bne_iff_ne.mpr c7
            by_cases c8 : a0 = 5
            · rw [if_pos c8] at H
              have c8b0 : (a0 == 5) = true := beq_iff_eq.mpr c8
              have c8b1 : (a0 != 5) = false := bne_eq_false_iff_eq.mpr c8
              clear c8
              obtain rfl := Option.some.inj H
              go_wp2
              go_ret
              exact ⟨by first | rfl | (simp; done) | (simp [*]; done), by repeat (first | exact Drawn0.refl _ | apply Drawn0.step)⟩
            · rw [if_neg c8] at H
              have c8b0 : (a0 == 5) = false := beq_eq_false_iff_ne.mpr c8
              have c8b1 : (a0 != 5) = true := bne_iff_ne.mpr c8
              by_cases c9 : a0 = 6
              · rw [if_pos c9] at H
                have c9b0 : (a0 == 6) = true := beq_iff_eq.mpr c9
                have c9b1 : (a0 != 6) = false := bne_eq_false_iff_eq.mpr c9
                clear c9
                obtain rfl := Option.some.inj H
                go_wp2
                go_ret
                exact ⟨by first | rfl | (simp; done) | (simp [*]; done), by repeat (first | exact Drawn0.refl _ | apply Drawn0.step)⟩
              · rw [if_neg c9] at H
                have c9b0 : (a0 == 6) = false := beq_eq_false_iff_ne.mpr c9
                have c9b1 : (a0 != 6) = true := bne_iff_ne.mpr c9
                by_cases c10 : a0 = 8
                · rw [if_pos c10] at H
                  have c10b0 : (a0 == 8) = true := beq_iff_eq.mpr c10
                  have c10b1 : (a0 != 8) = false := bne_eq_false_iff_eq.mpr c10
                  clear c10
                  obtain rfl := Option.some.inj H
                  go_wp2
                  go_ret
                  exact ⟨by first | rfl | (simp; done) | (simp [*]; done), by repeat (first | exact Drawn0.refl _ | apply Drawn0.step)⟩
                · rw [if_neg c10] at H
                  have c10b0 : (a0 == 8) = false := beq_eq_false_iff_ne.mpr c10
                  have c10b1 : (a0 != 8) = true := bne_iff_ne.mpr c10
                  have HC11 := Aside0.mk H
                  clear H
                  go_upto_if 18 with (fail)
                  go_cut [18] (fun v18 wc => ∃ (kq : Nat) (x18_10 : Bool), v18 = .bool x18_10 ∧ Aside0 (dominoref06_shape.j1 kq a0 x18_10 = some r) ∧ Aside0 (kq ≤ kj1) ∧ Drawn0 w wc)
                  case first =>
                    have H := HC11.out
                    clear HC11
                    by_cases c12 : a0 = 16
                    · rw [if_pos c12] at H
                      have c12b0 : (a0 == 16) = true := beq_iff_eq.mpr c12
                      have c12b1 : (a0 != 16) = false := bne_eq_false_iff_eq.mpr c12
                      clear c12
                      (first | rw [c12b0] | (simp only [i64_w, i32_w]; rw [c12b0]) | skip)
                      have H' := Aside0.mk H
                      clear H
                      go_wp2
                      go_meet
                      case rel => exact ⟨_, ((a0 == 16)), (by first | rfl | (simp; done) | (simp [*]; done)), H', ⟨by have := HJ1.out; first | omega | exact Nat.le_refl _⟩, by repeat (first | exact Drawn0.refl _ | apply Drawn0.step)⟩
                    · rw [if_neg c12] at H
                      have c12b0 : (a0 == 16) = false := beq_eq_false_iff_ne.mpr c12
                      have c12b1 : (a0 != 16) = true := bne_iff_ne.mpr c12
                      (first | rw [c12b0] | (simp only [i64_w, i32_w]; rw [c12b0]) | skip)
                      by_cases c13 : a0 = 18
                      · rw [if_pos c13] at H
                        have c13b0 : (a0 == 18) = true := beq_iff_eq.mpr c13
                        have c13b1 : (a0 != 18) = false := bne_eq_false_iff_eq.mpr c13
                        clear c13
                        have H' := Aside0.mk H
                        clear H
                        go_wp2
                        go_meet
                        case rel => exact ⟨_, ((a0 == 18)), (by first | rfl | (simp; done) | (simp [*]; done)), H', ⟨by have := HJ1.out; first | omega | exact Nat.le_refl _⟩, by repeat (first | exact Drawn0.refl _ | apply Drawn0.step)⟩
                      · rw [if_neg c13] at H
                        have c13b0 : (a0 == 18) = false := beq_eq_false_iff_ne.mpr c13
                        have c13b1 : (a0 != 18) = true := bne_iff_ne.mpr c13
                        by_cases c14 : a0 = 19
                        · rw [if_pos c14] at H
                          have c14b0 : (a0 == 19) = true := beq_iff_eq.mpr c14
                          have c14b1 : (a0 != 19) = false := bne_eq_false_iff_eq.mpr c14
                          clear c14
                          have H' := Aside0.mk H
                          clear H
                          go_wp2
                          go_meet
                          case rel => exact ⟨_, ((a0 == 19)), (by first | rfl | (simp; done) | (simp [*]; done)), H', ⟨by have := HJ1.out; first | omega | exact Nat.le_refl _⟩, by repeat (first | exact Drawn0.refl _ | apply Drawn0.step)⟩
                        · rw [if_neg c14] at H
                          have c14b0 : (a0 == 19) = false := beq_eq_false_iff_ne.mpr c14
                          have c14b1 : (a0 != 19) = true := bne_iff_ne.mpr c14
                          by_cases c15 : a0 = 20
                          · rw [if_pos c15] at H
                            have c15b0 : (a0 == 20) = true := beq_iff_eq.mpr c15
                            have c15b1 : (a0 != 20) = false := bne_eq_false_iff_eq.mpr c15
                            clear c15
                            have H' := Aside0.mk H
                            clear H
                            go_wp2
                            go_meet
                            case rel => exact ⟨_, ((a0 == 20)), (by first | rfl | (simp; done) | (simp [*]; done)), H', ⟨by have := HJ1.out; first | omega | exact Nat.le_refl _⟩, by repeat (first | exact Drawn0.refl _ | apply Drawn0.step)⟩
                          · rw [if_neg c15] at H
                            have c15b0 : (a0 == 20) = false := beq_eq_false_iff_ne.mpr c15
                            have c15b1 : (a0 != 20) = true := bne_iff_ne.mpr c15
                            by_cases c16 : a0 = 22
                            · rw [if_pos c16] at H
                              have c16b0 : (a0 == 22) = true := beq_iff_eq.mpr c16
                              have c16b1 : (a0 != 22) = false := bne_eq_false_iff_eq.mpr c16
                              clear c16
                              have H' := Aside0.mk H
                              clear H
                              go_wp2
                              go_meet
                              case rel => exact ⟨_, ((a0 == 22)), (by first | rfl | (simp; done) | (simp [*]; done)), H', ⟨by have := HJ1.out; first | omega | exact Nat.le_refl _⟩, by repeat (first | exact Drawn0.refl _ | apply Drawn0.step)⟩
                            · rw [if_neg c16] at H
                              have c16b0 : (a0 == 22) = false := beq_eq_false_iff_ne.mpr c16
                              have c16b1 : (a0 != 22) = true := bne_iff_ne.mpr c16
                              have H' := Aside0.mk H
                              clear H
                              go_wp2
                              go_meet
                              case rel => exact ⟨_, ((a0 == 23)), (by first | rfl | (simp; done) | (simp [*]; done)), H', ⟨by have := HJ1.out; first | omega | exact Nat.le_refl _⟩, by repeat (first | exact Drawn0.refl _ | apply Drawn0.step)⟩
                  case rest =>
                    clear HC11
                    try clear c1
                    try clear p2
                    try clear c3
                    try clear c3b0
                    try clear c3b1
                    try clear c4
                    try clear c4b0
                    try clear c4b1
                    try clear c5
                    try clear c6
                    try clear c6b0
                    try clear c6b1
                    try clear c7
                    try clear c7b0
                    try clear c7b1
                    try clear c8
                    try clear c8b0
                    try clear c8b1
                    try clear c9
                    try clear c9b0
                    try clear c9b1
                    try clear c10
                    try clear c10b0
                    try clear c10b1
                    try clear c12
                    try clear c12b0
                    try clear c12b1
                    try clear c13
                    try clear c13b0
                    try clear c13b1
                    try clear c14
                    try clear c14b0
                    try clear c14b1
                    try clear c15
                    try clear c15b0
                    try clear c15b1
                    try clear c16
                    try clear c16b0
                    try clear c16b1
                    try clear p2
                    obtain ⟨kq, x18_10, rfl, HA, HJ10, ⟨mc10, rfl⟩⟩ := hcut
                    cases kq with
                    | zero => exact absurd HA.out (by simp [dominoref06_shape.j1])
                    | succ kj10 =>
                      have H := HA.out
                      clear HA
                      simp only [dominoref06_shape.j1] at H
                      by_cases c17 : x18_10 = true
                      · subst c17
                        have H1 : (some (⟨#[109]⟩ : ByteArray)) = some r := by rw [if_pos rfl] at H; exact H
                        clear H
                        have H := H1
                        clear H1
                        obtain rfl := Option.some.inj H
                        go_wp2
                        go_ret
                        exact ⟨by first | rfl | (simp; done) | (simp [*]; done), by repeat (first | exact Drawn0.refl _ | apply Drawn0.step)⟩
                      · replace c17 := Bool.eq_false_iff.mpr c17
                        subst c17
                        have H1 : (if a0 = 17 then (dominoref06_shape.j2 kj10 a0 (a0 == 17)) else (dominoref06_shape.j2 kj10 a0 (a0 == 21))) = some r := by rw [if_neg (show ¬ (false = true) by decide)] at H; exact H
                        clear H
                        have H := H1
                        clear H1
                        have HC18 := Aside0.mk H
                        clear H
                        go_upto_if 25 with (fail)
                        go_cut [25] (fun v25 wc => ∃ (kq : Nat) (x25_17 : Bool), v25 = .bool x25_17 ∧ Aside0 (dominoref06_shape.j2 kq a0 x25_17 = some r) ∧ Aside0 (kq ≤ kj10) ∧ Drawn0 w wc)
                        case first =>
                          have H := HC18.out
                          clear HC18
                          by_cases c19 : a0 = 17
                          · rw [if_pos c19] at H
                            have c19b0 : (a0 == 17) = true := beq_iff_eq.mpr c19
                            have c19b1 : (a0 != 17) = false := bne_eq_false_iff_eq.mpr c19
                            clear c19
                            (first | rw [c19b0] | (simp only [i64_w, i32_w]; rw [c19b0]) | skip)
                            have H' := Aside0.mk H
                            clear H
                            go_wp2
                            go_meet
                            case rel => exact ⟨_, ((a0 == 17)), (by first | rfl | (simp; done) | (simp [*]; done)), H', ⟨by have := HJ1.out; have := HJ10.out; first | omega | exact Nat.le_refl _⟩, by repeat (first | exact Drawn0.refl _ | apply Drawn0.step)⟩
                          · rw [if_neg c19] at H
                            have c19b0 : (a0 == 17) = false := beq_eq_false_iff_ne.mpr c19
                            have c19b1 : (a0 != 17) = true := bne_iff_ne.mpr c19
                            (first | rw [c19b0] | (simp only [i64_w, i32_w]; rw [c19b0]) | skip)
                            have H' := Aside0.mk H
                            clear H
                            go_wp2
                            go_meet
                            case rel => exact ⟨_, ((a0 == 21)), (by first | rfl | (simp; done) | (simp [*]; done)), H', ⟨by have := HJ1.out; have := HJ10.out; first | omega | exact Nat.le_refl _⟩, by repeat (first | exact Drawn0.refl _ | apply Drawn0.step)⟩
                        case rest =>
                          clear HC18
                          try clear c1
                          try clear p2
                          try clear c3
                          try clear c3b0
                          try clear c3b1
                          try clear c4
                          try clear c4b0
                          try clear c4b1
                          try clear c5
                          try clear c6
                          try clear c6b0
                          try clear c6b1
                          try clear c7
                          try clear c7b0
                          try clear c7b1
                          try clear c8
                          try clear c8b0
                          try clear c8b1
                          try clear c9
                          try clear c9b0
                          try clear c9b1
                          try clear c10
                          try clear c10b0
                          try clear c10b1
                          try clear c12
                          try clear c12b0
                          try clear c12b1
                          try clear c13
                          try clear c13b0
                          try clear c13b1
                          try clear c14
                          try clear c14b0
                          try clear c14b1
                          try clear c15
                          try clear c15b0
                          try clear c15b1
                          try clear c16
                          try clear c16b0
                          try clear c16b1
                          try clear c17
                          try clear c19
                          try clear c19b0
                          try clear c19b1
                          try clear p2
                          obtain ⟨kq, x25_17, rfl, HA, HJ17, ⟨mc17, rfl⟩⟩ := hcut
                          cases kq with
                          | zero => exact absurd HA.out (by simp [dominoref06_shape.j2])
                          | succ kj17 =>
                            have H := HA.out
                            clear HA
                            simp only [dominoref06_shape.j2] at H
                            by_cases c20 : x25_17 = true
                            · subst c20
                              have H1 : (some (⟨#[105, 109]⟩ : ByteArray)) = some r := by rw [if_pos rfl] at H; exact H
                              clear H
                              have H := H1
                              clear H1
                              obtain rfl := Option.some.inj H
                              go_wp2
                              go_ret
                              exact ⟨by first | rfl | (simp; done) | (simp [*]; done), by repeat (first | exact Drawn0.refl _ | apply Drawn0.step)⟩
                            · replace c20 := Bool.eq_false_iff.mpr c20
                              subst c20
                              have H1 : (if a0 = 24 then (some (⟨#[113, 112, 110, 116]⟩ : ByteArray)) else (if a0 = 25 then (some (⟨#[113]⟩ : ByteArray)) else (if a0 = 26 then (dominoref06_shape.j3 kj17 a0 (a0 == 26)) else (dominoref06_shape.j3 kj17 a0 (a0 == 27))))) = some r := by rw [if_neg (show ¬ (false = true) by decide)] at H; exact H
                              clear H
                              have H := H1
                              clear H1
                              by_cases c21 : a0 = 24
                              · rw [if_pos c21] at H
                                have c21b0 : (a0 == 24) = true := beq_iff_eq.mpr c21
                                have c21b1 : (a0 != 24) = false := bne_eq_false_iff_eq.mpr c21
                                clear c21
                                obtain rfl := Option.some.inj H
                                go_wp2
                                go_ret
                                exact ⟨by first | rfl | (simp; done) | (simp [*]; done), by repeat (first | exact Drawn0.refl _ | apply Drawn0.step)⟩
                              · rw [if_neg c21] at H
                                have c21b0 : (a0 == 24) = false := beq_eq_false_iff_ne.mpr c21
                                have c21b1 : (a0 != 24) = true := bne_iff_ne.mpr c21
                                by_cases c22 : a0 = 25
                                · rw [if_pos c22] at H
                                  have c22b0 : (a0 == 25) = true := beq_iff_eq.mpr c22
                                  have c22b1 : (a0 != 25) = false := bne_eq_false_iff_eq.mpr c22
                                  clear c22
                                  obtain rfl := Option.some.inj H
                                  go_wp2
                                  go_ret
                                  exact ⟨by first | rfl | (simp; done) | (simp [*]; done), by repeat (first | exact Drawn0.refl _ | apply Drawn0.step)⟩
                                · rw [if_neg c22] at H
                                  have c22b0 : (a0 == 25) = false := beq_eq_false_iff_ne.mpr c22
                                  have c22b1 : (a0 != 25) = true := bne_iff_ne.mpr c22
                                  have HC23 := Aside0.mk H
                                  clear H
                                  go_upto_if 32 with (fail)
                                  go_cut [32] (fun v32 wc => ∃ (kq : Nat) (x32_22 : Bool), v32 = .bool x32_22 ∧ Aside0 (dominoref06_shape.j3 kq a0 x32_22 = some r) ∧ Aside0 (kq ≤ kj17) ∧ Drawn0 w wc)
                                  case first =>
                                    have H := HC23.out
                                    clear HC23
                                    by_cases c24 : a0 = 26
                                    · rw [if_pos c24] at H
                                      have c24b0 : (a0 == 26) = true := beq_iff_eq.mpr c24
                                      have c24b1 : (a0 != 26) = false := bne_eq_false_iff_eq.mpr c24
                                      clear c24
                                      (first | rw [c24b0] | (simp only [i64_w, i32_w]; rw [c24b0]) | skip)
                                      have H' := Aside0.mk H
                                      clear H
                                      go_wp2
                                      go_meet
                                      case rel => exact ⟨_, ((a0 == 26)), (by first | rfl | (simp; done) | (simp [*]; done)), H', ⟨by have := HJ1.out; have := HJ10.out; have := HJ17.out; first | omega | exact Nat.le_refl _⟩, by repeat (first | exact Drawn0.refl _ | apply Drawn0.step)⟩
                                    · rw [if_neg c24] at H
                                      have c24b0 : (a0 == 26) = false := beq_eq_false_iff_ne.mpr c24
                                      have c24b1 : (a0 != 26) = true := bne_iff_ne.mpr c24
                                      (first | rw [c24b0] | (simp only [i64_w, i32_w]; rw [c24b0]) | skip)
                                      have H' := Aside0.mk H
                                      clear H
                                      go_wp2
                                      go_meet
                                      case rel => exact ⟨_, ((a0 == 27)), (by first | rfl | (simp; done) | (simp [*]; done)), H', ⟨by have := HJ1.out; have := HJ10.out; have := HJ17.out; first | omega | exact Nat.le_refl _⟩, by repeat (first | exact Drawn0.refl _ | apply Drawn0.step)⟩
                                  case rest =>
                                    clear HC23
                                    try clear c1
                                    try clear c2
                                    try clear p2
                                    try clear c3
                                    try clear c3b0
                                    try clear c3b1
                                    try clear c4
                                    try clear c4b0
                                    try clear c4b1
                                    try clear c5
                                    try clear c6
                                    try clear c6b0
                                    try clear c6b1
                                    try clear c7
                                    try clear c7b0
                                    try clear c7b1
                                    try clear c8
                                    try clear c8b0
                                    try clear c8b1
                                    try clear c9
                                    try clear c9b0
                                    try clear c9b1
                                    try clear c10
                                    try clear c10b0
                                    try clear c10b1
                                    try clear c12
                                    try clear c12b0
                                    try clear c12b1
                                    try clear c13
                                    try clear c13b0
                                    try clear c13b1
                                    try clear c14
                                    try clear c14b0
                                    try clear c14b1
                                    try clear c15
                                    try clear c15b0
                                    try clear c15b1
                                    try clear c16
                                    try clear c16b0
                                    try clear c16b1
                                    try clear c17
                                    try clear c19
                                    try clear c19b0
                                    try clear c19b1
                                    try clear c20
                                    try clear c21
                                    try clear c21b0
                                    try clear c21b1
                                    try clear c22
                                    try clear c22b0
                                    try clear c22b1
                                    try clear c24
                                    try clear c24b0
                                    try clear c24b1
                                    try clear p2
                                    obtain ⟨kq, x32_22, rfl, HA, HJ22, ⟨mc22, rfl⟩⟩ := hcut
                                    cases kq with
                                    | zero => exact absurd HA.out (by simp [dominoref06_shape.j3])
                                    | succ kj22 =>
                                      have H := HA.out
                                      clear HA
                                      simp only [dominoref06_shape.j3] at H
                                      by_cases c25 : x32_22 = true
                                      · subst c25
                                        have H1 : (some (⟨#[116]⟩ : ByteArray)) = some r := by rw [if_pos rfl] at H; exact H
                                        clear H
                                        have H := H1
                                        clear H1
                                        obtain rfl := Option.some.inj H
                                        go_wp2
                                        go_ret
                                        exact ⟨by first | rfl | (simp; done) | (simp [*]; done), by repeat (first | exact Drawn0.refl _ | apply Drawn0.step)⟩
                                      · replace c25 := Bool.eq_false_iff.mpr c25
                                        subst c25
                                        have H1 : (if a0 = 28 then (some (⟨#[99, 101, 100]⟩ : ByteArray)) else (if a0 = 29 then (some (⟨#[99, 100]⟩ : ByteArray)) else (some (⟨#[]⟩ : ByteArray)))) = some r := by rw [if_neg (show ¬ (false = true) by decide)] at H; exact H
                                        clear H
                                        have H := H1
                                        clear H1
                                        by_cases c26 : a0 = 28
                                        · rw [if_pos c26] at H
                                          have c26b0 : (a0 == 28) = true := beq_iff_eq.mpr c26
                                          have c26b1 : (a0 != 28) = false := bne_eq_false_iff_eq.mpr c26
                                          clear c26
                                          obtain rfl := Option.some.inj H
                                          go_wp2
                                          go_ret
                                          exact ⟨by first | rfl | (simp; done) | (simp [*]; done), by repeat (first | exact Drawn0.refl _ | apply Drawn0.step)⟩
                                        · rw [if_neg c26] at H
                                          have c26b0 : (a0 == 28) = false := beq_eq_false_iff_ne.mpr c26
                                          have c26b1 : (a0 != 28) = true := bne_iff_ne.mpr c26
                                          by_cases c27 : a0 = 29
                                          · rw [if_pos c27] at H
                                            have c27b0 : (a0 == 29) = true := beq_iff_eq.mpr c27
                                            have c27b1 : (a0 != 29) = false := bne_eq_false_iff_eq.mpr c27
                                            clear c27
                                            obtain rfl := Option.some.inj H
                                            go_wp2
                                            go_ret
                                            exact ⟨by first | rfl | (simp; done) | (simp [*]; done), by repeat (first | exact Drawn0.refl _ | apply Drawn0.step)⟩
                                          · rw [if_neg c27] at H
                                            have c27b0 : (a0 == 29) = false := beq_eq_false_iff_ne.mpr c27
                                            have c27b1 : (a0 != 29) = true := bne_iff_ne.mpr c27
                                            obtain rfl := Option.some.inj H
                                            go_wp2
                                            go_ret
                                            exact ⟨by first | rfl | (simp; done) | (simp [*]; done), by repeat (first | exact Drawn0.refl _ | apply Drawn0.step)⟩

/-! ### dominoref06_in: function 32 -/
def dominoref06_in.l0 : Nat → ByteArray → Int → Int → Option (Bool)
  | 0, _, _, _ => none
  | k + 1, x0, x1, x5 => if x5 < (x0.size : Int) then (if 0 ≤ x5 then (if (bt x0 x5) = x1 then (some true) else (dominoref06_in.l0 k x0 x1 (wrap64 (x5 + 1)))) else (none)) else (some false)
def dominoref06_in.f (k : Nat) (a0 : ByteArray) (a1 : Int) : Option (Bool) := dominoref06_in.l0 k a0 a1 0
theorem dominoref06_in.mono_l : ∀ k, (∀ y0 y1 y2, LeO (dominoref06_in.l0 k y0 y1 y2) (dominoref06_in.l0 (k + 1) y0 y1 y2))
  | 0 => fun _ _ _ r h => by simp [dominoref06_in.l0] at h
  | k + 1 => by
    have ih0 := dominoref06_in.mono_l k
    · intro y0 y1 y2
      unfold dominoref06_in.l0
      repeat' first
      | (with_reducible exact ih0 _ _ _)
      | (with_reducible exact LeO.refl _)
      | (with_reducible exact LeO.none _)
      | (with_reducible refine LeO.ite ?_ ?_)
      | (with_reducible refine LeO.bind ?_ (fun _ => ?_))
      | exact ih0 _ _ _
      | exact LeO.none _
      | refine LeO.ite ?_ ?_
      | refine LeO.bind ?_ (fun _ => ?_)
theorem dominoref06_in.mono : ∀ a0 a1 k, LeO (dominoref06_in.f k a0 a1) (dominoref06_in.f (k + 1) a0 a1) := by
  intro a0 a1 k
  have ih0 := dominoref06_in.mono_l k
  unfold dominoref06_in.f
  repeat' first
      | (with_reducible exact ih0 _ _ _)
      | (with_reducible exact LeO.refl _)
      | (with_reducible exact LeO.none _)
      | (with_reducible refine LeO.ite ?_ ?_)
      | (with_reducible refine LeO.bind ?_ (fun _ => ?_))
      | exact ih0 _ _ _
      | exact LeO.none _
      | refine LeO.ite ?_ ?_
      | refine LeO.bind ?_ (fun _ => ?_)
set_option maxHeartbeats 8000000 in
set_option maxRecDepth 100000 in
theorem dominoref06_in.calls (k : Nat) (a0 : ByteArray) (a1 : Int) (r : Bool) (w : World) (h : dominoref06_in.f k a0 a1 = some r) :
    Calls Try.prog 32 #[.string a0, .int .u8 a1] w fun e w' => e = .returned (.bool r) ∧ Drawn0 w w' := by
  have H : (dominoref06_in.l0 k a0 a1 0) = some r := h
  clear h
  have H' := Aside0.mk H
  clear H
  go_enter Try.func32, Try.ntmps32
  go_wp2
  go_loopg [5] k (fun kq v5 w' => ∃ (x5_1 : Int), v5 = .int .i64 x5_1 ∧ Aside0 (dominoref06_in.l0 kq a0 a1 x5_1 = some r) ∧ Aside0 (kq ≤ k) ∧ Drawn0 w w')
  case atStart => exact ⟨(0), (by first | rfl | (simp; done) | (simp [*]; done)), H', ⟨Nat.le_refl _⟩, by repeat (first | exact Drawn0.refl _ | apply Drawn0.step)⟩
  case round =>
    clear H'
    try clear p2
    obtain ⟨x5_1, rfl, HA, HK1, ⟨m1, rfl⟩⟩ := hrel
    cases gk with
    | zero => exact absurd HA.out (by simp [dominoref06_in.l0])
    | succ k1 =>
      have H := HA.out
      clear HA
      simp only [dominoref06_in.l0] at H
      by_cases c3 : x5_1 < (a0.size : Int)
      · rw [if_pos c3] at H
        have c3b0 : decide (x5_1 < (a0.size : Int)) = true := decide_eq_true c3
        clear c3
        by_cases c4 : 0 ≤ x5_1
        · rw [if_pos c4] at H
          have c4b0 : decide (0 ≤ x5_1) = true := decide_eq_true c4
          clear c4
          by_cases c6 : (bt a0 x5_1) = a1
          · rw [if_pos c6] at H
            have c6b0 : ((bt a0 x5_1) == a1) = true := beq_iff_eq.mpr c6
            have c6b1 : ((bt a0 x5_1) != a1) = false := bne_eq_false_iff_eq.mpr c6
            clear c6
            obtain rfl := Option.some.inj H
            have p5 : 0 ≤ (x5_1 : Int) := of_decide_eq_true (by first | (with_reducible assumption) | assumption)
            have q5 : x5_1 < (a0.size : Int) := of_decide_eq_true (by first | (with_reducible assumption) | assumption)
            have hx5 := bt_at a0 x5_1
            replace p5 := eq_true p5
            replace q5 := eq_true q5
            go_wp2
            go_ret
            exact ⟨by first | rfl | (simp; done) | (simp [*]; done), by repeat (first | exact Drawn0.refl _ | apply Drawn0.step)⟩
          · rw [if_neg c6] at H
            have c6b0 : ((bt a0 x5_1) == a1) = false := beq_eq_false_iff_ne.mpr c6
            have c6b1 : ((bt a0 x5_1) != a1) = true := bne_iff_ne.mpr c6
            have H' := Aside0.mk H
            clear H
            have p5 : 0 ≤ (x5_1 : Int) := of_decide_eq_true (by first | (with_reducible assumption) | assumption)
            have q5 : x5_1 < (a0.size : Int) := of_decide_eq_true (by first | (with_reducible assumption) | assumption)
            have hx5 := bt_at a0 x5_1
            replace p5 := eq_true p5
            replace q5 := eq_true q5
            go_wp2
            go_roundg k1
            case measure => have := HK1.out; omega
            case rel => exact ⟨(wrap64 (x5_1 + 1)), (by first | rfl | (simp; done) | (simp [*]; done)), H', ⟨by have := HK1.out; omega⟩, by repeat (first | exact Drawn0.refl _ | apply Drawn0.step)⟩
        · rw [if_neg c4] at H
          exact absurd H (by simp)
      · rw [if_neg c3] at H
        have c3b0 : decide (x5_1 < (a0.size : Int)) = false := decide_eq_false c3
        clear c3
        obtain rfl := Option.some.inj H
        go_wp2
        go_ret
        exact ⟨by first | rfl | (simp; done) | (simp [*]; done), by repeat (first | exact Drawn0.refl _ | apply Drawn0.step)⟩

end Go.Proofs.Ytlcfjimgnfcdkaa.PAky
