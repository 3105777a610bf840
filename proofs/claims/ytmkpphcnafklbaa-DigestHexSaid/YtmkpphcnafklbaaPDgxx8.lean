-- printed for this claim by a program of the claim (wip/tools/pp.py over the kit's print)
import Derived.Test.YtmkpphcnafklbaaPDgxx0
import Derived.Test.YtmkpphcnafklbaaPDgxx3
import Derived.Test.YtmkpphcnafklbaaPDgxx4
namespace Go.Proofs.Ytmkpphcnafklbaa.PDgx
open Go.RowKit Go.Proofs.YtmkpphcnafklbaaW.PrintWords Go.Proofs.YtmkpphcnafklbaaW.PrintLast Go.Proofs.YtmkpphcnafklbaaW.PrintMore
attribute [local go_sem] max2_int min2_int max_two min_two max_three min_three max_four min_four   -- for this text's walks alone
set_option linter.unusedVariables false
set_option linter.unusedSimpArgs false

attribute [local go_sem] isSome_setCell_
/-! ### dominolaw07_DigestNone: function 6 -/
def dominolaw07_DigestNone.j0 : Nat → Int → ByteArray → Bool → Option (Bool)
  | 0, _, _, _ => none
  | k + 1, x0, x1, x12 => if x12 = true then ((dominolaw07_shown.f).bind fun t146 => (some t146)) else (if 0 ≤ (Int.tmod (wrap64 (x0)) 20) then (if (Int.tmod (wrap64 (x0)) 20 : Int).toNat ≤ 17592186044416 then ((some (List.replicate (Int.tmod (wrap64 (x0)) 20 : Int).toNat (⟨#[]⟩ : ByteArray) : List ByteArray)).bind fun y147 => ((digest_Sum.f y147).bind fun t150 => ((digest_Hex.f t150).bind fun t151 => (if t151.toList = ([101, 51, 98, 48, 99, 52, 52, 50, 57, 56, 102, 99, 49, 99, 49, 52, 57, 97, 102, 98, 102, 52, 99, 56, 57, 57, 54, 102, 98, 57, 50, 52, 50, 55, 97, 101, 52, 49, 101, 52, 54, 52, 57, 98, 57, 51, 52, 99, 97, 52, 57, 53, 57, 57, 49, 98, 55, 56, 53, 50, 98, 56, 53, 53] : List UInt8) then ((digest_Sum.f (([x1] : List ByteArray))).bind fun t155 => ((digest_Hex.f t155).bind fun t156 => (if (t156.size : Int) = 64 then (if y147.length < 8796093022208 then ((digest_Sum.f (y147 ++ [x1])).bind fun t160 => ((digest_Sum.f (([x1] : List ByteArray))).bind fun t164 => (some (t160.toList == t164.toList)))) else (none)) else (none)))) else (none))))) else (none)) else (none))
def dominolaw07_DigestNone.f (k : Nat) (a0 : Int) (a1 : ByteArray) : Option (Bool) := if (a1.size : Int) > 500 then (dominolaw07_DigestNone.j0 k a0 a1 true) else ((dominolaw07_shown.f).bind fun t145 => (dominolaw07_DigestNone.j0 k a0 a1 (!t145)))
theorem dominolaw07_DigestNone.mono_l : ∀ k, (∀ y0 y1 y2, LeO (dominolaw07_DigestNone.j0 k y0 y1 y2) (dominolaw07_DigestNone.j0 (k + 1) y0 y1 y2))
  | 0 => fun _ _ _ r h => by simp [dominolaw07_DigestNone.j0] at h
  | k + 1 => by
    have ih0 := dominolaw07_DigestNone.mono_l k
    · intro y0 y1 y2
      unfold dominolaw07_DigestNone.j0
      repeat' first
      | (with_reducible exact ih0 _ _ _)
      | (with_reducible exact LeO.refl _)
      | (with_reducible exact LeO.none _)
      | (with_reducible refine LeO.ite ?_ ?_)
      | (with_reducible refine LeO.bind ?_ (fun _ => ?_))
      | exact ih0 _ _ _
      | exact LeO.none _
      | refine LeO.ite ?_ ?_
      | refine LeO.bind ?_ (fun _ => ?_)
theorem dominolaw07_DigestNone.mono : ∀ a0 a1 k, LeO (dominolaw07_DigestNone.f k a0 a1) (dominolaw07_DigestNone.f (k + 1) a0 a1) := by
  intro a0 a1 k
  have ih0 := dominolaw07_DigestNone.mono_l k
  unfold dominolaw07_DigestNone.f
  repeat' first
      | (with_reducible exact ih0 _ _ _)
      | (with_reducible exact LeO.refl _)
      | (with_reducible exact LeO.none _)
      | (with_reducible refine LeO.ite ?_ ?_)
      | (with_reducible refine LeO.bind ?_ (fun _ => ?_))
      | exact ih0 _ _ _
      | exact LeO.none _
      | refine LeO.ite ?_ ?_
      | refine LeO.bind ?_ (fun _ => ?_)
set_option maxHeartbeats 8000000 in
set_option maxRecDepth 100000 in
theorem dominolaw07_DigestNone.calls (k : Nat) (a0 : Int) (a1 : ByteArray) (r : Bool) (w : World) (h : dominolaw07_DigestNone.f k a0 a1 = some r) :
    Calls Try.prog 6 #[.int .u8 a0, .string a1] w fun e w' => e = .returned (.bool r) ∧ Below w.heap.size w w' := by
  have HB := Aside0.mk (Below.refl w.heap.size w)
  have H : (if (a1.size : Int) > 500 then (dominolaw07_DigestNone.j0 k a0 a1 true) else ((dominolaw07_shown.f).bind fun t145 => (dominolaw07_DigestNone.j0 k a0 a1 (!t145)))) = some r := h
  clear h
  have HC3 := Aside0.mk H
  clear H
  go_enter Try.func6, Try.ntmps6
  go_upto_region 1 with (fail)
  go_cut [12] (fun v12 wc => ∃ (kq : Nat) (x12_2 : Bool), v12 = .bool x12_2 ∧ Aside0 (dominolaw07_DigestNone.j0 kq a0 a1 x12_2 = some r) ∧ Aside0 (kq ≤ k) ∧ Aside0 (Below w.heap.size w wc))
  case first =>
    have H := HC3.out
    clear HC3
    by_cases c4 : (a1.size : Int) > 500
    · rw [if_pos c4] at H
      have c4b0 : decide (500 < (a1.size : Int)) = true := decide_eq_true c4
      have c4b1 : decide (500 < a1.size) = true := decide_eq_true (by omega)
      clear c4
      (first | rw [c4b0] | (simp only [i64_w, i32_w]; rw [c4b0]) | skip)
      have H' := Aside0.mk H
      clear H
      go_wp2
      go_meet
      case rel => exact ⟨_, (true), (by first | rfl | (simp; done) | (simp [*]; done)), H', ⟨by first | omega | exact Nat.le_refl _⟩, ⟨by repeat (first | (with_reducible first | exact HB.out | apply below_alloc | apply pw_below_drewN | apply below_drew1) | exact HB.out)⟩⟩
    · rw [if_neg c4] at H
      have c4b0 : decide (500 < (a1.size : Int)) = false := decide_eq_false c4
      have c4b1 : decide (500 < a1.size) = false := decide_eq_false (by omega)
      clear c4
      (first | rw [c4b0] | (simp only [i64_w, i32_w]; rw [c4b0]) | skip)
      replace H := Option.bind_eq_some_iff.mp H
      obtain ⟨t145, A50, H⟩ := H
      replace H : (dominolaw07_DigestNone.j0 k a0 a1 (!t145)) = some r := H
      have A5 := Aside0.mk A50
      clear A50
      have H' := Aside0.mk H
      clear H
      go_wp2_with (first | (go_at_call 9; (with_reducible refine (dominolaw07_shown.calls  t145 _ A5.out).mono ?_); rintro e w6 ⟨rfl, hb⟩; have n0_ := Aside0.mk (below_step (by repeat (first | (with_reducible first | exact HB.out | apply below_alloc | apply pw_below_drewN | apply below_drew1) | exact HB.out)) hb); clear HB; have HB := n0_; clear n0_; (try clear hb); (try clear hb2); (try clear hk); (try clear hi)))
      go_meet
      case rel => exact ⟨_, (!t145), (by first | rfl | (simp; done) | (simp [*]; done)), H', ⟨by first | omega | exact Nat.le_refl _⟩, ⟨by repeat (first | (with_reducible first | exact HB.out | apply below_alloc | apply pw_below_drewN | apply below_drew1) | exact HB.out)⟩⟩
  case rest =>
    clear HC3
    try clear p2
    try clear c4
    try clear c4b0
    try clear c4b1
    try clear c6
    obtain ⟨kq, x12_2, rfl, HA, HJ2, HB⟩ := hcut
    cases kq with
    | zero => exact absurd HA.out (by simp [dominolaw07_DigestNone.j0])
    | succ kj2 =>
      have H := HA.out
      clear HA
      simp only [dominolaw07_DigestNone.j0] at H
      by_cases c7 : x12_2 = true
      · subst c7
        have H1 : ((dominolaw07_shown.f).bind fun t146 => (some t146)) = some r := by rw [if_pos rfl] at H; exact H
        clear H
        have H := H1
        clear H1
        replace H := Option.bind_eq_some_iff.mp H
        obtain ⟨t146, A80, H⟩ := H
        replace H : (some t146) = some r := H
        have A8 := Aside0.mk A80
        clear A80
        obtain rfl := Option.some.inj H
        go_wp2_with (first | ((with_reducible refine gate_callee (f := 9) rfl ?_); refine goesL_ (some 13) rfl rfl Try.func9 (by kernel_rfl) rfl #[] rfl (by (try simp only [List.map_toArray, List.map_cons, List.map_nil]); first | done | rfl | (simp only [List.length_drop, List.length_take]; rfl)) ?_; (with_reducible refine (dominolaw07_shown.calls  t146 _ A8.out).mono ?_); rintro e w9 ⟨rfl, hb⟩; refine ⟨_, rfl, ?_⟩; have n0_ := Aside0.mk (below_step (by repeat (first | (with_reducible first | exact HB.out | apply below_alloc | apply pw_below_drewN | apply below_drew1) | exact HB.out)) hb); clear HB; have HB := n0_; clear n0_; (try clear hb); (try clear hb2); (try clear hk); (try clear hi)))
        go_ret
        exact ⟨by first | rfl | (simp [errW_none, errW_some] <;> rfl) | (simp [*, errW_none, errW_some] <;> rfl), by repeat (first | (with_reducible first | exact HB.out | apply below_alloc | apply pw_below_drewN | apply below_drew1) | exact HB.out)⟩
      · replace c7 := Bool.eq_false_iff.mpr c7
        subst c7
        have H1 : (if 0 ≤ (Int.tmod (wrap64 (a0)) 20) then (if (Int.tmod (wrap64 (a0)) 20 : Int).toNat ≤ 17592186044416 then ((some (List.replicate (Int.tmod (wrap64 (a0)) 20 : Int).toNat (⟨#[]⟩ : ByteArray) : List ByteArray)).bind fun y147 => ((digest_Sum.f y147).bind fun t150 => ((digest_Hex.f t150).bind fun t151 => (if t151.toList = ([101, 51, 98, 48, 99, 52, 52, 50, 57, 56, 102, 99, 49, 99, 49, 52, 57, 97, 102, 98, 102, 52, 99, 56, 57, 57, 54, 102, 98, 57, 50, 52, 50, 55, 97, 101, 52, 49, 101, 52, 54, 52, 57, 98, 57, 51, 52, 99, 97, 52, 57, 53, 57, 57, 49, 98, 55, 56, 53, 50, 98, 56, 53, 53] : List UInt8) then ((digest_Sum.f (([a1] : List ByteArray))).bind fun t155 => ((digest_Hex.f t155).bind fun t156 => (if (t156.size : Int) = 64 then (if y147.length < 8796093022208 then ((digest_Sum.f (y147 ++ [a1])).bind fun t160 => ((digest_Sum.f (([a1] : List ByteArray))).bind fun t164 => (some (t160.toList == t164.toList)))) else (none)) else (none)))) else (none))))) else (none)) else (none)) = some r := by rw [if_neg (show ¬ (false = true) by decide)] at H; exact H
        clear H
        have H := H1
        clear H1
        obtain ⟨ji10, hji10⟩ : ∃ j_ : Int, (Int.tmod (wrap64 (a0)) 20) = j_ := ⟨_, rfl⟩
        replace H : (if 0 ≤ (ji10) then (if (ji10 : Int).toNat ≤ 17592186044416 then ((some (List.replicate (ji10 : Int).toNat (⟨#[]⟩ : ByteArray) : List ByteArray)).bind fun y147 => ((digest_Sum.f y147).bind fun t150 => ((digest_Hex.f t150).bind fun t151 => (if t151.toList = ([101, 51, 98, 48, 99, 52, 52, 50, 57, 56, 102, 99, 49, 99, 49, 52, 57, 97, 102, 98, 102, 52, 99, 56, 57, 57, 54, 102, 98, 57, 50, 52, 50, 55, 97, 101, 52, 49, 101, 52, 54, 52, 57, 98, 57, 51, 52, 99, 97, 52, 57, 53, 57, 57, 49, 98, 55, 56, 53, 50, 98, 56, 53, 53] : List UInt8) then ((digest_Sum.f (([a1] : List ByteArray))).bind fun t155 => ((digest_Hex.f t155).bind fun t156 => (if (t156.size : Int) = 64 then (if y147.length < 8796093022208 then ((digest_Sum.f (y147 ++ [a1])).bind fun t160 => ((digest_Sum.f (([a1] : List ByteArray))).bind fun t164 => (some (t160.toList == t164.toList)))) else (none)) else (none)))) else (none))))) else (none)) else (none)) = some r := by first | (rw [hji10] at H; exact H) | (simp only [hji10] at H ⊢; exact H)
        by_cases c11 : 0 ≤ (ji10)
        · rw [if_pos c11] at H
          have c11b0 := eq_true c11
          have c11b1 : decide (0 ≤ (ji10)) = true := decide_eq_true c11
          clear c11
          by_cases c12 : (ji10 : Int).toNat ≤ 17592186044416
          · rw [if_pos c12] at H
            have c12b0 := eq_true c12
            have c12b1 : decide ((ji10 : Int).toNat ≤ 17592186044416) = true := decide_eq_true c12
            clear c12
            obtain ⟨y147, hy147⟩ : ∃ y_ : List ByteArray, y_ = (List.replicate (ji10 : Int).toNat (⟨#[]⟩ : ByteArray)) := ⟨_, rfl⟩
            replace H : ((digest_Sum.f y147).bind fun t150 => ((digest_Hex.f t150).bind fun t151 => (if t151.toList = ([101, 51, 98, 48, 99, 52, 52, 50, 57, 56, 102, 99, 49, 99, 49, 52, 57, 97, 102, 98, 102, 52, 99, 56, 57, 57, 54, 102, 98, 57, 50, 52, 50, 55, 97, 101, 52, 49, 101, 52, 54, 52, 57, 98, 57, 51, 52, 99, 97, 52, 57, 53, 57, 57, 49, 98, 55, 56, 53, 50, 98, 56, 53, 53] : List UInt8) then ((digest_Sum.f (([a1] : List ByteArray))).bind fun t155 => ((digest_Hex.f t155).bind fun t156 => (if (t156.size : Int) = 64 then (if y147.length < 8796093022208 then ((digest_Sum.f (y147 ++ [a1])).bind fun t160 => ((digest_Sum.f (([a1] : List ByteArray))).bind fun t164 => (some (t160.toList == t164.toList)))) else (none)) else (none)))) else (none)))) = some r := by first | (rw [hy147]; with_reducible exact H) | (have H2_ := (Option.bind_some _ _).symm.trans H; rw [hy147]; with_reducible exact H2_) | (have H2_ := (Option.bind_some _ _).symm.trans H; with_reducible exact H2_) | with_reducible exact H | (rw [hy147]; exact H) | exact H
            have Ny147 := Aside0.mk hy147
            clear hy147
            replace H := Option.bind_eq_some_iff.mp H
            obtain ⟨t150, A130, H⟩ := H
            replace H : ((digest_Hex.f t150).bind fun t151 => (if t151.toList = ([101, 51, 98, 48, 99, 52, 52, 50, 57, 56, 102, 99, 49, 99, 49, 52, 57, 97, 102, 98, 102, 52, 99, 56, 57, 57, 54, 102, 98, 57, 50, 52, 50, 55, 97, 101, 52, 49, 101, 52, 54, 52, 57, 98, 57, 51, 52, 99, 97, 52, 57, 53, 57, 57, 49, 98, 55, 56, 53, 50, 98, 56, 53, 53] : List UInt8) then ((digest_Sum.f (([a1] : List ByteArray))).bind fun t155 => ((digest_Hex.f t155).bind fun t156 => (if (t156.size : Int) = 64 then (if y147.length < 8796093022208 then ((digest_Sum.f (y147 ++ [a1])).bind fun t160 => ((digest_Sum.f (([a1] : List ByteArray))).bind fun t164 => (some (t160.toList == t164.toList)))) else (none)) else (none)))) else (none))) = some r := H
            have A13 := Aside0.mk A130
            clear A130
            replace H := Option.bind_eq_some_iff.mp H
            obtain ⟨t151, A140, H⟩ := H
            replace H : (if t151.toList = ([101, 51, 98, 48, 99, 52, 52, 50, 57, 56, 102, 99, 49, 99, 49, 52, 57, 97, 102, 98, 102, 52, 99, 56, 57, 57, 54, 102, 98, 57, 50, 52, 50, 55, 97, 101, 52, 49, 101, 52, 54, 52, 57, 98, 57, 51, 52, 99, 97, 52, 57, 53, 57, 57, 49, 98, 55, 56, 53, 50, 98, 56, 53, 53] : List UInt8) then ((digest_Sum.f (([a1] : List ByteArray))).bind fun t155 => ((digest_Hex.f t155).bind fun t156 => (if (t156.size : Int) = 64 then (if y147.length < 8796093022208 then ((digest_Sum.f (y147 ++ [a1])).bind fun t160 => ((digest_Sum.f (([a1] : List ByteArray))).bind fun t164 => (some (t160.toList == t164.toList)))) else (none)) else (none)))) else (none)) = some r := H
            have A14 := Aside0.mk A140
            clear A140
            by_cases c15 : t151.toList = ([101, 51, 98, 48, 99, 52, 52, 50, 57, 56, 102, 99, 49, 99, 49, 52, 57, 97, 102, 98, 102, 52, 99, 56, 57, 57, 54, 102, 98, 57, 50, 52, 50, 55, 97, 101, 52, 49, 101, 52, 54, 52, 57, 98, 57, 51, 52, 99, 97, 52, 57, 53, 57, 57, 49, 98, 55, 56, 53, 50, 98, 56, 53, 53] : List UInt8)
            · rw [if_pos c15] at H
              have c15b0 : (t151.toList == ([101, 51, 98, 48, 99, 52, 52, 50, 57, 56, 102, 99, 49, 99, 49, 52, 57, 97, 102, 98, 102, 52, 99, 56, 57, 57, 54, 102, 98, 57, 50, 52, 50, 55, 97, 101, 52, 49, 101, 52, 54, 52, 57, 98, 57, 51, 52, 99, 97, 52, 57, 53, 57, 57, 49, 98, 55, 56, 53, 50, 98, 56, 53, 53] : List UInt8)) = true := beq_iff_eq.mpr c15
              have c15b1 : (t151.toList != ([101, 51, 98, 48, 99, 52, 52, 50, 57, 56, 102, 99, 49, 99, 49, 52, 57, 97, 102, 98, 102, 52, 99, 56, 57, 57, 54, 102, 98, 57, 50, 52, 50, 55, 97, 101, 52, 49, 101, 52, 54, 52, 57, 98, 57, 51, 52, 99, 97, 52, 57, 53, 57, 57, 49, 98, 55, 56, 53, 50, 98, 56, 53, 53] : List UInt8)) = false := bne_eq_false_iff_eq.mpr c15
              clear c15
              obtain ⟨y152, hy152⟩ : ∃ y_ : List ByteArray, y_ = (([a1] : List ByteArray)) := ⟨_, rfl⟩
              replace H : ((digest_Sum.f y152).bind fun t155 => ((digest_Hex.f t155).bind fun t156 => (if (t156.size : Int) = 64 then (if y147.length < 8796093022208 then ((digest_Sum.f (y147 ++ [a1])).bind fun t160 => ((digest_Sum.f (([a1] : List ByteArray))).bind fun t164 => (some (t160.toList == t164.toList)))) else (none)) else (none)))) = some r := by first | (rw [hy152]; with_reducible exact H) | (have H2_ := (Option.bind_some _ _).symm.trans H; rw [hy152]; with_reducible exact H2_) | (have H2_ := (Option.bind_some _ _).symm.trans H; with_reducible exact H2_) | with_reducible exact H | (rw [hy152]; exact H) | exact H
              have Ny152 := Aside0.mk hy152
              clear hy152
              replace H := Option.bind_eq_some_iff.mp H
              obtain ⟨t155, A160, H⟩ := H
              replace H : ((digest_Hex.f t155).bind fun t156 => (if (t156.size : Int) = 64 then (if y147.length < 8796093022208 then ((digest_Sum.f (y147 ++ [a1])).bind fun t160 => ((digest_Sum.f (([a1] : List ByteArray))).bind fun t164 => (some (t160.toList == t164.toList)))) else (none)) else (none))) = some r := H
              have A16 := Aside0.mk A160
              clear A160
              replace H := Option.bind_eq_some_iff.mp H
              obtain ⟨t156, A170, H⟩ := H
              replace H : (if (t156.size : Int) = 64 then (if y147.length < 8796093022208 then ((digest_Sum.f (y147 ++ [a1])).bind fun t160 => ((digest_Sum.f (([a1] : List ByteArray))).bind fun t164 => (some (t160.toList == t164.toList)))) else (none)) else (none)) = some r := H
              have A17 := Aside0.mk A170
              clear A170
              by_cases c18 : (t156.size : Int) = 64
              · rw [if_pos c18] at H
                have c18b0 : ((t156.size : Int) == 64) = true := beq_iff_eq.mpr c18
                have c18b1 : ((t156.size : Int) != 64) = false := bne_eq_false_iff_eq.mpr c18
                clear c18
                by_cases c19 : y147.length < 8796093022208
                · rw [if_pos c19] at H
                  have LMc19 := Aside0.mk c19
                  clear c19
                  obtain ⟨y157, hy157⟩ : ∃ y_ : List ByteArray, y_ = (y147 ++ [a1]) := ⟨_, rfl⟩
                  replace H : ((digest_Sum.f y157).bind fun t160 => ((digest_Sum.f (([a1] : List ByteArray))).bind fun t164 => (some (t160.toList == t164.toList)))) = some r := by first | (rw [hy157]; with_reducible exact H) | (have H2_ := (Option.bind_some _ _).symm.trans H; rw [hy157]; with_reducible exact H2_) | (have H2_ := (Option.bind_some _ _).symm.trans H; with_reducible exact H2_) | with_reducible exact H | (rw [hy157]; exact H) | exact H
                  have Ny157 := Aside0.mk hy157
                  clear hy157
                  replace H := Option.bind_eq_some_iff.mp H
                  obtain ⟨t160, A200, H⟩ := H
                  replace H : ((digest_Sum.f (([a1] : List ByteArray))).bind fun t164 => (some (t160.toList == t164.toList))) = some r := H
                  have A20 := Aside0.mk A200
                  clear A200
                  obtain ⟨y161, hy161⟩ : ∃ y_ : List ByteArray, y_ = (([a1] : List ByteArray)) := ⟨_, rfl⟩
                  replace H : ((digest_Sum.f y161).bind fun t164 => (some (t160.toList == t164.toList))) = some r := by first | (rw [hy161]; with_reducible exact H) | (have H2_ := (Option.bind_some _ _).symm.trans H; rw [hy161]; with_reducible exact H2_) | (have H2_ := (Option.bind_some _ _).symm.trans H; with_reducible exact H2_) | with_reducible exact H | (rw [hy161]; exact H) | exact H
                  have Ny161 := Aside0.mk hy161
                  clear hy161
                  replace H := Option.bind_eq_some_iff.mp H
                  obtain ⟨t164, A210, H⟩ := H
                  replace H : (some (t160.toList == t164.toList)) = some r := H
                  have A21 := Aside0.mk A210
                  clear A210
                  obtain rfl := Option.some.inj H
                  go_wp2_with (first | ((with_reducible refine gate_dst (N := 17) rfl ?_); (try (refine gate_guard (by rfl) ?_; dsimp only)); refine Kd.R_make Kd.string _ 9 rfl (N := 17) rfl 22 _ _ rfl ji10 rfl rfl Try.underlying22 (.string ⟨#[]⟩) 16 info9 rfl (by decide) (by omega) (⟨#[]⟩ : ByteArray) (ok := fun _ => True) (okp := fun _ => True) rfl (fun _ hk => hk) trivial (of_decide_eq_true (by first | (with_reducible assumption) | assumption)) (Nat.le_trans (Nat.mul_le_mul_right _ (of_decide_eq_true (by first | (with_reducible assumption) | assumption) : ji10.toNat ≤ 17592186044416)) (by omega)) (Below.refl _ _) (Nat.le_refl _) ?_; intro v148 w22 ho23 hb hg_ hnew_; clear hg_ hnew_; (first | rw [← Ny147.out] at ho23 | (simp only [Int.reduceToNat] at ho23; rw [← Ny147.out] at ho23)); have n0_ := Aside0.mk (Kd.R_lower ho23 (below_size (by repeat (first | (with_reducible first | exact HB.out | apply below_alloc | apply pw_below_drewN | apply below_drew1) | exact HB.out)))); have n1_ := Aside0.mk (below_step (by repeat (first | (with_reducible first | exact HB.out | apply below_alloc | apply pw_below_drewN | apply below_drew1) | exact HB.out)) hb); clear HB; have HO149 := n0_; have HB := n1_; clear n0_ n1_; clear hb ho23; obtain ⟨Ao24, co24, eo24⟩ := Kd.R_slice HO149.out; subst eo24) | ((with_reducible refine gate_callee (f := 10) rfl ?_); refine goesL_ (some 19) rfl rfl Try.func10 (by kernel_rfl) rfl #[.slice Ao24 y147.length co24] rfl (by (try simp only [List.map_toArray, List.map_cons, List.map_nil]); first | done | rfl | (simp only [List.length_drop, List.length_take]; rfl)) ?_; (with_reducible refine (digest_Sum.calls _ _ y147 t150 _ ?side1 ?side2 A13.out).mono ?_); (case side1 => repeat (first | exact (Kd.R_reads' HO149.out).2.2 | (with_reducible refine Kd.C_alloc ?_ _) | (with_reducible refine Kd.C_drewN ?_ _) | (with_reducible refine Kd.C_drew ?_))); (case side2 => exact (Kd.R_reads' HO149.out).2.1); rintro e w25 ⟨rfl, hb⟩; refine ⟨_, rfl, ?_⟩; have n0_ := Aside0.mk (Kd.R_below (by (with_reducible repeat (first | apply Kd.R_alloc | apply Kd.R_drewN | apply Kd.R_drew)); exact HO149.out) hb); have n1_ := Aside0.mk (below_step (by repeat (first | (with_reducible first | exact HB.out | apply below_alloc | apply pw_below_drewN | apply below_drew1) | exact HB.out)) hb); clear HO149; clear HB; have HO149 := n0_; have HB := n1_; clear n0_ n1_; (try clear hb); (try clear hb2); (try clear hk); (try clear hi)) | ((with_reducible refine gate_callee (f := 15) rfl ?_); refine goesL_ (some 20) rfl rfl Try.func15 (by kernel_rfl) rfl #[.string t150] rfl (by (try simp only [List.map_toArray, List.map_cons, List.map_nil]); first | done | rfl | (simp only [List.length_drop, List.length_take]; rfl)) ?_; (with_reducible refine (digest_Hex.calls t150 t151 _ A14.out).mono ?_); rintro e w26 ⟨rfl, hb⟩; refine ⟨_, rfl, ?_⟩; have n0_ := Aside0.mk (Kd.R_below (by (with_reducible repeat (first | apply Kd.R_alloc | apply Kd.R_drewN | apply Kd.R_drew)); exact HO149.out) hb); have n1_ := Aside0.mk (below_step (by repeat (first | (with_reducible first | exact HB.out | apply below_alloc | apply pw_below_drewN | apply below_drew1) | exact HB.out)) hb); clear HO149; clear HB; have HO149 := n0_; have HB := n1_; clear n0_ n1_; (try clear hb); (try clear hb2); (try clear hk); (try clear hi)) | ((with_reducible refine gate_dst (N := 24) rfl ?_); (try (refine gate_guard (by rfl) ?_; dsimp only)); refine Kd.R_lit Kd.string _ 9 ?hg (N := 24) ?hd (xs := ([a1] : List ByteArray)) (inner := [.string a1]) (ok := fun _ => True) (okp := fun _ => True) ?hr ?hp (fun _ hk => hk) trivial (Below.refl _ _) (Nat.le_refl _) (by simp) ?_; (case hd => rfl); (case hg => rfl); (case hr => first | (go_simp; done) | (go_simp; rfl)); (case hp => exact (Reps.one (show Kd.M Kd.string _ _ _ a1 [.string a1] from rfl) (Reps.none _ _))); intro v153 w27 ho28 hb hg_ hnew_; clear hg_ hnew_; (first | rw [← Ny152.out] at ho28 | (simp only [Int.reduceToNat] at ho28; rw [← Ny152.out] at ho28)); have n0_ := Aside0.mk (Kd.R_elder' (by (with_reducible repeat (first | apply Kd.R_alloc | apply Kd.R_drewN | apply Kd.R_drew)); exact HO149.out) (Kd.R_base ho28) hb); have n1_ := Aside0.mk (Kd.R_lower (Kd.R_new' ho28 (Kd.R_lt (by (with_reducible repeat (first | apply Kd.R_alloc | apply Kd.R_drewN | apply Kd.R_drew)); exact HO149.out))) (below_size (by repeat (first | (with_reducible first | exact HB.out | apply below_alloc | apply pw_below_drewN | apply below_drew1) | exact HB.out)))); have n2_ := Aside0.mk (below_step (by repeat (first | (with_reducible first | exact HB.out | apply below_alloc | apply pw_below_drewN | apply below_drew1) | exact HB.out)) hb); clear HO149; clear HB; have HO149 := n0_; have HO154 := n1_; have HB := n2_; clear n0_ n1_ n2_; clear hb ho28; obtain ⟨Ao29, co29, eo29⟩ := Kd.R_slice HO154.out; subst eo29) | (go_at_call 10; (with_reducible refine (digest_Sum.calls _ _ y152 t155 _ ?side1 ?side2 A16.out).mono ?_); (case side1 => repeat (first | exact (Kd.R_reads' HO154.out).2.2 | (with_reducible refine Kd.C_alloc ?_ _) | (with_reducible refine Kd.C_drewN ?_ _) | (with_reducible refine Kd.C_drew ?_))); (case side2 => exact (Kd.R_reads' HO154.out).2.1); rintro e w30 ⟨rfl, hb⟩; have n0_ := Aside0.mk (Kd.R_below (by (with_reducible repeat (first | apply Kd.R_alloc | apply Kd.R_drewN | apply Kd.R_drew)); exact HO149.out) hb); have n1_ := Aside0.mk (Kd.R_below (by (with_reducible repeat (first | apply Kd.R_alloc | apply Kd.R_drewN | apply Kd.R_drew)); exact HO154.out) hb); have n2_ := Aside0.mk (below_step (by repeat (first | (with_reducible first | exact HB.out | apply below_alloc | apply pw_below_drewN | apply below_drew1) | exact HB.out)) hb); clear HO149; clear HO154; clear HB; have HO149 := n0_; have HO154 := n1_; have HB := n2_; clear n0_ n1_ n2_; (try clear hb); (try clear hb2); (try clear hk); (try clear hi)) | (go_at_call 15; (with_reducible refine (digest_Hex.calls t155 t156 _ A17.out).mono ?_); rintro e w31 ⟨rfl, hb⟩; have n0_ := Aside0.mk (Kd.R_below (by (with_reducible repeat (first | apply Kd.R_alloc | apply Kd.R_drewN | apply Kd.R_drew)); exact HO149.out) hb); have n1_ := Aside0.mk (Kd.R_below (by (with_reducible repeat (first | apply Kd.R_alloc | apply Kd.R_drewN | apply Kd.R_drew)); exact HO154.out) hb); have n2_ := Aside0.mk (below_step (by repeat (first | (with_reducible first | exact HB.out | apply below_alloc | apply pw_below_drewN | apply below_drew1) | exact HB.out)) hb); clear HO149; clear HO154; clear HB; have HO149 := n0_; have HO154 := n1_; have HB := n2_; clear n0_ n1_ n2_; (try clear hb); (try clear hb2); (try clear hk); (try clear hi)) | ((with_reducible refine gate_builtin (b := .append) (xs := #[.tmp 31, .tmp 33]) rfl ?_); (try (refine gate_guard (by rfl) ?_; dsimp only)); at_builtin; refine Kd.R_append Kd.string (w0 := w) w.heap.size rfl (.tmp 31) (.tmp 33) 22 9 (.string ⟨#[]⟩) 16 rfl Try.underlying22 info9 rfl (by decide) (by omega) (.slice Ao24 y147.length co24) y147 a1 [.string a1] (fun k_ => some k_ ≠ (.slice Ao29 y152.length co29 : Value).ownBlock) (fun _ => False) rfl rfl ?aP (fun _ hk => hk.elim) ?aF ?aO ?aB ?aS ?aL ?_; (case aP => exact rfl); (case aB => exact (by repeat (first | (with_reducible first | exact HB.out | apply below_alloc | apply pw_below_drewN | apply below_drew1) | exact HB.out))); (case aF => exact (fun k_ hk => Kd.fresh' (Kd.R_lt (by (with_reducible repeat (first | apply Kd.R_alloc | apply Kd.R_drewN | apply Kd.R_drew)); exact HO154.out)) k_ hk)); (case aO => exact (by (with_reducible repeat (first | apply Kd.R_alloc | apply Kd.R_drewN | apply Kd.R_drew)); exact Kd.R_mono HO149.out (fun _ hk => hk.2))); (case aS => exact (below_size (by repeat (first | (with_reducible first | exact HB.out | apply below_alloc | apply pw_below_drewN | apply below_drew1) | exact HB.out)))); (case aL => have := LMc19.out; omega); intro v158 w32 ho hb hg hat; rw [← Ny157.out] at ho; have n0_ := Aside0.mk (Kd.R_after (ok := (fun _ => True)) (by (with_reducible repeat (first | apply Kd.R_alloc | apply Kd.R_drewN | apply Kd.R_drew)); exact HO154.out) hg hat); have n1_ := Aside0.mk (hb); have n2_ := Aside0.mk (ho); clear HO154; clear HB; clear HO149; have HO154 := n0_; have HB := n1_; have HO159 := n2_; clear n0_ n1_ n2_; clear ho hb hg hat; obtain ⟨Ao33, co33, eo33⟩ := Kd.R_slice HO159.out; subst eo33) | (go_at_call 10; (with_reducible refine (digest_Sum.calls _ _ y157 t160 _ ?side1 ?side2 A20.out).mono ?_); (case side1 => repeat (first | exact (Kd.R_reads' HO159.out).2.2 | (with_reducible refine Kd.C_alloc ?_ _) | (with_reducible refine Kd.C_drewN ?_ _) | (with_reducible refine Kd.C_drew ?_))); (case side2 => exact (Kd.R_reads' HO159.out).2.1); rintro e w34 ⟨rfl, hb⟩; have n0_ := Aside0.mk (Kd.R_below (by (with_reducible repeat (first | apply Kd.R_alloc | apply Kd.R_drewN | apply Kd.R_drew)); exact HO154.out) hb); have n1_ := Aside0.mk (Kd.R_below (by (with_reducible repeat (first | apply Kd.R_alloc | apply Kd.R_drewN | apply Kd.R_drew)); exact HO159.out) hb); have n2_ := Aside0.mk (below_step (by repeat (first | (with_reducible first | exact HB.out | apply below_alloc | apply pw_below_drewN | apply below_drew1) | exact HB.out)) hb); clear HO154; clear HO159; clear HB; have HO154 := n0_; have HO159 := n1_; have HB := n2_; clear n0_ n1_ n2_; (try clear hb); (try clear hb2); (try clear hk); (try clear hi)) | ((with_reducible refine gate_dst (N := 37) rfl ?_); (try (refine gate_guard (by rfl) ?_; dsimp only)); refine Kd.R_lit Kd.string _ 9 ?hg (N := 37) ?hd (xs := ([a1] : List ByteArray)) (inner := [.string a1]) (ok := fun _ => True) (okp := fun _ => True) ?hr ?hp (fun _ hk => hk) trivial (Below.refl _ _) (Nat.le_refl _) (by simp) ?_; (case hd => rfl); (case hg => rfl); (case hr => first | (go_simp; done) | (go_simp; rfl)); (case hp => exact (Reps.one (show Kd.M Kd.string _ _ _ a1 [.string a1] from rfl) (Reps.none _ _))); intro v162 w35 ho36 hb hg_ hnew_; clear hg_ hnew_; (first | rw [← Ny161.out] at ho36 | (simp only [Int.reduceToNat] at ho36; rw [← Ny161.out] at ho36)); have n0_ := Aside0.mk (Kd.R_elder' (by (with_reducible repeat (first | apply Kd.R_alloc | apply Kd.R_drewN | apply Kd.R_drew)); exact HO154.out) (Kd.R_base ho36) hb); have n1_ := Aside0.mk (Kd.R_elder' (by (with_reducible repeat (first | apply Kd.R_alloc | apply Kd.R_drewN | apply Kd.R_drew)); exact HO159.out) (Kd.R_base ho36) hb); have n2_ := Aside0.mk (Kd.R_lower (Kd.R_new' (Kd.R_new' ho36 (Kd.R_lt (by (with_reducible repeat (first | apply Kd.R_alloc | apply Kd.R_drewN | apply Kd.R_drew)); exact HO154.out))) (Kd.R_lt (by (with_reducible repeat (first | apply Kd.R_alloc | apply Kd.R_drewN | apply Kd.R_drew)); exact HO159.out))) (below_size (by repeat (first | (with_reducible first | exact HB.out | apply below_alloc | apply pw_below_drewN | apply below_drew1) | exact HB.out)))); have n3_ := Aside0.mk (below_step (by repeat (first | (with_reducible first | exact HB.out | apply below_alloc | apply pw_below_drewN | apply below_drew1) | exact HB.out)) hb); clear HO154; clear HO159; clear HB; have HO154 := n0_; have HO159 := n1_; have HO163 := n2_; have HB := n3_; clear n0_ n1_ n2_ n3_; clear hb ho36; obtain ⟨Ao37, co37, eo37⟩ := Kd.R_slice HO163.out; subst eo37) | (go_at_call 10; (with_reducible refine (digest_Sum.calls _ _ y161 t164 _ ?side1 ?side2 A21.out).mono ?_); (case side1 => repeat (first | exact (Kd.R_reads' HO163.out).2.2 | (with_reducible refine Kd.C_alloc ?_ _) | (with_reducible refine Kd.C_drewN ?_ _) | (with_reducible refine Kd.C_drew ?_))); (case side2 => exact (Kd.R_reads' HO163.out).2.1); rintro e w38 ⟨rfl, hb⟩; have n0_ := Aside0.mk (Kd.R_below (by (with_reducible repeat (first | apply Kd.R_alloc | apply Kd.R_drewN | apply Kd.R_drew)); exact HO154.out) hb); have n1_ := Aside0.mk (Kd.R_below (by (with_reducible repeat (first | apply Kd.R_alloc | apply Kd.R_drewN | apply Kd.R_drew)); exact HO159.out) hb); have n2_ := Aside0.mk (Kd.R_below (by (with_reducible repeat (first | apply Kd.R_alloc | apply Kd.R_drewN | apply Kd.R_drew)); exact HO163.out) hb); have n3_ := Aside0.mk (below_step (by repeat (first | (with_reducible first | exact HB.out | apply below_alloc | apply pw_below_drewN | apply below_drew1) | exact HB.out)) hb); clear HO154; clear HO159; clear HO163; clear HB; have HO154 := n0_; have HO159 := n1_; have HO163 := n2_; have HB := n3_; clear n0_ n1_ n2_ n3_; (try clear hb); (try clear hb2); (try clear hk); (try clear hi)))
                  go_ret
                  exact ⟨by first | rfl | (simp [errW_none, errW_some] <;> rfl) | (simp only [← hji10]; first | rfl | (simp [errW_none, errW_some] <;> rfl)) | (simp [*, errW_none, errW_some] <;> rfl), by repeat (first | (with_reducible first | exact HB.out | apply below_alloc | apply pw_below_drewN | apply below_drew1) | exact HB.out)⟩
                · rw [if_neg c19] at H
                  exact absurd H (by simp)
              · rw [if_neg c18] at H
                exact absurd H (by simp)
            · rw [if_neg c15] at H
              exact absurd H (by simp)
          · rw [if_neg c12] at H
            exact absurd H (by simp)
        · rw [if_neg c11] at H
          exact absurd H (by simp)

/-- THE ONE PURE STATEMENT of dominolaw07_DigestNone: yours. -/
def dominolaw07_DigestNone.Pure : Prop := ∀ (a0 : Int) (a1 : ByteArray), (Lit.int .u8 a0).wf = true → a1.size ≤ 140737488351232 → ∃ k, dominolaw07_DigestNone.f k a0 a1 = some true
theorem dominolaw07_DigestNone.walk (P : dominolaw07_DigestNone.Pure) (a0 : Int) (a1 : ByteArray) (w : World) (w0 : (Lit.int .u8 a0).wf = true) (w1 : a1.size ≤ 140737488351232) :
    Calls Try.prog 6 #[.int .u8 a0, .string a1] w fun e w' => e = .returned (.bool true) ∧ Below w.heap.size w w' := by
  obtain ⟨k, h⟩ := P a0 a1 w0 w1
  refine (dominolaw07_DigestNone.calls k a0 a1 true w h).mono ?_
  rintro e w' ⟨rfl, hd⟩
  exact ⟨rfl, hd⟩

-- NOT PRINTED: function 52 (bytealg_IndexByteString)

-- NOT PRINTED: function 41 (stringslite_IndexByte)

-- NOT PRINTED: function 28 (strings_IndexByte)

/-! ### digest_Unhex: function 16 -/
def ixB (c : Int) : Int := Lib.indexByte [48, 49, 50, 51, 52, 53, 54, 55, 56, 57, 97, 98, 99, 100, 101, 102] c.toNat.toUInt8
def unhexL : Nat → ByteArray → ByteArray → ByteArray × Bool
  | 0, _, acc => (acc, true)
  | r + 1, s, acc => if ixB (bt s 0) < 0 ∨ ixB (bt s 1) < 0 then (⟨#[]⟩, false) else unhexL r (s.extract 2 s.size) (acc ++ strOfNums [ixB (bt s 0) * 16 + ixB (bt s 1)])
def unhexF (s : ByteArray) : ByteArray × Bool := if s.size % 2 = 1 then (⟨#[]⟩, false) else unhexL (s.size / 2) s ⟨#[]⟩
def digest_Unhex.f (a0 : ByteArray) : Option (ByteArray × Bool) := if a0.size ≤ 1099511627776 then some (unhexF a0) else none
theorem hexjoin : ∀ a b : Fin 16, Go.bits .or .i64 ((a.val : Int) * 16) (b.val : Int) = (a.val : Int) * 16 + (b.val : Int) := by decide +kernel
theorem ixB_bound : ∀ c : Fin 256, -1 ≤ ixB (c.val : Int) ∧ ixB (c.val : Int) < 16 := by decide +kernel
theorem ixB_range (s : ByteArray) (i : Int) : -1 ≤ ixB (bt s i) ∧ ixB (bt s i) < 16 := by
  have h := bt_range s i
  obtain ⟨n, hn⟩ : ∃ n : Nat, bt s i = (n : Int) := ⟨(bt s i).toNat, by omega⟩
  rw [hn]
  exact ixB_bound ⟨n, by omega⟩
theorem builder_T2 : BldrT 53 0 2 := ⟨by decide, by kernel_rfl, by decide⟩
theorem and1_ (n : Nat) (h : n ≤ 1099511627776) : Go.bits .and .i64 (n : Int) 1 = ((n % 2 : Nat) : Int) := by
  have := bits_mask .i64 63 (by decide) (fun n a b => by rw [IntKind.wrap_i64]; have h : n < 9223372036854775808 := (by simpa using b); omega) 1 (by decide) (n : Int) (by omega) (by
    have : (2 : Int) ^ 63 = 9223372036854775808 := by decide
    omega)
  simpa using this
set_option maxHeartbeats 2000000 in
set_option maxRecDepth 100000 in
theorem digest_Unhex.calls (a0 : ByteArray) (r1 : ByteArray) (r2 : Bool) (w : World) (h : digest_Unhex.f a0 = some (r1, r2)) :
    Calls Try.prog 16 #[.string a0] w fun e w' => e = .returned (.tuple #[.string r1, .bool r2]) ∧ Below w.heap.size w w' := by
  unfold digest_Unhex.f at h
  by_cases hg : a0.size ≤ 1099511627776
  rotate_left
  · rw [if_neg hg] at h
    simp at h
  rw [if_pos hg] at h
  have h := Option.some.inj h
  unfold unhexF at h
  have hand := and1_ a0.size hg
  by_cases hodd : a0.size % 2 = 1
  · rw [if_pos hodd] at h
    obtain ⟨rfl, rfl⟩ := Prod.mk.inj h
    rw [hodd] at hand
    clear hodd h
    go_enter Try.func16, Try.ntmps16
    go_wp2
    go_ret2
    exact ⟨rfl, Below.refl _ _⟩
  · rw [if_neg hodd] at h
    have hev : a0.size % 2 = 0 := by omega
    rw [hev] at hand
    have HX := Aside0.mk h
    have HEV := Aside0.mk hev
    have HO : Aside0 (Bldr (w.heap.size + 1) w.heap.size 0 53 [.pointer none, .slice none 0 0] ⟨#[]⟩ (w.alloc (.cells #[.pointer none, .slice none 0 0] 53))) :=
      ⟨heap_alloc_new _ _, Or.inl rfl, .slice none 0 0, rfl, own_nil _ _ _ _, by simp [Value.ownBlock]⟩
    clear hodd h hev
    go_enter Try.func16, Try.ntmps16
    go_wp2
    obtain ⟨wA, hwA⟩ : ∃ W, W = w.alloc (.cells #[.pointer none, .slice none 0 0] 53) := ⟨_, rfl⟩
    have HBW : Aside0 (Below w.heap.size w wA) := ⟨by rw [hwA]; exact (Below.refl _ _).alloc (Nat.le_refl _) _⟩
    have hz : wA.heap.size = w.heap.size + 1 := by rw [hwA]; simp
    change Code.wp _ _ _ _ (w.alloc (.cells #[.pointer none, .slice none 0 0] 53))
    rw [← hwA] at HO ⊢
    obtain ⟨gb, hgb⟩ : ∃ g, g = w.heap.size := ⟨_, rfl⟩
    rw [← hgb] at HO HBW hz ⊢
    rw [← hz] at HO
    have HZ := Aside0.mk (And.intro hgb hz)
    clear hwA hgb hz hand
    go_loopg [0] (a0.size / 2) (fun r s0 wr => ∃ (s acc : ByteArray) (p v : Value), s.size = 2 * r ∧ s.size ≤ 1099511627776 ∧ acc.size + r ≤ 1099511627776 ∧ s0 = .string s ∧ Aside0 (unhexL r s acc = (r1, r2)) ∧ Aside0 (Bldr wA.heap.size gb 0 53 [p, v] acc wr) ∧ Aside0 (KeptG wA.heap.size gb wA wr))
    case atStart => exact ⟨a0, ⟨#[]⟩, _, _, by have := HEV.out; omega, hg, by show 0 + _ ≤ _; omega, rfl, HX, HO, ⟨KeptG.refl _ _ _⟩⟩
    case round =>
      obtain ⟨s, acc, p, v, hs, hsm, ha, rfl, HF, HB, HK⟩ := hrel
      have hsz : wA.heap.size ≤ wr.heap.size := HK.out.size
      cases gk with
      | zero =>
        have hem : s.toList.isEmpty = true := by
          rw [Go.Lib.toList_data]
          have : s.data.toList.length = 0 := by rw [← Go.Lib.size_eq]; omega
          rw [List.eq_nil_of_length_eq_zero this]; rfl
        have HS := Aside0.mk hs
        clear hs
        go_wp2_with fail
        refine (bldr_string _ gb 0 53 _ acc wr HB.out hsz).mono ?_
        rintro e w3 ⟨rfl, hb⟩
        have HB3 := Aside0.mk hb
        clear hb hsz
        go_wp2
        go_ret2
        have hf := HF.out
        rw [unhexL] at hf
        obtain ⟨e1, e2⟩ := Prod.mk.inj hf
        obtain ⟨e3, e4⟩ := HZ.out
        refine ⟨by rw [← e1, ← e2]; rfl, ?_⟩
        rw [← e3]
        exact HBW.out.trans ((HK.out.ofBelow HB3.out).below (by omega) (Nat.le_refl _))
      | succ r =>
        have hem : s.toList.isEmpty = false := by
          rw [Go.Lib.toList_data]
          have : s.data.toList.length ≠ 0 := by rw [← Go.Lib.size_eq]; omega
          cases h : s.data.toList with
          | nil => rw [h] at this; simp at this
          | cons _ _ => rfl
        have hs2 : 2 ≤ s.size := by omega
        have hs2' : (2 : Int) ≤ (s.size : Int) := by omega
        have s0 : 0 < s.size := by omega
        have s1 : 1 < s.size := by omega
        have s0' : (0 : Int) < (s.size : Int) := by omega
        have s1' : (1 : Int) < (s.size : Int) := by omega
        have x0 := bt_at s 0
        have x1 := bt_at s 1
        rw [show (0 : Int).toNat = 0 from rfl] at x0
        rw [show (1 : Int).toNat = 1 from rfl] at x1
        have HS := Aside0.mk hs
        have hf := HF.out
        rw [unhexL] at hf
        have b0 := ixB_range s 0
        have b1 := ixB_range s 1
        have c0 (W : World) : Calls Try.prog 28 #[.string (⟨#[48, 49, 50, 51, 52, 53, 54, 55, 56, 57, 97, 98, 99, 100, 101, 102]⟩ : ByteArray), .int .u8 (bt s 0)] W fun e w' => e = .returned (.int .i64 (ixB (bt s 0))) ∧ w' = W := Try.strings_IndexByte _ _ W
        have c1 (W : World) : Calls Try.prog 28 #[.string (⟨#[48, 49, 50, 51, 52, 53, 54, 55, 56, 57, 97, 98, 99, 100, 101, 102]⟩ : ByteArray), .int .u8 (bt s 1)] W fun e w' => e = .returned (.int .i64 (ixB (bt s 1))) ∧ w' = W := Try.strings_IndexByte _ _ W
        generalize ixB (bt s 0) = i0 at hf b0 c0
        generalize ixB (bt s 1) = i1 at hf b1 c1
        have HF2 := Aside0.mk hf
        clear hs hf HF
        go_wp2_with fail
        go_quiet (first | (go_at_call 28; exact Calls.quiet_of_same (c0 _)) | (go_at_call 28; exact Calls.quiet_of_same (c1 _)))
        have HK2 := Aside0.mk (HK.out.ofBelow (pw_below_drewN (Below.refl _ _) nq))
        have HB2 := Aside0.mk (HB.out.drewN nq)
        have hsz2 : wA.heap.size ≤ (wr.drewN nq).heap.size := hsz
        generalize wr.drewN nq = w2 at HK2 HB2 hsz2 ⊢
        clear x0 x1 c0 c1
        by_cases hbad : i0 < 0 ∨ i1 < 0
        · have hf := HF2.out
          rw [if_pos hbad] at hf
          obtain ⟨rfl, rfl⟩ := Prod.mk.inj hf
          clear hf
          by_cases hn0 : i0 < 0
          · have q0 : decide (i0 < 0) = true := decide_eq_true hn0
            clear hbad
            go_wp2
            go_ret2
            obtain ⟨e3, e4⟩ := HZ.out
            refine ⟨rfl, ?_⟩
            rw [← e3]
            exact HBW.out.trans (HK2.out.below (by omega) (Nat.le_refl _))
          · have hn1 : i1 < 0 := by omega
            have q0 : decide (i0 < 0) = false := decide_eq_false hn0
            have q1 : decide (i1 < 0) = true := decide_eq_true hn1
            clear hbad
            go_wp2
            go_ret2
            obtain ⟨e3, e4⟩ := HZ.out
            refine ⟨rfl, ?_⟩
            rw [← e3]
            exact HBW.out.trans (HK2.out.below (by omega) (Nat.le_refl _))
        · have hf := HF2.out
          rw [if_neg hbad] at hf
          have hn0 : 0 ≤ i0 := by omega
          have hn1 : 0 ≤ i1 := by omega
          have q0 : decide (i0 < 0) = false := decide_eq_false (by omega)
          have q1 : decide (i1 < 0) = false := decide_eq_false (by omega)
          have hj := hexjoin ⟨i0.toNat, by omega⟩ ⟨i1.toNat, by omega⟩
          simp only [Int.toNat_of_nonneg hn0, Int.toNat_of_nonneg hn1] at hj
          have HX2 := Aside0.mk hf
          have hb255 : 0 ≤ i0 * 16 + i1 ∧ i0 * 16 + i1 ≤ 255 := by omega
          clear hbad hf
          go_wp2_with fail
          refine (bldr_byte _ gb 0 53 [p, v] acc _ w2 builder_T2 HB2.out (by omega) hsz2 hb255).mono ?_
          rintro e w4 ⟨rfl, ⟨v4, hb4⟩, hk4⟩
          have HB4 := Aside0.mk hb4
          have HK4 := Aside0.mk (HK2.out.trans hk4)
          clear hb4 hk4 hj
          go_wp2
          go_roundg r
          case measure => omega
          case rel =>
            refine ⟨s.extract 2 s.size, _, _, _, ?_, ?_, ?_, rfl, HX2, HB4, HK4⟩
            · rw [ByteArray.size_extract, HS.out]; omega
            · rw [ByteArray.size_extract]; omega
            · rw [ByteArray.size_append]; show acc.size + 1 + r ≤ _; omega

/-! ### dominoref07_Hex: function 18 -/
def dominoref07_Hex.l0 : Nat → ByteArray → List Int → Int → Option (ByteArray)
 | 0, _, _, _ => none
 | k + 1, x0, x3, x4 => if x4 < (x0.size : Int) then (if 0 ≤ x4 then (if 0 ≤ ((Int.tdiv (bt x0 x4) 16) % 256) then (if ((Int.tdiv (bt x0 x4) 16) % 256) < 16 then (if 0 ≤ (Int.tmod (bt x0 x4) 16) then (if (Int.tmod (bt x0 x4) 16) < 16 then ((some (([bt (⟨#[48, 49, 50, 51, 52, 53, 54, 55, 56, 57, 97, 98, 99, 100, 101, 102]⟩ : ByteArray) ((Int.tdiv (bt x0 x4) 16) % 256), bt (⟨#[48, 49, 50, 51, 52, 53, 54, 55, 56, 57, 97, 98, 99, 100, 101, 102]⟩ : ByteArray) (Int.tmod (bt x0 x4) 16)] : List Int) : List Int)).bind fun y124 => (if x3.length + y124.length < 140737488355328 then (dominoref07_Hex.l0 k x0 (x3 ++ y124) (wrap64 (x4 + 1))) else (none))) else (none)) else (none)) else (none)) else (none)) else (none)) else (some (strOfNums x3))
def dominoref07_Hex.f (k : Nat) (a0 : ByteArray) : Option (ByteArray) := dominoref07_Hex.l0 k a0 (([] : List Int)) 0
theorem dominoref07_Hex.mono_l : ∀ k, (∀ y0 y1 y2, LeO (dominoref07_Hex.l0 k y0 y1 y2) (dominoref07_Hex.l0 (k + 1) y0 y1 y2))
 | 0 => fun _ _ _ r h => by simp [dominoref07_Hex.l0] at h
 | k + 1 => by
  have ih0 := dominoref07_Hex.mono_l k
  ·intro y0 y1 y2
   unfold dominoref07_Hex.l0
   repeat' first
   | (with_reducible exact ih0 _ _ _)
   | (with_reducible exact LeO.refl _)
   | (with_reducible exact LeO.none _)
   | (with_reducible refine LeO.ite ?_ ?_)
   | (with_reducible refine LeO.bind ?_ (fun _ => ?_))
   | exact ih0 _ _ _
   | exact LeO.none _
   | refine LeO.ite ?_ ?_
   | refine LeO.bind ?_ (fun _ => ?_)
theorem dominoref07_Hex.mono : ∀ a0 k, LeO (dominoref07_Hex.f k a0) (dominoref07_Hex.f (k + 1) a0) := by
 intro a0 k
 have ih0 := dominoref07_Hex.mono_l k
 unfold dominoref07_Hex.f
 repeat' first
   | (with_reducible exact ih0 _ _ _)
   | (with_reducible exact LeO.refl _)
   | (with_reducible exact LeO.none _)
   | (with_reducible refine LeO.ite ?_ ?_)
   | (with_reducible refine LeO.bind ?_ (fun _ => ?_))
   | exact ih0 _ _ _
   | exact LeO.none _
   | refine LeO.ite ?_ ?_
   | refine LeO.bind ?_ (fun _ => ?_)
def dominoref07_Hex.T5 : Bool × List (List Nat × List Nat) := (true, [([], []), ([], []), ([], []), ([1, 2], [1, 2]), ([3], [3]), ([4], [4]), ([], []), ([], []), ([6, 7], [6, 7]), ([8], [8]), ([9], [9]), ([5, 10], [5, 10]), ([0, 11], [0, 11]), ([12, 12, 0, 1, 2, 3, 4, 5, 6, 7, 8, 9, 10, 11, 12], [0, 12])])
def dominoref07_Hex.B5 : List Nat := [0, 0, 0, 6, 14, 30, 0, 0, 192, 448, 960, 2046, 4095, 8191]
theorem dominoref07_Hex.tab5 : rtab .any (opsOf Try.f18 5) = dominoref07_Hex.T5 := by kernel_rfl
theorem dominoref07_Hex.bits5 : waitsOk dominoref07_Hex.T5.2 dominoref07_Hex.B5 = true := by kernel_rfl
set_option maxHeartbeats 8000000 in
set_option maxRecDepth 100000 in
theorem dominoref07_Hex.calls (k : Nat) (a0 : ByteArray) (r : ByteArray) (w : World) (h : dominoref07_Hex.f k a0 = some r) :
  Calls Try.prog 18 #[.string a0] w fun e w' => e = .returned (.string r) ∧ Below w.heap.size w w' := by
 have HB := Aside0.mk (Below.refl w.heap.size w)
 have H : (dominoref07_Hex.l0 k a0 (([] : List Int)) 0) = some r := h
 clear h
 obtain ⟨y121, hy121⟩ : ∃ y_ : List Int, y_ = (([] : List Int)) := ⟨_, rfl⟩
 replace H : (dominoref07_Hex.l0 k a0 y121 0) = some r := by first | (rw [hy121]; with_reducible exact H) | (have H2_ := (Option.bind_some _ _).symm.trans H; rw [hy121]; with_reducible exact H2_) | (have H2_ := (Option.bind_some _ _).symm.trans H; with_reducible exact H2_) | with_reducible exact H | (rw [hy121]; exact H) | exact H
 have Ny121 := Aside0.mk hy121
 clear hy121
 have H' := Aside0.mk H
 clear H
 go_enter Try.func18, Try.ntmps18
 go_wp2_with (first | ((with_reducible refine gate_dst (N := 5) rfl ?_); refine Kd.R_lit (Kd.int .u8) _ 5 ?hg (N := 5) ?hd (xs := ([] : List Int)) (inner := []) (ok := fun _ => True) (okp := fun _ => True) ?hr ?hp (fun _ hk => hk) trivial (Below.refl _ _) (Nat.le_refl _) (by simp) ?_; (case hd => rfl); (case hg => rfl); (case hr => first | (go_simp; done) | (go_simp; rfl)); (case hp => exact (Reps.none _ _)); intro v122 w2 ho3 hb hg_ hnew_; clear hg_ hnew_; (first | rw [← Ny121.out] at ho3 | (simp only [Int.reduceToNat] at ho3; rw [← Ny121.out] at ho3)); have n0_ := Aside0.mk (Kd.R_lower ho3 (below_size (by repeat (first | (with_reducible first | exact HB.out | apply below_alloc | apply pw_below_drewN | apply below_drew1) | exact HB.out)))); have n1_ := Aside0.mk (below_step (by repeat (first | (with_reducible first | exact HB.out | apply below_alloc | apply pw_below_drewN | apply below_drew1) | exact HB.out)) hb); clear HB; have HO123 := n0_; have HB := n1_; clear n0_ n1_; clear hb ho3))
 go_loopg [3, 4] k (fun kq v3 v4 w' => ∃ (x3_1 : List Int) (x4_1 : Int), v4 = .int .i64 x4_1 ∧ Aside0 (dominoref07_Hex.l0 kq a0 x3_1 x4_1 = some r) ∧ Aside0 (kq ≤ k) ∧ Aside0 (Kd.R (Kd.int .u8) 5 w' w.heap.size (fun _ => True) v3 x3_1) ∧ Aside0 (Below w.heap.size w w'))
 case atStart => exact ⟨(y121), (0), (by first | rfl | (simp; done) | (simp [*]; done)), H', ⟨Nat.le_refl _⟩, ⟨by (with_reducible repeat (first | apply Kd.R_alloc | apply Kd.R_drewN | apply Kd.R_drew)); exact HO123.out⟩, ⟨by repeat (first | (with_reducible first | exact HB.out | apply below_alloc | apply pw_below_drewN | apply below_drew1) | exact HB.out)⟩⟩
 case round =>
  clear H'
  try clear c1
  try clear p2
  obtain ⟨x3_1, x4_1, rfl, HA, HK1, HO_3, HB⟩ := hrel
  cases gk with
  | zero => exact absurd HA.out (by simp [dominoref07_Hex.l0])
  | succ k1 =>
   have H := HA.out
   clear HA
   simp only [dominoref07_Hex.l0] at H
   by_cases c4 : x4_1 < (a0.size : Int)
   ·rw [if_pos c4] at H
    have c4b0 : decide (x4_1 < (a0.size : Int)) = true := decide_eq_true c4
    clear c4
    by_cases c5 : 0 ≤ x4_1
    ·rw [if_pos c5] at H
     have c5b0 : decide (0 ≤ x4_1) = true := decide_eq_true c5
     clear c5
     obtain ⟨ji7, hji7⟩ : ∃ j_ : Int, ((Int.tdiv (bt a0 x4_1) 16) % 256) = j_ := ⟨_, rfl⟩
     replace H : (if 0 ≤ (ji7) then (if (ji7) < 16 then (if 0 ≤ (Int.tmod (bt a0 x4_1) 16) then (if (Int.tmod (bt a0 x4_1) 16) < 16 then ((some (([bt (⟨#[48, 49, 50, 51, 52, 53, 54, 55, 56, 57, 97, 98, 99, 100, 101, 102]⟩ : ByteArray) (ji7), bt (⟨#[48, 49, 50, 51, 52, 53, 54, 55, 56, 57, 97, 98, 99, 100, 101, 102]⟩ : ByteArray) (Int.tmod (bt a0 x4_1) 16)] : List Int) : List Int)).bind fun y124 => (if x3_1.length + y124.length < 140737488355328 then (dominoref07_Hex.l0 k1 a0 (x3_1 ++ y124) (wrap64 (x4_1 + 1))) else (none))) else (none)) else (none)) else (none)) else (none)) = some r := by first | (rw [hji7] at H; exact H) | (simp only [hji7] at H ⊢; exact H)
     by_cases c8 : 0 ≤ (ji7)
     ·rw [if_pos c8] at H
      have c8b0 : decide (0 ≤ (ji7)) = true := decide_eq_true c8
      clear c8
      by_cases c9 : (ji7) < 16
      ·rw [if_pos c9] at H
       have c9b0 : decide ((ji7) < 16) = true := decide_eq_true c9
       clear c9
       obtain ⟨ji12, hji12⟩ : ∃ j_ : Int, (Int.tmod (bt a0 x4_1) 16) = j_ := ⟨_, rfl⟩
       replace H : (if 0 ≤ (ji12) then (if (ji12) < 16 then ((some (([bt (⟨#[48, 49, 50, 51, 52, 53, 54, 55, 56, 57, 97, 98, 99, 100, 101, 102]⟩ : ByteArray) (ji7), bt (⟨#[48, 49, 50, 51, 52, 53, 54, 55, 56, 57, 97, 98, 99, 100, 101, 102]⟩ : ByteArray) (ji12)] : List Int) : List Int)).bind fun y124 => (if x3_1.length + y124.length < 140737488355328 then (dominoref07_Hex.l0 k1 a0 (x3_1 ++ y124) (wrap64 (x4_1 + 1))) else (none))) else (none)) else (none)) = some r := by first | (rw [hji12] at H; exact H) | (simp only [hji12] at H ⊢; exact H)
       by_cases c13 : 0 ≤ (ji12)
       ·rw [if_pos c13] at H
        have c13b0 : decide (0 ≤ (ji12)) = true := decide_eq_true c13
        clear c13
        by_cases c14 : (ji12) < 16
        ·rw [if_pos c14] at H
         have c14b0 : decide ((ji12) < 16) = true := decide_eq_true c14
         clear c14
         obtain ⟨y124, hy124⟩ : ∃ y_ : List Int, y_ = (([bt (⟨#[48, 49, 50, 51, 52, 53, 54, 55, 56, 57, 97, 98, 99, 100, 101, 102]⟩ : ByteArray) (ji7), bt (⟨#[48, 49, 50, 51, 52, 53, 54, 55, 56, 57, 97, 98, 99, 100, 101, 102]⟩ : ByteArray) (ji12)] : List Int)) := ⟨_, rfl⟩
         replace H : (if x3_1.length + y124.length < 140737488355328 then (dominoref07_Hex.l0 k1 a0 (x3_1 ++ y124) (wrap64 (x4_1 + 1))) else (none)) = some r := by first | (rw [hy124]; with_reducible exact H) | (have H2_ := (Option.bind_some _ _).symm.trans H; rw [hy124]; with_reducible exact H2_) | (have H2_ := (Option.bind_some _ _).symm.trans H; with_reducible exact H2_) | with_reducible exact H | (rw [hy124]; exact H) | exact H
         have Ny124 := Aside0.mk hy124
         clear hy124
         by_cases c16 : x3_1.length + y124.length < 140737488355328
         ·rw [if_pos c16] at H
          have LMc16 := Aside0.mk c16
          clear c16
          obtain ⟨y127, hy127⟩ : ∃ y_ : List Int, y_ = (x3_1 ++ y124) := ⟨_, rfl⟩
          replace H : (dominoref07_Hex.l0 k1 a0 y127 (wrap64 (x4_1 + 1))) = some r := by first | (rw [hy127]; with_reducible exact H) | (have H2_ := (Option.bind_some _ _).symm.trans H; rw [hy127]; with_reducible exact H2_) | (have H2_ := (Option.bind_some _ _).symm.trans H; with_reducible exact H2_) | with_reducible exact H | (rw [hy127]; exact H) | exact H
          have Ny127 := Aside0.mk hy127
          clear hy127
          have H' := Aside0.mk H
          clear H
          try go_wp2
          have n0_ := Aside0.mk (Kd.R_drew HO_3.out)
          have n1_ := Aside0.mk (below_drew1 HB.out)
          clear HO_3
          clear HB
          have HO_3 := n0_
          have HB := n1_
          clear n0_ n1_
          have p6 : 0 ≤ (x4_1 : Int) := of_decide_eq_true (by first | (with_reducible assumption) | assumption)
          have q6 : x4_1 < (a0.size : Int) := of_decide_eq_true (by first | (with_reducible assumption) | assumption)
          have hx6 := bt_at a0 x4_1
          replace p6 := eq_true p6
          replace q6 := eq_true q6
          have p10 : 0 ≤ ((ji7) : Int) := of_decide_eq_true (by first | (with_reducible assumption) | assumption)
          have q10 : (ji7) < (16 : Int) := of_decide_eq_true (by first | (with_reducible assumption) | assumption)
          have hx10 := bt_at (⟨#[48, 49, 50, 51, 52, 53, 54, 55, 56, 57, 97, 98, 99, 100, 101, 102]⟩ : ByteArray) (ji7)
          replace p10 := eq_true p10
          replace q10 := eq_true q10
          have p11 : 0 ≤ (x4_1 : Int) := of_decide_eq_true (by first | (with_reducible assumption) | assumption)
          have q11 : x4_1 < (a0.size : Int) := of_decide_eq_true (by first | (with_reducible assumption) | assumption)
          have hx11 := bt_at a0 x4_1
          replace p11 := eq_true p11
          replace q11 := eq_true q11
          have p15 : 0 ≤ ((ji12) : Int) := of_decide_eq_true (by first | (with_reducible assumption) | assumption)
          have q15 : (ji12) < (16 : Int) := of_decide_eq_true (by first | (with_reducible assumption) | assumption)
          have hx15 := bt_at (⟨#[48, 49, 50, 51, 52, 53, 54, 55, 56, 57, 97, 98, 99, 100, 101, 102]⟩ : ByteArray) (ji12)
          replace p15 := eq_true p15
          replace q15 := eq_true q15
          refine start_ (n := 14) (S := fun w' => True) (ds := []) #[false,false,false,false,false,false,false,false,false,false,false,false,false,false] (by kernel_rfl) rfl rfl trivial (fun hHeld => ?_); refine with_tabW dominoref07_Hex.tab5 dominoref07_Hex.bits5 (fun HT_ HW_ => ?_)
          generalize wr.drew = w17 at HO_3 HB hHeld ⊢
          refine pure_ (i := 0) (N := some 12) (v := ?_) (a' := ?_) #[true,false,false,false,false,false,false,false,false,false,false,false,false,false] rfl rfl (any_of HT_.out (by kernel_rfl)) (fun _ _ _ h => h) (Or.inl ⟨by rfl, ?_⟩) ?_ ?_
          rotate_left;(intro w';go_simp;with_reducible rfl);rotate_left;(simp only [Act.put, List.setIfInBounds_toArray, List.set_cons_zero, List.set_cons_succ, i64_w, i32_w];rfl)
          refine pure_ (i := 1) (N := some 13) (v := ?_) (a' := ?_) #[true,true,false,false,false,false,false,false,false,false,false,false,false,false] rfl rfl (any_of HT_.out (by kernel_rfl)) (fun _ _ _ h => h) (Or.inl ⟨by rfl, ?_⟩) ?_ ?_
          rotate_left;(intro w';go_simp;with_reducible rfl);rotate_left;(simp only [Act.put, List.setIfInBounds_toArray, List.set_cons_zero, List.set_cons_succ, i64_w, i32_w];rfl)
          refine pure_ (i := 2) (N := some 14) (v := ?_) (a' := ?_) #[true,true,true,false,false,false,false,false,false,false,false,false,false,false] rfl rfl (any_of HT_.out (by kernel_rfl)) (fun _ _ _ h => h) (Or.inl ⟨by rfl, ?_⟩) ?_ ?_
          rotate_left;(intro w';go_simp;with_reducible rfl);rotate_left;(simp only [Act.put, List.setIfInBounds_toArray, List.set_cons_zero, List.set_cons_succ, i64_w, i32_w];rfl)
          refine pure_ (i := 6) (N := some 18) (v := ?_) (a' := ?_) #[true,true,true,false,false,false,true,false,false,false,false,false,false,false] rfl rfl (any_of HT_.out (by kernel_rfl)) (fun _ _ _ h => h) (Or.inl ⟨by rfl, ?_⟩) ?_ ?_
          rotate_left;(intro w';go_simp;with_reducible rfl);rotate_left;(simp only [Act.put, List.setIfInBounds_toArray, List.set_cons_zero, List.set_cons_succ, i64_w, i32_w];rfl)
          refine pure_ (i := 7) (N := some 19) (v := ?_) (a' := ?_) #[true,true,true,false,false,false,true,true,false,false,false,false,false,false] rfl rfl (any_of HT_.out (by kernel_rfl)) (fun _ _ _ h => h) (Or.inl ⟨by rfl, ?_⟩) ?_ ?_
          rotate_left;(intro w';go_simp;with_reducible rfl);rotate_left;(simp only [Act.put, List.setIfInBounds_toArray, List.set_cons_zero, List.set_cons_succ, i64_w, i32_w];rfl)
          refine take_ (i := 3) (N := some 15) (v := ?_) (a' := ?_) #[true,true,true,true,false,false,true,true,false,false,false,false,false,false] rfl rfl (take_ofW HT_.out HW_.out (by kernel_rfl)) (fun _ _ _ h => h) (Or.inl ⟨by rfl, ?_⟩) hHeld ?_ ?_
          rotate_left
          ·intro w' _
           go_simp
           with_reducible rfl
          rotate_left
          ·simp only [Act.put, List.setIfInBounds_toArray, List.set_cons_zero, List.set_cons_succ, i64_w, i32_w]
           rfl
          refine pure_ (i := 4) (N := some 16) (v := .int .u8 ji7) (a' := ?_) #[true,true,true,true,true,false,true,true,false,false,false,false,false,false] rfl rfl (any_of HT_.out (by kernel_rfl)) (fun _ _ _ h => h) (Or.inl ⟨by rfl, ?_⟩) ?_ ?_
          (intro w';go_simp;rw [← hji7];rfl);rotate_left;(simp only [Act.put, List.setIfInBounds_toArray, List.set_cons_zero, List.set_cons_succ, i64_w, i32_w];rfl)
          refine take_ (i := 5) (N := some 17) (v := ?_) (a' := ?_) #[true,true,true,true,true,true,true,true,false,false,false,false,false,false] rfl rfl (take_ofW HT_.out HW_.out (by kernel_rfl)) (fun _ _ _ h => h) (Or.inl ⟨by rfl, ?_⟩) hHeld ?_ ?_
          rotate_left
          ·intro w' _
           go_simp
           with_reducible rfl
          rotate_left
          ·simp only [Act.put, List.setIfInBounds_toArray, List.set_cons_zero, List.set_cons_succ, i64_w, i32_w]
           rfl
          refine take_ (i := 8) (N := some 20) (v := ?_) (a' := ?_) #[true,true,true,true,true,true,true,true,true,false,false,false,false,false] rfl rfl (take_ofW HT_.out HW_.out (by kernel_rfl)) (fun _ _ _ h => h) (Or.inl ⟨by rfl, ?_⟩) hHeld ?_ ?_
          rotate_left
          ·intro w' _
           go_simp
           with_reducible rfl
          rotate_left
          ·simp only [Act.put, List.setIfInBounds_toArray, List.set_cons_zero, List.set_cons_succ, i64_w, i32_w]
           rfl
          refine pure_ (i := 9) (N := some 21) (v := ?_) (a' := ?_) #[true,true,true,true,true,true,true,true,true,true,false,false,false,false] rfl rfl (any_of HT_.out (by kernel_rfl)) (fun _ _ _ h => h) (Or.inl ⟨by rfl, ?_⟩) ?_ ?_
          rotate_left;(intro w';go_simp;with_reducible rfl);rotate_left;(simp only [Act.put, List.setIfInBounds_toArray, List.set_cons_zero, List.set_cons_succ, i64_w, i32_w];rfl)
          refine take_ (i := 10) (N := some 22) (v := ?_) (a' := ?_) #[true,true,true,true,true,true,true,true,true,true,true,false,false,false] rfl rfl (take_ofW HT_.out HW_.out (by kernel_rfl)) (fun _ _ _ h => h) (Or.inl ⟨by rfl, ?_⟩) hHeld ?_ ?_
          rotate_left
          ·intro w' _
           go_simp
           with_reducible rfl
          rotate_left
          ·simp only [Act.put, List.setIfInBounds_toArray, List.set_cons_zero, List.set_cons_succ, i64_w, i32_w]
           rfl
          refine one_ (i := 11) (N := some 23) #[true,true,true,true,true,true,true,true,true,true,true,true,false,false] rfl rfl (one_of HT_.out (by kernel_rfl)) (by decide) (fun K hK => ?_)
          refine Kd.R_lit_step (Kd.int .u8) _ 5 ?hg (N := 23) ?hd (xs := ([bt (⟨#[48, 49, 50, 51, 52, 53, 54, 55, 56, 57, 97, 98, 99, 100, 101, 102]⟩ : ByteArray) (ji7), bt (⟨#[48, 49, 50, 51, 52, 53, 54, 55, 56, 57, 97, 98, 99, 100, 101, 102]⟩ : ByteArray) (ji12)] : List Int)) (inner := [.int .u8 (bt (⟨#[48, 49, 50, 51, 52, 53, 54, 55, 56, 57, 97, 98, 99, 100, 101, 102]⟩ : ByteArray) (ji7)), .int .u8 (bt (⟨#[48, 49, 50, 51, 52, 53, 54, 55, 56, 57, 97, 98, 99, 100, 101, 102]⟩ : ByteArray) (ji12))]) (ok := fun _ => True) (okp := fun _ => True) ?hr ?hp (fun _ hk => hk) trivial (Below.refl _ _) (Nat.le_refl _) (by simp) ?_; (case hd => rfl); (case hg => rfl); (case hr => first | (go_simp; done) | (go_simp; rfl)); (case hp => exact (Reps.one (show Kd.M (Kd.int .u8) _ _ _ (bt (⟨#[48, 49, 50, 51, 52, 53, 54, 55, 56, 57, 97, 98, 99, 100, 101, 102]⟩ : ByteArray) (ji7)) [.int .u8 (bt (⟨#[48, 49, 50, 51, 52, 53, 54, 55, 56, 57, 97, 98, 99, 100, 101, 102]⟩ : ByteArray) (ji7))] from rfl) (Reps.one (show Kd.M (Kd.int .u8) _ _ _ (bt (⟨#[48, 49, 50, 51, 52, 53, 54, 55, 56, 57, 97, 98, 99, 100, 101, 102]⟩ : ByteArray) (ji12)) [.int .u8 (bt (⟨#[48, 49, 50, 51, 52, 53, 54, 55, 56, 57, 97, 98, 99, 100, 101, 102]⟩ : ByteArray) (ji12))] from rfl) (Reps.none _ _))))
          intro v125 w18 ho19 hb hg_ hnew_
          clear hg_ hnew_
          (first | rw [← Ny124.out] at ho19 | (simp only [Int.reduceToNat] at ho19; rw [← Ny124.out] at ho19))
          have n0_ := Aside0.mk (Kd.R_elder' (by (with_reducible repeat (first | apply Kd.R_alloc | apply Kd.R_drewN | apply Kd.R_drew)); exact HO_3.out) (Kd.R_base ho19) hb)
          have n1_ := Aside0.mk (Kd.R_lower (Kd.R_new' ho19 (Kd.R_lt (by (with_reducible repeat (first | apply Kd.R_alloc | apply Kd.R_drewN | apply Kd.R_drew)); exact HO_3.out))) (below_size (by repeat (first | (with_reducible first | exact HB.out | apply below_alloc | apply pw_below_drewN | apply below_drew1) | exact HB.out))))
          have n2_ := Aside0.mk (below_step (by repeat (first | (with_reducible first | exact HB.out | apply below_alloc | apply pw_below_drewN | apply below_drew1) | exact HB.out)) hb)
          clear HO_3
          clear HB
          have HO_3 := n0_
          have HO126 := n1_
          have HB := n2_
          clear n0_ n1_ n2_
          clear hb ho19
          obtain ⟨Ao21, co21, eo21⟩ := Kd.R_slice HO126.out
          (first | subst eo21 | (injection eo21 with f1_ f2_ f3_; have f4_ := f1_.symm; have f5_ := f3_.symm; clear f1_ f2_ f3_; subst f4_; subst f5_))
          refine hK.out _ _ trivial (fun hHeld => ?_)
          clear hK K
          refine norm_ (a' := ?_) ?_ ?_
          rotate_left
          ·show Act.put _ (some 23) _ = _
           simp only [Act.put, List.setIfInBounds_toArray, List.set_cons_zero, List.set_cons_succ, i64_w, i32_w]
           rfl
          refine one_ (i := 12) (N := some 24) #[true,true,true,true,true,true,true,true,true,true,true,true,true,false] rfl rfl (one_of HT_.out (by kernel_rfl)) (by decide) (fun K hK => ?_)
          refine Kd.R_append_rows_step (Kd.int .u8) (w0 := w) w.heap.size (by rfl) (.tmp 12) (.tmp 23) 39 5 (.int .u8 0) 1 rfl Try.underlying39 (by kernel_rfl) rfl (by decide) (by omega) u3 x3_1 y124 _ _ _ (fun k_ => some k_ ≠ (.slice Ao21 y124.length co21 : Value).ownBlock) (fun _ => False) rfl rfl ?aO ?aR (fun _ _ h => h) (fun _ h => h.elim) ?aF ?aB ?aS ?aL ?_
          (case aR => repeat (first | exact (Kd.R_reads' HO126.out).2.2 | (with_reducible refine Kd.C_alloc ?_ _) | (with_reducible refine Kd.C_drewN ?_ _) | (with_reducible refine Kd.C_drew ?_)))
          (case aB => exact (by repeat (first | (with_reducible first | exact HB.out | apply below_alloc | apply pw_below_drewN | apply below_drew1) | exact HB.out)))
          (case aF => exact (fun k_ hk => Kd.fresh' (Kd.R_lt (by (with_reducible repeat (first | apply Kd.R_alloc | apply Kd.R_drewN | apply Kd.R_drew)); exact HO126.out)) k_ hk))
          (case aO => exact (by (with_reducible repeat (first | apply Kd.R_alloc | apply Kd.R_drewN | apply Kd.R_drew)); exact Kd.R_mono HO_3.out (fun _ hk => hk.2)))
          (case aS => exact (below_size (by repeat (first | (with_reducible first | exact HB.out | apply below_alloc | apply pw_below_drewN | apply below_drew1) | exact HB.out))))
          (case aL => have := LMc16.out; omega)
          intro v128 w20 ho hb hg hat
          rw [← Ny127.out] at ho
          have n0_ := Aside0.mk (Kd.R_after (ok := (fun _ => True)) (by (with_reducible repeat (first | apply Kd.R_alloc | apply Kd.R_drewN | apply Kd.R_drew)); exact HO126.out) hg hat)
          have n1_ := Aside0.mk (hb)
          have n2_ := Aside0.mk (ho)
          clear HO126
          clear HB
          clear HO_3
          have HO126 := n0_
          have HB := n1_
          have HO129 := n2_
          clear n0_ n1_ n2_
          clear ho hb hg hat
          refine hK.out _ _ trivial (fun hHeld => ?_)
          clear hK K
          refine norm_ (a' := ?_) ?_ ?_
          rotate_left
          ·show Act.put _ (some 24) _ = _
           simp only [Act.put, List.setIfInBounds_toArray, List.set_cons_zero, List.set_cons_succ, i64_w, i32_w]
           rfl
          refine pure_ (i := 13) (N := some 3) (v := ?_) (a' := ?_) #[true,true,true,true,true,true,true,true,true,true,true,true,true,true] rfl rfl (any_of HT_.out (by kernel_rfl)) (fun _ _ _ h => h) (Or.inl ⟨by rfl, ?_⟩) ?_ ?_
          rotate_left;(intro w';go_simp;with_reducible rfl);rotate_left;(simp only [Act.put, List.setIfInBounds_toArray, List.set_cons_zero, List.set_cons_succ, i64_w, i32_w];rfl)
          refine done_ (done_of HT_.out (by kernel_rfl)) ?_
          try go_wp2
          go_roundg k1
          case measure => have := HK1.out; omega
          case rel => exact ⟨(y127), (wrap64 (x4_1 + 1)), (by first | rfl | (simp; done) | (simp [*]; done)), H', ⟨by have := HK1.out; omega⟩, ⟨by (with_reducible repeat (first | apply Kd.R_alloc | apply Kd.R_drewN | apply Kd.R_drew)); exact Kd.R_mono HO129.out (fun _ hk => trivial)⟩, ⟨by repeat (first | (with_reducible first | exact HB.out | apply below_alloc | apply pw_below_drewN | apply below_drew1) | exact HB.out)⟩⟩
         ·rw [if_neg c16] at H
          exact absurd H (by simp)
        ·rw [if_neg c14] at H
         exact absurd H (by simp)
       ·rw [if_neg c13] at H
        exact absurd H (by simp)
      ·rw [if_neg c9] at H
       exact absurd H (by simp)
     ·rw [if_neg c8] at H
      exact absurd H (by simp)
    ·rw [if_neg c5] at H
     exact absurd H (by simp)
   ·rw [if_neg c4] at H
    have c4b0 : decide (x4_1 < (a0.size : Int)) = false := decide_eq_false c4
    clear c4
    obtain rfl := Option.some.inj H
    have hcv22 := own_string (P := Try.prog) Try.underlying39 Try.underlying5 Try.underlying9 (Kd.own_of_R HO_3.out)
    go_wp2
    go_ret
    exact ⟨by first | rfl | (simp [errW_none, errW_some] <;> rfl) | (simp [*, errW_none, errW_some] <;> rfl), by repeat (first | (with_reducible first | exact HB.out | apply below_alloc | apply pw_below_drewN | apply below_drew1) | exact HB.out)⟩


end Go.Proofs.Ytmkpphcnafklbaa.PDgx
