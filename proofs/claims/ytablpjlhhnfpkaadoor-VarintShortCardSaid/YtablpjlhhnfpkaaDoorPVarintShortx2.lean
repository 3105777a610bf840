-- printed for this claim by a program of the claim (wip/tools/pp.py over the kit's print)
import Derived.Test.YtablpjlhhnfpkaaDoorPVarintShortx0
import Derived.Test.YtablpjlhhnfpkaaDoorPVarintShortx1
namespace Go.Proofs.YtablpjlhhnfpkaaDoor.PVarintShort
open Go.RowKit Go.Proofs.YtablpjlhhnfpkaaDoorW.PrintWords Go.Proofs.YtablpjlhhnfpkaaDoorW.PrintLast Go.Proofs.YtablpjlhhnfpkaaDoorW.PrintMore
attribute [local go_sem] max2_int min2_int max_two min_two max_three min_three max_four min_four   -- for this text's walks alone
set_option linter.unusedVariables false
set_option linter.unusedSimpArgs false

attribute [local go_sem] isSome_setCell_
/-! ### dominolaw01_VarintShort: function 5 -/
def dominolaw01_VarintShort.j0 : Nat → Int → Int → ByteArray → Bool → Option (Bool)
  | 0, _, _, _, _ => none
  | k + 1, x0, x1, x5, x28 => if x28 = true then ((dominolaw01_shown.f k).bind fun t110 => (some t110)) else (if (x5.size : Int) = 0 then (none) else (if 0 ≤ (Int.tmod (wrap64 (x1)) (x5.size : Int)) then (if (Int.tmod (wrap64 (x1)) (x5.size : Int)) ≤ (x5.size : Int) then ((varint_Get.f k (x5.extract 0 ((Int.tmod (wrap64 (x1)) (x5.size : Int)) : Int).toNat)).bind fun bt111 => ((varint_Fixed.f x0 7).bind fun t114 => (if 1 + t114.size ≤ 9223372036854775807 then ((varint_Get.f k ((⟨#[192]⟩ : ByteArray) ++ t114)).bind fun bt115 => (if x0 < 72057594037927936 then (if bt115.2.2 = 0 then (if bt115.1 = x0 then (if bt115.2.1.toList = ([] : List UInt8) then (some (bt111.2.2 == 10)) else (some false)) else (some false)) else (some false)) else (some (bt111.2.2 == 10)))) else (none)))) else (none)) else (none)))
def dominolaw01_VarintShort.f (k : Nat) (a0 : Int) (a1 : Int) : Option (Bool) := (varint_Put.f a0).bind fun bt107 => (if bt107.2 = 0 then (if (bt107.1.size : Int) = 0 then (dominolaw01_VarintShort.j0 k a0 a1 bt107.1 true) else ((dominolaw01_shown.f k).bind fun t109 => (dominolaw01_VarintShort.j0 k a0 a1 bt107.1 (!t109)))) else (dominolaw01_VarintShort.j0 k a0 a1 bt107.1 true))
theorem dominolaw01_VarintShort.mono_l : ∀ k, (∀ y0 y1 y2 y3, LeO (dominolaw01_VarintShort.j0 k y0 y1 y2 y3) (dominolaw01_VarintShort.j0 (k + 1) y0 y1 y2 y3))
  | 0 => fun _ _ _ _ r h => by simp [dominolaw01_VarintShort.j0] at h
  | k + 1 => by
    have ih0 := dominolaw01_VarintShort.mono_l k
    · intro y0 y1 y2 y3
      unfold dominolaw01_VarintShort.j0
      repeat' first
      | (with_reducible exact ih0 _ _ _ _)
      | (with_reducible exact dominolaw01_shown.mono _)
      | (with_reducible exact varint_Get.mono _ _)
      | (with_reducible exact LeO.refl _)
      | (with_reducible exact LeO.none _)
      | (with_reducible refine LeO.ite ?_ ?_)
      | (with_reducible refine LeO.bind ?_ (fun _ => ?_))
      | exact ih0 _ _ _ _
      | exact dominolaw01_shown.mono _
      | exact varint_Get.mono _ _
      | exact LeO.none _
      | refine LeO.ite ?_ ?_
      | refine LeO.bind ?_ (fun _ => ?_)
theorem dominolaw01_VarintShort.mono : ∀ a0 a1 k, LeO (dominolaw01_VarintShort.f k a0 a1) (dominolaw01_VarintShort.f (k + 1) a0 a1) := by
  intro a0 a1 k
  have ih0 := dominolaw01_VarintShort.mono_l k
  unfold dominolaw01_VarintShort.f
  repeat' first
      | (with_reducible exact ih0 _ _ _ _)
      | (with_reducible exact dominolaw01_shown.mono _)
      | (with_reducible exact varint_Get.mono _ _)
      | (with_reducible exact LeO.refl _)
      | (with_reducible exact LeO.none _)
      | (with_reducible refine LeO.ite ?_ ?_)
      | (with_reducible refine LeO.bind ?_ (fun _ => ?_))
      | exact ih0 _ _ _ _
      | exact dominolaw01_shown.mono _
      | exact varint_Get.mono _ _
      | exact LeO.none _
      | refine LeO.ite ?_ ?_
      | refine LeO.bind ?_ (fun _ => ?_)
set_option maxHeartbeats 8000000 in
set_option maxRecDepth 100000 in
theorem dominolaw01_VarintShort.calls (k : Nat) (a0 : Int) (a1 : Int) (r : Bool) (w : World) (ht : Tab w) (h : dominolaw01_VarintShort.f k a0 a1 = some r) :
    Calls Tryd.prog 5 #[.int .u64 a0, .int .u8 a1] w fun e w' => e = .returned (.bool r) ∧ Below w.heap.size w w' := by
  have HTab := Aside0.mk ht
  clear ht
  have HB := Aside0.mk (Below.refl w.heap.size w)
  have H : ((varint_Put.f a0).bind fun bt107 => (if bt107.2 = 0 then (if (bt107.1.size : Int) = 0 then (dominolaw01_VarintShort.j0 k a0 a1 bt107.1 true) else ((dominolaw01_shown.f k).bind fun t109 => (dominolaw01_VarintShort.j0 k a0 a1 bt107.1 (!t109)))) else (dominolaw01_VarintShort.j0 k a0 a1 bt107.1 true))) = some r := h
  clear h
  replace H := Option.bind_eq_some_iff.mp H
  obtain ⟨⟨t107, t108⟩, A30, H⟩ := H
  replace H : (if t108 = 0 then (if (t107.size : Int) = 0 then (dominolaw01_VarintShort.j0 k a0 a1 t107 true) else ((dominolaw01_shown.f k).bind fun t109 => (dominolaw01_VarintShort.j0 k a0 a1 t107 (!t109)))) else (dominolaw01_VarintShort.j0 k a0 a1 t107 true)) = some r := H
  have A3 := Aside0.mk A30
  clear A30
  have HC4 := Aside0.mk H
  clear H
  go_enter Tryd.func5, Tryd.ntmps5
  go_upto_region 2 with (first | ((with_reducible refine gate_callee (f := 10) rfl ?_); refine goesL_ (some 15) rfl rfl Tryd.func10 (by kernel_rfl) rfl #[.int .u64 a0] rfl (by (try simp only [List.map_toArray, List.map_cons, List.map_nil]); first | done | rfl | (simp only [List.length_drop, List.length_take]; rfl)) ?_; (with_reducible refine (varint_Put.calls a0 t107 t108 _ (by first | exact HTab.out | exact tab_below HTab.out HB.out | exact (tab_below HTab.out (by repeat (first | (with_reducible first | exact HB.out | apply below_alloc | apply pw_below_drewN | apply below_drew1) | exact HB.out))) | exact tab_below HTab.out (by repeat (first | exact Below.refl _ _ | apply pw_below_drewN | apply below_drew1))) A3.out).mono ?_); rintro e w5 ⟨rfl, hb⟩; refine ⟨_, rfl, ?_⟩; have n0_ := Aside0.mk (below_step (by repeat (first | (with_reducible first | exact HB.out | apply below_alloc | apply pw_below_drewN | apply below_drew1) | exact HB.out)) hb); clear HB; have HB := n0_; clear n0_; (try clear hb); (try clear hb2); (try clear hk); (try clear hi)))
  (try simp only [Act.put, List.setIfInBounds_toArray, List.set_cons_zero, List.set_cons_succ])
  go_cut [28] (fun v28 wc => ∃ (kq : Nat) (x28_3 : Bool), v28 = .bool x28_3 ∧ Aside0 (dominolaw01_VarintShort.j0 kq a0 a1 t107 x28_3 = some r) ∧ Aside0 (kq ≤ k) ∧ Aside0 (Below w.heap.size w wc))
  case first =>
    have H := HC4.out
    clear HC4
    by_cases c6 : t108 = 0
    · rw [if_pos c6] at H
      have c6b0 : (t108 == 0) = true := beq_iff_eq.mpr c6
      have c6b1 : (t108 != 0) = false := bne_eq_false_iff_eq.mpr c6
      clear c6
      (first | rw [c6b0] | (simp only [i64_w, i32_w]; rw [c6b0]) | skip)
      by_cases c7 : (t107.size : Int) = 0
      · rw [if_pos c7] at H
        have c7b0 : ((t107.size : Int) == 0) = true := beq_iff_eq.mpr c7
        have c7b1 : ((t107.size : Int) != 0) = false := bne_eq_false_iff_eq.mpr c7
        clear c7
        have H' := Aside0.mk H
        clear H
        go_wp2
        go_meet
        case rel => exact ⟨_, (true), (by first | rfl | (simp; done) | (simp [*]; done)), H', ⟨by first | omega | exact Nat.le_refl _⟩, ⟨by repeat (first | (with_reducible first | exact HB.out | apply below_alloc | apply pw_below_drewN | apply below_drew1) | exact HB.out)⟩⟩
      · rw [if_neg c7] at H
        have c7b0 : ((t107.size : Int) == 0) = false := beq_eq_false_iff_ne.mpr c7
        have c7b1 : ((t107.size : Int) != 0) = true := bne_iff_ne.mpr c7
        replace H := Option.bind_eq_some_iff.mp H
        obtain ⟨t109, A80, H⟩ := H
        replace H : (dominolaw01_VarintShort.j0 k a0 a1 t107 (!t109)) = some r := H
        have A8 := Aside0.mk A80
        clear A80
        have H' := Aside0.mk H
        clear H
        go_wp2_with (first | (go_at_call 9; (with_reducible refine (dominolaw01_shown.calls k  t109 _ (by first | exact HTab.out | exact tab_below HTab.out HB.out | exact (tab_below HTab.out (by repeat (first | (with_reducible first | exact HB.out | apply below_alloc | apply pw_below_drewN | apply below_drew1) | exact HB.out))) | exact tab_below HTab.out (by repeat (first | exact Below.refl _ _ | apply pw_below_drewN | apply below_drew1))) A8.out).mono ?_); rintro e w9 ⟨rfl, hb⟩; have n0_ := Aside0.mk (below_step (by repeat (first | (with_reducible first | exact HB.out | apply below_alloc | apply pw_below_drewN | apply below_drew1) | exact HB.out)) hb); clear HB; have HB := n0_; clear n0_; (try clear hb); (try clear hb2); (try clear hk); (try clear hi)))
        go_meet
        case rel => exact ⟨_, (!t109), (by first | rfl | (simp; done) | (simp [*]; done)), H', ⟨by first | omega | exact Nat.le_refl _⟩, ⟨by repeat (first | (with_reducible first | exact HB.out | apply below_alloc | apply pw_below_drewN | apply below_drew1) | exact HB.out)⟩⟩
    · rw [if_neg c6] at H
      have c6b0 : (t108 == 0) = false := beq_eq_false_iff_ne.mpr c6
      have c6b1 : (t108 != 0) = true := bne_iff_ne.mpr c6
      (first | rw [c6b0] | (simp only [i64_w, i32_w]; rw [c6b0]) | skip)
      have H' := Aside0.mk H
      clear H
      go_wp2
      go_meet
      case rel => exact ⟨_, (true), (by first | rfl | (simp; done) | (simp [*]; done)), H', ⟨by first | omega | exact Nat.le_refl _⟩, ⟨by repeat (first | (with_reducible first | exact HB.out | apply below_alloc | apply pw_below_drewN | apply below_drew1) | exact HB.out)⟩⟩
  case rest =>
    clear HC4
    try clear c1
    try clear p2
    try clear c5
    try clear c6
    try clear c6b0
    try clear c6b1
    try clear c7
    try clear c7b0
    try clear c7b1
    obtain ⟨kq, x28_3, rfl, HA, HJ3, HB⟩ := hcut
    cases kq with
    | zero => exact absurd HA.out (by simp [dominolaw01_VarintShort.j0])
    | succ kj3 =>
      have H := HA.out
      clear HA
      simp only [dominolaw01_VarintShort.j0] at H
      by_cases c10 : x28_3 = true
      · subst c10
        have H1 : ((dominolaw01_shown.f kj3).bind fun t110 => (some t110)) = some r := by rw [if_pos rfl] at H; exact H
        clear H
        have H := H1
        clear H1
        replace H := Option.bind_eq_some_iff.mp H
        obtain ⟨t110, A110, H⟩ := H
        replace H : (some t110) = some r := H
        have A11 := Aside0.mk A110
        clear A110
        obtain rfl := Option.some.inj H
        go_wp2_with (first | ((with_reducible refine gate_callee (f := 9) rfl ?_); refine goesL_ (some 29) rfl rfl Tryd.func9 (by kernel_rfl) rfl #[] rfl (by (try simp only [List.map_toArray, List.map_cons, List.map_nil]); first | done | rfl | (simp only [List.length_drop, List.length_take]; rfl)) ?_; (with_reducible refine (dominolaw01_shown.calls kj3  t110 _ (by first | exact HTab.out | exact tab_below HTab.out HB.out | exact (tab_below HTab.out (by repeat (first | (with_reducible first | exact HB.out | apply below_alloc | apply pw_below_drewN | apply below_drew1) | exact HB.out))) | exact tab_below HTab.out (by repeat (first | exact Below.refl _ _ | apply pw_below_drewN | apply below_drew1))) A11.out).mono ?_); rintro e w12 ⟨rfl, hb⟩; refine ⟨_, rfl, ?_⟩; have n0_ := Aside0.mk (below_step (by repeat (first | (with_reducible first | exact HB.out | apply below_alloc | apply pw_below_drewN | apply below_drew1) | exact HB.out)) hb); clear HB; have HB := n0_; clear n0_; (try clear hb); (try clear hb2); (try clear hk); (try clear hi)))
        go_ret
        exact ⟨by first | rfl | (simp [errW_none, errW_some] <;> rfl) | (simp [*, errW_none, errW_some] <;> rfl), by repeat (first | (with_reducible first | exact HB.out | apply below_alloc | apply pw_below_drewN | apply below_drew1) | exact HB.out)⟩
      · replace c10 := Bool.eq_false_iff.mpr c10
        subst c10
        have H1 : (if (t107.size : Int) = 0 then (none) else (if 0 ≤ (Int.tmod (wrap64 (a1)) (t107.size : Int)) then (if (Int.tmod (wrap64 (a1)) (t107.size : Int)) ≤ (t107.size : Int) then ((varint_Get.f kj3 (t107.extract 0 ((Int.tmod (wrap64 (a1)) (t107.size : Int)) : Int).toNat)).bind fun bt111 => ((varint_Fixed.f a0 7).bind fun t114 => (if 1 + t114.size ≤ 9223372036854775807 then ((varint_Get.f kj3 ((⟨#[192]⟩ : ByteArray) ++ t114)).bind fun bt115 => (if a0 < 72057594037927936 then (if bt115.2.2 = 0 then (if bt115.1 = a0 then (if bt115.2.1.toList = ([] : List UInt8) then (some (bt111.2.2 == 10)) else (some false)) else (some false)) else (some false)) else (some (bt111.2.2 == 10)))) else (none)))) else (none)) else (none))) = some r := by rw [if_neg (show ¬ (false = true) by decide)] at H; exact H
        clear H
        have H := H1
        clear H1
        by_cases c13 : (t107.size : Int) = 0
        · rw [if_pos c13] at H
          exact absurd H (by simp)
        · rw [if_neg c13] at H
          have c13b0 : ((t107.size : Int) == 0) = false := beq_eq_false_iff_ne.mpr c13
          have c13b1 : ((t107.size : Int) != 0) = true := bne_iff_ne.mpr c13
          obtain ⟨ji14, hji14⟩ : ∃ j_ : Int, (Int.tmod (wrap64 (a1)) (t107.size : Int)) = j_ := ⟨_, rfl⟩
          replace H : (if 0 ≤ (ji14) then (if (ji14) ≤ (t107.size : Int) then ((varint_Get.f kj3 (t107.extract 0 ((ji14) : Int).toNat)).bind fun bt111 => ((varint_Fixed.f a0 7).bind fun t114 => (if 1 + t114.size ≤ 9223372036854775807 then ((varint_Get.f kj3 ((⟨#[192]⟩ : ByteArray) ++ t114)).bind fun bt115 => (if a0 < 72057594037927936 then (if bt115.2.2 = 0 then (if bt115.1 = a0 then (if bt115.2.1.toList = ([] : List UInt8) then (some (bt111.2.2 == 10)) else (some false)) else (some false)) else (some false)) else (some (bt111.2.2 == 10)))) else (none)))) else (none)) else (none)) = some r := by first | (rw [hji14] at H; exact H) | (simp only [hji14] at H ⊢; exact H)
          by_cases c15 : 0 ≤ (ji14)
          · rw [if_pos c15] at H
            have c15b0 := eq_true c15
            have c15b1 : decide (0 ≤ (ji14)) = true := decide_eq_true c15
            clear c15
            by_cases c16 : (ji14) ≤ (t107.size : Int)
            · rw [if_pos c16] at H
              have c16b0 := eq_true c16
              have c16b1 : decide ((ji14) ≤ (t107.size : Int)) = true := decide_eq_true c16
              clear c16
              replace H := Option.bind_eq_some_iff.mp H
              obtain ⟨⟨t111, t112, t113⟩, A170, H⟩ := H
              replace H : ((varint_Fixed.f a0 7).bind fun t114 => (if 1 + t114.size ≤ 9223372036854775807 then ((varint_Get.f kj3 ((⟨#[192]⟩ : ByteArray) ++ t114)).bind fun bt115 => (if a0 < 72057594037927936 then (if bt115.2.2 = 0 then (if bt115.1 = a0 then (if bt115.2.1.toList = ([] : List UInt8) then (some (t113 == 10)) else (some false)) else (some false)) else (some false)) else (some (t113 == 10)))) else (none))) = some r := H
              have A17 := Aside0.mk A170
              clear A170
              replace H := Option.bind_eq_some_iff.mp H
              obtain ⟨t114, A180, H⟩ := H
              replace H : (if 1 + t114.size ≤ 9223372036854775807 then ((varint_Get.f kj3 ((⟨#[192]⟩ : ByteArray) ++ t114)).bind fun bt115 => (if a0 < 72057594037927936 then (if bt115.2.2 = 0 then (if bt115.1 = a0 then (if bt115.2.1.toList = ([] : List UInt8) then (some (t113 == 10)) else (some false)) else (some false)) else (some false)) else (some (t113 == 10)))) else (none)) = some r := H
              have A18 := Aside0.mk A180
              clear A180
              by_cases c19 : 1 + t114.size ≤ 9223372036854775807
              · rw [if_pos c19] at H
                have c19b0 := eq_true c19
                have c19b1 : decide (1 + t114.size ≤ 9223372036854775807) = true := decide_eq_true c19
                try have c19b2 : (9223372036854775807 < 1 + t114.size) = False := eq_false (Nat.not_lt.2 c19)
                replace H := Option.bind_eq_some_iff.mp H
                obtain ⟨⟨t115, t116, t117⟩, A200, H⟩ := H
                replace H : (if a0 < 72057594037927936 then (if t117 = 0 then (if t115 = a0 then (if t116.toList = ([] : List UInt8) then (some (t113 == 10)) else (some false)) else (some false)) else (some false)) else (some (t113 == 10))) = some r := H
                have A20 := Aside0.mk A200
                clear A200
                by_cases c21 : a0 < 72057594037927936
                · rw [if_pos c21] at H
                  have c21b0 : decide (a0 < 72057594037927936) = true := decide_eq_true c21
                  clear c21
                  by_cases c22 : t117 = 0
                  · rw [if_pos c22] at H
                    have c22b0 : (t117 == 0) = true := beq_iff_eq.mpr c22
                    have c22b1 : (t117 != 0) = false := bne_eq_false_iff_eq.mpr c22
                    clear c22
                    by_cases c23 : t115 = a0
                    · rw [if_pos c23] at H
                      have c23b0 : (t115 == a0) = true := beq_iff_eq.mpr c23
                      have c23b1 : (t115 != a0) = false := bne_eq_false_iff_eq.mpr c23
                      clear c23
                      by_cases c24 : t116.toList = ([] : List UInt8)
                      · rw [if_pos c24] at H
                        have c24b0 : (t116.toList == ([] : List UInt8)) = true := beq_iff_eq.mpr c24
                        have c24b1 : (t116.toList != ([] : List UInt8)) = false := bne_eq_false_iff_eq.mpr c24
                        clear c24
                        obtain rfl := Option.some.inj H
                        go_wp2_with (first | ((with_reducible refine gate_callee (f := 12) rfl ?_); refine goesL_ (some 38) rfl rfl Tryd.func12 (by kernel_rfl) rfl #[.string (t107.extract 0 ((ji14) : Int).toNat)] rfl (by (try simp only [List.map_toArray, List.map_cons, List.map_nil]); first | done | (simp only [hji14]; rfl) | rfl | (simp only [List.length_drop, List.length_take]; rfl)) ?_; (with_reducible refine (varint_Get.calls kj3 (t107.extract 0 ((ji14) : Int).toNat) t111 t112 t113 _ A17.out).mono ?_); rintro e w' ⟨rfl, ⟨nd, rfl⟩⟩; refine ⟨_, rfl, ?_⟩) | ((with_reducible refine gate_callee (f := 16) rfl ?_); refine goesL_ (some 44) rfl rfl Tryd.func16 (by kernel_rfl) rfl #[.int .u64 a0, .int .i64 7] rfl (by (try simp only [List.map_toArray, List.map_cons, List.map_nil]); first | done | rfl | (simp only [List.length_drop, List.length_take]; rfl)) ?_; (with_reducible refine (varint_Fixed.calls a0 7 t114 _ A18.out).mono ?_); rintro e w25 ⟨rfl, hb⟩; refine ⟨_, rfl, ?_⟩; have n0_ := Aside0.mk (below_step (by repeat (first | (with_reducible first | exact HB.out | apply below_alloc | apply pw_below_drewN | apply below_drew1) | exact HB.out)) hb); clear HB; have HB := n0_; clear n0_; (try clear hb); (try clear hb2); (try clear hk); (try clear hi)) | ((with_reducible refine gate_callee (f := 12) rfl ?_); refine goesL_ (some 46) rfl rfl Tryd.func12 (by kernel_rfl) rfl #[.string ((⟨#[192]⟩ : ByteArray) ++ t114)] rfl (by (try simp only [List.map_toArray, List.map_cons, List.map_nil]); first | done | rfl | (simp only [List.length_drop, List.length_take]; rfl)) ?_; (with_reducible refine (varint_Get.calls kj3 ((⟨#[192]⟩ : ByteArray) ++ t114) t115 t116 t117 _ A20.out).mono ?_); rintro e w' ⟨rfl, ⟨nd, rfl⟩⟩; refine ⟨_, rfl, ?_⟩))
                        go_ret
                        exact ⟨by first | rfl | (simp [errW_none, errW_some] <;> rfl) | (simp only [← hji14]; first | rfl | (simp [errW_none, errW_some] <;> rfl)) | (simp [*, errW_none, errW_some] <;> rfl), by repeat (first | (with_reducible first | exact HB.out | apply below_alloc | apply pw_below_drewN | apply below_drew1) | exact HB.out)⟩
                      · rw [if_neg c24] at H
                        have c24b0 : (t116.toList == ([] : List UInt8)) = false := beq_eq_false_iff_ne.mpr c24
                        have c24b1 : (t116.toList != ([] : List UInt8)) = true := bne_iff_ne.mpr c24
                        obtain rfl := Option.some.inj H
                        go_wp2_with (first | ((with_reducible refine gate_callee (f := 12) rfl ?_); refine goesL_ (some 38) rfl rfl Tryd.func12 (by kernel_rfl) rfl #[.string (t107.extract 0 ((ji14) : Int).toNat)] rfl (by (try simp only [List.map_toArray, List.map_cons, List.map_nil]); first | done | (simp only [hji14]; rfl) | rfl | (simp only [List.length_drop, List.length_take]; rfl)) ?_; (with_reducible refine (varint_Get.calls kj3 (t107.extract 0 ((ji14) : Int).toNat) t111 t112 t113 _ A17.out).mono ?_); rintro e w' ⟨rfl, ⟨nd, rfl⟩⟩; refine ⟨_, rfl, ?_⟩) | ((with_reducible refine gate_callee (f := 16) rfl ?_); refine goesL_ (some 44) rfl rfl Tryd.func16 (by kernel_rfl) rfl #[.int .u64 a0, .int .i64 7] rfl (by (try simp only [List.map_toArray, List.map_cons, List.map_nil]); first | done | rfl | (simp only [List.length_drop, List.length_take]; rfl)) ?_; (with_reducible refine (varint_Fixed.calls a0 7 t114 _ A18.out).mono ?_); rintro e w26 ⟨rfl, hb⟩; refine ⟨_, rfl, ?_⟩; have n0_ := Aside0.mk (below_step (by repeat (first | (with_reducible first | exact HB.out | apply below_alloc | apply pw_below_drewN | apply below_drew1) | exact HB.out)) hb); clear HB; have HB := n0_; clear n0_; (try clear hb); (try clear hb2); (try clear hk); (try clear hi)) | ((with_reducible refine gate_callee (f := 12) rfl ?_); refine goesL_ (some 46) rfl rfl Tryd.func12 (by kernel_rfl) rfl #[.string ((⟨#[192]⟩ : ByteArray) ++ t114)] rfl (by (try simp only [List.map_toArray, List.map_cons, List.map_nil]); first | done | rfl | (simp only [List.length_drop, List.length_take]; rfl)) ?_; (with_reducible refine (varint_Get.calls kj3 ((⟨#[192]⟩ : ByteArray) ++ t114) t115 t116 t117 _ A20.out).mono ?_); rintro e w' ⟨rfl, ⟨nd, rfl⟩⟩; refine ⟨_, rfl, ?_⟩))
                        go_ret
                        exact ⟨by first | rfl | (simp [errW_none, errW_some] <;> rfl) | (simp only [← hji14]; first | rfl | (simp [errW_none, errW_some] <;> rfl)) | (simp [*, errW_none, errW_some] <;> rfl), by repeat (first | (with_reducible first | exact HB.out | apply below_alloc | apply pw_below_drewN | apply below_drew1) | exact HB.out)⟩
                    · rw [if_neg c23] at H
                      have c23b0 : (t115 == a0) = false := beq_eq_false_iff_ne.mpr c23
                      have c23b1 : (t115 != a0) = true := bne_iff_ne.mpr c23
                      obtain rfl := Option.some.inj H
                      go_wp2_with (first | ((with_reducible refine gate_callee (f := 12) rfl ?_); refine goesL_ (some 38) rfl rfl Tryd.func12 (by kernel_rfl) rfl #[.string (t107.extract 0 ((ji14) : Int).toNat)] rfl (by (try simp only [List.map_toArray, List.map_cons, List.map_nil]); first | done | (simp only [hji14]; rfl) | rfl | (simp only [List.length_drop, List.length_take]; rfl)) ?_; (with_reducible refine (varint_Get.calls kj3 (t107.extract 0 ((ji14) : Int).toNat) t111 t112 t113 _ A17.out).mono ?_); rintro e w' ⟨rfl, ⟨nd, rfl⟩⟩; refine ⟨_, rfl, ?_⟩) | ((with_reducible refine gate_callee (f := 16) rfl ?_); refine goesL_ (some 44) rfl rfl Tryd.func16 (by kernel_rfl) rfl #[.int .u64 a0, .int .i64 7] rfl (by (try simp only [List.map_toArray, List.map_cons, List.map_nil]); first | done | rfl | (simp only [List.length_drop, List.length_take]; rfl)) ?_; (with_reducible refine (varint_Fixed.calls a0 7 t114 _ A18.out).mono ?_); rintro e w27 ⟨rfl, hb⟩; refine ⟨_, rfl, ?_⟩; have n0_ := Aside0.mk (below_step (by repeat (first | (with_reducible first | exact HB.out | apply below_alloc | apply pw_below_drewN | apply below_drew1) | exact HB.out)) hb); clear HB; have HB := n0_; clear n0_; (try clear hb); (try clear hb2); (try clear hk); (try clear hi)) | ((with_reducible refine gate_callee (f := 12) rfl ?_); refine goesL_ (some 46) rfl rfl Tryd.func12 (by kernel_rfl) rfl #[.string ((⟨#[192]⟩ : ByteArray) ++ t114)] rfl (by (try simp only [List.map_toArray, List.map_cons, List.map_nil]); first | done | rfl | (simp only [List.length_drop, List.length_take]; rfl)) ?_; (with_reducible refine (varint_Get.calls kj3 ((⟨#[192]⟩ : ByteArray) ++ t114) t115 t116 t117 _ A20.out).mono ?_); rintro e w' ⟨rfl, ⟨nd, rfl⟩⟩; refine ⟨_, rfl, ?_⟩))
                      go_ret
                      exact ⟨by first | rfl | (simp [errW_none, errW_some] <;> rfl) | (simp only [← hji14]; first | rfl | (simp [errW_none, errW_some] <;> rfl)) | (simp [*, errW_none, errW_some] <;> rfl), by repeat (first | (with_reducible first | exact HB.out | apply below_alloc | apply pw_below_drewN | apply below_drew1) | exact HB.out)⟩
                  · rw [if_neg c22] at H
                    have c22b0 : (t117 == 0) = false := beq_eq_false_iff_ne.mpr c22
                    have c22b1 : (t117 != 0) = true := bne_iff_ne.mpr c22
                    obtain rfl := Option.some.inj H
                    go_wp2_with (first | ((with_reducible refine gate_callee (f := 12) rfl ?_); refine goesL_ (some 38) rfl rfl Tryd.func12 (by kernel_rfl) rfl #[.string (t107.extract 0 ((ji14) : Int).toNat)] rfl (by (try simp only [List.map_toArray, List.map_cons, List.map_nil]); first | done | (simp only [hji14]; rfl) | rfl | (simp only [List.length_drop, List.length_take]; rfl)) ?_; (with_reducible refine (varint_Get.calls kj3 (t107.extract 0 ((ji14) : Int).toNat) t111 t112 t113 _ A17.out).mono ?_); rintro e w' ⟨rfl, ⟨nd, rfl⟩⟩; refine ⟨_, rfl, ?_⟩) | ((with_reducible refine gate_callee (f := 16) rfl ?_); refine goesL_ (some 44) rfl rfl Tryd.func16 (by kernel_rfl) rfl #[.int .u64 a0, .int .i64 7] rfl (by (try simp only [List.map_toArray, List.map_cons, List.map_nil]); first | done | rfl | (simp only [List.length_drop, List.length_take]; rfl)) ?_; (with_reducible refine (varint_Fixed.calls a0 7 t114 _ A18.out).mono ?_); rintro e w28 ⟨rfl, hb⟩; refine ⟨_, rfl, ?_⟩; have n0_ := Aside0.mk (below_step (by repeat (first | (with_reducible first | exact HB.out | apply below_alloc | apply pw_below_drewN | apply below_drew1) | exact HB.out)) hb); clear HB; have HB := n0_; clear n0_; (try clear hb); (try clear hb2); (try clear hk); (try clear hi)) | ((with_reducible refine gate_callee (f := 12) rfl ?_); refine goesL_ (some 46) rfl rfl Tryd.func12 (by kernel_rfl) rfl #[.string ((⟨#[192]⟩ : ByteArray) ++ t114)] rfl (by (try simp only [List.map_toArray, List.map_cons, List.map_nil]); first | done | rfl | (simp only [List.length_drop, List.length_take]; rfl)) ?_; (with_reducible refine (varint_Get.calls kj3 ((⟨#[192]⟩ : ByteArray) ++ t114) t115 t116 t117 _ A20.out).mono ?_); rintro e w' ⟨rfl, ⟨nd, rfl⟩⟩; refine ⟨_, rfl, ?_⟩))
                    go_ret
                    exact ⟨by first | rfl | (simp [errW_none, errW_some] <;> rfl) | (simp only [← hji14]; first | rfl | (simp [errW_none, errW_some] <;> rfl)) | (simp [*, errW_none, errW_some] <;> rfl), by repeat (first | (with_reducible first | exact HB.out | apply below_alloc | apply pw_below_drewN | apply below_drew1) | exact HB.out)⟩
                · rw [if_neg c21] at H
                  have c21b0 : decide (a0 < 72057594037927936) = false := decide_eq_false c21
                  clear c21
                  obtain rfl := Option.some.inj H
                  go_wp2_with (first | ((with_reducible refine gate_callee (f := 12) rfl ?_); refine goesL_ (some 38) rfl rfl Tryd.func12 (by kernel_rfl) rfl #[.string (t107.extract 0 ((ji14) : Int).toNat)] rfl (by (try simp only [List.map_toArray, List.map_cons, List.map_nil]); first | done | (simp only [hji14]; rfl) | rfl | (simp only [List.length_drop, List.length_take]; rfl)) ?_; (with_reducible refine (varint_Get.calls kj3 (t107.extract 0 ((ji14) : Int).toNat) t111 t112 t113 _ A17.out).mono ?_); rintro e w' ⟨rfl, ⟨nd, rfl⟩⟩; refine ⟨_, rfl, ?_⟩) | ((with_reducible refine gate_callee (f := 16) rfl ?_); refine goesL_ (some 44) rfl rfl Tryd.func16 (by kernel_rfl) rfl #[.int .u64 a0, .int .i64 7] rfl (by (try simp only [List.map_toArray, List.map_cons, List.map_nil]); first | done | rfl | (simp only [List.length_drop, List.length_take]; rfl)) ?_; (with_reducible refine (varint_Fixed.calls a0 7 t114 _ A18.out).mono ?_); rintro e w29 ⟨rfl, hb⟩; refine ⟨_, rfl, ?_⟩; have n0_ := Aside0.mk (below_step (by repeat (first | (with_reducible first | exact HB.out | apply below_alloc | apply pw_below_drewN | apply below_drew1) | exact HB.out)) hb); clear HB; have HB := n0_; clear n0_; (try clear hb); (try clear hb2); (try clear hk); (try clear hi)) | ((with_reducible refine gate_callee (f := 12) rfl ?_); refine goesL_ (some 46) rfl rfl Tryd.func12 (by kernel_rfl) rfl #[.string ((⟨#[192]⟩ : ByteArray) ++ t114)] rfl (by (try simp only [List.map_toArray, List.map_cons, List.map_nil]); first | done | rfl | (simp only [List.length_drop, List.length_take]; rfl)) ?_; (with_reducible refine (varint_Get.calls kj3 ((⟨#[192]⟩ : ByteArray) ++ t114) t115 t116 t117 _ A20.out).mono ?_); rintro e w' ⟨rfl, ⟨nd, rfl⟩⟩; refine ⟨_, rfl, ?_⟩))
                  go_ret
                  exact ⟨by first | rfl | (simp [errW_none, errW_some] <;> rfl) | (simp only [← hji14]; first | rfl | (simp [errW_none, errW_some] <;> rfl)) | (simp [*, errW_none, errW_some] <;> rfl), by repeat (first | (with_reducible first | exact HB.out | apply below_alloc | apply pw_below_drewN | apply below_drew1) | exact HB.out)⟩
              · rw [if_neg c19] at H
                exact absurd H (by simp)
            · rw [if_neg c16] at H
              exact absurd H (by simp)
          · rw [if_neg c15] at H
            exact absurd H (by simp)

/-- THE ONE PURE STATEMENT of dominolaw01_VarintShort: yours. -/
def dominolaw01_VarintShort.Pure : Prop := ∀ (a0 : Int) (a1 : Int), (Lit.int .u64 a0).wf = true → (Lit.int .u8 a1).wf = true → ∃ k, dominolaw01_VarintShort.f k a0 a1 = some true
theorem dominolaw01_VarintShort.walk (P : dominolaw01_VarintShort.Pure) (a0 : Int) (a1 : Int) (w : World) (w0 : (Lit.int .u64 a0).wf = true) (w1 : (Lit.int .u8 a1).wf = true) (ht : Tab w) :
    Calls Tryd.prog 5 #[.int .u64 a0, .int .u8 a1] w fun e w' => e = .returned (.bool true) ∧ Below w.heap.size w w' := by
  obtain ⟨k, h⟩ := P a0 a1 w0 w1
  refine (dominolaw01_VarintShort.calls k a0 a1 true w ht h).mono ?_
  rintro e w' ⟨rfl, hd⟩
  exact ⟨rfl, hd⟩

end Go.Proofs.YtablpjlhhnfpkaaDoor.PVarintShort
