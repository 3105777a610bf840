-- printed for this claim by a program of the claim (wip/tools/pp.py over the kit's print)
import Derived.Test.YtablpjlhhnfpkaaDoorPVarintAllx0
import Derived.Test.YtablpjlhhnfpkaaDoorPVarintAllx1
namespace Go.Proofs.YtablpjlhhnfpkaaDoor.PVarintAll
open Go.RowKit Go.Proofs.YtablpjlhhnfpkaaDoorW.PrintWords Go.Proofs.YtablpjlhhnfpkaaDoorW.PrintLast Go.Proofs.YtablpjlhhnfpkaaDoorW.PrintMore
attribute [local go_sem] max2_int min2_int max_two min_two max_three min_three max_four min_four   -- for this text's walks alone
set_option linter.unusedVariables false
set_option linter.unusedSimpArgs false

attribute [local go_sem] isSome_setCell_
/-! ### dominolaw01_VarintAll: function 7 -/
def dominolaw01_VarintAll.j0 : Nat → ByteArray → Bool → Option (Bool)
  | 0, _, _ => none
  | k + 1, x0, x13 => if x13 = true then ((dominolaw01_shown.f k).bind fun t108 => (some t108)) else ((varint_Get.f k x0).bind fun bt109 => (if bt109.2.2 = 0 then (if (wrap64 ((x0.size : Int) - (bt109.2.1.size : Int))) = 1 then (if 0 ≤ (wrap64 ((x0.size : Int) - (bt109.2.1.size : Int))) then (if (wrap64 ((x0.size : Int) - (bt109.2.1.size : Int))) ≤ (x0.size : Int) then (if (x0.extract ((wrap64 ((x0.size : Int) - (bt109.2.1.size : Int))) : Int).toNat x0.size).toList = bt109.2.1.toList then (if bt109.1 < 4611686018427387904 then ((varint_Size.f bt109.1).bind fun t112 => (some (decide (t112 ≤ (wrap64 ((x0.size : Int) - (bt109.2.1.size : Int))))))) else (some false)) else (some false)) else (none)) else (none)) else (if (wrap64 ((x0.size : Int) - (bt109.2.1.size : Int))) = 2 then (if 0 ≤ (wrap64 ((x0.size : Int) - (bt109.2.1.size : Int))) then (if (wrap64 ((x0.size : Int) - (bt109.2.1.size : Int))) ≤ (x0.size : Int) then (if (x0.extract ((wrap64 ((x0.size : Int) - (bt109.2.1.size : Int))) : Int).toNat x0.size).toList = bt109.2.1.toList then (if bt109.1 < 4611686018427387904 then ((varint_Size.f bt109.1).bind fun t113 => (some (decide (t113 ≤ (wrap64 ((x0.size : Int) - (bt109.2.1.size : Int))))))) else (some false)) else (some false)) else (none)) else (none)) else (if (wrap64 ((x0.size : Int) - (bt109.2.1.size : Int))) = 4 then (if 0 ≤ (wrap64 ((x0.size : Int) - (bt109.2.1.size : Int))) then (if (wrap64 ((x0.size : Int) - (bt109.2.1.size : Int))) ≤ (x0.size : Int) then (if (x0.extract ((wrap64 ((x0.size : Int) - (bt109.2.1.size : Int))) : Int).toNat x0.size).toList = bt109.2.1.toList then (if bt109.1 < 4611686018427387904 then ((varint_Size.f bt109.1).bind fun t114 => (some (decide (t114 ≤ (wrap64 ((x0.size : Int) - (bt109.2.1.size : Int))))))) else (some false)) else (some false)) else (none)) else (none)) else (if (wrap64 ((x0.size : Int) - (bt109.2.1.size : Int))) = 8 then (if 0 ≤ (wrap64 ((x0.size : Int) - (bt109.2.1.size : Int))) then (if (wrap64 ((x0.size : Int) - (bt109.2.1.size : Int))) ≤ (x0.size : Int) then (if (x0.extract ((wrap64 ((x0.size : Int) - (bt109.2.1.size : Int))) : Int).toNat x0.size).toList = bt109.2.1.toList then (if bt109.1 < 4611686018427387904 then ((varint_Size.f bt109.1).bind fun t115 => (some (decide (t115 ≤ (wrap64 ((x0.size : Int) - (bt109.2.1.size : Int))))))) else (some false)) else (some false)) else (none)) else (none)) else (some false))))) else (if bt109.2.2 = 10 then (if bt109.1 = 0 then (if bt109.2.1.toList = ([] : List UInt8) then (some (decide ((x0.size : Int) < 8))) else (some false)) else (some false)) else (some false))))
def dominolaw01_VarintAll.f (k : Nat) (a0 : ByteArray) : Option (Bool) := if (a0.size : Int) > 100 then (dominolaw01_VarintAll.j0 k a0 true) else ((dominolaw01_shown.f k).bind fun t107 => (dominolaw01_VarintAll.j0 k a0 (!t107)))
theorem dominolaw01_VarintAll.mono_l : ∀ k, (∀ y0 y1, LeO (dominolaw01_VarintAll.j0 k y0 y1) (dominolaw01_VarintAll.j0 (k + 1) y0 y1))
  | 0 => fun _ _ r h => by simp [dominolaw01_VarintAll.j0] at h
  | k + 1 => by
    have ih0 := dominolaw01_VarintAll.mono_l k
    · intro y0 y1
      unfold dominolaw01_VarintAll.j0
      repeat' first
      | (with_reducible exact ih0 _ _)
      | (with_reducible exact dominolaw01_shown.mono _)
      | (with_reducible exact varint_Get.mono _ _)
      | (with_reducible exact LeO.refl _)
      | (with_reducible exact LeO.none _)
      | (with_reducible refine LeO.ite ?_ ?_)
      | (with_reducible refine LeO.bind ?_ (fun _ => ?_))
      | exact ih0 _ _
      | exact dominolaw01_shown.mono _
      | exact varint_Get.mono _ _
      | exact LeO.none _
      | refine LeO.ite ?_ ?_
      | refine LeO.bind ?_ (fun _ => ?_)
theorem dominolaw01_VarintAll.mono : ∀ a0 k, LeO (dominolaw01_VarintAll.f k a0) (dominolaw01_VarintAll.f (k + 1) a0) := by
  intro a0 k
  have ih0 := dominolaw01_VarintAll.mono_l k
  unfold dominolaw01_VarintAll.f
  repeat' first
      | (with_reducible exact ih0 _ _)
      | (with_reducible exact dominolaw01_shown.mono _)
      | (with_reducible exact varint_Get.mono _ _)
      | (with_reducible exact LeO.refl _)
      | (with_reducible exact LeO.none _)
      | (with_reducible refine LeO.ite ?_ ?_)
      | (with_reducible refine LeO.bind ?_ (fun _ => ?_))
      | exact ih0 _ _
      | exact dominolaw01_shown.mono _
      | exact varint_Get.mono _ _
      | exact LeO.none _
      | refine LeO.ite ?_ ?_
      | refine LeO.bind ?_ (fun _ => ?_)
set_option maxHeartbeats 8000000 in
set_option maxRecDepth 100000 in
theorem dominolaw01_VarintAll.calls (k : Nat) (a0 : ByteArray) (r : Bool) (w : World) (ht : Tab w) (h : dominolaw01_VarintAll.f k a0 = some r) :
    Calls Tryd.prog 7 #[.string a0] w fun e w' => e = .returned (.bool r) ∧ Below w.heap.size w w' := by
  have HTab := Aside0.mk ht
  clear ht
  have HB := Aside0.mk (Below.refl w.heap.size w)
  have H : (if (a0.size : Int) > 100 then (dominolaw01_VarintAll.j0 k a0 true) else ((dominolaw01_shown.f k).bind fun t107 => (dominolaw01_VarintAll.j0 k a0 (!t107)))) = some r := h
  clear h
  have HC2 := Aside0.mk H
  clear H
  go_enter Tryd.func7, Tryd.ntmps7
  go_upto_region 1 with (fail)
  go_cut [13] (fun v13 wc => ∃ (kq : Nat) (x13_1 : Bool), v13 = .bool x13_1 ∧ Aside0 (dominolaw01_VarintAll.j0 kq a0 x13_1 = some r) ∧ Aside0 (kq ≤ k) ∧ Aside0 (Below w.heap.size w wc))
  case first =>
    have H := HC2.out
    clear HC2
    by_cases c3 : (a0.size : Int) > 100
    · rw [if_pos c3] at H
      have c3b0 : decide (100 < (a0.size : Int)) = true := decide_eq_true c3
      have c3b1 : decide (100 < a0.size) = true := decide_eq_true (by omega)
      clear c3
      (first | rw [c3b0] | (simp only [i64_w, i32_w]; rw [c3b0]) | skip)
      have H' := Aside0.mk H
      clear H
      go_wp2
      go_meet
      case rel => exact ⟨_, (true), (by first | rfl | (simp; done) | (simp [*]; done)), H', ⟨by first | omega | exact Nat.le_refl _⟩, ⟨by repeat (first | (with_reducible first | exact HB.out | apply below_alloc | apply pw_below_drewN | apply below_drew1) | exact HB.out)⟩⟩
    · rw [if_neg c3] at H
      have c3b0 : decide (100 < (a0.size : Int)) = false := decide_eq_false c3
      have c3b1 : decide (100 < a0.size) = false := decide_eq_false (by omega)
      clear c3
      (first | rw [c3b0] | (simp only [i64_w, i32_w]; rw [c3b0]) | skip)
      replace H := Option.bind_eq_some_iff.mp H
      obtain ⟨t107, A40, H⟩ := H
      replace H : (dominolaw01_VarintAll.j0 k a0 (!t107)) = some r := H
      have A4 := Aside0.mk A40
      clear A40
      have H' := Aside0.mk H
      clear H
      go_wp2_with (first | (go_at_call 9; (with_reducible refine (dominolaw01_shown.calls k  t107 _ (by first | exact HTab.out | exact tab_below HTab.out HB.out | exact (tab_below HTab.out (by repeat (first | (with_reducible first | exact HB.out | apply below_alloc | apply pw_below_drewN | apply below_drew1) | exact HB.out))) | exact tab_below HTab.out (by repeat (first | exact Below.refl _ _ | apply pw_below_drewN | apply below_drew1))) A4.out).mono ?_); rintro e w5 ⟨rfl, hb⟩; have n0_ := Aside0.mk (below_step (by repeat (first | (with_reducible first | exact HB.out | apply below_alloc | apply pw_below_drewN | apply below_drew1) | exact HB.out)) hb); clear HB; have HB := n0_; clear n0_; (try clear hb); (try clear hb2); (try clear hk); (try clear hi)))
      go_meet
      case rel => exact ⟨_, (!t107), (by first | rfl | (simp; done) | (simp [*]; done)), H', ⟨by first | omega | exact Nat.le_refl _⟩, ⟨by repeat (first | (with_reducible first | exact HB.out | apply below_alloc | apply pw_below_drewN | apply below_drew1) | exact HB.out)⟩⟩
  case rest =>
    clear HC2
    try clear p2
    try clear c3
    try clear c3b0
    try clear c3b1
    obtain ⟨kq, x13_1, rfl, HA, HJ1, HB⟩ := hcut
    cases kq with
    | zero => exact absurd HA.out (by simp [dominolaw01_VarintAll.j0])
    | succ kj1 =>
      have H := HA.out
      clear HA
      simp only [dominolaw01_VarintAll.j0] at H
      by_cases c6 : x13_1 = true
      · subst c6
        have H1 : ((dominolaw01_shown.f kj1).bind fun t108 => (some t108)) = some r := by rw [if_pos rfl] at H; exact H
        clear H
        have H := H1
        clear H1
        replace H := Option.bind_eq_some_iff.mp H
        obtain ⟨t108, A70, H⟩ := H
        replace H : (some t108) = some r := H
        have A7 := Aside0.mk A70
        clear A70
        obtain rfl := Option.some.inj H
        go_wp2_with (first | ((with_reducible refine gate_callee (f := 9) rfl ?_); refine goesL_ (some 14) rfl rfl Tryd.func9 (by kernel_rfl) rfl #[] rfl (by (try simp only [List.map_toArray, List.map_cons, List.map_nil]); first | done | rfl | (simp only [List.length_drop, List.length_take]; rfl)) ?_; (with_reducible refine (dominolaw01_shown.calls kj1  t108 _ (by first | exact HTab.out | exact tab_below HTab.out HB.out | exact (tab_below HTab.out (by repeat (first | (with_reducible first | exact HB.out | apply below_alloc | apply pw_below_drewN | apply below_drew1) | exact HB.out))) | exact tab_below HTab.out (by repeat (first | exact Below.refl _ _ | apply pw_below_drewN | apply below_drew1))) A7.out).mono ?_); rintro e w8 ⟨rfl, hb⟩; refine ⟨_, rfl, ?_⟩; have n0_ := Aside0.mk (below_step (by repeat (first | (with_reducible first | exact HB.out | apply below_alloc | apply pw_below_drewN | apply below_drew1) | exact HB.out)) hb); clear HB; have HB := n0_; clear n0_; (try clear hb); (try clear hb2); (try clear hk); (try clear hi)))
        go_ret
        exact ⟨by first | rfl | (simp [errW_none, errW_some] <;> rfl) | (simp [*, errW_none, errW_some] <;> rfl), by repeat (first | (with_reducible first | exact HB.out | apply below_alloc | apply pw_below_drewN | apply below_drew1) | exact HB.out)⟩
      · replace c6 := Bool.eq_false_iff.mpr c6
        subst c6
        have H1 : ((varint_Get.f kj1 a0).bind fun bt109 => (if bt109.2.2 = 0 then (if (wrap64 ((a0.size : Int) - (bt109.2.1.size : Int))) = 1 then (if 0 ≤ (wrap64 ((a0.size : Int) - (bt109.2.1.size : Int))) then (if (wrap64 ((a0.size : Int) - (bt109.2.1.size : Int))) ≤ (a0.size : Int) then (if (a0.extract ((wrap64 ((a0.size : Int) - (bt109.2.1.size : Int))) : Int).toNat a0.size).toList = bt109.2.1.toList then (if bt109.1 < 4611686018427387904 then ((varint_Size.f bt109.1).bind fun t112 => (some (decide (t112 ≤ (wrap64 ((a0.size : Int) - (bt109.2.1.size : Int))))))) else (some false)) else (some false)) else (none)) else (none)) else (if (wrap64 ((a0.size : Int) - (bt109.2.1.size : Int))) = 2 then (if 0 ≤ (wrap64 ((a0.size : Int) - (bt109.2.1.size : Int))) then (if (wrap64 ((a0.size : Int) - (bt109.2.1.size : Int))) ≤ (a0.size : Int) then (if (a0.extract ((wrap64 ((a0.size : Int) - (bt109.2.1.size : Int))) : Int).toNat a0.size).toList = bt109.2.1.toList then (if bt109.1 < 4611686018427387904 then ((varint_Size.f bt109.1).bind fun t113 => (some (decide (t113 ≤ (wrap64 ((a0.size : Int) - (bt109.2.1.size : Int))))))) else (some false)) else (some false)) else (none)) else (none)) else (if (wrap64 ((a0.size : Int) - (bt109.2.1.size : Int))) = 4 then (if 0 ≤ (wrap64 ((a0.size : Int) - (bt109.2.1.size : Int))) then (if (wrap64 ((a0.size : Int) - (bt109.2.1.size : Int))) ≤ (a0.size : Int) then (if (a0.extract ((wrap64 ((a0.size : Int) - (bt109.2.1.size : Int))) : Int).toNat a0.size).toList = bt109.2.1.toList then (if bt109.1 < 4611686018427387904 then ((varint_Size.f bt109.1).bind fun t114 => (some (decide (t114 ≤ (wrap64 ((a0.size : Int) - (bt109.2.1.size : Int))))))) else (some false)) else (some false)) else (none)) else (none)) else (if (wrap64 ((a0.size : Int) - (bt109.2.1.size : Int))) = 8 then (if 0 ≤ (wrap64 ((a0.size : Int) - (bt109.2.1.size : Int))) then (if (wrap64 ((a0.size : Int) - (bt109.2.1.size : Int))) ≤ (a0.size : Int) then (if (a0.extract ((wrap64 ((a0.size : Int) - (bt109.2.1.size : Int))) : Int).toNat a0.size).toList = bt109.2.1.toList then (if bt109.1 < 4611686018427387904 then ((varint_Size.f bt109.1).bind fun t115 => (some (decide (t115 ≤ (wrap64 ((a0.size : Int) - (bt109.2.1.size : Int))))))) else (some false)) else (some false)) else (none)) else (none)) else (some false))))) else (if bt109.2.2 = 10 then (if bt109.1 = 0 then (if bt109.2.1.toList = ([] : List UInt8) then (some (decide ((a0.size : Int) < 8))) else (some false)) else (some false)) else (some false)))) = some r := by rw [if_neg (show ¬ (false = true) by decide)] at H; exact H
        clear H
        have H := H1
        clear H1
        replace H := Option.bind_eq_some_iff.mp H
        obtain ⟨⟨t109, t110, t111⟩, A90, H⟩ := H
        replace H : (if t111 = 0 then (if (wrap64 ((a0.size : Int) - (t110.size : Int))) = 1 then (if 0 ≤ (wrap64 ((a0.size : Int) - (t110.size : Int))) then (if (wrap64 ((a0.size : Int) - (t110.size : Int))) ≤ (a0.size : Int) then (if (a0.extract ((wrap64 ((a0.size : Int) - (t110.size : Int))) : Int).toNat a0.size).toList = t110.toList then (if t109 < 4611686018427387904 then ((varint_Size.f t109).bind fun t112 => (some (decide (t112 ≤ (wrap64 ((a0.size : Int) - (t110.size : Int))))))) else (some false)) else (some false)) else (none)) else (none)) else (if (wrap64 ((a0.size : Int) - (t110.size : Int))) = 2 then (if 0 ≤ (wrap64 ((a0.size : Int) - (t110.size : Int))) then (if (wrap64 ((a0.size : Int) - (t110.size : Int))) ≤ (a0.size : Int) then (if (a0.extract ((wrap64 ((a0.size : Int) - (t110.size : Int))) : Int).toNat a0.size).toList = t110.toList then (if t109 < 4611686018427387904 then ((varint_Size.f t109).bind fun t113 => (some (decide (t113 ≤ (wrap64 ((a0.size : Int) - (t110.size : Int))))))) else (some false)) else (some false)) else (none)) else (none)) else (if (wrap64 ((a0.size : Int) - (t110.size : Int))) = 4 then (if 0 ≤ (wrap64 ((a0.size : Int) - (t110.size : Int))) then (if (wrap64 ((a0.size : Int) - (t110.size : Int))) ≤ (a0.size : Int) then (if (a0.extract ((wrap64 ((a0.size : Int) - (t110.size : Int))) : Int).toNat a0.size).toList = t110.toList then (if t109 < 4611686018427387904 then ((varint_Size.f t109).bind fun t114 => (some (decide (t114 ≤ (wrap64 ((a0.size : Int) - (t110.size : Int))))))) else (some false)) else (some false)) else (none)) else (none)) else (if (wrap64 ((a0.size : Int) - (t110.size : Int))) = 8 then (if 0 ≤ (wrap64 ((a0.size : Int) - (t110.size : Int))) then (if (wrap64 ((a0.size : Int) - (t110.size : Int))) ≤ (a0.size : Int) then (if (a0.extract ((wrap64 ((a0.size : Int) - (t110.size : Int))) : Int).toNat a0.size).toList = t110.toList then (if t109 < 4611686018427387904 then ((varint_Size.f t109).bind fun t115 => (some (decide (t115 ≤ (wrap64 ((a0.size : Int) - (t110.size : Int))))))) else (some false)) else (some false)) else (none)) else (none)) else (some false))))) else (if t111 = 10 then (if t109 = 0 then (if t110.toList = ([] : List UInt8) then (some (decide ((a0.size : Int) < 8))) else (some false)) else (some false)) else (some false))) = some r := H
        have A9 := Aside0.mk A90
        clear A90
        by_cases c10 : t111 = 0
        · rw [if_pos c10] at H
          have c10b0 : (t111 == 0) = true := beq_iff_eq.mpr c10
          have c10b1 : (t111 != 0) = false := bne_eq_false_iff_eq.mpr c10
          clear c10
          by_cases c11 : (wrap64 ((a0.size : Int) - (t110.size : Int))) = 1
          · rw [if_pos c11] at H
            have c11b0 : ((wrap64 ((a0.size : Int) - (t110.size : Int))) == 1) = true := beq_iff_eq.mpr c11
            have c11b1 : ((wrap64 ((a0.size : Int) - (t110.size : Int))) != 1) = false := bne_eq_false_iff_eq.mpr c11
            clear c11
            obtain ⟨ji12, hji12⟩ : ∃ j_ : Int, (wrap64 ((a0.size : Int) - (t110.size : Int))) = j_ := ⟨_, rfl⟩
            replace H : (if 0 ≤ (ji12) then (if (ji12) ≤ (a0.size : Int) then (if (a0.extract ((ji12) : Int).toNat a0.size).toList = t110.toList then (if t109 < 4611686018427387904 then ((varint_Size.f t109).bind fun t112 => (some (decide (t112 ≤ (ji12))))) else (some false)) else (some false)) else (none)) else (none)) = some r := by first | (rw [hji12] at H; exact H) | (simp only [hji12] at H ⊢; exact H)
            (try rw [hji12] at c11b0)
            (try rw [hji12] at c11b1)
            (try rw [hji12] at A9)
            have hji12w : (IntKind.i64.wrap ((a0.size : Int) - (t110.size : Int))) = ji12 := (i64_w _).trans hji12
            by_cases c13 : 0 ≤ (ji12)
            · rw [if_pos c13] at H
              have c13b0 := eq_true c13
              have c13b1 : decide (0 ≤ (ji12)) = true := decide_eq_true c13
              clear c13
              by_cases c14 : (ji12) ≤ (a0.size : Int)
              · rw [if_pos c14] at H
                have c14b0 := eq_true c14
                have c14b1 : decide ((ji12) ≤ (a0.size : Int)) = true := decide_eq_true c14
                clear c14
                by_cases c15 : (a0.extract ((ji12) : Int).toNat a0.size).toList = t110.toList
                · rw [if_pos c15] at H
                  have c15b0 : ((a0.extract ((ji12) : Int).toNat a0.size).toList == t110.toList) = true := beq_iff_eq.mpr c15
                  have c15b1 : ((a0.extract ((ji12) : Int).toNat a0.size).toList != t110.toList) = false := bne_eq_false_iff_eq.mpr c15
                  clear c15
                  by_cases c16 : t109 < 4611686018427387904
                  · rw [if_pos c16] at H
                    have c16b0 : decide (t109 < 4611686018427387904) = true := decide_eq_true c16
                    clear c16
                    replace H := Option.bind_eq_some_iff.mp H
                    obtain ⟨t112, A170, H⟩ := H
                    replace H : (some (decide (t112 ≤ (ji12)))) = some r := H
                    have A17 := Aside0.mk A170
                    clear A170
                    obtain rfl := Option.some.inj H
                    go_wp2_with (first | ((with_reducible refine gate_callee (f := 12) rfl ?_); refine goesL_ (some 17) rfl rfl Tryd.func12 (by kernel_rfl) rfl #[.string a0] rfl (by (try simp only [List.map_toArray, List.map_cons, List.map_nil]); first | done | rfl | (simp only [List.length_drop, List.length_take]; rfl)) ?_; (with_reducible refine (varint_Get.calls kj1 a0 t109 t110 t111 _ A9.out).mono ?_); rintro e w' ⟨rfl, ⟨nd, rfl⟩⟩; refine ⟨_, rfl, ?_⟩) | (go_at_call 14; (with_reducible refine (varint_Size.calls t109 t112 _ A17.out).mono ?_); rintro e w18 ⟨rfl, hb⟩; have n0_ := Aside0.mk (below_step (by repeat (first | (with_reducible first | exact HB.out | apply below_alloc | apply pw_below_drewN | apply below_drew1) | exact HB.out)) hb); clear HB; have HB := n0_; clear n0_; (try clear hb); (try clear hb2); (try clear hk); (try clear hi)))
                    go_ret
                    exact ⟨by first | rfl | (simp [errW_none, errW_some] <;> rfl) | (simp only [← hji12]; first | rfl | (simp [errW_none, errW_some] <;> rfl)) | (simp [*, errW_none, errW_some] <;> rfl), by repeat (first | (with_reducible first | exact HB.out | apply below_alloc | apply pw_below_drewN | apply below_drew1) | exact HB.out)⟩
                  · rw [if_neg c16] at H
                    have c16b0 : decide (t109 < 4611686018427387904) = false := decide_eq_false c16
                    clear c16
                    obtain rfl := Option.some.inj H
                    go_wp2_with (first | ((with_reducible refine gate_callee (f := 12) rfl ?_); refine goesL_ (some 17) rfl rfl Tryd.func12 (by kernel_rfl) rfl #[.string a0] rfl (by (try simp only [List.map_toArray, List.map_cons, List.map_nil]); first | done | rfl | (simp only [List.length_drop, List.length_take]; rfl)) ?_; (with_reducible refine (varint_Get.calls kj1 a0 t109 t110 t111 _ A9.out).mono ?_); rintro e w' ⟨rfl, ⟨nd, rfl⟩⟩; refine ⟨_, rfl, ?_⟩))
                    go_ret
                    exact ⟨by first | rfl | (simp [errW_none, errW_some] <;> rfl) | (simp only [← hji12]; first | rfl | (simp [errW_none, errW_some] <;> rfl)) | (simp [*, errW_none, errW_some] <;> rfl), by repeat (first | (with_reducible first | exact HB.out | apply below_alloc | apply pw_below_drewN | apply below_drew1) | exact HB.out)⟩
                · rw [if_neg c15] at H
                  have c15b0 : ((a0.extract ((ji12) : Int).toNat a0.size).toList == t110.toList) = false := beq_eq_false_iff_ne.mpr c15
                  have c15b1 : ((a0.extract ((ji12) : Int).toNat a0.size).toList != t110.toList) = true := bne_iff_ne.mpr c15
                  obtain rfl := Option.some.inj H
                  go_wp2_with (first | ((with_reducible refine gate_callee (f := 12) rfl ?_); refine goesL_ (some 17) rfl rfl Tryd.func12 (by kernel_rfl) rfl #[.string a0] rfl (by (try simp only [List.map_toArray, List.map_cons, List.map_nil]); first | done | rfl | (simp only [List.length_drop, List.length_take]; rfl)) ?_; (with_reducible refine (varint_Get.calls kj1 a0 t109 t110 t111 _ A9.out).mono ?_); rintro e w' ⟨rfl, ⟨nd, rfl⟩⟩; refine ⟨_, rfl, ?_⟩))
                  go_ret
                  exact ⟨by first | rfl | (simp [errW_none, errW_some] <;> rfl) | (simp only [← hji12]; first | rfl | (simp [errW_none, errW_some] <;> rfl)) | (simp [*, errW_none, errW_some] <;> rfl), by repeat (first | (with_reducible first | exact HB.out | apply below_alloc | apply pw_below_drewN | apply below_drew1) | exact HB.out)⟩
              · rw [if_neg c14] at H
                exact absurd H (by simp)
            · rw [if_neg c13] at H
              exact absurd H (by simp)
          · rw [if_neg c11] at H
            have c11b0 : ((wrap64 ((a0.size : Int) - (t110.size : Int))) == 1) = false := beq_eq_false_iff_ne.mpr c11
            have c11b1 : ((wrap64 ((a0.size : Int) - (t110.size : Int))) != 1) = true := bne_iff_ne.mpr c11
            by_cases c19 : (wrap64 ((a0.size : Int) - (t110.size : Int))) = 2
            · rw [if_pos c19] at H
              have c19b0 : ((wrap64 ((a0.size : Int) - (t110.size : Int))) == 2) = true := beq_iff_eq.mpr c19
              have c19b1 : ((wrap64 ((a0.size : Int) - (t110.size : Int))) != 2) = false := bne_eq_false_iff_eq.mpr c19
              clear c19
              obtain ⟨ji20, hji20⟩ : ∃ j_ : Int, (wrap64 ((a0.size : Int) - (t110.size : Int))) = j_ := ⟨_, rfl⟩
              replace H : (if 0 ≤ (ji20) then (if (ji20) ≤ (a0.size : Int) then (if (a0.extract ((ji20) : Int).toNat a0.size).toList = t110.toList then (if t109 < 4611686018427387904 then ((varint_Size.f t109).bind fun t113 => (some (decide (t113 ≤ (ji20))))) else (some false)) else (some false)) else (none)) else (none)) = some r := by first | (rw [hji20] at H; exact H) | (simp only [hji20] at H ⊢; exact H)
              (try rw [hji20] at c11b0)
              (try rw [hji20] at c11b1)
              (try rw [hji20] at c19b0)
              (try rw [hji20] at c19b1)
              (try rw [hji20] at A9)
              have hji20w : (IntKind.i64.wrap ((a0.size : Int) - (t110.size : Int))) = ji20 := (i64_w _).trans hji20
              by_cases c21 : 0 ≤ (ji20)
              · rw [if_pos c21] at H
                have c21b0 := eq_true c21
                have c21b1 : decide (0 ≤ (ji20)) = true := decide_eq_true c21
                clear c21
                by_cases c22 : (ji20) ≤ (a0.size : Int)
                · rw [if_pos c22] at H
                  have c22b0 := eq_true c22
                  have c22b1 : decide ((ji20) ≤ (a0.size : Int)) = true := decide_eq_true c22
                  clear c22
                  by_cases c23 : (a0.extract ((ji20) : Int).toNat a0.size).toList = t110.toList
                  · rw [if_pos c23] at H
                    have c23b0 : ((a0.extract ((ji20) : Int).toNat a0.size).toList == t110.toList) = true := beq_iff_eq.mpr c23
                    have c23b1 : ((a0.extract ((ji20) : Int).toNat a0.size).toList != t110.toList) = false := bne_eq_false_iff_eq.mpr c23
                    clear c23
                    by_cases c24 : t109 < 4611686018427387904
                    · rw [if_pos c24] at H
                      have c24b0 : decide (t109 < 4611686018427387904) = true := decide_eq_true c24
                      clear c24
                      replace H := Option.bind_eq_some_iff.mp H
                      obtain ⟨t113, A250, H⟩ := H
                      replace H : (some (decide (t113 ≤ (ji20)))) = some r := H
                      have A25 := Aside0.mk A250
                      clear A250
                      obtain rfl := Option.some.inj H
                      go_wp2_with (first | ((with_reducible refine gate_callee (f := 12) rfl ?_); refine goesL_ (some 17) rfl rfl Tryd.func12 (by kernel_rfl) rfl #[.string a0] rfl (by (try simp only [List.map_toArray, List.map_cons, List.map_nil]); first | done | rfl | (simp only [List.length_drop, List.length_take]; rfl)) ?_; (with_reducible refine (varint_Get.calls kj1 a0 t109 t110 t111 _ A9.out).mono ?_); rintro e w' ⟨rfl, ⟨nd, rfl⟩⟩; refine ⟨_, rfl, ?_⟩) | (go_at_call 14; (with_reducible refine (varint_Size.calls t109 t113 _ A25.out).mono ?_); rintro e w26 ⟨rfl, hb⟩; have n0_ := Aside0.mk (below_step (by repeat (first | (with_reducible first | exact HB.out | apply below_alloc | apply pw_below_drewN | apply below_drew1) | exact HB.out)) hb); clear HB; have HB := n0_; clear n0_; (try clear hb); (try clear hb2); (try clear hk); (try clear hi)))
                      go_ret
                      exact ⟨by first | rfl | (simp [errW_none, errW_some] <;> rfl) | (simp only [← hji20]; first | rfl | (simp [errW_none, errW_some] <;> rfl)) | (simp [*, errW_none, errW_some] <;> rfl), by repeat (first | (with_reducible first | exact HB.out | apply below_alloc | apply pw_below_drewN | apply below_drew1) | exact HB.out)⟩
                    · rw [if_neg c24] at H
                      have c24b0 : decide (t109 < 4611686018427387904) = false := decide_eq_false c24
                      clear c24
                      obtain rfl := Option.some.inj H
                      go_wp2_with (first | ((with_reducible refine gate_callee (f := 12) rfl ?_); refine goesL_ (some 17) rfl rfl Tryd.func12 (by kernel_rfl) rfl #[.string a0] rfl (by (try simp only [List.map_toArray, List.map_cons, List.map_nil]); first | done | rfl | (simp only [List.length_drop, List.length_take]; rfl)) ?_; (with_reducible refine (varint_Get.calls kj1 a0 t109 t110 t111 _ A9.out).mono ?_); rintro e w' ⟨rfl, ⟨nd, rfl⟩⟩; refine ⟨_, rfl, ?_⟩))
                      go_ret
                      exact ⟨by first | rfl | (simp [errW_none, errW_some] <;> rfl) | (simp only [← hji20]; first | rfl | (simp [errW_none, errW_some] <;> rfl)) | (simp [*, errW_none, errW_some] <;> rfl), by repeat (first | (with_reducible first | exact HB.out | apply below_alloc | apply pw_below_drewN | apply below_drew1) | exact HB.out)⟩
                  · rw [if_neg c23] at H
                    have c23b0 : ((a0.extract ((ji20) : Int).toNat a0.size).toList == t110.toList) = false := beq_eq_false_iff_ne.mpr c23
                    have c23b1 : ((a0.extract ((ji20) : Int).toNat a0.size).toList != t110.toList) = true := bne_iff_ne.mpr c23
                    obtain rfl := Option.some.inj H
                    go_wp2_with (first | ((with_reducible refine gate_callee (f := 12) rfl ?_); refine goesL_ (some 17) rfl rfl Tryd.func12 (by kernel_rfl) rfl #[.string a0] rfl (by (try simp only [List.map_toArray, List.map_cons, List.map_nil]); first | done | rfl | (simp only [List.length_drop, List.length_take]; rfl)) ?_; (with_reducible refine (varint_Get.calls kj1 a0 t109 t110 t111 _ A9.out).mono ?_); rintro e w' ⟨rfl, ⟨nd, rfl⟩⟩; refine ⟨_, rfl, ?_⟩))
                    go_ret
                    exact ⟨by first | rfl | (simp [errW_none, errW_some] <;> rfl) | (simp only [← hji20]; first | rfl | (simp [errW_none, errW_some] <;> rfl)) | (simp [*, errW_none, errW_some] <;> rfl), by repeat (first | (with_reducible first | exact HB.out | apply below_alloc | apply pw_below_drewN | apply below_drew1) | exact HB.out)⟩
                · rw [if_neg c22] at H
                  exact absurd H (by simp)
              · rw [if_neg c21] at H
                exact absurd H (by simp)
            · rw [if_neg c19] at H
              have c19b0 : ((wrap64 ((a0.size : Int) - (t110.size : Int))) == 2) = false := beq_eq_false_iff_ne.mpr c19
              have c19b1 : ((wrap64 ((a0.size : Int) - (t110.size : Int))) != 2) = true := bne_iff_ne.mpr c19
              by_cases c27 : (wrap64 ((a0.size : Int) - (t110.size : Int))) = 4
              · rw [if_pos c27] at H
                have c27b0 : ((wrap64 ((a0.size : Int) - (t110.size : Int))) == 4) = true := beq_iff_eq.mpr c27
                have c27b1 : ((wrap64 ((a0.size : Int) - (t110.size : Int))) != 4) = false := bne_eq_false_iff_eq.mpr c27
                clear c27
                obtain ⟨ji28, hji28⟩ : ∃ j_ : Int, (wrap64 ((a0.size : Int) - (t110.size : Int))) = j_ := ⟨_, rfl⟩
                replace H : (if 0 ≤ (ji28) then (if (ji28) ≤ (a0.size : Int) then (if (a0.extract ((ji28) : Int).toNat a0.size).toList = t110.toList then (if t109 < 4611686018427387904 then ((varint_Size.f t109).bind fun t114 => (some (decide (t114 ≤ (ji28))))) else (some false)) else (some false)) else (none)) else (none)) = some r := by first | (rw [hji28] at H; exact H) | (simp only [hji28] at H ⊢; exact H)
                (try rw [hji28] at c11b0)
                (try rw [hji28] at c11b1)
                (try rw [hji28] at c19b0)
                (try rw [hji28] at c19b1)
                (try rw [hji28] at c27b0)
                (try rw [hji28] at c27b1)
                (try rw [hji28] at A9)
                have hji28w : (IntKind.i64.wrap ((a0.size : Int) - (t110.size : Int))) = ji28 := (i64_w _).trans hji28
                by_cases c29 : 0 ≤ (ji28)
                · rw [if_pos c29] at H
                  have c29b0 := eq_true c29
                  have c29b1 : decide (0 ≤ (ji28)) = true := decide_eq_true c29
                  clear c29
                  by_cases c30 : (ji28) ≤ (a0.size : Int)
                  · rw [if_pos c30] at H
                    have c30b0 := eq_true c30
                    have c30b1 : decide ((ji28) ≤ (a0.size : Int)) = true := decide_eq_true c30
                    clear c30
                    by_cases c31 : (a0.extract ((ji28) : Int).toNat a0.size).toList = t110.toList
                    · rw [if_pos c31] at H
                      have c31b0 : ((a0.extract ((ji28) : Int).toNat a0.size).toList == t110.toList) = true := beq_iff_eq.mpr c31
                      have c31b1 : ((a0.extract ((ji28) : Int).toNat a0.size).toList != t110.toList) = false := bne_eq_false_iff_eq.mpr c31
                      clear c31
                      by_cases c32 : t109 < 4611686018427387904
                      · rw [if_pos c32] at H
                        have c32b0 : decide (t109 < 4611686018427387904) = true := decide_eq_true c32
                        clear c32
                        replace H := Option.bind_eq_some_iff.mp H
                        obtain ⟨t114, A330, H⟩ := H
                        replace H : (some (decide (t114 ≤ (ji28)))) = some r := H
                        have A33 := Aside0.mk A330
                        clear A330
                        obtain rfl := Option.some.inj H
                        go_wp2_with (first | ((with_reducible refine gate_callee (f := 12) rfl ?_); refine goesL_ (some 17) rfl rfl Tryd.func12 (by kernel_rfl) rfl #[.string a0] rfl (by (try simp only [List.map_toArray, List.map_cons, List.map_nil]); first | done | rfl | (simp only [List.length_drop, List.length_take]; rfl)) ?_; (with_reducible refine (varint_Get.calls kj1 a0 t109 t110 t111 _ A9.out).mono ?_); rintro e w' ⟨rfl, ⟨nd, rfl⟩⟩; refine ⟨_, rfl, ?_⟩) | (go_at_call 14; (with_reducible refine (varint_Size.calls t109 t114 _ A33.out).mono ?_); rintro e w34 ⟨rfl, hb⟩; have n0_ := Aside0.mk (below_step (by repeat (first | (with_reducible first | exact HB.out | apply below_alloc | apply pw_below_drewN | apply below_drew1) | exact HB.out)) hb); clear HB; have HB := n0_; clear n0_; (try clear hb); (try clear hb2); (try clear hk); (try clear hi)))
                        go_ret
                        exact ⟨by first | rfl | (simp [errW_none, errW_some] <;> rfl) | (simp only [← hji28]; first | rfl | (simp [errW_none, errW_some] <;> rfl)) | (simp [*, errW_none, errW_some] <;> rfl), by repeat (first | (with_reducible first | exact HB.out | apply below_alloc | apply pw_below_drewN | apply below_drew1) | exact HB.out)⟩
                      · rw [if_neg c32] at H
                        have c32b0 : decide (t109 < 4611686018427387904) = false := decide_eq_false c32
                        clear c32
                        obtain rfl := Option.some.inj H
                        go_wp2_with (first | ((with_reducible refine gate_callee (f := 12) rfl ?_); refine goesL_ (some 17) rfl rfl Tryd.func12 (by kernel_rfl) rfl #[.string a0] rfl (by (try simp only [List.map_toArray, List.map_cons, List.map_nil]); first | done | rfl | (simp only [List.length_drop, List.length_take]; rfl)) ?_; (with_reducible refine (varint_Get.calls kj1 a0 t109 t110 t111 _ A9.out).mono ?_); rintro e w' ⟨rfl, ⟨nd, rfl⟩⟩; refine ⟨_, rfl, ?_⟩))
                        go_ret
                        exact ⟨by first | rfl | (simp [errW_none, errW_some] <;> rfl) | (simp only [← hji28]; first | rfl | (simp [errW_none, errW_some] <;> rfl)) | (simp [*, errW_none, errW_some] <;> rfl), by repeat (first | (with_reducible first | exact HB.out | apply below_alloc | apply pw_below_drewN | apply below_drew1) | exact HB.out)⟩
                    · rw [if_neg c31] at H
                      have c31b0 : ((a0.extract ((ji28) : Int).toNat a0.size).toList == t110.toList) = false := beq_eq_false_iff_ne.mpr c31
                      have c31b1 : ((a0.extract ((ji28) : Int).toNat a0.size).toList != t110.toList) = true := bne_iff_ne.mpr c31
                      obtain rfl := Option.some.inj H
                      go_wp2_with (first | ((with_reducible refine gate_callee (f := 12) rfl ?_); refine goesL_ (some 17) rfl rfl Tryd.func12 (by kernel_rfl) rfl #[.string a0] rfl (by (try simp only [List.map_toArray, List.map_cons, List.map_nil]); first | done | rfl | (simp only [List.length_drop, List.length_take]; rfl)) ?_; (with_reducible refine (varint_Get.calls kj1 a0 t109 t110 t111 _ A9.out).mono ?_); rintro e w' ⟨rfl, ⟨nd, rfl⟩⟩; refine ⟨_, rfl, ?_⟩))
                      go_ret
                      exact ⟨by first | rfl | (simp [errW_none, errW_some] <;> rfl) | (simp only [← hji28]; first | rfl | (simp [errW_none, errW_some] <;> rfl)) | (simp [*, errW_none, errW_some] <;> rfl), by repeat (first | (with_reducible first | exact HB.out | apply below_alloc | apply pw_below_drewN | apply below_drew1) | exact HB.out)⟩
                  · rw [if_neg c30] at H
                    exact absurd H (by simp)
                · rw [if_neg c29] at H
                  exact absurd H (by simp)
              · rw [if_neg c27] at H
                have c27b0 : ((wrap64 ((a0.size : Int) - (t110.size : Int))) == 4) = false := beq_eq_false_iff_ne.mpr c27
                have c27b1 : ((wrap64 ((a0.size : Int) - (t110.size : Int))) != 4) = true := bne_iff_ne.mpr c27
                by_cases c35 : (wrap64 ((a0.size : Int) - (t110.size : Int))) = 8
                · rw [if_pos c35] at H
                  have c35b0 : ((wrap64 ((a0.size : Int) - (t110.size : Int))) == 8) = true := beq_iff_eq.mpr c35
                  have c35b1 : ((wrap64 ((a0.size : Int) - (t110.size : Int))) != 8) = false := bne_eq_false_iff_eq.mpr c35
                  clear c35
                  obtain ⟨ji36, hji36⟩ : ∃ j_ : Int, (wrap64 ((a0.size : Int) - (t110.size : Int))) = j_ := ⟨_, rfl⟩
                  replace H : (if 0 ≤ (ji36) then (if (ji36) ≤ (a0.size : Int) then (if (a0.extract ((ji36) : Int).toNat a0.size).toList = t110.toList then (if t109 < 4611686018427387904 then ((varint_Size.f t109).bind fun t115 => (some (decide (t115 ≤ (ji36))))) else (some false)) else (some false)) else (none)) else (none)) = some r := by first | (rw [hji36] at H; exact H) | (simp only [hji36] at H ⊢; exact H)
                  (try rw [hji36] at c11b0)
                  (try rw [hji36] at c11b1)
                  (try rw [hji36] at c19b0)
                  (try rw [hji36] at c19b1)
                  (try rw [hji36] at c27b0)
                  (try rw [hji36] at c27b1)
                  (try rw [hji36] at c35b0)
                  (try rw [hji36] at c35b1)
                  (try rw [hji36] at A9)
                  have hji36w : (IntKind.i64.wrap ((a0.size : Int) - (t110.size : Int))) = ji36 := (i64_w _).trans hji36
                  by_cases c37 : 0 ≤ (ji36)
                  · rw [if_pos c37] at H
                    have c37b0 := eq_true c37
                    have c37b1 : decide (0 ≤ (ji36)) = true := decide_eq_true c37
                    clear c37
                    by_cases c38 : (ji36) ≤ (a0.size : Int)
                    · rw [if_pos c38] at H
                      have c38b0 := eq_true c38
                      have c38b1 : decide ((ji36) ≤ (a0.size : Int)) = true := decide_eq_true c38
                      clear c38
                      by_cases c39 : (a0.extract ((ji36) : Int).toNat a0.size).toList = t110.toList
                      · rw [if_pos c39] at H
                        have c39b0 : ((a0.extract ((ji36) : Int).toNat a0.size).toList == t110.toList) = true := beq_iff_eq.mpr c39
                        have c39b1 : ((a0.extract ((ji36) : Int).toNat a0.size).toList != t110.toList) = false := bne_eq_false_iff_eq.mpr c39
                        clear c39
                        by_cases c40 : t109 < 4611686018427387904
                        · rw [if_pos c40] at H
                          have c40b0 : decide (t109 < 4611686018427387904) = true := decide_eq_true c40
                          clear c40
                          replace H := Option.bind_eq_some_iff.mp H
                          obtain ⟨t115, A410, H⟩ := H
                          replace H : (some (decide (t115 ≤ (ji36)))) = some r := H
                          have A41 := Aside0.mk A410
                          clear A410
                          obtain rfl := Option.some.inj H
                          go_wp2_with (first | ((with_reducible refine gate_callee (f := 12) rfl ?_); refine goesL_ (some 17) rfl rfl Tryd.func12 (by kernel_rfl) rfl #[.string a0] rfl (by (try simp only [List.map_toArray, List.map_cons, List.map_nil]); first | done | rfl | (simp only [List.length_drop, List.length_take]; rfl)) ?_; (with_reducible refine (varint_Get.calls kj1 a0 t109 t110 t111 _ A9.out).mono ?_); rintro e w' ⟨rfl, ⟨nd, rfl⟩⟩; refine ⟨_, rfl, ?_⟩) | (go_at_call 14; (with_reducible refine (varint_Size.calls t109 t115 _ A41.out).mono ?_); rintro e w42 ⟨rfl, hb⟩; have n0_ := Aside0.mk (below_step (by repeat (first | (with_reducible first | exact HB.out | apply below_alloc | apply pw_below_drewN | apply below_drew1) | exact HB.out)) hb); clear HB; have HB := n0_; clear n0_; (try clear hb); (try clear hb2); (try clear hk); (try clear hi)))
                          go_ret
                          exact ⟨by first | rfl | (simp [errW_none, errW_some] <;> rfl) | (simp only [← hji36]; first | rfl | (simp [errW_none, errW_some] <;> rfl)) | (simp [*, errW_none, errW_some] <;> rfl), by repeat (first | (with_reducible first | exact HB.out | apply below_alloc | apply pw_below_drewN | apply below_drew1) | exact HB.out)⟩
                        · rw [if_neg c40] at H
                          have c40b0 : decide (t109 < 4611686018427387904) = false := decide_eq_false c40
                          clear c40
                          obtain rfl := Option.some.inj H
                          go_wp2_with (first | ((with_reducible refine gate_callee (f := 12) rfl ?_); refine goesL_ (some 17) rfl rfl Tryd.func12 (by kernel_rfl) rfl #[.string a0] rfl (by (try simp only [List.map_toArray, List.map_cons, List.map_nil]); first | done | rfl | (simp only [List.length_drop, List.length_take]; rfl)) ?_; (with_reducible refine (varint_Get.calls kj1 a0 t109 t110 t111 _ A9.out).mono ?_); rintro e w' ⟨rfl, ⟨nd, rfl⟩⟩; refine ⟨_, rfl, ?_⟩))
                          go_ret
                          exact ⟨by first | rfl | (simp [errW_none, errW_some] <;> rfl) | (simp only [← hji36]; first | rfl | (simp [errW_none, errW_some] <;> rfl)) | (simp [*, errW_none, errW_some] <;> rfl), by repeat (first | (with_reducible first | exact HB.out | apply below_alloc | apply pw_below_drewN | apply below_drew1) | exact HB.out)⟩
                      · rw [if_neg c39] at H
                        have c39b0 : ((a0.extract ((ji36) : Int).toNat a0.size).toList == t110.toList) = false := beq_eq_false_iff_ne.mpr c39
                        have c39b1 : ((a0.extract ((ji36) : Int).toNat a0.size).toList != t110.toList) = true := bne_iff_ne.mpr c39
                        obtain rfl := Option.some.inj H
                        go_wp2_with (first | ((with_reducible refine gate_callee (f := 12) rfl ?_); refine goesL_ (some 17) rfl rfl Tryd.func12 (by kernel_rfl) rfl #[.string a0] rfl (by (try simp only [List.map_toArray, List.map_cons, List.map_nil]); first | done | rfl | (simp only [List.length_drop, List.length_take]; rfl)) ?_; (with_reducible refine (varint_Get.calls kj1 a0 t109 t110 t111 _ A9.out).mono ?_); rintro e w' ⟨rfl, ⟨nd, rfl⟩⟩; refine ⟨_, rfl, ?_⟩))
                        go_ret
                        exact ⟨by first | rfl | (simp [errW_none, errW_some] <;> rfl) | (simp only [← hji36]; first | rfl | (simp [errW_none, errW_some] <;> rfl)) | (simp [*, errW_none, errW_some] <;> rfl), by repeat (first | (with_reducible first | exact HB.out | apply below_alloc | apply pw_below_drewN | apply below_drew1) | exact HB.out)⟩
                    · rw [if_neg c38] at H
                      exact absurd H (by simp)
                  · rw [if_neg c37] at H
                    exact absurd H (by simp)
                · rw [if_neg c35] at H
                  have c35b0 : ((wrap64 ((a0.size : Int) - (t110.size : Int))) == 8) = false := beq_eq_false_iff_ne.mpr c35
                  have c35b1 : ((wrap64 ((a0.size : Int) - (t110.size : Int))) != 8) = true := bne_iff_ne.mpr c35
                  obtain rfl := Option.some.inj H
                  go_wp2_with (first | ((with_reducible refine gate_callee (f := 12) rfl ?_); refine goesL_ (some 17) rfl rfl Tryd.func12 (by kernel_rfl) rfl #[.string a0] rfl (by (try simp only [List.map_toArray, List.map_cons, List.map_nil]); first | done | rfl | (simp only [List.length_drop, List.length_take]; rfl)) ?_; (with_reducible refine (varint_Get.calls kj1 a0 t109 t110 t111 _ A9.out).mono ?_); rintro e w' ⟨rfl, ⟨nd, rfl⟩⟩; refine ⟨_, rfl, ?_⟩))
                  go_ret
                  exact ⟨by first | rfl | (simp [errW_none, errW_some] <;> rfl) | (simp [*, errW_none, errW_some] <;> rfl), by repeat (first | (with_reducible first | exact HB.out | apply below_alloc | apply pw_below_drewN | apply below_drew1) | exact HB.out)⟩
        · rw [if_neg c10] at H
          have c10b0 : (t111 == 0) = false := beq_eq_false_iff_ne.mpr c10
          have c10b1 : (t111 != 0) = true := bne_iff_ne.mpr c10
          by_cases c43 : t111 = 10
          · rw [if_pos c43] at H
            have c43b0 : (t111 == 10) = true := beq_iff_eq.mpr c43
            have c43b1 : (t111 != 10) = false := bne_eq_false_iff_eq.mpr c43
            clear c43
            by_cases c44 : t109 = 0
            · rw [if_pos c44] at H
              have c44b0 : (t109 == 0) = true := beq_iff_eq.mpr c44
              have c44b1 : (t109 != 0) = false := bne_eq_false_iff_eq.mpr c44
              clear c44
              by_cases c45 : t110.toList = ([] : List UInt8)
              · rw [if_pos c45] at H
                have c45b0 : (t110.toList == ([] : List UInt8)) = true := beq_iff_eq.mpr c45
                have c45b1 : (t110.toList != ([] : List UInt8)) = false := bne_eq_false_iff_eq.mpr c45
                clear c45
                obtain rfl := Option.some.inj H
                go_wp2_with (first | ((with_reducible refine gate_callee (f := 12) rfl ?_); refine goesL_ (some 17) rfl rfl Tryd.func12 (by kernel_rfl) rfl #[.string a0] rfl (by (try simp only [List.map_toArray, List.map_cons, List.map_nil]); first | done | rfl | (simp only [List.length_drop, List.length_take]; rfl)) ?_; (with_reducible refine (varint_Get.calls kj1 a0 t109 t110 t111 _ A9.out).mono ?_); rintro e w' ⟨rfl, ⟨nd, rfl⟩⟩; refine ⟨_, rfl, ?_⟩))
                go_ret
                exact ⟨by first | rfl | (simp [errW_none, errW_some] <;> rfl) | (simp [*, errW_none, errW_some] <;> rfl), by repeat (first | (with_reducible first | exact HB.out | apply below_alloc | apply pw_below_drewN | apply below_drew1) | exact HB.out)⟩
              · rw [if_neg c45] at H
                have c45b0 : (t110.toList == ([] : List UInt8)) = false := beq_eq_false_iff_ne.mpr c45
                have c45b1 : (t110.toList != ([] : List UInt8)) = true := bne_iff_ne.mpr c45
                obtain rfl := Option.some.inj H
                go_wp2_with (first | ((with_reducible refine gate_callee (f := 12) rfl ?_); refine goesL_ (some 17) rfl rfl Tryd.func12 (by kernel_rfl) rfl #[.string a0] rfl (by (try simp only [List.map_toArray, List.map_cons, List.map_nil]); first | done | rfl | (simp only [List.length_drop, List.length_take]; rfl)) ?_; (with_reducible refine (varint_Get.calls kj1 a0 t109 t110 t111 _ A9.out).mono ?_); rintro e w' ⟨rfl, ⟨nd, rfl⟩⟩; refine ⟨_, rfl, ?_⟩))
                go_ret
                exact ⟨by first | rfl | (simp [errW_none, errW_some] <;> rfl) | (simp [*, errW_none, errW_some] <;> rfl), by repeat (first | (with_reducible first | exact HB.out | apply below_alloc | apply pw_below_drewN | apply below_drew1) | exact HB.out)⟩
            · rw [if_neg c44] at H
              have c44b0 : (t109 == 0) = false := beq_eq_false_iff_ne.mpr c44
              have c44b1 : (t109 != 0) = true := bne_iff_ne.mpr c44
              obtain rfl := Option.some.inj H
              go_wp2_with (first | ((with_reducible refine gate_callee (f := 12) rfl ?_); refine goesL_ (some 17) rfl rfl Tryd.func12 (by kernel_rfl) rfl #[.string a0] rfl (by (try simp only [List.map_toArray, List.map_cons, List.map_nil]); first | done | rfl | (simp only [List.length_drop, List.length_take]; rfl)) ?_; (with_reducible refine (varint_Get.calls kj1 a0 t109 t110 t111 _ A9.out).mono ?_); rintro e w' ⟨rfl, ⟨nd, rfl⟩⟩; refine ⟨_, rfl, ?_⟩))
              go_ret
              exact ⟨by first | rfl | (simp [errW_none, errW_some] <;> rfl) | (simp [*, errW_none, errW_some] <;> rfl), by repeat (first | (with_reducible first | exact HB.out | apply below_alloc | apply pw_below_drewN | apply below_drew1) | exact HB.out)⟩
          · rw [if_neg c43] at H
            have c43b0 : (t111 == 10) = false := beq_eq_false_iff_ne.mpr c43
            have c43b1 : (t111 != 10) = true := bne_iff_ne.mpr c43
            obtain rfl := Option.some.inj H
            go_wp2_with (first | ((with_reducible refine gate_callee (f := 12) rfl ?_); refine goesL_ (some 17) rfl rfl Tryd.func12 (by kernel_rfl) rfl #[.string a0] rfl (by (try simp only [List.map_toArray, List.map_cons, List.map_nil]); first | done | rfl | (simp only [List.length_drop, List.length_take]; rfl)) ?_; (with_reducible refine (varint_Get.calls kj1 a0 t109 t110 t111 _ A9.out).mono ?_); rintro e w' ⟨rfl, ⟨nd, rfl⟩⟩; refine ⟨_, rfl, ?_⟩))
            go_ret
            exact ⟨by first | rfl | (simp [errW_none, errW_some] <;> rfl) | (simp [*, errW_none, errW_some] <;> rfl), by repeat (first | (with_reducible first | exact HB.out | apply below_alloc | apply pw_below_drewN | apply below_drew1) | exact HB.out)⟩

/-- THE ONE PURE STATEMENT of dominolaw01_VarintAll: yours. -/
def dominolaw01_VarintAll.Pure : Prop := ∀ (a0 : ByteArray), a0.size ≤ 140737488351232 → ∃ k, dominolaw01_VarintAll.f k a0 = some true
theorem dominolaw01_VarintAll.walk (P : dominolaw01_VarintAll.Pure) (a0 : ByteArray) (w : World) (w0 : a0.size ≤ 140737488351232) (ht : Tab w) :
    Calls Tryd.prog 7 #[.string a0] w fun e w' => e = .returned (.bool true) ∧ Below w.heap.size w w' := by
  obtain ⟨k, h⟩ := P a0 w0
  refine (dominolaw01_VarintAll.calls k a0 true w ht h).mono ?_
  rintro e w' ⟨rfl, hd⟩
  exact ⟨rfl, hd⟩

end Go.Proofs.YtablpjlhhnfpkaaDoor.PVarintAll
