-- printed for this claim by a program of the claim (wip/tools/pp.py over the kit's print)
import Derived.Test.YtjpafikgbnloaaaDoorPHdmx0
import Derived.Test.YtjpafikgbnloaaaDoorPHdmx3
import Derived.Test.YtjpafikgbnloaaaDoorPHdmx8
import Derived.Test.YtjpafikgbnloaaaDoorPHdmx12
namespace Go.Proofs.YtjpafikgbnloaaaDoor.PHdm
open Go.RowKit Go.Proofs.YtjpafikgbnloaaaDoorW.PrintWords Go.Proofs.YtjpafikgbnloaaaDoorW.PrintLast Go.Proofs.YtjpafikgbnloaaaDoorW.PrintMore
attribute [local go_sem] max2_int min2_int max_two min_two max_three min_three max_four min_four   -- for this text's walks alone
set_option linter.unusedVariables false
set_option linter.unusedSimpArgs false

attribute [local go_sem] isSome_setCell_
/-! ### dominolaw04_HeaderMasks: function 5 -/
def dominolaw04_HeaderMasks.j0 : Nat → ByteArray → ByteArray → Bool → Option (Bool)
  | 0, _, _, _ => none
  | k + 1, x0, x1, x24 => if x24 = true then ((dominolaw04_shown.f k).bind fun t252 => (some t252)) else ((header_Mask.f k x0 x1).bind fun bt253 => ((dominoref04_Mask.f k x0 x1).bind fun bt255 => ((header_Unmask.f k x0 x1).bind fun bt257 => ((dominoref04_Unmask.f k x0 x1).bind fun bt259 => (if bt253.1.toList = bt255.1.toList then (if bt253.2 = bt255.2 then (if bt257.1.toList = bt259.1.toList then (some (bt257.2 == bt259.2)) else (none)) else (none)) else (none))))))
def dominolaw04_HeaderMasks.f (k : Nat) (a0 : ByteArray) (a1 : ByteArray) : Option (Bool) := if (a0.size : Int) > 1200 then (dominolaw04_HeaderMasks.j0 k a0 a1 true) else (if (a1.size : Int) > 20 then (dominolaw04_HeaderMasks.j0 k a0 a1 true) else ((dominolaw04_shown.f k).bind fun t251 => (dominolaw04_HeaderMasks.j0 k a0 a1 (!t251))))
theorem dominolaw04_HeaderMasks.mono_l : ∀ k, (∀ y0 y1 y2, LeO (dominolaw04_HeaderMasks.j0 k y0 y1 y2) (dominolaw04_HeaderMasks.j0 (k + 1) y0 y1 y2))
  | 0 => fun _ _ _ r h => by simp [dominolaw04_HeaderMasks.j0] at h
  | k + 1 => by
    have ih0 := dominolaw04_HeaderMasks.mono_l k
    · intro y0 y1 y2
      unfold dominolaw04_HeaderMasks.j0
      repeat' first
      | (with_reducible exact ih0 _ _ _)
      | (with_reducible exact dominolaw04_shown.mono _)
      | (with_reducible exact dominoref04_Mask.mono _ _ _)
      | (with_reducible exact dominoref04_Unmask.mono _ _ _)
      | (with_reducible exact header_Mask.mono _ _ _)
      | (with_reducible exact header_Unmask.mono _ _ _)
      | (with_reducible exact LeO.refl _)
      | (with_reducible exact LeO.none _)
      | (with_reducible refine LeO.ite ?_ ?_)
      | (with_reducible refine LeO.bind ?_ (fun _ => ?_))
      | exact ih0 _ _ _
      | exact dominolaw04_shown.mono _
      | exact dominoref04_Mask.mono _ _ _
      | exact dominoref04_Unmask.mono _ _ _
      | exact header_Mask.mono _ _ _
      | exact header_Unmask.mono _ _ _
      | exact LeO.none _
      | refine LeO.ite ?_ ?_
      | refine LeO.bind ?_ (fun _ => ?_)
theorem dominolaw04_HeaderMasks.mono : ∀ a0 a1 k, LeO (dominolaw04_HeaderMasks.f k a0 a1) (dominolaw04_HeaderMasks.f (k + 1) a0 a1) := by
  intro a0 a1 k
  have ih0 := dominolaw04_HeaderMasks.mono_l k
  unfold dominolaw04_HeaderMasks.f
  repeat' first
      | (with_reducible exact ih0 _ _ _)
      | (with_reducible exact dominolaw04_shown.mono _)
      | (with_reducible exact dominoref04_Mask.mono _ _ _)
      | (with_reducible exact dominoref04_Unmask.mono _ _ _)
      | (with_reducible exact header_Mask.mono _ _ _)
      | (with_reducible exact header_Unmask.mono _ _ _)
      | (with_reducible exact LeO.refl _)
      | (with_reducible exact LeO.none _)
      | (with_reducible refine LeO.ite ?_ ?_)
      | (with_reducible refine LeO.bind ?_ (fun _ => ?_))
      | exact ih0 _ _ _
      | exact dominolaw04_shown.mono _
      | exact dominoref04_Mask.mono _ _ _
      | exact dominoref04_Unmask.mono _ _ _
      | exact header_Mask.mono _ _ _
      | exact header_Unmask.mono _ _ _
      | exact LeO.none _
      | refine LeO.ite ?_ ?_
      | refine LeO.bind ?_ (fun _ => ?_)
set_option maxHeartbeats 8000000 in
set_option maxRecDepth 100000 in
theorem dominolaw04_HeaderMasks.calls (k : Nat) (a0 : ByteArray) (a1 : ByteArray) (r : Bool) (w : World) (ht : Tab w) (h : dominolaw04_HeaderMasks.f k a0 a1 = some r) :
    Calls Tryd.prog 5 #[.string a0, .string a1] w fun e w' => e = .returned (.bool r) ∧ Below w.heap.size w w' := by
  have HTab := Aside0.mk ht
  clear ht
  have HB := Aside0.mk (Below.refl w.heap.size w)
  have H : (if (a0.size : Int) > 1200 then (dominolaw04_HeaderMasks.j0 k a0 a1 true) else (if (a1.size : Int) > 20 then (dominolaw04_HeaderMasks.j0 k a0 a1 true) else ((dominolaw04_shown.f k).bind fun t251 => (dominolaw04_HeaderMasks.j0 k a0 a1 (!t251))))) = some r := h
  clear h
  have HC3 := Aside0.mk H
  clear H
  go_enter Tryd.func5, Tryd.ntmps5
  go_upto_region 1 with (fail)
  go_cut [24] (fun v24 wc => ∃ (kq : Nat) (x24_2 : Bool), v24 = .bool x24_2 ∧ Aside0 (dominolaw04_HeaderMasks.j0 kq a0 a1 x24_2 = some r) ∧ Aside0 (kq ≤ k) ∧ Aside0 (Below w.heap.size w wc))
  case first =>
    have H := HC3.out
    clear HC3
    by_cases c4 : (a0.size : Int) > 1200
    · rw [if_pos c4] at H
      have c4b0 : decide (1200 < (a0.size : Int)) = true := decide_eq_true c4
      have c4b1 : decide (1200 < a0.size) = true := decide_eq_true (by omega)
      clear c4
      (first | rw [c4b0] | (simp only [i64_w, i32_w]; rw [c4b0]) | skip)
      have H' := Aside0.mk H
      clear H
      go_wp2
      go_meet
      case rel => exact ⟨_, (true), (by first | rfl | (simp; done) | (simp [*]; done)), H', ⟨by first | omega | exact Nat.le_refl _⟩, ⟨by repeat (first | (with_reducible first | exact HB.out | apply below_alloc | apply pw_below_drewN | apply below_drew1) | exact HB.out)⟩⟩
    · rw [if_neg c4] at H
      have c4b0 : decide (1200 < (a0.size : Int)) = false := decide_eq_false c4
      have c4b1 : decide (1200 < a0.size) = false := decide_eq_false (by omega)
      clear c4
      (first | rw [c4b0] | (simp only [i64_w, i32_w]; rw [c4b0]) | skip)
      by_cases c5 : (a1.size : Int) > 20
      · rw [if_pos c5] at H
        have c5b0 : decide (20 < (a1.size : Int)) = true := decide_eq_true c5
        have c5b1 : decide (20 < a1.size) = true := decide_eq_true (by omega)
        clear c5
        have H' := Aside0.mk H
        clear H
        go_wp2
        go_meet
        case rel => exact ⟨_, (true), (by first | rfl | (simp; done) | (simp [*]; done)), H', ⟨by first | omega | exact Nat.le_refl _⟩, ⟨by repeat (first | (with_reducible first | exact HB.out | apply below_alloc | apply pw_below_drewN | apply below_drew1) | exact HB.out)⟩⟩
      · rw [if_neg c5] at H
        have c5b0 : decide (20 < (a1.size : Int)) = false := decide_eq_false c5
        have c5b1 : decide (20 < a1.size) = false := decide_eq_false (by omega)
        clear c5
        replace H := Option.bind_eq_some_iff.mp H
        obtain ⟨t251, A60, H⟩ := H
        replace H : (dominolaw04_HeaderMasks.j0 k a0 a1 (!t251)) = some r := H
        have A6 := Aside0.mk A60
        clear A60
        have H' := Aside0.mk H
        clear H
        go_wp2_with (first | (go_at_call 11; (with_reducible refine (dominolaw04_shown.calls k  t251 _ (by first | exact HTab.out | exact tab_below HTab.out HB.out | exact (tab_below HTab.out (by repeat (first | (with_reducible first | exact HB.out | apply below_alloc | apply pw_below_drewN | apply below_drew1) | exact HB.out))) | exact tab_below HTab.out (by repeat (first | exact HB.out | exact Below.refl _ _ | apply below_alloc | apply pw_below_drewN | apply below_drew1))) A6.out).mono ?_); rintro e w7 ⟨rfl, hb⟩; have n0_ := Aside0.mk (below_step (by repeat (first | (with_reducible first | exact HB.out | apply below_alloc | apply pw_below_drewN | apply below_drew1) | exact HB.out)) hb); clear HB; have HB := n0_; clear n0_; (try clear hb); (try clear hb2); (try clear hk); (try clear hi)))
        go_meet
        case rel => exact ⟨_, (!t251), (by first | rfl | (simp; done) | (simp [*]; done)), H', ⟨by first | omega | exact Nat.le_refl _⟩, ⟨by repeat (first | (with_reducible first | exact HB.out | apply below_alloc | apply pw_below_drewN | apply below_drew1) | exact HB.out)⟩⟩
  case rest =>
    clear HC3
    try clear p2
    try clear c4
    try clear c4b0
    try clear c4b1
    try clear c5
    try clear c5b0
    try clear c5b1
    obtain ⟨kq, x24_2, rfl, HA, HJ2, HB⟩ := hcut
    cases kq with
    | zero => exact absurd HA.out (by simp [dominolaw04_HeaderMasks.j0])
    | succ kj2 =>
      have H := HA.out
      clear HA
      simp only [dominolaw04_HeaderMasks.j0] at H
      by_cases c8 : x24_2 = true
      · subst c8
        have H1 : ((dominolaw04_shown.f kj2).bind fun t252 => (some t252)) = some r := by rw [if_pos rfl] at H; exact H
        clear H
        have H := H1
        clear H1
        replace H := Option.bind_eq_some_iff.mp H
        obtain ⟨t252, A90, H⟩ := H
        replace H : (some t252) = some r := H
        have A9 := Aside0.mk A90
        clear A90
        obtain rfl := Option.some.inj H
        go_wp2_with (first | ((with_reducible refine gate_callee (f := 11) rfl ?_); refine goesL_ (some 25) rfl rfl Tryd.func11 (by kernel_rfl) rfl #[] rfl (by (try simp only [List.map_toArray, List.map_cons, List.map_nil]); first | done | rfl | (simp only [List.length_drop, List.length_take]; rfl)) ?_; (with_reducible refine (dominolaw04_shown.calls kj2  t252 _ (by first | exact HTab.out | exact tab_below HTab.out HB.out | exact (tab_below HTab.out (by repeat (first | (with_reducible first | exact HB.out | apply below_alloc | apply pw_below_drewN | apply below_drew1) | exact HB.out))) | exact tab_below HTab.out (by repeat (first | exact HB.out | exact Below.refl _ _ | apply below_alloc | apply pw_below_drewN | apply below_drew1))) A9.out).mono ?_); rintro e w10 ⟨rfl, hb⟩; refine ⟨_, rfl, ?_⟩; have n0_ := Aside0.mk (below_step (by repeat (first | (with_reducible first | exact HB.out | apply below_alloc | apply pw_below_drewN | apply below_drew1) | exact HB.out)) hb); clear HB; have HB := n0_; clear n0_; (try clear hb); (try clear hb2); (try clear hk); (try clear hi)))
        go_ret
        exact ⟨by first | rfl | (simp [errW_none, errW_some] <;> rfl) | (simp [*, errW_none, errW_some] <;> rfl), by repeat (first | (with_reducible first | exact HB.out | apply below_alloc | apply pw_below_drewN | apply below_drew1) | exact HB.out)⟩
      · replace c8 := Bool.eq_false_iff.mpr c8
        subst c8
        have H1 : ((header_Mask.f kj2 a0 a1).bind fun bt253 => ((dominoref04_Mask.f kj2 a0 a1).bind fun bt255 => ((header_Unmask.f kj2 a0 a1).bind fun bt257 => ((dominoref04_Unmask.f kj2 a0 a1).bind fun bt259 => (if bt253.1.toList = bt255.1.toList then (if bt253.2 = bt255.2 then (if bt257.1.toList = bt259.1.toList then (some (bt257.2 == bt259.2)) else (none)) else (none)) else (none)))))) = some r := by rw [if_neg (show ¬ (false = true) by decide)] at H; exact H
        clear H
        have H := H1
        clear H1
        replace H := Option.bind_eq_some_iff.mp H
        obtain ⟨⟨t253, t254⟩, A110, H⟩ := H
        replace H : ((dominoref04_Mask.f kj2 a0 a1).bind fun bt255 => ((header_Unmask.f kj2 a0 a1).bind fun bt257 => ((dominoref04_Unmask.f kj2 a0 a1).bind fun bt259 => (if t253.toList = bt255.1.toList then (if t254 = bt255.2 then (if bt257.1.toList = bt259.1.toList then (some (bt257.2 == bt259.2)) else (none)) else (none)) else (none))))) = some r := H
        have A11 := Aside0.mk A110
        clear A110
        replace H := Option.bind_eq_some_iff.mp H
        obtain ⟨⟨t255, t256⟩, A120, H⟩ := H
        replace H : ((header_Unmask.f kj2 a0 a1).bind fun bt257 => ((dominoref04_Unmask.f kj2 a0 a1).bind fun bt259 => (if t253.toList = t255.toList then (if t254 = t256 then (if bt257.1.toList = bt259.1.toList then (some (bt257.2 == bt259.2)) else (none)) else (none)) else (none)))) = some r := H
        have A12 := Aside0.mk A120
        clear A120
        replace H := Option.bind_eq_some_iff.mp H
        obtain ⟨⟨t257, t258⟩, A130, H⟩ := H
        replace H : ((dominoref04_Unmask.f kj2 a0 a1).bind fun bt259 => (if t253.toList = t255.toList then (if t254 = t256 then (if t257.toList = bt259.1.toList then (some (t258 == bt259.2)) else (none)) else (none)) else (none))) = some r := H
        have A13 := Aside0.mk A130
        clear A130
        replace H := Option.bind_eq_some_iff.mp H
        obtain ⟨⟨t259, t260⟩, A140, H⟩ := H
        replace H : (if t253.toList = t255.toList then (if t254 = t256 then (if t257.toList = t259.toList then (some (t258 == t260)) else (none)) else (none)) else (none)) = some r := H
        have A14 := Aside0.mk A140
        clear A140
        by_cases c15 : t253.toList = t255.toList
        · rw [if_pos c15] at H
          have c15b0 : (t253.toList == t255.toList) = true := beq_iff_eq.mpr c15
          have c15b1 : (t253.toList != t255.toList) = false := bne_eq_false_iff_eq.mpr c15
          clear c15
          by_cases c16 : t254 = t256
          · rw [if_pos c16] at H
            have c16b0 : (t254 == t256) = true := beq_iff_eq.mpr c16
            have c16b1 : (t254 != t256) = false := bne_eq_false_iff_eq.mpr c16
            clear c16
            by_cases c17 : t257.toList = t259.toList
            · rw [if_pos c17] at H
              have c17b0 : (t257.toList == t259.toList) = true := beq_iff_eq.mpr c17
              have c17b1 : (t257.toList != t259.toList) = false := bne_eq_false_iff_eq.mpr c17
              clear c17
              obtain rfl := Option.some.inj H
              go_wp2_with (first | ((with_reducible refine gate_callee (f := 20) rfl ?_); refine goesL_ (some 29) rfl rfl Tryd.func20 (by kernel_rfl) rfl #[.string a0, .string a1] rfl (by (try simp only [List.map_toArray, List.map_cons, List.map_nil]); first | done | rfl | (simp only [List.length_drop, List.length_take]; rfl)) ?_; (with_reducible refine (header_Mask.calls kj2 a0 a1 t253 t254 _ A11.out).mono ?_); rintro e w18 ⟨rfl, hb⟩; refine ⟨_, rfl, ?_⟩; have n0_ := Aside0.mk (below_step (by repeat (first | (with_reducible first | exact HB.out | apply below_alloc | apply pw_below_drewN | apply below_drew1) | exact HB.out)) hb); clear HB; have HB := n0_; clear n0_; (try clear hb); (try clear hb2); (try clear hk); (try clear hi)) | ((with_reducible refine gate_callee (f := 21) rfl ?_); refine goesL_ (some 35) rfl rfl Tryd.func21 (by kernel_rfl) rfl #[.string a0, .string a1] rfl (by (try simp only [List.map_toArray, List.map_cons, List.map_nil]); first | done | rfl | (simp only [List.length_drop, List.length_take]; rfl)) ?_; (with_reducible refine (dominoref04_Mask.calls kj2 a0 a1 t255 t256 _ A12.out).mono ?_); rintro e w19 ⟨rfl, hb⟩; refine ⟨_, rfl, ?_⟩; have n0_ := Aside0.mk (below_step (by repeat (first | (with_reducible first | exact HB.out | apply below_alloc | apply pw_below_drewN | apply below_drew1) | exact HB.out)) hb); clear HB; have HB := n0_; clear n0_; (try clear hb); (try clear hb2); (try clear hk); (try clear hi)) | ((with_reducible refine gate_callee (f := 22) rfl ?_); refine goesL_ (some 41) rfl rfl Tryd.func22 (by kernel_rfl) rfl #[.string a0, .string a1] rfl (by (try simp only [List.map_toArray, List.map_cons, List.map_nil]); first | done | rfl | (simp only [List.length_drop, List.length_take]; rfl)) ?_; (with_reducible refine (header_Unmask.calls kj2 a0 a1 t257 t258 _ A13.out).mono ?_); rintro e w20 ⟨rfl, hb⟩; refine ⟨_, rfl, ?_⟩; have n0_ := Aside0.mk (below_step (by repeat (first | (with_reducible first | exact HB.out | apply below_alloc | apply pw_below_drewN | apply below_drew1) | exact HB.out)) hb); clear HB; have HB := n0_; clear n0_; (try clear hb); (try clear hb2); (try clear hk); (try clear hi)) | ((with_reducible refine gate_callee (f := 23) rfl ?_); refine goesL_ (some 47) rfl rfl Tryd.func23 (by kernel_rfl) rfl #[.string a0, .string a1] rfl (by (try simp only [List.map_toArray, List.map_cons, List.map_nil]); first | done | rfl | (simp only [List.length_drop, List.length_take]; rfl)) ?_; (with_reducible refine (dominoref04_Unmask.calls kj2 a0 a1 t259 t260 _ A14.out).mono ?_); rintro e w21 ⟨rfl, hb⟩; refine ⟨_, rfl, ?_⟩; have n0_ := Aside0.mk (below_step (by repeat (first | (with_reducible first | exact HB.out | apply below_alloc | apply pw_below_drewN | apply below_drew1) | exact HB.out)) hb); clear HB; have HB := n0_; clear n0_; (try clear hb); (try clear hb2); (try clear hk); (try clear hi)))
              go_ret
              exact ⟨by first | rfl | (simp [errW_none, errW_some] <;> rfl) | (simp [*, errW_none, errW_some] <;> rfl), by repeat (first | (with_reducible first | exact HB.out | apply below_alloc | apply pw_below_drewN | apply below_drew1) | exact HB.out)⟩
            · rw [if_neg c17] at H
              exact absurd H (by simp)
          · rw [if_neg c16] at H
            exact absurd H (by simp)
        · rw [if_neg c15] at H
          exact absurd H (by simp)

/-- THE ONE PURE STATEMENT of dominolaw04_HeaderMasks: yours. -/
def dominolaw04_HeaderMasks.Pure : Prop := ∀ (a0 : ByteArray) (a1 : ByteArray), a0.size ≤ 140737488351232 → a1.size ≤ 140737488351232 → ∃ k, dominolaw04_HeaderMasks.f k a0 a1 = some true
theorem dominolaw04_HeaderMasks.walk (P : dominolaw04_HeaderMasks.Pure) (a0 : ByteArray) (a1 : ByteArray) (w : World) (w0 : a0.size ≤ 140737488351232) (w1 : a1.size ≤ 140737488351232) (ht : Tab w) :
    Calls Tryd.prog 5 #[.string a0, .string a1] w fun e w' => e = .returned (.bool true) ∧ Below w.heap.size w w' := by
  obtain ⟨k, h⟩ := P a0 a1 w0 w1
  refine (dominolaw04_HeaderMasks.calls k a0 a1 true w ht h).mono ?_
  rintro e w' ⟨rfl, hd⟩
  exact ⟨rfl, hd⟩

end Go.Proofs.YtjpafikgbnloaaaDoor.PHdm
