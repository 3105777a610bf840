-- printed for this claim by a program of the claim (wip/tools/pp.py over the kit's print)
import Derived.Test.YtablpjlhhnfpkaaDoorPVarintRisesx0
import Derived.Test.YtablpjlhhnfpkaaDoorPVarintRisesx1
namespace Go.Proofs.YtablpjlhhnfpkaaDoor.PVarintRises
open Go.RowKit Go.Proofs.YtablpjlhhnfpkaaDoorW.PrintWords Go.Proofs.YtablpjlhhnfpkaaDoorW.PrintLast Go.Proofs.YtablpjlhhnfpkaaDoorW.PrintMore
attribute [local go_sem] max2_int min2_int max_two min_two max_three min_three max_four min_four   -- for this text's walks alone
set_option linter.unusedVariables false
set_option linter.unusedSimpArgs false

attribute [local go_sem] isSome_setCell_
/-! ### dominolaw01_VarintRises: function 6 -/
def dominolaw01_VarintRises.j0 : Nat → Int → Int → ByteArray → ByteArray → Bool → Option (Bool)
  | 0, _, _, _, _, _ => none
  | k + 1, x0, x1, x5, x7, x28 => if x28 = true then ((dominolaw01_shown.f k).bind fun t112 => (some t112)) else (if (x5.size : Int) = (x7.size : Int) then (if ((Op.bytesLess x5.toList x7.toList) == (decide (x0 < x1))) = true then (some ((x5.toList == x7.toList) == (x0 == x1))) else (some false)) else (some ((decide ((x5.size : Int) < (x7.size : Int))) == (decide (x0 < x1)))))
def dominolaw01_VarintRises.f (k : Nat) (a0 : Int) (a1 : Int) : Option (Bool) := (varint_Put.f a0).bind fun bt107 => ((varint_Put.f a1).bind fun bt109 => (if bt107.2 = 0 then (if bt109.2 = 0 then ((dominolaw01_shown.f k).bind fun t111 => (dominolaw01_VarintRises.j0 k a0 a1 bt107.1 bt109.1 (!t111))) else (dominolaw01_VarintRises.j0 k a0 a1 bt107.1 bt109.1 true)) else (dominolaw01_VarintRises.j0 k a0 a1 bt107.1 bt109.1 true)))
theorem dominolaw01_VarintRises.mono_l : ∀ k, (∀ y0 y1 y2 y3 y4, LeO (dominolaw01_VarintRises.j0 k y0 y1 y2 y3 y4) (dominolaw01_VarintRises.j0 (k + 1) y0 y1 y2 y3 y4))
  | 0 => fun _ _ _ _ _ r h => by simp [dominolaw01_VarintRises.j0] at h
  | k + 1 => by
    have ih0 := dominolaw01_VarintRises.mono_l k
    · intro y0 y1 y2 y3 y4
      unfold dominolaw01_VarintRises.j0
      repeat' first
      | (with_reducible exact ih0 _ _ _ _ _)
      | (with_reducible exact dominolaw01_shown.mono _)
      | (with_reducible exact LeO.refl _)
      | (with_reducible exact LeO.none _)
      | (with_reducible refine LeO.ite ?_ ?_)
      | (with_reducible refine LeO.bind ?_ (fun _ => ?_))
      | exact ih0 _ _ _ _ _
      | exact dominolaw01_shown.mono _
      | exact LeO.none _
      | refine LeO.ite ?_ ?_
      | refine LeO.bind ?_ (fun _ => ?_)
theorem dominolaw01_VarintRises.mono : ∀ a0 a1 k, LeO (dominolaw01_VarintRises.f k a0 a1) (dominolaw01_VarintRises.f (k + 1) a0 a1) := by
  intro a0 a1 k
  have ih0 := dominolaw01_VarintRises.mono_l k
  unfold dominolaw01_VarintRises.f
  repeat' first
      | (with_reducible exact ih0 _ _ _ _ _)
      | (with_reducible exact dominolaw01_shown.mono _)
      | (with_reducible exact LeO.refl _)
      | (with_reducible exact LeO.none _)
      | (with_reducible refine LeO.ite ?_ ?_)
      | (with_reducible refine LeO.bind ?_ (fun _ => ?_))
      | exact ih0 _ _ _ _ _
      | exact dominolaw01_shown.mono _
      | exact LeO.none _
      | refine LeO.ite ?_ ?_
      | refine LeO.bind ?_ (fun _ => ?_)
set_option maxHeartbeats 8000000 in
set_option maxRecDepth 100000 in
theorem dominolaw01_VarintRises.calls (k : Nat) (a0 : Int) (a1 : Int) (r : Bool) (w : World) (ht : Tab w) (h : dominolaw01_VarintRises.f k a0 a1 = some r) :
    Calls Tryd.prog 6 #[.int .u64 a0, .int .u64 a1] w fun e w' => e = .returned (.bool r) ∧ Below w.heap.size w w' := by
  have HTab := Aside0.mk ht
  clear ht
  have HB := Aside0.mk (Below.refl w.heap.size w)
  have H : ((varint_Put.f a0).bind fun bt107 => ((varint_Put.f a1).bind fun bt109 => (if bt107.2 = 0 then (if bt109.2 = 0 then ((dominolaw01_shown.f k).bind fun t111 => (dominolaw01_VarintRises.j0 k a0 a1 bt107.1 bt109.1 (!t111))) else (dominolaw01_VarintRises.j0 k a0 a1 bt107.1 bt109.1 true)) else (dominolaw01_VarintRises.j0 k a0 a1 bt107.1 bt109.1 true)))) = some r := h
  clear h
  replace H := Option.bind_eq_some_iff.mp H
  obtain ⟨⟨t107, t108⟩, A30, H⟩ := H
  replace H : ((varint_Put.f a1).bind fun bt109 => (if t108 = 0 then (if bt109.2 = 0 then ((dominolaw01_shown.f k).bind fun t111 => (dominolaw01_VarintRises.j0 k a0 a1 t107 bt109.1 (!t111))) else (dominolaw01_VarintRises.j0 k a0 a1 t107 bt109.1 true)) else (dominolaw01_VarintRises.j0 k a0 a1 t107 bt109.1 true))) = some r := H
  have A3 := Aside0.mk A30
  clear A30
  replace H := Option.bind_eq_some_iff.mp H
  obtain ⟨⟨t109, t110⟩, A40, H⟩ := H
  replace H : (if t108 = 0 then (if t110 = 0 then ((dominolaw01_shown.f k).bind fun t111 => (dominolaw01_VarintRises.j0 k a0 a1 t107 t109 (!t111))) else (dominolaw01_VarintRises.j0 k a0 a1 t107 t109 true)) else (dominolaw01_VarintRises.j0 k a0 a1 t107 t109 true)) = some r := H
  have A4 := Aside0.mk A40
  clear A40
  have HC5 := Aside0.mk H
  clear H
  go_enter Tryd.func6, Tryd.ntmps6
  go_upto_region 3 with (first | ((with_reducible refine gate_callee (f := 10) rfl ?_); refine goesL_ (some 11) rfl rfl Tryd.func10 (by kernel_rfl) rfl #[.int .u64 a0] rfl (by (try simp only [List.map_toArray, List.map_cons, List.map_nil]); first | done | rfl | (simp only [List.length_drop, List.length_take]; rfl)) ?_; (with_reducible refine (varint_Put.calls a0 t107 t108 _ (by first | exact HTab.out | exact tab_below HTab.out HB.out | exact (tab_below HTab.out (by repeat (first | (with_reducible first | exact HB.out | apply below_alloc | apply pw_below_drewN | apply below_drew1) | exact HB.out))) | exact tab_below HTab.out (by repeat (first | exact Below.refl _ _ | apply pw_below_drewN | apply below_drew1))) A3.out).mono ?_); rintro e w6 ⟨rfl, hb⟩; refine ⟨_, rfl, ?_⟩; have n0_ := Aside0.mk (below_step (by repeat (first | (with_reducible first | exact HB.out | apply below_alloc | apply pw_below_drewN | apply below_drew1) | exact HB.out)) hb); clear HB; have HB := n0_; clear n0_; (try clear hb); (try clear hb2); (try clear hk); (try clear hi)) | ((with_reducible refine gate_callee (f := 10) rfl ?_); refine goesL_ (some 16) rfl rfl Tryd.func10 (by kernel_rfl) rfl #[.int .u64 a1] rfl (by (try simp only [List.map_toArray, List.map_cons, List.map_nil]); first | done | rfl | (simp only [List.length_drop, List.length_take]; rfl)) ?_; (with_reducible refine (varint_Put.calls a1 t109 t110 _ (by first | exact HTab.out | exact tab_below HTab.out HB.out | exact (tab_below HTab.out (by repeat (first | (with_reducible first | exact HB.out | apply below_alloc | apply pw_below_drewN | apply below_drew1) | exact HB.out))) | exact tab_below HTab.out (by repeat (first | exact Below.refl _ _ | apply pw_below_drewN | apply below_drew1))) A4.out).mono ?_); rintro e w7 ⟨rfl, hb⟩; refine ⟨_, rfl, ?_⟩; have n0_ := Aside0.mk (below_step (by repeat (first | (with_reducible first | exact HB.out | apply below_alloc | apply pw_below_drewN | apply below_drew1) | exact HB.out)) hb); clear HB; have HB := n0_; clear n0_; (try clear hb); (try clear hb2); (try clear hk); (try clear hi)))
  (try simp only [Act.put, List.setIfInBounds_toArray, List.set_cons_zero, List.set_cons_succ])
  go_cut [28] (fun v28 wc => ∃ (kq : Nat) (x28_4 : Bool), v28 = .bool x28_4 ∧ Aside0 (dominolaw01_VarintRises.j0 kq a0 a1 t107 t109 x28_4 = some r) ∧ Aside0 (kq ≤ k) ∧ Aside0 (Below w.heap.size w wc))
  case first =>
    have H := HC5.out
    clear HC5
    by_cases c8 : t108 = 0
    · rw [if_pos c8] at H
      have c8b0 : (t108 == 0) = true := beq_iff_eq.mpr c8
      have c8b1 : (t108 != 0) = false := bne_eq_false_iff_eq.mpr c8
      clear c8
      (first | rw [c8b0] | (simp only [i64_w, i32_w]; rw [c8b0]) | skip)
      by_cases c9 : t110 = 0
      · rw [if_pos c9] at H
        have c9b0 : (t110 == 0) = true := beq_iff_eq.mpr c9
        have c9b1 : (t110 != 0) = false := bne_eq_false_iff_eq.mpr c9
        clear c9
        replace H := Option.bind_eq_some_iff.mp H
        obtain ⟨t111, A100, H⟩ := H
        replace H : (dominolaw01_VarintRises.j0 k a0 a1 t107 t109 (!t111)) = some r := H
        have A10 := Aside0.mk A100
        clear A100
        have H' := Aside0.mk H
        clear H
        go_wp2_with (first | (go_at_call 9; (with_reducible refine (dominolaw01_shown.calls k  t111 _ (by first | exact HTab.out | exact tab_below HTab.out HB.out | exact (tab_below HTab.out (by repeat (first | (with_reducible first | exact HB.out | apply below_alloc | apply pw_below_drewN | apply below_drew1) | exact HB.out))) | exact tab_below HTab.out (by repeat (first | exact Below.refl _ _ | apply pw_below_drewN | apply below_drew1))) A10.out).mono ?_); rintro e w11 ⟨rfl, hb⟩; have n0_ := Aside0.mk (below_step (by repeat (first | (with_reducible first | exact HB.out | apply below_alloc | apply pw_below_drewN | apply below_drew1) | exact HB.out)) hb); clear HB; have HB := n0_; clear n0_; (try clear hb); (try clear hb2); (try clear hk); (try clear hi)))
        go_meet
        case rel => exact ⟨_, (!t111), (by first | rfl | (simp; done) | (simp [*]; done)), H', ⟨by first | omega | exact Nat.le_refl _⟩, ⟨by repeat (first | (with_reducible first | exact HB.out | apply below_alloc | apply pw_below_drewN | apply below_drew1) | exact HB.out)⟩⟩
      · rw [if_neg c9] at H
        have c9b0 : (t110 == 0) = false := beq_eq_false_iff_ne.mpr c9
        have c9b1 : (t110 != 0) = true := bne_iff_ne.mpr c9
        have H' := Aside0.mk H
        clear H
        go_wp2
        go_meet
        case rel => exact ⟨_, (true), (by first | rfl | (simp; done) | (simp [*]; done)), H', ⟨by first | omega | exact Nat.le_refl _⟩, ⟨by repeat (first | (with_reducible first | exact HB.out | apply below_alloc | apply pw_below_drewN | apply below_drew1) | exact HB.out)⟩⟩
    · rw [if_neg c8] at H
      have c8b0 : (t108 == 0) = false := beq_eq_false_iff_ne.mpr c8
      have c8b1 : (t108 != 0) = true := bne_iff_ne.mpr c8
      (first | rw [c8b0] | (simp only [i64_w, i32_w]; rw [c8b0]) | skip)
      have H' := Aside0.mk H
      clear H
      go_wp2
      go_meet
      case rel => exact ⟨_, (true), (by first | rfl | (simp; done) | (simp [*]; done)), H', ⟨by first | omega | exact Nat.le_refl _⟩, ⟨by repeat (first | (with_reducible first | exact HB.out | apply below_alloc | apply pw_below_drewN | apply below_drew1) | exact HB.out)⟩⟩
  case rest =>
    clear HC5
    try clear c1
    try clear p2
    try clear c6
    try clear c8
    try clear c8b0
    try clear c8b1
    try clear c9
    try clear c9b0
    try clear c9b1
    try clear c10
    obtain ⟨kq, x28_4, rfl, HA, HJ4, HB⟩ := hcut
    cases kq with
    | zero => exact absurd HA.out (by simp [dominolaw01_VarintRises.j0])
    | succ kj4 =>
      have H := HA.out
      clear HA
      simp only [dominolaw01_VarintRises.j0] at H
      by_cases c12 : x28_4 = true
      · subst c12
        have H1 : ((dominolaw01_shown.f kj4).bind fun t112 => (some t112)) = some r := by rw [if_pos rfl] at H; exact H
        clear H
        have H := H1
        clear H1
        replace H := Option.bind_eq_some_iff.mp H
        obtain ⟨t112, A130, H⟩ := H
        replace H : (some t112) = some r := H
        have A13 := Aside0.mk A130
        clear A130
        obtain rfl := Option.some.inj H
        go_wp2_with (first | ((with_reducible refine gate_callee (f := 9) rfl ?_); refine goesL_ (some 29) rfl rfl Tryd.func9 (by kernel_rfl) rfl #[] rfl (by (try simp only [List.map_toArray, List.map_cons, List.map_nil]); first | done | rfl | (simp only [List.length_drop, List.length_take]; rfl)) ?_; (with_reducible refine (dominolaw01_shown.calls kj4  t112 _ (by first | exact HTab.out | exact tab_below HTab.out HB.out | exact (tab_below HTab.out (by repeat (first | (with_reducible first | exact HB.out | apply below_alloc | apply pw_below_drewN | apply below_drew1) | exact HB.out))) | exact tab_below HTab.out (by repeat (first | exact Below.refl _ _ | apply pw_below_drewN | apply below_drew1))) A13.out).mono ?_); rintro e w14 ⟨rfl, hb⟩; refine ⟨_, rfl, ?_⟩; have n0_ := Aside0.mk (below_step (by repeat (first | (with_reducible first | exact HB.out | apply below_alloc | apply pw_below_drewN | apply below_drew1) | exact HB.out)) hb); clear HB; have HB := n0_; clear n0_; (try clear hb); (try clear hb2); (try clear hk); (try clear hi)))
        go_ret
        exact ⟨by first | rfl | (simp [errW_none, errW_some] <;> rfl) | (simp [*, errW_none, errW_some] <;> rfl), by repeat (first | (with_reducible first | exact HB.out | apply below_alloc | apply pw_below_drewN | apply below_drew1) | exact HB.out)⟩
      · replace c12 := Bool.eq_false_iff.mpr c12
        subst c12
        have H1 : (if (t107.size : Int) = (t109.size : Int) then (if ((Op.bytesLess t107.toList t109.toList) == (decide (a0 < a1))) = true then (some ((t107.toList == t109.toList) == (a0 == a1))) else (some false)) else (some ((decide ((t107.size : Int) < (t109.size : Int))) == (decide (a0 < a1))))) = some r := by rw [if_neg (show ¬ (false = true) by decide)] at H; exact H
        clear H
        have H := H1
        clear H1
        by_cases c15 : (t107.size : Int) = (t109.size : Int)
        · rw [if_pos c15] at H
          have c15b0 : ((t107.size : Int) == (t109.size : Int)) = true := beq_iff_eq.mpr c15
          have c15b1 : ((t107.size : Int) != (t109.size : Int)) = false := bne_eq_false_iff_eq.mpr c15
          have c15b2 : (t107.size == t109.size) = true := by first | simpa using c15 | (simp at c15 ⊢; omega)
          clear c15
          by_cases c16 : ((Op.bytesLess t107.toList t109.toList) == (decide (a0 < a1))) = true
          · rw [if_pos c16] at H
            have c16b0 : ((Op.bytesLess t107.toList t109.toList) == (decide (a0 < a1))) = true := c16
            (try (have c16b1 : decide ((Op.bytesLess t107.toList t109.toList) = (decide (a0 < a1))) = true := by simpa using c16))
            (try (have c16b2 : ((Op.bytesLess t107.toList t109.toList) == (decide (a0 < a1))) = true := by simpa using c16))
            clear c16
            obtain rfl := Option.some.inj H
            go_wp2
            go_ret
            exact ⟨by first | rfl | (simp [errW_none, errW_some] <;> rfl) | (simp [*, errW_none, errW_some] <;> rfl), by repeat (first | (with_reducible first | exact HB.out | apply below_alloc | apply pw_below_drewN | apply below_drew1) | exact HB.out)⟩
          · rw [if_neg c16] at H
            have c16b0 : ((Op.bytesLess t107.toList t109.toList) == (decide (a0 < a1))) = false := by simpa using c16
            (try (have c16b1 : decide ((Op.bytesLess t107.toList t109.toList) = (decide (a0 < a1))) = false := by simpa using c16))
            (try (have c16b2 : ((Op.bytesLess t107.toList t109.toList) == (decide (a0 < a1))) = false := by simpa using c16))
            (try (have c16b3 : ¬ ((Op.bytesLess t107.toList t109.toList) = (decide (a0 < a1))) := by simpa using c16))
            clear c16
            obtain rfl := Option.some.inj H
            go_wp2
            go_ret
            exact ⟨by first | rfl | (simp [errW_none, errW_some] <;> rfl) | (simp [*, errW_none, errW_some] <;> rfl), by repeat (first | (with_reducible first | exact HB.out | apply below_alloc | apply pw_below_drewN | apply below_drew1) | exact HB.out)⟩
        · rw [if_neg c15] at H
          have c15b0 : ((t107.size : Int) == (t109.size : Int)) = false := beq_eq_false_iff_ne.mpr c15
          have c15b1 : ((t107.size : Int) != (t109.size : Int)) = true := bne_iff_ne.mpr c15
          have c15b2 : (t107.size == t109.size) = false := by first | simpa using c15 | (simp at c15 ⊢; omega)
          obtain rfl := Option.some.inj H
          go_wp2
          go_ret
          exact ⟨by first | rfl | (simp [errW_none, errW_some] <;> rfl) | (simp [*, errW_none, errW_some] <;> rfl), by repeat (first | (with_reducible first | exact HB.out | apply below_alloc | apply pw_below_drewN | apply below_drew1) | exact HB.out)⟩

/-- THE ONE PURE STATEMENT of dominolaw01_VarintRises: yours. -/
def dominolaw01_VarintRises.Pure : Prop := ∀ (a0 : Int) (a1 : Int), (Lit.int .u64 a0).wf = true → (Lit.int .u64 a1).wf = true → ∃ k, dominolaw01_VarintRises.f k a0 a1 = some true
theorem dominolaw01_VarintRises.walk (P : dominolaw01_VarintRises.Pure) (a0 : Int) (a1 : Int) (w : World) (w0 : (Lit.int .u64 a0).wf = true) (w1 : (Lit.int .u64 a1).wf = true) (ht : Tab w) :
    Calls Tryd.prog 6 #[.int .u64 a0, .int .u64 a1] w fun e w' => e = .returned (.bool true) ∧ Below w.heap.size w w' := by
  obtain ⟨k, h⟩ := P a0 a1 w0 w1
  refine (dominolaw01_VarintRises.calls k a0 a1 true w ht h).mono ?_
  rintro e w' ⟨rfl, hd⟩
  exact ⟨rfl, hd⟩

end Go.Proofs.YtablpjlhhnfpkaaDoor.PVarintRises
