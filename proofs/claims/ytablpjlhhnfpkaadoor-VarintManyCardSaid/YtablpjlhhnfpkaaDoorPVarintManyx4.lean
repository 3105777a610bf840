-- printed for this claim by a program of the claim (wip/tools/pp.py over the kit's print)
import Derived.Test.YtablpjlhhnfpkaaDoorPVarintManyx0
import Derived.Test.YtablpjlhhnfpkaaDoorPVarintManyx1
import Derived.Test.YtablpjlhhnfpkaaDoorPVarintManyx2
import Derived.Test.YtablpjlhhnfpkaaDoorPVarintManyx3
namespace Go.Proofs.YtablpjlhhnfpkaaDoor.PVarintMany
open Go.RowKit Go.Proofs.YtablpjlhhnfpkaaDoorW.PrintWords Go.Proofs.YtablpjlhhnfpkaaDoorW.PrintLast Go.Proofs.YtablpjlhhnfpkaaDoorW.PrintMore
attribute [local go_sem] max2_int min2_int max_two min_two max_three min_three max_four min_four   -- for this text's walks alone
set_option linter.unusedVariables false
set_option linter.unusedSimpArgs false

attribute [local go_sem] isSome_setCell_
/-! ### dominolaw01_VarintMany: function 8 -/
mutual
def dominolaw01_VarintMany.j0 : Nat → List Int → ByteArray → Int → Bool → Option (Bool)
  | 0, _, _, _, _ => none
  | k + 1, x0, x1, x2, x35 => if x35 = true then ((dominolaw01_shown.f k).bind fun t150 => (some t150)) else ((varint_Puts.f x0).bind fun bt151 => ((dominoref01_Puts.f k x0).bind fun bt153 => ((varint_Gets.f k x1 x2).bind fun bt155 => ((dominoref01_Gets.f k x1 x2).bind fun bt160 => (if bt151.1.toList = bt153.1.toList then (if bt151.2 = bt153.2 then ((dominoref01_Same.f k bt155.1 bt160.1).bind fun t165 => (if t165 = true then (if bt155.2.1.toList = bt160.2.1.toList then (dominolaw01_VarintMany.j1 k x0 x1 bt151.1 bt151.2 (bt155.2.2 != bt160.2.2)) else (dominolaw01_VarintMany.j1 k x0 x1 bt151.1 bt151.2 true)) else (dominolaw01_VarintMany.j1 k x0 x1 bt151.1 bt151.2 true))) else (dominolaw01_VarintMany.j1 k x0 x1 bt151.1 bt151.2 true)) else (dominolaw01_VarintMany.j1 k x0 x1 bt151.1 bt151.2 true))))))
def dominolaw01_VarintMany.j1 : Nat → List Int → ByteArray → ByteArray → Int → Bool → Option (Bool)
  | 0, _, _, _, _, _ => none
  | k + 1, x0, x1, x7, x8, x84 => if x84 = true then (some false) else (if x8 = 0 then (if x7.size + x1.size ≤ 9223372036854775807 then ((varint_Gets.f k (x7 ++ x1) (x0.length : Int)).bind fun bt166 => (if bt166.2.2 = 0 then ((dominoref01_Same.f k bt166.1 x0).bind fun t171 => (if t171 = true then (some (bt166.2.1.toList == x1.toList)) else (some false))) else (some false))) else (none)) else (some (x7.toList == ([] : List UInt8))))
end
def dominolaw01_VarintMany.f (k : Nat) (l0 : List Int) (a1 : ByteArray) (a2 : Int) : Option (Bool) := if (l0.length : Int) > 40 then (dominolaw01_VarintMany.j0 k l0 a1 a2 true) else (if (a1.size : Int) > 200 then (dominolaw01_VarintMany.j0 k l0 a1 a2 true) else (if a2 > 100 then (dominolaw01_VarintMany.j0 k l0 a1 a2 true) else ((dominolaw01_shown.f k).bind fun t149 => (dominolaw01_VarintMany.j0 k l0 a1 a2 (!t149)))))
theorem dominolaw01_VarintMany.mono_l : ∀ k, (∀ y0 y1 y2 y3, LeO (dominolaw01_VarintMany.j0 k y0 y1 y2 y3) (dominolaw01_VarintMany.j0 (k + 1) y0 y1 y2 y3)) ∧ (∀ y0 y1 y2 y3 y4, LeO (dominolaw01_VarintMany.j1 k y0 y1 y2 y3 y4) (dominolaw01_VarintMany.j1 (k + 1) y0 y1 y2 y3 y4))
  | 0 => ⟨fun _ _ _ _ r h => by simp [dominolaw01_VarintMany.j0] at h, fun _ _ _ _ _ r h => by simp [dominolaw01_VarintMany.j1] at h⟩
  | k + 1 => by
    obtain ⟨ih0, ih1⟩ := dominolaw01_VarintMany.mono_l k
    refine ⟨?_, ?_⟩
    · intro y0 y1 y2 y3
      unfold dominolaw01_VarintMany.j0
      repeat' first
      | (with_reducible exact ih0 _ _ _ _)
      | (with_reducible exact ih1 _ _ _ _ _)
      | (with_reducible exact dominolaw01_shown.mono _)
      | (with_reducible exact dominoref01_Gets.mono _ _ _)
      | (with_reducible exact dominoref01_Puts.mono _ _)
      | (with_reducible exact dominoref01_Same.mono _ _ _)
      | (with_reducible exact varint_Gets.mono _ _ _)
      | (with_reducible exact LeO.refl _)
      | (with_reducible exact LeO.none _)
      | (with_reducible refine LeO.ite ?_ ?_)
      | (with_reducible refine LeO.bind ?_ (fun _ => ?_))
      | exact ih0 _ _ _ _
      | exact ih1 _ _ _ _ _
      | exact dominolaw01_shown.mono _
      | exact dominoref01_Gets.mono _ _ _
      | exact dominoref01_Puts.mono _ _
      | exact dominoref01_Same.mono _ _ _
      | exact varint_Gets.mono _ _ _
      | exact LeO.none _
      | refine LeO.ite ?_ ?_
      | refine LeO.bind ?_ (fun _ => ?_)
    · intro y0 y1 y2 y3 y4
      unfold dominolaw01_VarintMany.j1
      repeat' first
      | (with_reducible exact ih0 _ _ _ _)
      | (with_reducible exact ih1 _ _ _ _ _)
      | (with_reducible exact dominolaw01_shown.mono _)
      | (with_reducible exact dominoref01_Gets.mono _ _ _)
      | (with_reducible exact dominoref01_Puts.mono _ _)
      | (with_reducible exact dominoref01_Same.mono _ _ _)
      | (with_reducible exact varint_Gets.mono _ _ _)
      | (with_reducible exact LeO.refl _)
      | (with_reducible exact LeO.none _)
      | (with_reducible refine LeO.ite ?_ ?_)
      | (with_reducible refine LeO.bind ?_ (fun _ => ?_))
      | exact ih0 _ _ _ _
      | exact ih1 _ _ _ _ _
      | exact dominolaw01_shown.mono _
      | exact dominoref01_Gets.mono _ _ _
      | exact dominoref01_Puts.mono _ _
      | exact dominoref01_Same.mono _ _ _
      | exact varint_Gets.mono _ _ _
      | exact LeO.none _
      | refine LeO.ite ?_ ?_
      | refine LeO.bind ?_ (fun _ => ?_)
theorem dominolaw01_VarintMany.mono : ∀ a0 a1 a2 k, LeO (dominolaw01_VarintMany.f k a0 a1 a2) (dominolaw01_VarintMany.f (k + 1) a0 a1 a2) := by
  intro a0 a1 a2 k
  obtain ⟨ih0, ih1⟩ := dominolaw01_VarintMany.mono_l k
  unfold dominolaw01_VarintMany.f
  repeat' first
      | (with_reducible exact ih0 _ _ _ _)
      | (with_reducible exact ih1 _ _ _ _ _)
      | (with_reducible exact dominolaw01_shown.mono _)
      | (with_reducible exact dominoref01_Gets.mono _ _ _)
      | (with_reducible exact dominoref01_Puts.mono _ _)
      | (with_reducible exact dominoref01_Same.mono _ _ _)
      | (with_reducible exact varint_Gets.mono _ _ _)
      | (with_reducible exact LeO.refl _)
      | (with_reducible exact LeO.none _)
      | (with_reducible refine LeO.ite ?_ ?_)
      | (with_reducible refine LeO.bind ?_ (fun _ => ?_))
      | exact ih0 _ _ _ _
      | exact ih1 _ _ _ _ _
      | exact dominolaw01_shown.mono _
      | exact dominoref01_Gets.mono _ _ _
      | exact dominoref01_Puts.mono _ _
      | exact dominoref01_Same.mono _ _ _
      | exact varint_Gets.mono _ _ _
      | exact LeO.none _
      | refine LeO.ite ?_ ?_
      | refine LeO.bind ?_ (fun _ => ?_)
set_option maxHeartbeats 8000000 in
set_option maxRecDepth 100000 in
theorem dominolaw01_VarintMany.calls (k : Nat) (A0 : Option Addr) (c0 : Nat) (l0 : List Int) (a1 : ByteArray) (a2 : Int) (r : Bool) (w : World) (hr0 : Kd.C (Kd.int .u64) w A0 l0.length l0) (hc0 : l0.length ≤ c0) (ht : Tab w) (h : dominolaw01_VarintMany.f k l0 a1 a2 = some r) :
    Calls Tryd.prog 8 #[.slice A0 l0.length c0, .string a1, .int .i64 a2] w fun e w' => e = .returned (.bool r) ∧ Below w.heap.size w w' := by
  have HTab := Aside0.mk ht
  clear ht
  have HR0 := Aside0.mk hr0
  have HC0 := Aside0.mk hc0
  clear hr0 hc0
  have HB := Aside0.mk (Below.refl w.heap.size w)
  have H : (if (l0.length : Int) > 40 then (dominolaw01_VarintMany.j0 k l0 a1 a2 true) else (if (a1.size : Int) > 200 then (dominolaw01_VarintMany.j0 k l0 a1 a2 true) else (if a2 > 100 then (dominolaw01_VarintMany.j0 k l0 a1 a2 true) else ((dominolaw01_shown.f k).bind fun t149 => (dominolaw01_VarintMany.j0 k l0 a1 a2 (!t149)))))) = some r := h
  clear h
  have HC4 := Aside0.mk H
  clear H
  go_enter Tryd.func8, Tryd.ntmps8
  go_upto_region 1 with (fail)
  go_cut [35] (fun v35 wc => ∃ (kq : Nat) (x35_3 : Bool), v35 = .bool x35_3 ∧ Aside0 (dominolaw01_VarintMany.j0 kq l0 a1 a2 x35_3 = some r) ∧ Aside0 (kq ≤ k) ∧ Aside0 (Below w.heap.size w wc))
  case first =>
    have H := HC4.out
    clear HC4
    by_cases c5 : (l0.length : Int) > 40
    · rw [if_pos c5] at H
      have c5b0 : decide (40 < (l0.length : Int)) = true := decide_eq_true c5
      have c5b1 : decide (40 < l0.length) = true := decide_eq_true (by omega)
      clear c5
      (first | rw [c5b0] | (simp only [i64_w, i32_w]; rw [c5b0]) | skip)
      have H' := Aside0.mk H
      clear H
      go_wp2
      go_meet
      case rel => exact ⟨_, (true), (by first | rfl | (simp; done) | (simp [*]; done)), H', ⟨by first | omega | exact Nat.le_refl _⟩, ⟨by repeat (first | (with_reducible first | exact HB.out | apply below_alloc | apply pw_below_drewN | apply below_drew1) | exact HB.out)⟩⟩
    · rw [if_neg c5] at H
      have c5b0 : decide (40 < (l0.length : Int)) = false := decide_eq_false c5
      have c5b1 : decide (40 < l0.length) = false := decide_eq_false (by omega)
      clear c5
      (first | rw [c5b0] | (simp only [i64_w, i32_w]; rw [c5b0]) | skip)
      by_cases c6 : (a1.size : Int) > 200
      · rw [if_pos c6] at H
        have c6b0 : decide (200 < (a1.size : Int)) = true := decide_eq_true c6
        have c6b1 : decide (200 < a1.size) = true := decide_eq_true (by omega)
        clear c6
        have H' := Aside0.mk H
        clear H
        go_wp2
        go_meet
        case rel => exact ⟨_, (true), (by first | rfl | (simp; done) | (simp [*]; done)), H', ⟨by first | omega | exact Nat.le_refl _⟩, ⟨by repeat (first | (with_reducible first | exact HB.out | apply below_alloc | apply pw_below_drewN | apply below_drew1) | exact HB.out)⟩⟩
      · rw [if_neg c6] at H
        have c6b0 : decide (200 < (a1.size : Int)) = false := decide_eq_false c6
        have c6b1 : decide (200 < a1.size) = false := decide_eq_false (by omega)
        clear c6
        by_cases c7 : a2 > 100
        · rw [if_pos c7] at H
          have c7b0 : decide (100 < a2) = true := decide_eq_true c7
          clear c7
          have H' := Aside0.mk H
          clear H
          go_wp2
          go_meet
          case rel => exact ⟨_, (true), (by first | rfl | (simp; done) | (simp [*]; done)), H', ⟨by first | omega | exact Nat.le_refl _⟩, ⟨by repeat (first | (with_reducible first | exact HB.out | apply below_alloc | apply pw_below_drewN | apply below_drew1) | exact HB.out)⟩⟩
        · rw [if_neg c7] at H
          have c7b0 : decide (100 < a2) = false := decide_eq_false c7
          clear c7
          replace H := Option.bind_eq_some_iff.mp H
          obtain ⟨t149, A80, H⟩ := H
          replace H : (dominolaw01_VarintMany.j0 k l0 a1 a2 (!t149)) = some r := H
          have A8 := Aside0.mk A80
          clear A80
          have H' := Aside0.mk H
          clear H
          go_wp2_with (first | (go_at_call 9; (with_reducible refine (dominolaw01_shown.calls k  t149 _ (by first | exact HTab.out | exact tab_below HTab.out HB.out | exact (tab_below HTab.out (by repeat (first | (with_reducible first | exact HB.out | apply below_alloc | apply pw_below_drewN | apply below_drew1) | exact HB.out))) | exact tab_below HTab.out (by repeat (first | exact Below.refl _ _ | apply pw_below_drewN | apply below_drew1))) A8.out).mono ?_); rintro e w9 ⟨rfl, hb⟩; have n0_ := Aside0.mk (below_step (by repeat (first | (with_reducible first | exact HB.out | apply below_alloc | apply pw_below_drewN | apply below_drew1) | exact HB.out)) hb); clear HB; have HB := n0_; clear n0_; (try clear hb); (try clear hb2); (try clear hk); (try clear hi)))
          go_meet
          case rel => exact ⟨_, (!t149), (by first | rfl | (simp; done) | (simp [*]; done)), H', ⟨by first | omega | exact Nat.le_refl _⟩, ⟨by repeat (first | (with_reducible first | exact HB.out | apply below_alloc | apply pw_below_drewN | apply below_drew1) | exact HB.out)⟩⟩
  case rest =>
    clear HC4
    try clear p2
    try clear c5
    try clear c5b0
    try clear c5b1
    try clear c6
    try clear c6b0
    try clear c6b1
    try clear c7
    try clear c7b0
    try clear c8
    obtain ⟨kq, x35_3, rfl, HA, HJ3, HB⟩ := hcut
    cases kq with
    | zero => exact absurd HA.out (by simp [dominolaw01_VarintMany.j0])
    | succ kj3 =>
      have H := HA.out
      clear HA
      simp only [dominolaw01_VarintMany.j0] at H
      by_cases c10 : x35_3 = true
      · subst c10
        have H1 : ((dominolaw01_shown.f kj3).bind fun t150 => (some t150)) = some r := by rw [if_pos rfl] at H; exact H
        clear H
        have H := H1
        clear H1
        replace H := Option.bind_eq_some_iff.mp H
        obtain ⟨t150, A110, H⟩ := H
        replace H : (some t150) = some r := H
        have A11 := Aside0.mk A110
        clear A110
        obtain rfl := Option.some.inj H
        go_wp2_with (first | ((with_reducible refine gate_callee (f := 9) rfl ?_); refine goesL_ (some 36) rfl rfl Tryd.func9 (by kernel_rfl) rfl #[] rfl (by (try simp only [List.map_toArray, List.map_cons, List.map_nil]); first | done | rfl | (simp only [List.length_drop, List.length_take]; rfl)) ?_; (with_reducible refine (dominolaw01_shown.calls kj3  t150 _ (by first | exact HTab.out | exact tab_below HTab.out HB.out | exact (tab_below HTab.out (by repeat (first | (with_reducible first | exact HB.out | apply below_alloc | apply pw_below_drewN | apply below_drew1) | exact HB.out))) | exact tab_below HTab.out (by repeat (first | exact Below.refl _ _ | apply pw_below_drewN | apply below_drew1))) A11.out).mono ?_); rintro e w12 ⟨rfl, hb⟩; refine ⟨_, rfl, ?_⟩; have n0_ := Aside0.mk (below_step (by repeat (first | (with_reducible first | exact HB.out | apply below_alloc | apply pw_below_drewN | apply below_drew1) | exact HB.out)) hb); clear HB; have HB := n0_; clear n0_; (try clear hb); (try clear hb2); (try clear hk); (try clear hi)))
        go_ret
        exact ⟨by first | rfl | (simp [errW_none, errW_some] <;> rfl) | (simp [*, errW_none, errW_some] <;> rfl), by repeat (first | (with_reducible first | exact HB.out | apply below_alloc | apply pw_below_drewN | apply below_drew1) | exact HB.out)⟩
      · replace c10 := Bool.eq_false_iff.mpr c10
        subst c10
        have H1 : ((varint_Puts.f l0).bind fun bt151 => ((dominoref01_Puts.f kj3 l0).bind fun bt153 => ((varint_Gets.f kj3 a1 a2).bind fun bt155 => ((dominoref01_Gets.f kj3 a1 a2).bind fun bt160 => (if bt151.1.toList = bt153.1.toList then (if bt151.2 = bt153.2 then ((dominoref01_Same.f kj3 bt155.1 bt160.1).bind fun t165 => (if t165 = true then (if bt155.2.1.toList = bt160.2.1.toList then (dominolaw01_VarintMany.j1 kj3 l0 a1 bt151.1 bt151.2 (bt155.2.2 != bt160.2.2)) else (dominolaw01_VarintMany.j1 kj3 l0 a1 bt151.1 bt151.2 true)) else (dominolaw01_VarintMany.j1 kj3 l0 a1 bt151.1 bt151.2 true))) else (dominolaw01_VarintMany.j1 kj3 l0 a1 bt151.1 bt151.2 true)) else (dominolaw01_VarintMany.j1 kj3 l0 a1 bt151.1 bt151.2 true)))))) = some r := by rw [if_neg (show ¬ (false = true) by decide)] at H; exact H
        clear H
        have H := H1
        clear H1
        replace H := Option.bind_eq_some_iff.mp H
        obtain ⟨⟨t151, t152⟩, A130, H⟩ := H
        replace H : ((dominoref01_Puts.f kj3 l0).bind fun bt153 => ((varint_Gets.f kj3 a1 a2).bind fun bt155 => ((dominoref01_Gets.f kj3 a1 a2).bind fun bt160 => (if t151.toList = bt153.1.toList then (if t152 = bt153.2 then ((dominoref01_Same.f kj3 bt155.1 bt160.1).bind fun t165 => (if t165 = true then (if bt155.2.1.toList = bt160.2.1.toList then (dominolaw01_VarintMany.j1 kj3 l0 a1 t151 t152 (bt155.2.2 != bt160.2.2)) else (dominolaw01_VarintMany.j1 kj3 l0 a1 t151 t152 true)) else (dominolaw01_VarintMany.j1 kj3 l0 a1 t151 t152 true))) else (dominolaw01_VarintMany.j1 kj3 l0 a1 t151 t152 true)) else (dominolaw01_VarintMany.j1 kj3 l0 a1 t151 t152 true))))) = some r := H
        have A13 := Aside0.mk A130
        clear A130
        replace H := Option.bind_eq_some_iff.mp H
        obtain ⟨⟨t153, t154⟩, A140, H⟩ := H
        replace H : ((varint_Gets.f kj3 a1 a2).bind fun bt155 => ((dominoref01_Gets.f kj3 a1 a2).bind fun bt160 => (if t151.toList = t153.toList then (if t152 = t154 then ((dominoref01_Same.f kj3 bt155.1 bt160.1).bind fun t165 => (if t165 = true then (if bt155.2.1.toList = bt160.2.1.toList then (dominolaw01_VarintMany.j1 kj3 l0 a1 t151 t152 (bt155.2.2 != bt160.2.2)) else (dominolaw01_VarintMany.j1 kj3 l0 a1 t151 t152 true)) else (dominolaw01_VarintMany.j1 kj3 l0 a1 t151 t152 true))) else (dominolaw01_VarintMany.j1 kj3 l0 a1 t151 t152 true)) else (dominolaw01_VarintMany.j1 kj3 l0 a1 t151 t152 true)))) = some r := H
        have A14 := Aside0.mk A140
        clear A140
        replace H := Option.bind_eq_some_iff.mp H
        obtain ⟨⟨t155, t156, t157⟩, A150, H⟩ := H
        replace H : ((dominoref01_Gets.f kj3 a1 a2).bind fun bt160 => (if t151.toList = t153.toList then (if t152 = t154 then ((dominoref01_Same.f kj3 t155 bt160.1).bind fun t165 => (if t165 = true then (if t156.toList = bt160.2.1.toList then (dominolaw01_VarintMany.j1 kj3 l0 a1 t151 t152 (t157 != bt160.2.2)) else (dominolaw01_VarintMany.j1 kj3 l0 a1 t151 t152 true)) else (dominolaw01_VarintMany.j1 kj3 l0 a1 t151 t152 true))) else (dominolaw01_VarintMany.j1 kj3 l0 a1 t151 t152 true)) else (dominolaw01_VarintMany.j1 kj3 l0 a1 t151 t152 true))) = some r := H
        have A15 := Aside0.mk A150
        clear A150
        replace H := Option.bind_eq_some_iff.mp H
        obtain ⟨⟨t160, t161, t162⟩, A160, H⟩ := H
        replace H : (if t151.toList = t153.toList then (if t152 = t154 then ((dominoref01_Same.f kj3 t155 t160).bind fun t165 => (if t165 = true then (if t156.toList = t161.toList then (dominolaw01_VarintMany.j1 kj3 l0 a1 t151 t152 (t157 != t162)) else (dominolaw01_VarintMany.j1 kj3 l0 a1 t151 t152 true)) else (dominolaw01_VarintMany.j1 kj3 l0 a1 t151 t152 true))) else (dominolaw01_VarintMany.j1 kj3 l0 a1 t151 t152 true)) else (dominolaw01_VarintMany.j1 kj3 l0 a1 t151 t152 true)) = some r := H
        have A16 := Aside0.mk A160
        clear A160
        have HC17 := Aside0.mk H
        clear H
        go_upto_region 7 with (first | ((with_reducible refine gate_callee (f := 17) rfl ?_); refine goesL_ (some 39) rfl rfl Tryd.func17 (by kernel_rfl) rfl #[.slice A0 l0.length c0] rfl (by (try simp only [List.map_toArray, List.map_cons, List.map_nil]); first | done | rfl | (simp only [List.length_drop, List.length_take]; rfl)) ?_; (with_reducible refine (varint_Puts.calls _ _ l0 t151 t152 _ ?side1 ?side2 (by first | exact HTab.out | exact tab_below HTab.out HB.out | exact (tab_below HTab.out (by repeat (first | (with_reducible first | exact HB.out | apply below_alloc | apply pw_below_drewN | apply below_drew1) | exact HB.out))) | exact tab_below HTab.out (by repeat (first | exact Below.refl _ _ | apply pw_below_drewN | apply below_drew1))) A13.out).mono ?_); (case side1 => repeat (first | exact (Kd.C_below HR0.out HB.out) | (with_reducible refine Kd.C_alloc ?_ _) | (with_reducible refine Kd.C_drewN ?_ _) | (with_reducible refine Kd.C_drew ?_))); (case side2 => exact HC0.out); rintro e w18 ⟨rfl, hb⟩; refine ⟨_, rfl, ?_⟩; have n0_ := Aside0.mk (below_step (by repeat (first | (with_reducible first | exact HB.out | apply below_alloc | apply pw_below_drewN | apply below_drew1) | exact HB.out)) hb); clear HB; have HB := n0_; clear n0_; (try clear hb); (try clear hb2); (try clear hk); (try clear hi)) | ((with_reducible refine gate_callee (f := 18) rfl ?_); refine goesL_ (some 44) rfl rfl Tryd.func18 (by kernel_rfl) rfl #[.slice A0 l0.length c0] rfl (by (try simp only [List.map_toArray, List.map_cons, List.map_nil]); first | done | rfl | (simp only [List.length_drop, List.length_take]; rfl)) ?_; (with_reducible refine (dominoref01_Puts.calls kj3 _ _ l0 t153 t154 _ ?side1 ?side2 A14.out).mono ?_); (case side1 => repeat (first | exact (Kd.C_below HR0.out HB.out) | (with_reducible refine Kd.C_alloc ?_ _) | (with_reducible refine Kd.C_drewN ?_ _) | (with_reducible refine Kd.C_drew ?_))); (case side2 => exact HC0.out); rintro e w19 ⟨rfl, hb⟩; refine ⟨_, rfl, ?_⟩; have n0_ := Aside0.mk (below_step (by repeat (first | (with_reducible first | exact HB.out | apply below_alloc | apply pw_below_drewN | apply below_drew1) | exact HB.out)) hb); clear HB; have HB := n0_; clear n0_; (try clear hb); (try clear hb2); (try clear hk); (try clear hi)) | ((with_reducible refine gate_callee (f := 19) rfl ?_); refine goesL_ (some 50) rfl rfl Tryd.func19 (by kernel_rfl) rfl #[.string a1, .int .i64 a2] rfl (by (try simp only [List.map_toArray, List.map_cons, List.map_nil]); first | done | rfl | (simp only [List.length_drop, List.length_take]; rfl)) ?_; (with_reducible refine (varint_Gets.calls kj3 a1 a2 t155 t156 t157 _ A15.out).mono ?_); rintro e w20 ⟨v158, rfl, ho0, hb⟩; refine ⟨_, rfl, ?_⟩; have n0_ := Aside0.mk (Kd.R_lower ho0 (below_size (by repeat (first | (with_reducible first | exact HB.out | apply below_alloc | apply pw_below_drewN | apply below_drew1) | exact HB.out)))); have n1_ := Aside0.mk (below_step (by repeat (first | (with_reducible first | exact HB.out | apply below_alloc | apply pw_below_drewN | apply below_drew1) | exact HB.out)) hb); clear HB; have HO159 := n0_; have HB := n1_; clear n0_ n1_; (try clear hb); (try clear hb2); (try clear hk); (try clear hi); (try clear ho0)) | ((with_reducible refine gate_callee (f := 20) rfl ?_); refine goesL_ (some 57) rfl rfl Tryd.func20 (by kernel_rfl) rfl #[.string a1, .int .i64 a2] rfl (by (try simp only [List.map_toArray, List.map_cons, List.map_nil]); first | done | rfl | (simp only [List.length_drop, List.length_take]; rfl)) ?_; (with_reducible refine (dominoref01_Gets.calls kj3 a1 a2 t160 t161 t162 _ A16.out).mono ?_); rintro e w21 ⟨v163, rfl, ho0, hb⟩; refine ⟨_, rfl, ?_⟩; have n0_ := Aside0.mk (Kd.R_elder' (by (with_reducible repeat (first | apply Kd.R_alloc | apply Kd.R_drewN | apply Kd.R_drew)); exact HO159.out) (Kd.R_base ho0) hb); have n1_ := Aside0.mk (Kd.R_lower (Kd.R_new' ho0 (Kd.R_lt (by (with_reducible repeat (first | apply Kd.R_alloc | apply Kd.R_drewN | apply Kd.R_drew)); exact HO159.out))) (below_size (by repeat (first | (with_reducible first | exact HB.out | apply below_alloc | apply pw_below_drewN | apply below_drew1) | exact HB.out)))); have n2_ := Aside0.mk (below_step (by repeat (first | (with_reducible first | exact HB.out | apply below_alloc | apply pw_below_drewN | apply below_drew1) | exact HB.out)) hb); clear HO159; clear HB; have HO159 := n0_; have HO164 := n1_; have HB := n2_; clear n0_ n1_ n2_; (try clear hb); (try clear hb2); (try clear hk); (try clear hi); (try clear ho0)))
        (try simp only [Act.put, List.setIfInBounds_toArray, List.set_cons_zero, List.set_cons_succ])
        go_cut [84] (fun v84 wc => ∃ (kq : Nat) (x84_16 : Bool), v84 = .bool x84_16 ∧ Aside0 (dominolaw01_VarintMany.j1 kq l0 a1 t151 t152 x84_16 = some r) ∧ Aside0 (kq ≤ kj3) ∧ Aside0 (Below w.heap.size w wc))
        case first =>
          have H := HC17.out
          clear HC17
          by_cases c22 : t151.toList = t153.toList
          · rw [if_pos c22] at H
            have c22b0 : (t151.toList == t153.toList) = true := beq_iff_eq.mpr c22
            have c22b1 : (t151.toList != t153.toList) = false := bne_eq_false_iff_eq.mpr c22
            clear c22
            (first | rw [c22b0] | (simp only [i64_w, i32_w]; rw [c22b0]) | skip)
            by_cases c23 : t152 = t154
            · rw [if_pos c23] at H
              have c23b0 : (t152 == t154) = true := beq_iff_eq.mpr c23
              have c23b1 : (t152 != t154) = false := bne_eq_false_iff_eq.mpr c23
              clear c23
              replace H := Option.bind_eq_some_iff.mp H
              obtain ⟨t165, A240, H⟩ := H
              replace H : (if t165 = true then (if t156.toList = t161.toList then (dominolaw01_VarintMany.j1 kj3 l0 a1 t151 t152 (t157 != t162)) else (dominolaw01_VarintMany.j1 kj3 l0 a1 t151 t152 true)) else (dominolaw01_VarintMany.j1 kj3 l0 a1 t151 t152 true)) = some r := H
              have A24 := Aside0.mk A240
              clear A240
              by_cases c25 : t165 = true
              · subst c25
                have H1 : (if t156.toList = t161.toList then (dominolaw01_VarintMany.j1 kj3 l0 a1 t151 t152 (t157 != t162)) else (dominolaw01_VarintMany.j1 kj3 l0 a1 t151 t152 true)) = some r := by rw [if_pos rfl] at H; exact H
                clear H
                have H := H1
                clear H1
                by_cases c26 : t156.toList = t161.toList
                · rw [if_pos c26] at H
                  have c26b0 : (t156.toList == t161.toList) = true := beq_iff_eq.mpr c26
                  have c26b1 : (t156.toList != t161.toList) = false := bne_eq_false_iff_eq.mpr c26
                  clear c26
                  have H' := Aside0.mk H
                  clear H
                  obtain ⟨Ao27, co27, eo27⟩ := Kd.R_slice HO159.out
                  subst eo27
                  obtain ⟨Ao28, co28, eo28⟩ := Kd.R_slice HO164.out
                  subst eo28
                  go_wp2_with (first | (go_at_call 21; (with_reducible refine (dominoref01_Same.calls kj3 _ _ t155 _ _ t160 true _ ?side1 ?side2 ?side3 ?side4 A24.out).mono ?_); (case side1 => repeat (first | exact (Kd.R_reads' HO159.out).2.2 | (with_reducible refine Kd.C_alloc ?_ _) | (with_reducible refine Kd.C_drewN ?_ _) | (with_reducible refine Kd.C_drew ?_))); (case side2 => exact (Kd.R_reads' HO159.out).2.1); (case side3 => repeat (first | exact (Kd.R_reads' HO164.out).2.2 | (with_reducible refine Kd.C_alloc ?_ _) | (with_reducible refine Kd.C_drewN ?_ _) | (with_reducible refine Kd.C_drew ?_))); (case side4 => exact (Kd.R_reads' HO164.out).2.1); rintro e w' ⟨rfl, ⟨nd, rfl⟩⟩))
                  go_meet
                  case rel => exact ⟨_, ((t157 != t162)), (by first | rfl | (simp; done) | (simp [*]; done)), H', ⟨by have := HJ3.out; first | omega | exact Nat.le_refl _⟩, ⟨by repeat (first | (with_reducible first | exact HB.out | apply below_alloc | apply pw_below_drewN | apply below_drew1) | exact HB.out)⟩⟩
                · rw [if_neg c26] at H
                  have c26b0 : (t156.toList == t161.toList) = false := beq_eq_false_iff_ne.mpr c26
                  have c26b1 : (t156.toList != t161.toList) = true := bne_iff_ne.mpr c26
                  have H' := Aside0.mk H
                  clear H
                  obtain ⟨Ao29, co29, eo29⟩ := Kd.R_slice HO159.out
                  subst eo29
                  obtain ⟨Ao30, co30, eo30⟩ := Kd.R_slice HO164.out
                  subst eo30
                  go_wp2_with (first | (go_at_call 21; (with_reducible refine (dominoref01_Same.calls kj3 _ _ t155 _ _ t160 true _ ?side1 ?side2 ?side3 ?side4 A24.out).mono ?_); (case side1 => repeat (first | exact (Kd.R_reads' HO159.out).2.2 | (with_reducible refine Kd.C_alloc ?_ _) | (with_reducible refine Kd.C_drewN ?_ _) | (with_reducible refine Kd.C_drew ?_))); (case side2 => exact (Kd.R_reads' HO159.out).2.1); (case side3 => repeat (first | exact (Kd.R_reads' HO164.out).2.2 | (with_reducible refine Kd.C_alloc ?_ _) | (with_reducible refine Kd.C_drewN ?_ _) | (with_reducible refine Kd.C_drew ?_))); (case side4 => exact (Kd.R_reads' HO164.out).2.1); rintro e w' ⟨rfl, ⟨nd, rfl⟩⟩))
                  go_meet
                  case rel => exact ⟨_, (true), (by first | rfl | (simp; done) | (simp [*]; done)), H', ⟨by have := HJ3.out; first | omega | exact Nat.le_refl _⟩, ⟨by repeat (first | (with_reducible first | exact HB.out | apply below_alloc | apply pw_below_drewN | apply below_drew1) | exact HB.out)⟩⟩
              · replace c25 := Bool.eq_false_iff.mpr c25
                subst c25
                have H1 : (dominolaw01_VarintMany.j1 kj3 l0 a1 t151 t152 true) = some r := by rw [if_neg (show ¬ (false = true) by decide)] at H; exact H
                clear H
                have H := H1
                clear H1
                have H' := Aside0.mk H
                clear H
                obtain ⟨Ao31, co31, eo31⟩ := Kd.R_slice HO159.out
                subst eo31
                obtain ⟨Ao32, co32, eo32⟩ := Kd.R_slice HO164.out
                subst eo32
                go_wp2_with (first | (go_at_call 21; (with_reducible refine (dominoref01_Same.calls kj3 _ _ t155 _ _ t160 false _ ?side1 ?side2 ?side3 ?side4 A24.out).mono ?_); (case side1 => repeat (first | exact (Kd.R_reads' HO159.out).2.2 | (with_reducible refine Kd.C_alloc ?_ _) | (with_reducible refine Kd.C_drewN ?_ _) | (with_reducible refine Kd.C_drew ?_))); (case side2 => exact (Kd.R_reads' HO159.out).2.1); (case side3 => repeat (first | exact (Kd.R_reads' HO164.out).2.2 | (with_reducible refine Kd.C_alloc ?_ _) | (with_reducible refine Kd.C_drewN ?_ _) | (with_reducible refine Kd.C_drew ?_))); (case side4 => exact (Kd.R_reads' HO164.out).2.1); rintro e w' ⟨rfl, ⟨nd, rfl⟩⟩))
                go_meet
                case rel => exact ⟨_, (true), (by first | rfl | (simp; done) | (simp [*]; done)), H', ⟨by have := HJ3.out; first | omega | exact Nat.le_refl _⟩, ⟨by repeat (first | (with_reducible first | exact HB.out | apply below_alloc | apply pw_below_drewN | apply below_drew1) | exact HB.out)⟩⟩
            · rw [if_neg c23] at H
              have c23b0 : (t152 == t154) = false := beq_eq_false_iff_ne.mpr c23
              have c23b1 : (t152 != t154) = true := bne_iff_ne.mpr c23
              have H' := Aside0.mk H
              clear H
              go_wp2
              go_meet
              case rel => exact ⟨_, (true), (by first | rfl | (simp; done) | (simp [*]; done)), H', ⟨by have := HJ3.out; first | omega | exact Nat.le_refl _⟩, ⟨by repeat (first | (with_reducible first | exact HB.out | apply below_alloc | apply pw_below_drewN | apply below_drew1) | exact HB.out)⟩⟩
          · rw [if_neg c22] at H
            have c22b0 : (t151.toList == t153.toList) = false := beq_eq_false_iff_ne.mpr c22
            have c22b1 : (t151.toList != t153.toList) = true := bne_iff_ne.mpr c22
            (first | rw [c22b0] | (simp only [i64_w, i32_w]; rw [c22b0]) | skip)
            have H' := Aside0.mk H
            clear H
            go_wp2
            go_meet
            case rel => exact ⟨_, (true), (by first | rfl | (simp; done) | (simp [*]; done)), H', ⟨by have := HJ3.out; first | omega | exact Nat.le_refl _⟩, ⟨by repeat (first | (with_reducible first | exact HB.out | apply below_alloc | apply pw_below_drewN | apply below_drew1) | exact HB.out)⟩⟩
        case rest =>
          clear HC17
          try clear c1
          try clear c2
          try clear p2
          try clear c5
          try clear c5b0
          try clear c5b1
          try clear c6
          try clear c6b0
          try clear c6b1
          try clear c7
          try clear c7b0
          try clear c8
          try clear c9
          try clear c10
          try clear c17
          try clear c18
          try clear c19
          try clear c20
          try clear c22
          try clear c22b0
          try clear c22b1
          try clear c23
          try clear c23b0
          try clear c23b1
          try clear c25
          try clear c26
          try clear c26b0
          try clear c26b1
          try clear p2
          obtain ⟨kq, x84_16, rfl, HA, HJ16, HB⟩ := hcut
          cases kq with
          | zero => exact absurd HA.out (by simp [dominolaw01_VarintMany.j1])
          | succ kj16 =>
            have H := HA.out
            clear HA
            simp only [dominolaw01_VarintMany.j1] at H
            by_cases c33 : x84_16 = true
            · subst c33
              have H1 : (some false) = some r := by rw [if_pos rfl] at H; exact H
              clear H
              have H := H1
              clear H1
              obtain rfl := Option.some.inj H
              go_wp2
              go_ret
              exact ⟨by first | rfl | (simp [errW_none, errW_some] <;> rfl) | (simp [*, errW_none, errW_some] <;> rfl), by repeat (first | (with_reducible first | exact HB.out | apply below_alloc | apply pw_below_drewN | apply below_drew1) | exact HB.out)⟩
            · replace c33 := Bool.eq_false_iff.mpr c33
              subst c33
              have H1 : (if t152 = 0 then (if t151.size + a1.size ≤ 9223372036854775807 then ((varint_Gets.f kj16 (t151 ++ a1) (l0.length : Int)).bind fun bt166 => (if bt166.2.2 = 0 then ((dominoref01_Same.f kj16 bt166.1 l0).bind fun t171 => (if t171 = true then (some (bt166.2.1.toList == a1.toList)) else (some false))) else (some false))) else (none)) else (some (t151.toList == ([] : List UInt8)))) = some r := by rw [if_neg (show ¬ (false = true) by decide)] at H; exact H
              clear H
              have H := H1
              clear H1
              by_cases c34 : t152 = 0
              · rw [if_pos c34] at H
                have c34b0 : (t152 == 0) = true := beq_iff_eq.mpr c34
                have c34b1 : (t152 != 0) = false := bne_eq_false_iff_eq.mpr c34
                clear c34
                by_cases c35 : t151.size + a1.size ≤ 9223372036854775807
                · rw [if_pos c35] at H
                  have c35b0 := eq_true c35
                  have c35b1 : decide (t151.size + a1.size ≤ 9223372036854775807) = true := decide_eq_true c35
                  try have c35b2 : (9223372036854775807 < t151.size + a1.size) = False := eq_false (Nat.not_lt.2 c35)
                  replace H := Option.bind_eq_some_iff.mp H
                  obtain ⟨⟨t166, t167, t168⟩, A360, H⟩ := H
                  replace H : (if t168 = 0 then ((dominoref01_Same.f kj16 t166 l0).bind fun t171 => (if t171 = true then (some (t167.toList == a1.toList)) else (some false))) else (some false)) = some r := H
                  have A36 := Aside0.mk A360
                  clear A360
                  by_cases c37 : t168 = 0
                  · rw [if_pos c37] at H
                    have c37b0 : (t168 == 0) = true := beq_iff_eq.mpr c37
                    have c37b1 : (t168 != 0) = false := bne_eq_false_iff_eq.mpr c37
                    clear c37
                    replace H := Option.bind_eq_some_iff.mp H
                    obtain ⟨t171, A380, H⟩ := H
                    replace H : (if t171 = true then (some (t167.toList == a1.toList)) else (some false)) = some r := H
                    have A38 := Aside0.mk A380
                    clear A380
                    by_cases c39 : t171 = true
                    · subst c39
                      have H1 : (some (t167.toList == a1.toList)) = some r := by rw [if_pos rfl] at H; exact H
                      clear H
                      have H := H1
                      clear H1
                      obtain rfl := Option.some.inj H
                      go_wp2_with (first | ((with_reducible refine gate_callee (f := 19) rfl ?_); refine goesL_ (some 95) rfl rfl Tryd.func19 (by kernel_rfl) rfl #[.string (t151 ++ a1), .int .i64 (l0.length : Int)] rfl (by (try simp only [List.map_toArray, List.map_cons, List.map_nil]); first | done | rfl | (simp only [List.length_drop, List.length_take]; rfl)) ?_; (with_reducible refine (varint_Gets.calls kj16 (t151 ++ a1) (l0.length : Int) t166 t167 t168 _ A36.out).mono ?_); rintro e w40 ⟨v169, rfl, ho0, hb⟩; refine ⟨_, rfl, ?_⟩; have n0_ := Aside0.mk (Kd.R_lower ho0 (below_size (by repeat (first | (with_reducible first | exact HB.out | apply below_alloc | apply pw_below_drewN | apply below_drew1) | exact HB.out)))); have n1_ := Aside0.mk (below_step (by repeat (first | (with_reducible first | exact HB.out | apply below_alloc | apply pw_below_drewN | apply below_drew1) | exact HB.out)) hb); clear HB; have HO170 := n0_; have HB := n1_; clear n0_ n1_; (try clear hb); (try clear hb2); (try clear hk); (try clear hi); (try clear ho0); obtain ⟨Ao41, co41, eo41⟩ := Kd.R_slice HO170.out; subst eo41) | (go_at_call 21; (with_reducible refine (dominoref01_Same.calls kj16 _ _ t166 _ _ l0 true _ ?side1 ?side2 ?side3 ?side4 A38.out).mono ?_); (case side1 => repeat (first | exact (Kd.R_reads' HO170.out).2.2 | (with_reducible refine Kd.C_alloc ?_ _) | (with_reducible refine Kd.C_drewN ?_ _) | (with_reducible refine Kd.C_drew ?_))); (case side2 => exact (Kd.R_reads' HO170.out).2.1); (case side3 => repeat (first | exact (Kd.C_below HR0.out HB.out) | (with_reducible refine Kd.C_alloc ?_ _) | (with_reducible refine Kd.C_drewN ?_ _) | (with_reducible refine Kd.C_drew ?_))); (case side4 => exact HC0.out); rintro e w' ⟨rfl, ⟨nd, rfl⟩⟩))
                      go_ret
                      exact ⟨by first | rfl | (simp [errW_none, errW_some] <;> rfl) | (simp [*, errW_none, errW_some] <;> rfl), by repeat (first | (with_reducible first | exact HB.out | apply below_alloc | apply pw_below_drewN | apply below_drew1) | exact HB.out)⟩
                    · replace c39 := Bool.eq_false_iff.mpr c39
                      subst c39
                      have H1 : (some false) = some r := by rw [if_neg (show ¬ (false = true) by decide)] at H; exact H
                      clear H
                      have H := H1
                      clear H1
                      obtain rfl := Option.some.inj H
                      go_wp2_with (first | ((with_reducible refine gate_callee (f := 19) rfl ?_); refine goesL_ (some 95) rfl rfl Tryd.func19 (by kernel_rfl) rfl #[.string (t151 ++ a1), .int .i64 (l0.length : Int)] rfl (by (try simp only [List.map_toArray, List.map_cons, List.map_nil]); first | done | rfl | (simp only [List.length_drop, List.length_take]; rfl)) ?_; (with_reducible refine (varint_Gets.calls kj16 (t151 ++ a1) (l0.length : Int) t166 t167 t168 _ A36.out).mono ?_); rintro e w42 ⟨v169, rfl, ho0, hb⟩; refine ⟨_, rfl, ?_⟩; have n0_ := Aside0.mk (Kd.R_lower ho0 (below_size (by repeat (first | (with_reducible first | exact HB.out | apply below_alloc | apply pw_below_drewN | apply below_drew1) | exact HB.out)))); have n1_ := Aside0.mk (below_step (by repeat (first | (with_reducible first | exact HB.out | apply below_alloc | apply pw_below_drewN | apply below_drew1) | exact HB.out)) hb); clear HB; have HO170 := n0_; have HB := n1_; clear n0_ n1_; (try clear hb); (try clear hb2); (try clear hk); (try clear hi); (try clear ho0); obtain ⟨Ao43, co43, eo43⟩ := Kd.R_slice HO170.out; subst eo43) | (go_at_call 21; (with_reducible refine (dominoref01_Same.calls kj16 _ _ t166 _ _ l0 false _ ?side1 ?side2 ?side3 ?side4 A38.out).mono ?_); (case side1 => repeat (first | exact (Kd.R_reads' HO170.out).2.2 | (with_reducible refine Kd.C_alloc ?_ _) | (with_reducible refine Kd.C_drewN ?_ _) | (with_reducible refine Kd.C_drew ?_))); (case side2 => exact (Kd.R_reads' HO170.out).2.1); (case side3 => repeat (first | exact (Kd.C_below HR0.out HB.out) | (with_reducible refine Kd.C_alloc ?_ _) | (with_reducible refine Kd.C_drewN ?_ _) | (with_reducible refine Kd.C_drew ?_))); (case side4 => exact HC0.out); rintro e w' ⟨rfl, ⟨nd, rfl⟩⟩))
                      go_ret
                      exact ⟨by first | rfl | (simp [errW_none, errW_some] <;> rfl) | (simp [*, errW_none, errW_some] <;> rfl), by repeat (first | (with_reducible first | exact HB.out | apply below_alloc | apply pw_below_drewN | apply below_drew1) | exact HB.out)⟩
                  · rw [if_neg c37] at H
                    have c37b0 : (t168 == 0) = false := beq_eq_false_iff_ne.mpr c37
                    have c37b1 : (t168 != 0) = true := bne_iff_ne.mpr c37
                    obtain rfl := Option.some.inj H
                    go_wp2_with (first | ((with_reducible refine gate_callee (f := 19) rfl ?_); refine goesL_ (some 95) rfl rfl Tryd.func19 (by kernel_rfl) rfl #[.string (t151 ++ a1), .int .i64 (l0.length : Int)] rfl (by (try simp only [List.map_toArray, List.map_cons, List.map_nil]); first | done | rfl | (simp only [List.length_drop, List.length_take]; rfl)) ?_; (with_reducible refine (varint_Gets.calls kj16 (t151 ++ a1) (l0.length : Int) t166 t167 t168 _ A36.out).mono ?_); rintro e w44 ⟨v169, rfl, ho0, hb⟩; refine ⟨_, rfl, ?_⟩; have n0_ := Aside0.mk (Kd.R_lower ho0 (below_size (by repeat (first | (with_reducible first | exact HB.out | apply below_alloc | apply pw_below_drewN | apply below_drew1) | exact HB.out)))); have n1_ := Aside0.mk (below_step (by repeat (first | (with_reducible first | exact HB.out | apply below_alloc | apply pw_below_drewN | apply below_drew1) | exact HB.out)) hb); clear HB; have HO170 := n0_; have HB := n1_; clear n0_ n1_; (try clear hb); (try clear hb2); (try clear hk); (try clear hi); (try clear ho0)))
                    go_ret
                    exact ⟨by first | rfl | (simp [errW_none, errW_some] <;> rfl) | (simp [*, errW_none, errW_some] <;> rfl), by repeat (first | (with_reducible first | exact HB.out | apply below_alloc | apply pw_below_drewN | apply below_drew1) | exact HB.out)⟩
                · rw [if_neg c35] at H
                  exact absurd H (by simp)
              · rw [if_neg c34] at H
                have c34b0 : (t152 == 0) = false := beq_eq_false_iff_ne.mpr c34
                have c34b1 : (t152 != 0) = true := bne_iff_ne.mpr c34
                obtain rfl := Option.some.inj H
                go_wp2
                go_ret
                exact ⟨by first | rfl | (simp [errW_none, errW_some] <;> rfl) | (simp [*, errW_none, errW_some] <;> rfl), by repeat (first | (with_reducible first | exact HB.out | apply below_alloc | apply pw_below_drewN | apply below_drew1) | exact HB.out)⟩

/-- THE ONE PURE STATEMENT of dominolaw01_VarintMany: yours. -/
def dominolaw01_VarintMany.Pure : Prop := ∀ (l0 : List Int) (a1 : ByteArray) (a2 : Int), l0.length ≤ maxLen → l0.length * 8 ≤ 140737488351232 → (∀ x ∈ l0, (Lit.int .u64 x).wf = true) → a1.size ≤ 140737488351232 → (Lit.int .i64 a2).wf = true → ∃ k, dominolaw01_VarintMany.f k l0 a1 a2 = some true
theorem dominolaw01_VarintMany.walk (P : dominolaw01_VarintMany.Pure) (a0 : Option Addr) (len0 cap0 : Nat) (z0 : List Int) (a1 : ByteArray) (a2 : Int) (w : World) (w0 : (a0 = none ∧ len0 = 0 ∧ cap0 = 0 ∧ z0 = []) ∨ ∃ x, a0 = some x ∧ len0 ≤ cap0 ∧ cap0 ≤ maxLen ∧ z0.length = cap0 ∧ (∀ i, i < z0.length → w.cell? (x.add i) = some (.int .u64 (z0.getD i 0))) ∧ ∀ n ∈ z0, (Lit.int .u64 n).wf = true) (y0 : len0 * 8 ≤ 140737488351232) (w1 : a1.size ≤ 140737488351232) (w2 : (Lit.int .i64 a2).wf = true) (ht : Tab w) :
    Calls Tryd.prog 8 #[.slice a0 len0 cap0, .string a1, .int .i64 a2] w fun e w' => e = .returned (.bool true) ∧ Below w.heap.size w w' := by
  obtain ⟨l0, rfl, hr0, hm0, hw0, hc0⟩ := ReadsInt.ofRowC w0
  obtain ⟨k, h⟩ := P l0 a1 a2 hm0 y0 hw0 w1 w2
  refine (dominolaw01_VarintMany.calls k _ _ l0 a1 a2 true w (Kd.C_of_reads (d := (0 : Int)) (h1 := fun _ => rfl) hr0) hc0 ht h).mono ?_
  rintro e w' ⟨rfl, hd⟩
  exact ⟨rfl, hd⟩

end Go.Proofs.YtablpjlhhnfpkaaDoor.PVarintMany
