-- printed for this claim by a program of the claim (wip/tools/pp.py over the kit's print)
import Derived.Test.YtghdmlcmoeoohaaPKfxx0
import Derived.Test.YtghdmlcmoeoohaaPKfxx5
import Derived.Test.YtghdmlcmoeoohaaPKfxx6
import Derived.Test.YtghdmlcmoeoohaaPKfxx7
import Derived.Test.YtghdmlcmoeoohaaPKfxx10
namespace Go.Proofs.Ytghdmlcmoeoohaa.PKfx
open Go.RowKit Go.Proofs.YtghdmlcmoeoohaaW.PrintWords Go.Proofs.YtghdmlcmoeoohaaW.PrintLast Go.Proofs.YtghdmlcmoeoohaaW.PrintMore
attribute [local go_sem] max2_int min2_int max_two min_two max_three min_three max_four min_four   -- for this text's walks alone
set_option linter.unusedVariables false
set_option linter.unusedSimpArgs false

attribute [local go_sem] isSome_setCell_
/-! ### dominolaw08_KdfExpands: function 3 -/
def dominolaw08_KdfExpands.j0 : Nat → ByteArray → ByteArray → ByteArray → ByteArray → Int → Bool → Option (Bool)
 | 0, _, _, _, _, _, _ => none
 | k + 1, x0, x1, x2, x3, x4, x48 => if x48 = true then ((dominolaw08_shown.f k).bind fun t205 => (some t205)) else ((kdf_Expand.f k x0 x1 x4).bind fun bt206 => ((dominoref08_Expand.f k x0 x1 x4).bind fun bt208 => ((kdf_Label.f k x0 x2 x3 x4).bind fun bt210 => ((dominoref08_Label.f k x0 x2 x3 x4).bind fun bt212 => (if bt206.1.toList = bt208.1.toList then (if bt206.2 = bt208.2 then (if bt210.1.toList = bt212.1.toList then (some (bt210.2 == bt212.2)) else (none)) else (none)) else (none))))))
def dominolaw08_KdfExpands.f (k : Nat) (a0 : ByteArray) (a1 : ByteArray) (a2 : ByteArray) (a3 : ByteArray) (a4 : Int) : Option (Bool) := if (a0.size : Int) > 100 then (dominolaw08_KdfExpands.j0 k a0 a1 a2 a3 a4 true) else (if (a1.size : Int) > 100 then (dominolaw08_KdfExpands.j0 k a0 a1 a2 a3 a4 true) else (if (a2.size : Int) > 260 then (dominolaw08_KdfExpands.j0 k a0 a1 a2 a3 a4 true) else (if (a3.size : Int) > 260 then (dominolaw08_KdfExpands.j0 k a0 a1 a2 a3 a4 true) else (if a4 > 200 then (if a4 ≤ 8160 then (dominolaw08_KdfExpands.j0 k a0 a1 a2 a3 a4 true) else ((dominolaw08_shown.f k).bind fun t203 => (dominolaw08_KdfExpands.j0 k a0 a1 a2 a3 a4 (!t203)))) else ((dominolaw08_shown.f k).bind fun t204 => (dominolaw08_KdfExpands.j0 k a0 a1 a2 a3 a4 (!t204)))))))
theorem dominolaw08_KdfExpands.mono_l : ∀ k, (∀ y0 y1 y2 y3 y4 y5, LeO (dominolaw08_KdfExpands.j0 k y0 y1 y2 y3 y4 y5) (dominolaw08_KdfExpands.j0 (k + 1) y0 y1 y2 y3 y4 y5))
 | 0 => fun _ _ _ _ _ _ r h => by simp [dominolaw08_KdfExpands.j0] at h
 | k + 1 => by
  have ih0 := dominolaw08_KdfExpands.mono_l k
  ·intro y0 y1 y2 y3 y4 y5
   unfold dominolaw08_KdfExpands.j0
   repeat' first
   | (with_reducible exact ih0 _ _ _ _ _ _)
   | (with_reducible exact dominolaw08_shown.mono _)
   | (with_reducible exact dominoref08_Expand.mono _ _ _ _)
   | (with_reducible exact dominoref08_Label.mono _ _ _ _ _)
   | (with_reducible exact kdf_Expand.mono _ _ _ _)
   | (with_reducible exact kdf_Label.mono _ _ _ _ _)
   | (with_reducible exact LeO.refl _)
   | (with_reducible exact LeO.none _)
   | (with_reducible refine LeO.ite ?_ ?_)
   | (with_reducible refine LeO.bind ?_ (fun _ => ?_))
   | exact ih0 _ _ _ _ _ _
   | exact dominolaw08_shown.mono _
   | exact dominoref08_Expand.mono _ _ _ _
   | exact dominoref08_Label.mono _ _ _ _ _
   | exact kdf_Expand.mono _ _ _ _
   | exact kdf_Label.mono _ _ _ _ _
   | exact LeO.none _
   | refine LeO.ite ?_ ?_
   | refine LeO.bind ?_ (fun _ => ?_)
theorem dominolaw08_KdfExpands.mono : ∀ a0 a1 a2 a3 a4 k, LeO (dominolaw08_KdfExpands.f k a0 a1 a2 a3 a4) (dominolaw08_KdfExpands.f (k + 1) a0 a1 a2 a3 a4) := by
 intro a0 a1 a2 a3 a4 k
 have ih0 := dominolaw08_KdfExpands.mono_l k
 unfold dominolaw08_KdfExpands.f
 repeat' first
   | (with_reducible exact ih0 _ _ _ _ _ _)
   | (with_reducible exact dominolaw08_shown.mono _)
   | (with_reducible exact dominoref08_Expand.mono _ _ _ _)
   | (with_reducible exact dominoref08_Label.mono _ _ _ _ _)
   | (with_reducible exact kdf_Expand.mono _ _ _ _)
   | (with_reducible exact kdf_Label.mono _ _ _ _ _)
   | (with_reducible exact LeO.refl _)
   | (with_reducible exact LeO.none _)
   | (with_reducible refine LeO.ite ?_ ?_)
   | (with_reducible refine LeO.bind ?_ (fun _ => ?_))
   | exact ih0 _ _ _ _ _ _
   | exact dominolaw08_shown.mono _
   | exact dominoref08_Expand.mono _ _ _ _
   | exact dominoref08_Label.mono _ _ _ _ _
   | exact kdf_Expand.mono _ _ _ _
   | exact kdf_Label.mono _ _ _ _ _
   | exact LeO.none _
   | refine LeO.ite ?_ ?_
   | refine LeO.bind ?_ (fun _ => ?_)
set_option maxHeartbeats 8000000 in
set_option maxRecDepth 100000 in
theorem dominolaw08_KdfExpands.calls (k : Nat) (a0 : ByteArray) (a1 : ByteArray) (a2 : ByteArray) (a3 : ByteArray) (a4 : Int) (r : Bool) (w : World) (h : dominolaw08_KdfExpands.f k a0 a1 a2 a3 a4 = some r) :
  Calls Try.prog 3 #[.string a0, .string a1, .string a2, .string a3, .int .i64 a4] w fun e w' => e = .returned (.bool r) ∧ Below w.heap.size w w' := by
 have HB := Aside0.mk (Below.refl w.heap.size w)
 have H : (if (a0.size : Int) > 100 then (dominolaw08_KdfExpands.j0 k a0 a1 a2 a3 a4 true) else (if (a1.size : Int) > 100 then (dominolaw08_KdfExpands.j0 k a0 a1 a2 a3 a4 true) else (if (a2.size : Int) > 260 then (dominolaw08_KdfExpands.j0 k a0 a1 a2 a3 a4 true) else (if (a3.size : Int) > 260 then (dominolaw08_KdfExpands.j0 k a0 a1 a2 a3 a4 true) else (if a4 > 200 then (if a4 ≤ 8160 then (dominolaw08_KdfExpands.j0 k a0 a1 a2 a3 a4 true) else ((dominolaw08_shown.f k).bind fun t203 => (dominolaw08_KdfExpands.j0 k a0 a1 a2 a3 a4 (!t203)))) else ((dominolaw08_shown.f k).bind fun t204 => (dominolaw08_KdfExpands.j0 k a0 a1 a2 a3 a4 (!t204)))))))) = some r := h
 clear h
 have HC6 := Aside0.mk H
 clear H
 go_enter Try.func3, Try.ntmps3
 go_upto_region 1 with (fail)
 go_cut [48] (fun v48 wc => ∃ (kq : Nat) (x48_5 : Bool), v48 = .bool x48_5 ∧ Aside0 (dominolaw08_KdfExpands.j0 kq a0 a1 a2 a3 a4 x48_5 = some r) ∧ Aside0 (kq ≤ k) ∧ Aside0 (Below w.heap.size w wc))
 case first =>
  have H := HC6.out
  clear HC6
  by_cases c7 : (a0.size : Int) > 100
  ·rw [if_pos c7] at H
   have c7b0 : decide (100 < (a0.size : Int)) = true := decide_eq_true c7
   have c7b1 : decide (100 < a0.size) = true := decide_eq_true (by omega)
   clear c7
   (first | rw [c7b0] | (simp only [i64_w, i32_w]; rw [c7b0]) | skip)
   have H' := Aside0.mk H
   clear H
   go_wp2
   go_meet
   case rel => exact ⟨_, (true), (by first | rfl | (simp; done) | (simp [*]; done)), H', ⟨by first | omega | exact Nat.le_refl _⟩, ⟨by repeat (first | (with_reducible first | exact HB.out | apply below_alloc | apply pw_below_drewN | apply below_drew1) | exact HB.out)⟩⟩
  ·rw [if_neg c7] at H
   have c7b0 : decide (100 < (a0.size : Int)) = false := decide_eq_false c7
   have c7b1 : decide (100 < a0.size) = false := decide_eq_false (by omega)
   clear c7
   (first | rw [c7b0] | (simp only [i64_w, i32_w]; rw [c7b0]) | skip)
   by_cases c8 : (a1.size : Int) > 100
   ·rw [if_pos c8] at H
    have c8b0 : decide (100 < (a1.size : Int)) = true := decide_eq_true c8
    have c8b1 : decide (100 < a1.size) = true := decide_eq_true (by omega)
    clear c8
    have H' := Aside0.mk H
    clear H
    go_wp2
    go_meet
    case rel => exact ⟨_, (true), (by first | rfl | (simp; done) | (simp [*]; done)), H', ⟨by first | omega | exact Nat.le_refl _⟩, ⟨by repeat (first | (with_reducible first | exact HB.out | apply below_alloc | apply pw_below_drewN | apply below_drew1) | exact HB.out)⟩⟩
   ·rw [if_neg c8] at H
    have c8b0 : decide (100 < (a1.size : Int)) = false := decide_eq_false c8
    have c8b1 : decide (100 < a1.size) = false := decide_eq_false (by omega)
    clear c8
    by_cases c9 : (a2.size : Int) > 260
    ·rw [if_pos c9] at H
     have c9b0 : decide (260 < (a2.size : Int)) = true := decide_eq_true c9
     have c9b1 : decide (260 < a2.size) = true := decide_eq_true (by omega)
     clear c9
     have H' := Aside0.mk H
     clear H
     go_wp2
     go_meet
     case rel => exact ⟨_, (true), (by first | rfl | (simp; done) | (simp [*]; done)), H', ⟨by first | omega | exact Nat.le_refl _⟩, ⟨by repeat (first | (with_reducible first | exact HB.out | apply below_alloc | apply pw_below_drewN | apply below_drew1) | exact HB.out)⟩⟩
    ·rw [if_neg c9] at H
     have c9b0 : decide (260 < (a2.size : Int)) = false := decide_eq_false c9
     have c9b1 : decide (260 < a2.size) = false := decide_eq_false (by omega)
     clear c9
     by_cases c10 : (a3.size : Int) > 260
     ·rw [if_pos c10] at H
      have c10b0 : decide (260 < (a3.size : Int)) = true := decide_eq_true c10
      have c10b1 : decide (260 < a3.size) = true := decide_eq_true (by omega)
      clear c10
      have H' := Aside0.mk H
      clear H
      go_wp2
      go_meet
      case rel => exact ⟨_, (true), (by first | rfl | (simp; done) | (simp [*]; done)), H', ⟨by first | omega | exact Nat.le_refl _⟩, ⟨by repeat (first | (with_reducible first | exact HB.out | apply below_alloc | apply pw_below_drewN | apply below_drew1) | exact HB.out)⟩⟩
     ·rw [if_neg c10] at H
      have c10b0 : decide (260 < (a3.size : Int)) = false := decide_eq_false c10
      have c10b1 : decide (260 < a3.size) = false := decide_eq_false (by omega)
      clear c10
      by_cases c11 : a4 > 200
      ·rw [if_pos c11] at H
       have c11b0 : decide (200 < a4) = true := decide_eq_true c11
       clear c11
       by_cases c12 : a4 ≤ 8160
       ·rw [if_pos c12] at H
        have c12b0 : decide (a4 ≤ 8160) = true := decide_eq_true c12
        clear c12
        have H' := Aside0.mk H
        clear H
        go_wp2
        go_meet
        case rel => exact ⟨_, (true), (by first | rfl | (simp; done) | (simp [*]; done)), H', ⟨by first | omega | exact Nat.le_refl _⟩, ⟨by repeat (first | (with_reducible first | exact HB.out | apply below_alloc | apply pw_below_drewN | apply below_drew1) | exact HB.out)⟩⟩
       ·rw [if_neg c12] at H
        have c12b0 : decide (a4 ≤ 8160) = false := decide_eq_false c12
        clear c12
        replace H := Option.bind_eq_some_iff.mp H
        obtain ⟨t203, A130, H⟩ := H
        replace H : (dominolaw08_KdfExpands.j0 k a0 a1 a2 a3 a4 (!t203)) = some r := H
        have A13 := Aside0.mk A130
        clear A130
        have H' := Aside0.mk H
        clear H
        go_wp2_with (first | (go_at_call 9; (with_reducible refine (dominolaw08_shown.calls k  t203 _ A13.out).mono ?_); rintro e w14 ⟨rfl, hb⟩; have n0_ := Aside0.mk (below_step (by repeat (first | (with_reducible first | exact HB.out | apply below_alloc | apply pw_below_drewN | apply below_drew1) | exact HB.out)) hb); clear HB; have HB := n0_; clear n0_; (try clear hb); (try clear hb2); (try clear hk); (try clear hi)))
        go_meet
        case rel => exact ⟨_, (!t203), (by first | rfl | (simp; done) | (simp [*]; done)), H', ⟨by first | omega | exact Nat.le_refl _⟩, ⟨by repeat (first | (with_reducible first | exact HB.out | apply below_alloc | apply pw_below_drewN | apply below_drew1) | exact HB.out)⟩⟩
      ·rw [if_neg c11] at H
       have c11b0 : decide (200 < a4) = false := decide_eq_false c11
       clear c11
       replace H := Option.bind_eq_some_iff.mp H
       obtain ⟨t204, A150, H⟩ := H
       replace H : (dominolaw08_KdfExpands.j0 k a0 a1 a2 a3 a4 (!t204)) = some r := H
       have A15 := Aside0.mk A150
       clear A150
       have H' := Aside0.mk H
       clear H
       go_wp2_with (first | (go_at_call 9; (with_reducible refine (dominolaw08_shown.calls k  t204 _ A15.out).mono ?_); rintro e w16 ⟨rfl, hb⟩; have n0_ := Aside0.mk (below_step (by repeat (first | (with_reducible first | exact HB.out | apply below_alloc | apply pw_below_drewN | apply below_drew1) | exact HB.out)) hb); clear HB; have HB := n0_; clear n0_; (try clear hb); (try clear hb2); (try clear hk); (try clear hi)))
       go_meet
       case rel => exact ⟨_, (!t204), (by first | rfl | (simp; done) | (simp [*]; done)), H', ⟨by first | omega | exact Nat.le_refl _⟩, ⟨by repeat (first | (with_reducible first | exact HB.out | apply below_alloc | apply pw_below_drewN | apply below_drew1) | exact HB.out)⟩⟩
 case rest =>
  clear HC6
  try clear c1
  try clear p2
  try clear c3
  try clear c7
  try clear c7b0
  try clear c7b1
  try clear c8
  try clear c8b0
  try clear c8b1
  try clear c9
  try clear c9b0
  try clear c9b1
  try clear c10
  try clear c10b0
  try clear c10b1
  try clear c11
  try clear c11b0
  try clear c12
  try clear c12b0
  obtain ⟨kq, x48_5, rfl, HA, HJ5, HB⟩ := hcut
  cases kq with
  | zero => exact absurd HA.out (by simp [dominolaw08_KdfExpands.j0])
  | succ kj5 =>
   have H := HA.out
   clear HA
   simp only [dominolaw08_KdfExpands.j0] at H
   by_cases c17 : x48_5 = true
   ·subst c17
    have H1 : ((dominolaw08_shown.f kj5).bind fun t205 => (some t205)) = some r := by rw [if_pos rfl] at H; exact H
    clear H
    have H := H1
    clear H1
    replace H := Option.bind_eq_some_iff.mp H
    obtain ⟨t205, A180, H⟩ := H
    replace H : (some t205) = some r := H
    have A18 := Aside0.mk A180
    clear A180
    obtain rfl := Option.some.inj H
    go_wp2_with (first | ((with_reducible refine gate_callee (f := 9) rfl ?_); refine goesL_ (some 49) rfl rfl Try.func9 (by kernel_rfl) rfl #[] rfl (by (try simp only [List.map_toArray, List.map_cons, List.map_nil]); first | done | rfl | (simp only [List.length_drop, List.length_take]; rfl)) ?_; (with_reducible refine (dominolaw08_shown.calls kj5  t205 _ A18.out).mono ?_); rintro e w19 ⟨rfl, hb⟩; refine ⟨_, rfl, ?_⟩; have n0_ := Aside0.mk (below_step (by repeat (first | (with_reducible first | exact HB.out | apply below_alloc | apply pw_below_drewN | apply below_drew1) | exact HB.out)) hb); clear HB; have HB := n0_; clear n0_; (try clear hb); (try clear hb2); (try clear hk); (try clear hi)))
    go_ret
    exact ⟨by first | rfl | (simp [errW_none, errW_some] <;> rfl) | (simp [*, errW_none, errW_some] <;> rfl), by repeat (first | (with_reducible first | exact HB.out | apply below_alloc | apply pw_below_drewN | apply below_drew1) | exact HB.out)⟩
   ·replace c17 := Bool.eq_false_iff.mpr c17
    subst c17
    have H1 : ((kdf_Expand.f kj5 a0 a1 a4).bind fun bt206 => ((dominoref08_Expand.f kj5 a0 a1 a4).bind fun bt208 => ((kdf_Label.f kj5 a0 a2 a3 a4).bind fun bt210 => ((dominoref08_Label.f kj5 a0 a2 a3 a4).bind fun bt212 => (if bt206.1.toList = bt208.1.toList then (if bt206.2 = bt208.2 then (if bt210.1.toList = bt212.1.toList then (some (bt210.2 == bt212.2)) else (none)) else (none)) else (none)))))) = some r := by rw [if_neg (show ¬ (false = true) by decide)] at H; exact H
    clear H
    have H := H1
    clear H1
    replace H := Option.bind_eq_some_iff.mp H
    obtain ⟨⟨t206, t207⟩, A200, H⟩ := H
    replace H : ((dominoref08_Expand.f kj5 a0 a1 a4).bind fun bt208 => ((kdf_Label.f kj5 a0 a2 a3 a4).bind fun bt210 => ((dominoref08_Label.f kj5 a0 a2 a3 a4).bind fun bt212 => (if t206.toList = bt208.1.toList then (if t207 = bt208.2 then (if bt210.1.toList = bt212.1.toList then (some (bt210.2 == bt212.2)) else (none)) else (none)) else (none))))) = some r := H
    have A20 := Aside0.mk A200
    clear A200
    replace H := Option.bind_eq_some_iff.mp H
    obtain ⟨⟨t208, t209⟩, A210, H⟩ := H
    replace H : ((kdf_Label.f kj5 a0 a2 a3 a4).bind fun bt210 => ((dominoref08_Label.f kj5 a0 a2 a3 a4).bind fun bt212 => (if t206.toList = t208.toList then (if t207 = t209 then (if bt210.1.toList = bt212.1.toList then (some (bt210.2 == bt212.2)) else (none)) else (none)) else (none)))) = some r := H
    have A21 := Aside0.mk A210
    clear A210
    replace H := Option.bind_eq_some_iff.mp H
    obtain ⟨⟨t210, t211⟩, A220, H⟩ := H
    replace H : ((dominoref08_Label.f kj5 a0 a2 a3 a4).bind fun bt212 => (if t206.toList = t208.toList then (if t207 = t209 then (if t210.toList = bt212.1.toList then (some (t211 == bt212.2)) else (none)) else (none)) else (none))) = some r := H
    have A22 := Aside0.mk A220
    clear A220
    replace H := Option.bind_eq_some_iff.mp H
    obtain ⟨⟨t212, t213⟩, A230, H⟩ := H
    replace H : (if t206.toList = t208.toList then (if t207 = t209 then (if t210.toList = t212.toList then (some (t211 == t213)) else (none)) else (none)) else (none)) = some r := H
    have A23 := Aside0.mk A230
    clear A230
    by_cases c24 : t206.toList = t208.toList
    ·rw [if_pos c24] at H
     have c24b0 : (t206.toList == t208.toList) = true := beq_iff_eq.mpr c24
     have c24b1 : (t206.toList != t208.toList) = false := bne_eq_false_iff_eq.mpr c24
     clear c24
     by_cases c25 : t207 = t209
     ·rw [if_pos c25] at H
      have c25b0 : (t207 == t209) = true := beq_iff_eq.mpr c25
      have c25b1 : (t207 != t209) = false := bne_eq_false_iff_eq.mpr c25
      clear c25
      by_cases c26 : t210.toList = t212.toList
      ·rw [if_pos c26] at H
       have c26b0 : (t210.toList == t212.toList) = true := beq_iff_eq.mpr c26
       have c26b1 : (t210.toList != t212.toList) = false := bne_eq_false_iff_eq.mpr c26
       clear c26
       obtain rfl := Option.some.inj H
       go_wp2_with (first | ((with_reducible refine gate_callee (f := 10) rfl ?_); refine goesL_ (some 54) rfl rfl Try.func10 (by kernel_rfl) rfl #[.string a0, .string a1, .int .i64 a4] rfl (by (try simp only [List.map_toArray, List.map_cons, List.map_nil]); first | done | rfl | (simp only [List.length_drop, List.length_take]; rfl)) ?_; (with_reducible refine (kdf_Expand.calls kj5 a0 a1 a4 t206 t207 _ A20.out).mono ?_); rintro e w27 ⟨rfl, hb⟩; refine ⟨_, rfl, ?_⟩; have n0_ := Aside0.mk (below_step (by repeat (first | (with_reducible first | exact HB.out | apply below_alloc | apply pw_below_drewN | apply below_drew1) | exact HB.out)) hb); clear HB; have HB := n0_; clear n0_; (try clear hb); (try clear hb2); (try clear hk); (try clear hi)) | ((with_reducible refine gate_callee (f := 11) rfl ?_); refine goesL_ (some 61) rfl rfl Try.func11 (by kernel_rfl) rfl #[.string a0, .string a1, .int .i64 a4] rfl (by (try simp only [List.map_toArray, List.map_cons, List.map_nil]); first | done | rfl | (simp only [List.length_drop, List.length_take]; rfl)) ?_; (with_reducible refine (dominoref08_Expand.calls kj5 a0 a1 a4 t208 t209 _ A21.out).mono ?_); rintro e w28 ⟨rfl, hb⟩; refine ⟨_, rfl, ?_⟩; have n0_ := Aside0.mk (below_step (by repeat (first | (with_reducible first | exact HB.out | apply below_alloc | apply pw_below_drewN | apply below_drew1) | exact HB.out)) hb); clear HB; have HB := n0_; clear n0_; (try clear hb); (try clear hb2); (try clear hk); (try clear hi)) | ((with_reducible refine gate_callee (f := 12) rfl ?_); refine goesL_ (some 69) rfl rfl Try.func12 (by kernel_rfl) rfl #[.string a0, .string a2, .string a3, .int .i64 a4] rfl (by (try simp only [List.map_toArray, List.map_cons, List.map_nil]); first | done | rfl | (simp only [List.length_drop, List.length_take]; rfl)) ?_; (with_reducible refine (kdf_Label.calls kj5 a0 a2 a3 a4 t210 t211 _ A22.out).mono ?_); rintro e w29 ⟨rfl, hb⟩; refine ⟨_, rfl, ?_⟩; have n0_ := Aside0.mk (below_step (by repeat (first | (with_reducible first | exact HB.out | apply below_alloc | apply pw_below_drewN | apply below_drew1) | exact HB.out)) hb); clear HB; have HB := n0_; clear n0_; (try clear hb); (try clear hb2); (try clear hk); (try clear hi)) | ((with_reducible refine gate_callee (f := 13) rfl ?_); refine goesL_ (some 77) rfl rfl Try.func13 (by kernel_rfl) rfl #[.string a0, .string a2, .string a3, .int .i64 a4] rfl (by (try simp only [List.map_toArray, List.map_cons, List.map_nil]); first | done | rfl | (simp only [List.length_drop, List.length_take]; rfl)) ?_; (with_reducible refine (dominoref08_Label.calls kj5 a0 a2 a3 a4 t212 t213 _ A23.out).mono ?_); rintro e w30 ⟨rfl, hb⟩; refine ⟨_, rfl, ?_⟩; have n0_ := Aside0.mk (below_step (by repeat (first | (with_reducible first | exact HB.out | apply below_alloc | apply pw_below_drewN | apply below_drew1) | exact HB.out)) hb); clear HB; have HB := n0_; clear n0_; (try clear hb); (try clear hb2); (try clear hk); (try clear hi)))
       go_ret
       exact ⟨by first | rfl | (simp [errW_none, errW_some] <;> rfl) | (simp [*, errW_none, errW_some] <;> rfl), by repeat (first | (with_reducible first | exact HB.out | apply below_alloc | apply pw_below_drewN | apply below_drew1) | exact HB.out)⟩
      ·rw [if_neg c26] at H
       exact absurd H (by simp)
     ·rw [if_neg c25] at H
      exact absurd H (by simp)
    ·rw [if_neg c24] at H
     exact absurd H (by simp)

/-- THE ONE PURE STATEMENT of dominolaw08_KdfExpands: yours. -/
def dominolaw08_KdfExpands.Pure : Prop := ∀ (a0 : ByteArray) (a1 : ByteArray) (a2 : ByteArray) (a3 : ByteArray) (a4 : Int), a0.size ≤ 140737488351232 → a1.size ≤ 140737488351232 → a2.size ≤ 140737488351232 → a3.size ≤ 140737488351232 → (Lit.int .i64 a4).wf = true → ∃ k, dominolaw08_KdfExpands.f k a0 a1 a2 a3 a4 = some true
theorem dominolaw08_KdfExpands.walk (P : dominolaw08_KdfExpands.Pure) (a0 : ByteArray) (a1 : ByteArray) (a2 : ByteArray) (a3 : ByteArray) (a4 : Int) (w : World) (w0 : a0.size ≤ 140737488351232) (w1 : a1.size ≤ 140737488351232) (w2 : a2.size ≤ 140737488351232) (w3 : a3.size ≤ 140737488351232) (w4 : (Lit.int .i64 a4).wf = true) :
  Calls Try.prog 3 #[.string a0, .string a1, .string a2, .string a3, .int .i64 a4] w fun e w' => e = .returned (.bool true) ∧ Below w.heap.size w w' := by
 obtain ⟨k, h⟩ := P a0 a1 a2 a3 a4 w0 w1 w2 w3 w4
 refine (dominolaw08_KdfExpands.calls k a0 a1 a2 a3 a4 true w h).mono ?_
 rintro e w' ⟨rfl, hd⟩
 exact ⟨rfl, hd⟩

/-! ### dominolaw08_KdfBegins: function 4 -/
def dominolaw08_KdfBegins.j0 : Nat → ByteArray → ByteArray → Int → Int → Bool → Option (Bool)
 | 0, _, _, _, _, _ => none
 | k + 1, x0, x1, x2, x3, x25 => if x25 = true then ((dominolaw08_shown.f k).bind fun t215 => (some t215)) else ((kdf_Expand.f k x0 x1 (Int.tmod (wrap64 (x2)) 120)).bind fun bt216 => ((kdf_Expand.f k x0 x1 (wrap64 ((Int.tmod (wrap64 (x2)) 120) + (Int.tmod (wrap64 (x3)) 60)))).bind fun bt218 => (if bt216.2 = 0 then (if bt218.2 = 0 then (if (bt216.1.size : Int) = (Int.tmod (wrap64 (x2)) 120) then (if (bt218.1.size : Int) = (wrap64 ((Int.tmod (wrap64 (x2)) 120) + (Int.tmod (wrap64 (x3)) 60))) then (if 0 ≤ (Int.tmod (wrap64 (x2)) 120) then (if (Int.tmod (wrap64 (x2)) 120) ≤ (bt218.1.size : Int) then (some ((bt218.1.extract 0 ((Int.tmod (wrap64 (x2)) 120) : Int).toNat).toList == bt216.1.toList)) else (none)) else (none)) else (none)) else (none)) else (none)) else (none))))
def dominolaw08_KdfBegins.f (k : Nat) (a0 : ByteArray) (a1 : ByteArray) (a2 : Int) (a3 : Int) : Option (Bool) := if (a0.size : Int) > 100 then (dominolaw08_KdfBegins.j0 k a0 a1 a2 a3 true) else (if (a1.size : Int) > 100 then (dominolaw08_KdfBegins.j0 k a0 a1 a2 a3 true) else ((dominolaw08_shown.f k).bind fun t214 => (dominolaw08_KdfBegins.j0 k a0 a1 a2 a3 (!t214))))
theorem dominolaw08_KdfBegins.mono_l : ∀ k, (∀ y0 y1 y2 y3 y4, LeO (dominolaw08_KdfBegins.j0 k y0 y1 y2 y3 y4) (dominolaw08_KdfBegins.j0 (k + 1) y0 y1 y2 y3 y4))
 | 0 => fun _ _ _ _ _ r h => by simp [dominolaw08_KdfBegins.j0] at h
 | k + 1 => by
  have ih0 := dominolaw08_KdfBegins.mono_l k
  ·intro y0 y1 y2 y3 y4
   unfold dominolaw08_KdfBegins.j0
   repeat' first
   | (with_reducible exact ih0 _ _ _ _ _)
   | (with_reducible exact dominolaw08_shown.mono _)
   | (with_reducible exact kdf_Expand.mono _ _ _ _)
   | (with_reducible exact LeO.refl _)
   | (with_reducible exact LeO.none _)
   | (with_reducible refine LeO.ite ?_ ?_)
   | (with_reducible refine LeO.bind ?_ (fun _ => ?_))
   | exact ih0 _ _ _ _ _
   | exact dominolaw08_shown.mono _
   | exact kdf_Expand.mono _ _ _ _
   | exact LeO.none _
   | refine LeO.ite ?_ ?_
   | refine LeO.bind ?_ (fun _ => ?_)
theorem dominolaw08_KdfBegins.mono : ∀ a0 a1 a2 a3 k, LeO (dominolaw08_KdfBegins.f k a0 a1 a2 a3) (dominolaw08_KdfBegins.f (k + 1) a0 a1 a2 a3) := by
 intro a0 a1 a2 a3 k
 have ih0 := dominolaw08_KdfBegins.mono_l k
 unfold dominolaw08_KdfBegins.f
 repeat' first
   | (with_reducible exact ih0 _ _ _ _ _)
   | (with_reducible exact dominolaw08_shown.mono _)
   | (with_reducible exact kdf_Expand.mono _ _ _ _)
   | (with_reducible exact LeO.refl _)
   | (with_reducible exact LeO.none _)
   | (with_reducible refine LeO.ite ?_ ?_)
   | (with_reducible refine LeO.bind ?_ (fun _ => ?_))
   | exact ih0 _ _ _ _ _
   | exact dominolaw08_shown.mono _
   | exact kdf_Expand.mono _ _ _ _
   | exact LeO.none _
   | refine LeO.ite ?_ ?_
   | refine LeO.bind ?_ (fun _ => ?_)
set_option maxHeartbeats 8000000 in
set_option maxRecDepth 100000 in
theorem dominolaw08_KdfBegins.calls (k : Nat) (a0 : ByteArray) (a1 : ByteArray) (a2 : Int) (a3 : Int) (r : Bool) (w : World) (h : dominolaw08_KdfBegins.f k a0 a1 a2 a3 = some r) :
  Calls Try.prog 4 #[.string a0, .string a1, .int .u8 a2, .int .u8 a3] w fun e w' => e = .returned (.bool r) ∧ Below w.heap.size w w' := by
 have HB := Aside0.mk (Below.refl w.heap.size w)
 have H : (if (a0.size : Int) > 100 then (dominolaw08_KdfBegins.j0 k a0 a1 a2 a3 true) else (if (a1.size : Int) > 100 then (dominolaw08_KdfBegins.j0 k a0 a1 a2 a3 true) else ((dominolaw08_shown.f k).bind fun t214 => (dominolaw08_KdfBegins.j0 k a0 a1 a2 a3 (!t214))))) = some r := h
 clear h
 have HC5 := Aside0.mk H
 clear H
 go_enter Try.func4, Try.ntmps4
 go_upto_region 1 with (fail)
 go_cut [25] (fun v25 wc => ∃ (kq : Nat) (x25_4 : Bool), v25 = .bool x25_4 ∧ Aside0 (dominolaw08_KdfBegins.j0 kq a0 a1 a2 a3 x25_4 = some r) ∧ Aside0 (kq ≤ k) ∧ Aside0 (Below w.heap.size w wc))
 case first =>
  have H := HC5.out
  clear HC5
  by_cases c6 : (a0.size : Int) > 100
  ·rw [if_pos c6] at H
   have c6b0 : decide (100 < (a0.size : Int)) = true := decide_eq_true c6
   have c6b1 : decide (100 < a0.size) = true := decide_eq_true (by omega)
   clear c6
   (first | rw [c6b0] | (simp only [i64_w, i32_w]; rw [c6b0]) | skip)
   have H' := Aside0.mk H
   clear H
   go_wp2
   go_meet
   case rel => exact ⟨_, (true), (by first | rfl | (simp; done) | (simp [*]; done)), H', ⟨by first | omega | exact Nat.le_refl _⟩, ⟨by repeat (first | (with_reducible first | exact HB.out | apply below_alloc | apply pw_below_drewN | apply below_drew1) | exact HB.out)⟩⟩
  ·rw [if_neg c6] at H
   have c6b0 : decide (100 < (a0.size : Int)) = false := decide_eq_false c6
   have c6b1 : decide (100 < a0.size) = false := decide_eq_false (by omega)
   clear c6
   (first | rw [c6b0] | (simp only [i64_w, i32_w]; rw [c6b0]) | skip)
   by_cases c7 : (a1.size : Int) > 100
   ·rw [if_pos c7] at H
    have c7b0 : decide (100 < (a1.size : Int)) = true := decide_eq_true c7
    have c7b1 : decide (100 < a1.size) = true := decide_eq_true (by omega)
    clear c7
    have H' := Aside0.mk H
    clear H
    go_wp2
    go_meet
    case rel => exact ⟨_, (true), (by first | rfl | (simp; done) | (simp [*]; done)), H', ⟨by first | omega | exact Nat.le_refl _⟩, ⟨by repeat (first | (with_reducible first | exact HB.out | apply below_alloc | apply pw_below_drewN | apply below_drew1) | exact HB.out)⟩⟩
   ·rw [if_neg c7] at H
    have c7b0 : decide (100 < (a1.size : Int)) = false := decide_eq_false c7
    have c7b1 : decide (100 < a1.size) = false := decide_eq_false (by omega)
    clear c7
    replace H := Option.bind_eq_some_iff.mp H
    obtain ⟨t214, A80, H⟩ := H
    replace H : (dominolaw08_KdfBegins.j0 k a0 a1 a2 a3 (!t214)) = some r := H
    have A8 := Aside0.mk A80
    clear A80
    have H' := Aside0.mk H
    clear H
    go_wp2_with (first | (go_at_call 9; (with_reducible refine (dominolaw08_shown.calls k  t214 _ A8.out).mono ?_); rintro e w9 ⟨rfl, hb⟩; have n0_ := Aside0.mk (below_step (by repeat (first | (with_reducible first | exact HB.out | apply below_alloc | apply pw_below_drewN | apply below_drew1) | exact HB.out)) hb); clear HB; have HB := n0_; clear n0_; (try clear hb); (try clear hb2); (try clear hk); (try clear hi)))
    go_meet
    case rel => exact ⟨_, (!t214), (by first | rfl | (simp; done) | (simp [*]; done)), H', ⟨by first | omega | exact Nat.le_refl _⟩, ⟨by repeat (first | (with_reducible first | exact HB.out | apply below_alloc | apply pw_below_drewN | apply below_drew1) | exact HB.out)⟩⟩
 case rest =>
  clear HC5
  try clear p2
  try clear c4
  try clear c6
  try clear c6b0
  try clear c6b1
  try clear c7
  try clear c7b0
  try clear c7b1
  obtain ⟨kq, x25_4, rfl, HA, HJ4, HB⟩ := hcut
  cases kq with
  | zero => exact absurd HA.out (by simp [dominolaw08_KdfBegins.j0])
  | succ kj4 =>
   have H := HA.out
   clear HA
   simp only [dominolaw08_KdfBegins.j0] at H
   by_cases c10 : x25_4 = true
   ·subst c10
    have H1 : ((dominolaw08_shown.f kj4).bind fun t215 => (some t215)) = some r := by rw [if_pos rfl] at H; exact H
    clear H
    have H := H1
    clear H1
    replace H := Option.bind_eq_some_iff.mp H
    obtain ⟨t215, A110, H⟩ := H
    replace H : (some t215) = some r := H
    have A11 := Aside0.mk A110
    clear A110
    obtain rfl := Option.some.inj H
    go_wp2_with (first | ((with_reducible refine gate_callee (f := 9) rfl ?_); refine goesL_ (some 26) rfl rfl Try.func9 (by kernel_rfl) rfl #[] rfl (by (try simp only [List.map_toArray, List.map_cons, List.map_nil]); first | done | rfl | (simp only [List.length_drop, List.length_take]; rfl)) ?_; (with_reducible refine (dominolaw08_shown.calls kj4  t215 _ A11.out).mono ?_); rintro e w12 ⟨rfl, hb⟩; refine ⟨_, rfl, ?_⟩; have n0_ := Aside0.mk (below_step (by repeat (first | (with_reducible first | exact HB.out | apply below_alloc | apply pw_below_drewN | apply below_drew1) | exact HB.out)) hb); clear HB; have HB := n0_; clear n0_; (try clear hb); (try clear hb2); (try clear hk); (try clear hi)))
    go_ret
    exact ⟨by first | rfl | (simp [errW_none, errW_some] <;> rfl) | (simp [*, errW_none, errW_some] <;> rfl), by repeat (first | (with_reducible first | exact HB.out | apply below_alloc | apply pw_below_drewN | apply below_drew1) | exact HB.out)⟩
   ·replace c10 := Bool.eq_false_iff.mpr c10
    subst c10
    have H1 : ((kdf_Expand.f kj4 a0 a1 (Int.tmod (wrap64 (a2)) 120)).bind fun bt216 => ((kdf_Expand.f kj4 a0 a1 (wrap64 ((Int.tmod (wrap64 (a2)) 120) + (Int.tmod (wrap64 (a3)) 60)))).bind fun bt218 => (if bt216.2 = 0 then (if bt218.2 = 0 then (if (bt216.1.size : Int) = (Int.tmod (wrap64 (a2)) 120) then (if (bt218.1.size : Int) = (wrap64 ((Int.tmod (wrap64 (a2)) 120) + (Int.tmod (wrap64 (a3)) 60))) then (if 0 ≤ (Int.tmod (wrap64 (a2)) 120) then (if (Int.tmod (wrap64 (a2)) 120) ≤ (bt218.1.size : Int) then (some ((bt218.1.extract 0 ((Int.tmod (wrap64 (a2)) 120) : Int).toNat).toList == bt216.1.toList)) else (none)) else (none)) else (none)) else (none)) else (none)) else (none)))) = some r := by rw [if_neg (show ¬ (false = true) by decide)] at H; exact H
    clear H
    have H := H1
    clear H1
    replace H := Option.bind_eq_some_iff.mp H
    obtain ⟨⟨t216, t217⟩, A130, H⟩ := H
    replace H : ((kdf_Expand.f kj4 a0 a1 (wrap64 ((Int.tmod (wrap64 (a2)) 120) + (Int.tmod (wrap64 (a3)) 60)))).bind fun bt218 => (if t217 = 0 then (if bt218.2 = 0 then (if (t216.size : Int) = (Int.tmod (wrap64 (a2)) 120) then (if (bt218.1.size : Int) = (wrap64 ((Int.tmod (wrap64 (a2)) 120) + (Int.tmod (wrap64 (a3)) 60))) then (if 0 ≤ (Int.tmod (wrap64 (a2)) 120) then (if (Int.tmod (wrap64 (a2)) 120) ≤ (bt218.1.size : Int) then (some ((bt218.1.extract 0 ((Int.tmod (wrap64 (a2)) 120) : Int).toNat).toList == t216.toList)) else (none)) else (none)) else (none)) else (none)) else (none)) else (none))) = some r := H
    have A13 := Aside0.mk A130
    clear A130
    replace H := Option.bind_eq_some_iff.mp H
    obtain ⟨⟨t218, t219⟩, A140, H⟩ := H
    replace H : (if t217 = 0 then (if t219 = 0 then (if (t216.size : Int) = (Int.tmod (wrap64 (a2)) 120) then (if (t218.size : Int) = (wrap64 ((Int.tmod (wrap64 (a2)) 120) + (Int.tmod (wrap64 (a3)) 60))) then (if 0 ≤ (Int.tmod (wrap64 (a2)) 120) then (if (Int.tmod (wrap64 (a2)) 120) ≤ (t218.size : Int) then (some ((t218.extract 0 ((Int.tmod (wrap64 (a2)) 120) : Int).toNat).toList == t216.toList)) else (none)) else (none)) else (none)) else (none)) else (none)) else (none)) = some r := H
    have A14 := Aside0.mk A140
    clear A140
    by_cases c15 : t217 = 0
    ·rw [if_pos c15] at H
     have c15b0 : (t217 == 0) = true := beq_iff_eq.mpr c15
     have c15b1 : (t217 != 0) = false := bne_eq_false_iff_eq.mpr c15
     clear c15
     by_cases c16 : t219 = 0
     ·rw [if_pos c16] at H
      have c16b0 : (t219 == 0) = true := beq_iff_eq.mpr c16
      have c16b1 : (t219 != 0) = false := bne_eq_false_iff_eq.mpr c16
      clear c16
      by_cases c17 : (t216.size : Int) = (Int.tmod (wrap64 (a2)) 120)
      ·rw [if_pos c17] at H
       have c17b0 : ((t216.size : Int) == (Int.tmod (wrap64 (a2)) 120)) = true := beq_iff_eq.mpr c17
       have c17b1 : ((t216.size : Int) != (Int.tmod (wrap64 (a2)) 120)) = false := bne_eq_false_iff_eq.mpr c17
       clear c17
       by_cases c18 : (t218.size : Int) = (wrap64 ((Int.tmod (wrap64 (a2)) 120) + (Int.tmod (wrap64 (a3)) 60)))
       ·rw [if_pos c18] at H
        have c18b0 : ((t218.size : Int) == (wrap64 ((Int.tmod (wrap64 (a2)) 120) + (Int.tmod (wrap64 (a3)) 60)))) = true := beq_iff_eq.mpr c18
        have c18b1 : ((t218.size : Int) != (wrap64 ((Int.tmod (wrap64 (a2)) 120) + (Int.tmod (wrap64 (a3)) 60)))) = false := bne_eq_false_iff_eq.mpr c18
        clear c18
        obtain ⟨ji19, hji19⟩ : ∃ j_ : Int, (Int.tmod (wrap64 (a2)) 120) = j_ := ⟨_, rfl⟩
        replace H : (if 0 ≤ (ji19) then (if (ji19) ≤ (t218.size : Int) then (some ((t218.extract 0 ((ji19) : Int).toNat).toList == t216.toList)) else (none)) else (none)) = some r := by first | (rw [hji19] at H; exact H) | (simp only [hji19] at H ⊢; exact H)
        (try rw [hji19] at c17b0)
        (try rw [hji19] at c17b1)
        (try rw [hji19] at c17)
        (try rw [hji19] at c18b0)
        (try rw [hji19] at c18b1)
        (try rw [hji19] at c18)
        (try rw [hji19] at A13)
        (try rw [hji19] at A14)
        by_cases c20 : 0 ≤ (ji19)
        ·rw [if_pos c20] at H
         have c20b0 := eq_true c20
         have c20b1 : decide (0 ≤ (ji19)) = true := decide_eq_true c20
         clear c20
         by_cases c21 : (ji19) ≤ (t218.size : Int)
         ·rw [if_pos c21] at H
          have c21b0 := eq_true c21
          have c21b1 : decide ((ji19) ≤ (t218.size : Int)) = true := decide_eq_true c21
          clear c21
          obtain rfl := Option.some.inj H
          go_wp2_with (first | ((with_reducible refine gate_callee (f := 10) rfl ?_); refine goesL_ (some 34) rfl rfl Try.func10 (by kernel_rfl) rfl #[.string a0, .string a1, .int .i64 ji19] rfl (by (try simp only [List.map_toArray, List.map_cons, List.map_nil]); first | done | (simp only [hji19]; rfl) | rfl | (simp only [List.length_drop, List.length_take]; rfl)) ?_; (with_reducible refine (kdf_Expand.calls kj4 a0 a1 ji19 t216 t217 _ A13.out).mono ?_); rintro e w22 ⟨rfl, hb⟩; refine ⟨_, rfl, ?_⟩; have n0_ := Aside0.mk (below_step (by repeat (first | (with_reducible first | exact HB.out | apply below_alloc | apply pw_below_drewN | apply below_drew1) | exact HB.out)) hb); clear HB; have HB := n0_; clear n0_; (try clear hb); (try clear hb2); (try clear hk); (try clear hi)) | ((with_reducible refine gate_callee (f := 10) rfl ?_); refine goesL_ (some 45) rfl rfl Try.func10 (by kernel_rfl) rfl #[.string a0, .string a1, .int .i64 (wrap64 ((ji19) + (Int.tmod (wrap64 (a3)) 60)))] rfl (by (try simp only [List.map_toArray, List.map_cons, List.map_nil]); first | done | (simp only [hji19]; rfl) | rfl | (simp only [List.length_drop, List.length_take]; rfl)) ?_; (with_reducible refine (kdf_Expand.calls kj4 a0 a1 (wrap64 ((ji19) + (Int.tmod (wrap64 (a3)) 60))) t218 t219 _ A14.out).mono ?_); rintro e w23 ⟨rfl, hb⟩; refine ⟨_, rfl, ?_⟩; have n0_ := Aside0.mk (below_step (by repeat (first | (with_reducible first | exact HB.out | apply below_alloc | apply pw_below_drewN | apply below_drew1) | exact HB.out)) hb); clear HB; have HB := n0_; clear n0_; (try clear hb); (try clear hb2); (try clear hk); (try clear hi)))
          go_ret
          exact ⟨by first | rfl | (simp [errW_none, errW_some] <;> rfl) | (simp only [← hji19]; first | rfl | (simp [errW_none, errW_some] <;> rfl)) | (simp [*, errW_none, errW_some] <;> rfl), by repeat (first | (with_reducible first | exact HB.out | apply below_alloc | apply pw_below_drewN | apply below_drew1) | exact HB.out)⟩
         ·rw [if_neg c21] at H
          exact absurd H (by simp)
        ·rw [if_neg c20] at H
         exact absurd H (by simp)
       ·rw [if_neg c18] at H
        exact absurd H (by simp)
      ·rw [if_neg c17] at H
       exact absurd H (by simp)
     ·rw [if_neg c16] at H
      exact absurd H (by simp)
    ·rw [if_neg c15] at H
     exact absurd H (by simp)

/-- THE ONE PURE STATEMENT of dominolaw08_KdfBegins: yours. -/
def dominolaw08_KdfBegins.Pure : Prop := ∀ (a0 : ByteArray) (a1 : ByteArray) (a2 : Int) (a3 : Int), a0.size ≤ 140737488351232 → a1.size ≤ 140737488351232 → (Lit.int .u8 a2).wf = true → (Lit.int .u8 a3).wf = true → ∃ k, dominolaw08_KdfBegins.f k a0 a1 a2 a3 = some true
theorem dominolaw08_KdfBegins.walk (P : dominolaw08_KdfBegins.Pure) (a0 : ByteArray) (a1 : ByteArray) (a2 : Int) (a3 : Int) (w : World) (w0 : a0.size ≤ 140737488351232) (w1 : a1.size ≤ 140737488351232) (w2 : (Lit.int .u8 a2).wf = true) (w3 : (Lit.int .u8 a3).wf = true) :
  Calls Try.prog 4 #[.string a0, .string a1, .int .u8 a2, .int .u8 a3] w fun e w' => e = .returned (.bool true) ∧ Below w.heap.size w w' := by
 obtain ⟨k, h⟩ := P a0 a1 a2 a3 w0 w1 w2 w3
 refine (dominolaw08_KdfBegins.calls k a0 a1 a2 a3 true w h).mono ?_
 rintro e w' ⟨rfl, hd⟩
 exact ⟨rfl, hd⟩

/-! ### kdf_Of: function 14 -/
def kdf_Of.f (k : Nat) (a0 : ByteArray) : Option (ByteArray × ByteArray × ByteArray) := (kdf_secret_derive.f k a0 32 (⟨#[113, 117, 105, 99, 32, 107, 101, 121]⟩ : ByteArray) ([] : List ByteArray)).bind fun t221 => ((kdf_secret_derive.f k a0 12 (⟨#[113, 117, 105, 99, 32, 105, 118]⟩ : ByteArray) ([] : List ByteArray)).bind fun t222 => ((kdf_secret_derive.f k a0 32 (⟨#[113, 117, 105, 99, 32, 104, 112]⟩ : ByteArray) ([] : List ByteArray)).bind fun t223 => (some (t221, t222, t223))))
theorem kdf_Of.mono : ∀ a0 k, LeO (kdf_Of.f k a0) (kdf_Of.f (k + 1) a0) := by
 intro a0 k
 unfold kdf_Of.f
 repeat' first
   | (with_reducible exact kdf_secret_derive.mono _ _ _ _ _)
   | (with_reducible exact LeO.refl _)
   | (with_reducible exact LeO.none _)
   | (with_reducible refine LeO.ite ?_ ?_)
   | (with_reducible refine LeO.bind ?_ (fun _ => ?_))
   | exact kdf_secret_derive.mono _ _ _ _ _
   | exact LeO.none _
   | refine LeO.ite ?_ ?_
   | refine LeO.bind ?_ (fun _ => ?_)
set_option maxHeartbeats 8000000 in
set_option maxRecDepth 100000 in
theorem kdf_Of.calls (k : Nat) (a0 : ByteArray) (r1 : ByteArray) (r2 : ByteArray) (r3 : ByteArray) (w : World) (h : kdf_Of.f k a0 = some (r1, r2, r3)) :
  Calls Try.prog 14 #[.string a0] w fun e w' => e = .returned (.agg #[.string r1, .string r2, .string r3]) ∧ Below w.heap.size w w' := by
 have hu30 := Try.underlying30
 have HB := Aside0.mk (Below.refl w.heap.size w)
 have H : ((kdf_secret_derive.f k a0 32 (⟨#[113, 117, 105, 99, 32, 107, 101, 121]⟩ : ByteArray) ([] : List ByteArray)).bind fun t221 => ((kdf_secret_derive.f k a0 12 (⟨#[113, 117, 105, 99, 32, 105, 118]⟩ : ByteArray) ([] : List ByteArray)).bind fun t222 => ((kdf_secret_derive.f k a0 32 (⟨#[113, 117, 105, 99, 32, 104, 112]⟩ : ByteArray) ([] : List ByteArray)).bind fun t223 => (some (t221, t222, t223))))) = some (r1, r2, r3) := h
 clear h
 replace H := Option.bind_eq_some_iff.mp H
 obtain ⟨t221, A20, H⟩ := H
 replace H : ((kdf_secret_derive.f k a0 12 (⟨#[113, 117, 105, 99, 32, 105, 118]⟩ : ByteArray) ([] : List ByteArray)).bind fun t222 => ((kdf_secret_derive.f k a0 32 (⟨#[113, 117, 105, 99, 32, 104, 112]⟩ : ByteArray) ([] : List ByteArray)).bind fun t223 => (some (t221, t222, t223)))) = some (r1, r2, r3) := H
 have A2 := Aside0.mk A20
 clear A20
 replace H := Option.bind_eq_some_iff.mp H
 obtain ⟨t222, A30, H⟩ := H
 replace H : ((kdf_secret_derive.f k a0 32 (⟨#[113, 117, 105, 99, 32, 104, 112]⟩ : ByteArray) ([] : List ByteArray)).bind fun t223 => (some (t221, t222, t223))) = some (r1, r2, r3) := H
 have A3 := Aside0.mk A30
 clear A30
 replace H := Option.bind_eq_some_iff.mp H
 obtain ⟨t223, A40, H⟩ := H
 replace H : (some (t221, t222, t223)) = some (r1, r2, r3) := H
 have A4 := Aside0.mk A40
 clear A40
 simp only [Option.some.injEq, Prod.mk.injEq] at H
 obtain ⟨rfl, rfl, rfl⟩ := H
 go_enter Try.func14, Try.ntmps14
 go_wp2_with (first | ((with_reducible refine gate_dst (N := 2) rfl ?_); refine box_event ?hg (N := 2) ?hd (cs := #[.string (⟨#[]⟩ : ByteArray), .string (⟨#[]⟩ : ByteArray), .string (⟨#[]⟩ : ByteArray)]) (t := 30) ?hr ?_; (case hd => rfl); (case hg => rfl); (case hr => first | (go_simp; done) | (go_simp; rfl)); intro gb220 hg w5 hbox hb; have n0_ := Aside0.mk (below_step (by repeat (first | (with_reducible first | exact HB.out | apply below_alloc | apply pw_below_drewN | apply below_drew1) | exact HB.out)) hb); have n1_ := Aside0.mk (hbox); have n2_ := Aside0.mk ((by rw [hg]; exact (below_size (by repeat (first | (with_reducible first | exact HB.out | apply below_alloc | apply pw_below_drewN | apply below_drew1) | exact HB.out))) : w.heap.size ≤ gb220)); have n3_ := Aside0.mk ((by rw [hg]; exact (below_size (by repeat (first | (with_reducible first | exact HB.out | apply below_alloc | apply pw_below_drewN | apply below_drew1) | exact HB.out))) : w.heap.size ≤ gb220)); clear HB; have HB := n0_; have BK220 := n1_; have GW220 := n2_; have GE220 := n3_; clear n0_ n1_ n2_ n3_; clear hb hbox hg) | ((with_reducible refine gate_callee (f := 32) rfl ?_); refine goesL_ (some 6) rfl rfl Try.func32 (by kernel_rfl) rfl #[.string a0, .int .i64 32, .string (⟨#[113, 117, 105, 99, 32, 107, 101, 121]⟩ : ByteArray), .slice none 0 0] rfl (by (try simp only [List.map_toArray, List.map_cons, List.map_nil]); first | done | rfl | (simp only [List.length_drop, List.length_take]; rfl)) ?_; (refine (kdf_secret_derive.calls k a0 32 (⟨#[113, 117, 105, 99, 32, 107, 101, 121]⟩ : ByteArray) _ _ ([] : List ByteArray) t221 _ ?side1 ?side2 A2.out).mono ?_); (case side1 => exact Kd.C_nil _ _); (case side2 => exact Nat.le_refl _); rintro e w6 ⟨rfl, hb⟩; refine ⟨_, rfl, ?_⟩; have n0_ := Aside0.mk (blk_below (g := gb220) (o := .cells #[.string (⟨#[]⟩ : ByteArray), .string (⟨#[]⟩ : ByteArray), .string (⟨#[]⟩ : ByteArray)] 30 (0, 0)) (by (with_reducible repeat (first | refine blk_drewN ?_ _ | refine blk_drew ?_ | refine blk_alloc ?_ _)); exact BK220.out) hb); have n1_ := Aside0.mk (below_step (by repeat (first | (with_reducible first | exact HB.out | apply below_alloc | apply pw_below_drewN | apply below_drew1 | refine below_set ?_ GE220.out) | exact HB.out)) hb); clear BK220; clear HB; have BK220 := n0_; have HB := n1_; clear n0_ n1_; (try clear hb); (try clear hb2); (try clear hk); (try clear hi)) | ((with_reducible refine gate_callee (f := 32) rfl ?_); refine goesL_ (some 8) rfl rfl Try.func32 (by kernel_rfl) rfl #[.string a0, .int .i64 12, .string (⟨#[113, 117, 105, 99, 32, 105, 118]⟩ : ByteArray), .slice none 0 0] rfl (by (try simp only [List.map_toArray, List.map_cons, List.map_nil]); first | done | rfl | (simp only [List.length_drop, List.length_take]; rfl)) ?_; (refine (kdf_secret_derive.calls k a0 12 (⟨#[113, 117, 105, 99, 32, 105, 118]⟩ : ByteArray) _ _ ([] : List ByteArray) t222 _ ?side1 ?side2 A3.out).mono ?_); (case side1 => exact Kd.C_nil _ _); (case side2 => exact Nat.le_refl _); rintro e w7 ⟨rfl, hb⟩; refine ⟨_, rfl, ?_⟩; have n0_ := Aside0.mk (blk_below (g := gb220) (o := .cells #[.string (⟨#[]⟩ : ByteArray), .string (⟨#[]⟩ : ByteArray), .string (⟨#[]⟩ : ByteArray)] 30 (0, 0)) (by (with_reducible repeat (first | refine blk_drewN ?_ _ | refine blk_drew ?_ | refine blk_alloc ?_ _)); exact BK220.out) hb); have n1_ := Aside0.mk (below_step (by repeat (first | (with_reducible first | exact HB.out | apply below_alloc | apply pw_below_drewN | apply below_drew1 | refine below_set ?_ GE220.out) | exact HB.out)) hb); clear BK220; clear HB; have BK220 := n0_; have HB := n1_; clear n0_ n1_; (try clear hb); (try clear hb2); (try clear hk); (try clear hi)) | ((with_reducible refine gate_callee (f := 32) rfl ?_); refine goesL_ (some 10) rfl rfl Try.func32 (by kernel_rfl) rfl #[.string a0, .int .i64 32, .string (⟨#[113, 117, 105, 99, 32, 104, 112]⟩ : ByteArray), .slice none 0 0] rfl (by (try simp only [List.map_toArray, List.map_cons, List.map_nil]); first | done | rfl | (simp only [List.length_drop, List.length_take]; rfl)) ?_; (refine (kdf_secret_derive.calls k a0 32 (⟨#[113, 117, 105, 99, 32, 104, 112]⟩ : ByteArray) _ _ ([] : List ByteArray) t223 _ ?side1 ?side2 A4.out).mono ?_); (case side1 => exact Kd.C_nil _ _); (case side2 => exact Nat.le_refl _); rintro e w8 ⟨rfl, hb⟩; refine ⟨_, rfl, ?_⟩; have n0_ := Aside0.mk (blk_below (g := gb220) (o := .cells #[.string (⟨#[]⟩ : ByteArray), .string (⟨#[]⟩ : ByteArray), .string (⟨#[]⟩ : ByteArray)] 30 (0, 0)) (by (with_reducible repeat (first | refine blk_drewN ?_ _ | refine blk_drew ?_ | refine blk_alloc ?_ _)); exact BK220.out) hb); have n1_ := Aside0.mk (below_step (by repeat (first | (with_reducible first | exact HB.out | apply below_alloc | apply pw_below_drewN | apply below_drew1 | refine below_set ?_ GE220.out) | exact HB.out)) hb); clear BK220; clear HB; have BK220 := n0_; have HB := n1_; clear n0_ n1_; (try clear hb); (try clear hb2); (try clear hk); (try clear hi); have hcz9_0 : w8.cell? ⟨gb220, 0, none⟩ = some (.string (⟨#[]⟩ : ByteArray)) := (blk_cell BK220.out 0).trans rfl; have hcz9_1 : w8.cell? ⟨gb220, 1, none⟩ = some (.string (⟨#[]⟩ : ByteArray)) := (blk_cell BK220.out 1).trans rfl; have hcz9_2 : w8.cell? ⟨gb220, 2, none⟩ = some (.string (⟨#[]⟩ : ByteArray)) := (blk_cell BK220.out 2).trans rfl; have hfz9_0 := blk_frozen BK220.out 0; have hfz9_1 := blk_frozen BK220.out 1; have hfz9_2 := blk_frozen BK220.out 2))
 refine bodyPost_ret (results_cell_row rfl _ _ gb220 30 #[.string t221, .string t222, .string t223] (0, 0) _ rfl (by (with_reducible repeat (first | refine blk_drewN ?_ _ | refine blk_drew ?_ | refine blk_alloc ?_ _)); refine blk_put (cs := #[.string t221, .string t222, .string (⟨#[]⟩ : ByteArray)]) ?_ 2 _ rfl; (with_reducible repeat (first | refine blk_drewN ?_ _ | refine blk_drew ?_ | refine blk_alloc ?_ _)); refine blk_put (cs := #[.string t221, .string (⟨#[]⟩ : ByteArray), .string (⟨#[]⟩ : ByteArray)]) ?_ 1 _ rfl; (with_reducible repeat (first | refine blk_drewN ?_ _ | refine blk_drew ?_ | refine blk_alloc ?_ _)); refine blk_put (cs := #[.string (⟨#[]⟩ : ByteArray), .string (⟨#[]⟩ : ByteArray), .string (⟨#[]⟩ : ByteArray)]) ?_ 0 _ rfl; (with_reducible repeat (first | refine blk_drewN ?_ _ | refine blk_drew ?_ | refine blk_alloc ?_ _)); exact BK220.out) Try.underlying30 rfl (by kernel_rfl)) rfl ?_
 exact ⟨by first | rfl | (simp [errW_none, errW_some] <;> rfl) | (simp [*, errW_none, errW_some] <;> rfl), by repeat (first | (with_reducible first | exact HB.out | apply below_alloc | apply pw_below_drewN | apply below_drew1 | refine below_set ?_ GE220.out) | exact HB.out)⟩

/-! ### kdf_Reset: function 15 -/
def kdf_Reset.f (a0 : ByteArray) (a1 : ByteArray) : Option (ByteArray) := (kdf_Mac.f a0 (([a1] : List ByteArray))).bind fun t227 => (if 0 ≤ 16 then (if 16 ≤ (t227.size : Int) then (some (t227.extract 0 16)) else (none)) else (none))
set_option maxHeartbeats 8000000 in
set_option maxRecDepth 100000 in
theorem kdf_Reset.calls (a0 : ByteArray) (a1 : ByteArray) (r : ByteArray) (w : World) (h : kdf_Reset.f a0 a1 = some r) :
  Calls Try.prog 15 #[.string a0, .string a1] w fun e w' => e = .returned (.string r) ∧ Below w.heap.size w w' := by
 have HB := Aside0.mk (Below.refl w.heap.size w)
 have H : ((kdf_Mac.f a0 (([a1] : List ByteArray))).bind fun t227 => (if 0 ≤ 16 then (if 16 ≤ (t227.size : Int) then (some (t227.extract 0 16)) else (none)) else (none))) = some r := h
 clear h
 obtain ⟨y224, hy224⟩ : ∃ y_ : List ByteArray, y_ = (([a1] : List ByteArray)) := ⟨_, rfl⟩
 replace H : ((kdf_Mac.f a0 y224).bind fun t227 => (if 0 ≤ 16 then (if 16 ≤ (t227.size : Int) then (some (t227.extract 0 16)) else (none)) else (none))) = some r := by first | (rw [hy224]; with_reducible exact H) | (have H2_ := (Option.bind_some _ _).symm.trans H; rw [hy224]; with_reducible exact H2_) | (have H2_ := (Option.bind_some _ _).symm.trans H; with_reducible exact H2_) | with_reducible exact H | (rw [hy224]; exact H) | exact H
 have Ny224 := Aside0.mk hy224
 clear hy224
 replace H := Option.bind_eq_some_iff.mp H
 obtain ⟨t227, A30, H⟩ := H
 replace H : (if 0 ≤ 16 then (if 16 ≤ (t227.size : Int) then (some (t227.extract 0 16)) else (none)) else (none)) = some r := H
 have A3 := Aside0.mk A30
 clear A30
 by_cases c4 : 0 ≤ 16
 ·rw [if_pos c4] at H
  have c4b0 := eq_true c4
  have c4b1 : decide (0 ≤ 16) = true := decide_eq_true c4
  clear c4
  by_cases c5 : 16 ≤ (t227.size : Int)
  ·rw [if_pos c5] at H
   have c5b0 := eq_true c5
   have c5b1 : decide (16 ≤ (t227.size : Int)) = true := decide_eq_true c5
   clear c5
   obtain rfl := Option.some.inj H
   go_enter Try.func15, Try.ntmps15
   go_wp2_with (first | ((with_reducible refine gate_dst (N := 7) rfl ?_); refine Kd.R_lit Kd.string _ 9 ?hg (N := 7) ?hd (xs := ([a1] : List ByteArray)) (inner := [.string a1]) (ok := fun _ => True) (okp := fun _ => True) ?hr ?hp (fun _ hk => hk) trivial (Below.refl _ _) (Nat.le_refl _) (by simp) ?_; (case hd => rfl); (case hg => rfl); (case hr => first | (go_simp; done) | (go_simp; rfl)); (case hp => exact (Reps.one (show Kd.M Kd.string _ _ _ a1 [.string a1] from rfl) (Reps.none _ _))); intro v225 w6 ho7 hb hg_ hnew_; clear hg_ hnew_; (first | rw [← Ny224.out] at ho7 | (simp only [Int.reduceToNat] at ho7; rw [← Ny224.out] at ho7)); have n0_ := Aside0.mk (Kd.R_lower ho7 (below_size (by repeat (first | (with_reducible first | exact HB.out | apply below_alloc | apply pw_below_drewN | apply below_drew1) | exact HB.out)))); have n1_ := Aside0.mk (below_step (by repeat (first | (with_reducible first | exact HB.out | apply below_alloc | apply pw_below_drewN | apply below_drew1) | exact HB.out)) hb); clear HB; have HO226 := n0_; have HB := n1_; clear n0_ n1_; clear hb ho7; obtain ⟨Ao8, co8, eo8⟩ := Kd.R_slice HO226.out; subst eo8) | ((with_reducible refine gate_callee (f := 18) rfl ?_); refine goesL_ (some 8) rfl rfl Try.func18 (by kernel_rfl) rfl #[.string a0, .slice Ao8 y224.length co8] rfl (by (try simp only [List.map_toArray, List.map_cons, List.map_nil]); first | done | rfl | (simp only [List.length_drop, List.length_take]; rfl)) ?_; (with_reducible refine (kdf_Mac.calls a0 _ _ y224 t227 _ ?side1 ?side2 A3.out).mono ?_); (case side1 => repeat (first | exact (Kd.R_reads' HO226.out).2.2 | (with_reducible refine Kd.C_alloc ?_ _) | (with_reducible refine Kd.C_drewN ?_ _) | (with_reducible refine Kd.C_drew ?_))); (case side2 => exact (Kd.R_reads' HO226.out).2.1); rintro e w9 ⟨rfl, hb⟩; refine ⟨_, rfl, ?_⟩; have n0_ := Aside0.mk (Kd.R_below (by (with_reducible repeat (first | apply Kd.R_alloc | apply Kd.R_drewN | apply Kd.R_drew)); exact HO226.out) hb); have n1_ := Aside0.mk (below_step (by repeat (first | (with_reducible first | exact HB.out | apply below_alloc | apply pw_below_drewN | apply below_drew1) | exact HB.out)) hb); clear HO226; clear HB; have HO226 := n0_; have HB := n1_; clear n0_ n1_; (try clear hb); (try clear hb2); (try clear hk); (try clear hi)))
   go_ret
   exact ⟨by first | rfl | (simp [errW_none, errW_some] <;> rfl) | (simp [*, errW_none, errW_some] <;> rfl), by repeat (first | (with_reducible first | exact HB.out | apply below_alloc | apply pw_below_drewN | apply below_drew1) | exact HB.out)⟩
  ·rw [if_neg c5] at H
   exact absurd H (by simp)
 ·rw [if_neg c4] at H
  exact absurd H (by simp)

end Go.Proofs.Ytghdmlcmoeoohaa.PKfx
