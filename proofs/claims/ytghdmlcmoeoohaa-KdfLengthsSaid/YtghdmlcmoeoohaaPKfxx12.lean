-- printed for this claim by a program of the claim (wip/tools/pp.py over the kit's print)
import Derived.Test.YtghdmlcmoeoohaaPKfxx0
import Derived.Test.YtghdmlcmoeoohaaPKfxx5
import Derived.Test.YtghdmlcmoeoohaaPKfxx6
import Derived.Test.YtghdmlcmoeoohaaPKfxx7
import Derived.Test.YtghdmlcmoeoohaaPKfxx11
namespace Go.Proofs.Ytghdmlcmoeoohaa.PKfx
open Go.RowKit Go.Proofs.YtghdmlcmoeoohaaW.PrintWords Go.Proofs.YtghdmlcmoeoohaaW.PrintLast Go.Proofs.YtghdmlcmoeoohaaW.PrintMore
attribute [local go_sem] max2_int min2_int max_two min_two max_three min_three max_four min_four   -- for this text's walks alone
set_option linter.unusedVariables false
set_option linter.unusedSimpArgs false

attribute [local go_sem] isSome_setCell_
/-! ### dominolaw08_KdfLengths: function 5 -/
def dominolaw08_KdfLengths.j0 : Nat → ByteArray → ByteArray → Int → Bool → Option (Bool)
 | 0, _, _, _, _ => none
 | k + 1, x0, x1, x2, x32 => if x32 = true then ((dominolaw08_shown.f k).bind fun t230 => (some t230)) else ((kdf_Expand.f k x0 x1 x2).bind fun bt231 => ((kdf_Label.f k x0 x1 (⟨#[]⟩ : ByteArray) x2).bind fun bt233 => ((kdf_Of.f k x0).bind fun bt235 => (if x2 ≥ 0 then (if ((bt231.2 == 0) == (decide (x2 ≤ 8160))) = true then (if x2 ≤ 8160 then (if ((bt233.2 == 0) == (decide ((x1.size : Int) ≤ 249))) = true then (if bt231.2 = 0 then (if (bt231.1.size : Int) = x2 then (if bt233.2 = 0 then (if (bt233.1.size : Int) = x2 then (if (bt235.1.size : Int) = 32 then (if (bt235.2.1.size : Int) = 12 then (if (bt235.2.2.size : Int) = 32 then ((kdf_Reset.f x0 x1).bind fun t239 => (some ((t239.size : Int) == 16))) else (none)) else (none)) else (none)) else (none)) else (if bt233.1.toList = ([] : List UInt8) then (if (bt235.1.size : Int) = 32 then (if (bt235.2.1.size : Int) = 12 then (if (bt235.2.2.size : Int) = 32 then ((kdf_Reset.f x0 x1).bind fun t240 => (some ((t240.size : Int) == 16))) else (none)) else (none)) else (none)) else (none))) else (none)) else (if bt231.1.toList = ([] : List UInt8) then (if bt233.2 = 0 then (if (bt233.1.size : Int) = x2 then (if (bt235.1.size : Int) = 32 then (if (bt235.2.1.size : Int) = 12 then (if (bt235.2.2.size : Int) = 32 then ((kdf_Reset.f x0 x1).bind fun t241 => (some ((t241.size : Int) == 16))) else (none)) else (none)) else (none)) else (none)) else (if bt233.1.toList = ([] : List UInt8) then (if (bt235.1.size : Int) = 32 then (if (bt235.2.1.size : Int) = 12 then (if (bt235.2.2.size : Int) = 32 then ((kdf_Reset.f x0 x1).bind fun t242 => (some ((t242.size : Int) == 16))) else (none)) else (none)) else (none)) else (none))) else (none))) else (none)) else (if ((bt233.2 == 0) == false) = true then (if bt231.2 = 0 then (if (bt231.1.size : Int) = x2 then (if bt233.2 = 0 then (if (bt233.1.size : Int) = x2 then (if (bt235.1.size : Int) = 32 then (if (bt235.2.1.size : Int) = 12 then (if (bt235.2.2.size : Int) = 32 then ((kdf_Reset.f x0 x1).bind fun t243 => (some ((t243.size : Int) == 16))) else (none)) else (none)) else (none)) else (none)) else (if bt233.1.toList = ([] : List UInt8) then (if (bt235.1.size : Int) = 32 then (if (bt235.2.1.size : Int) = 12 then (if (bt235.2.2.size : Int) = 32 then ((kdf_Reset.f x0 x1).bind fun t244 => (some ((t244.size : Int) == 16))) else (none)) else (none)) else (none)) else (none))) else (none)) else (if bt231.1.toList = ([] : List UInt8) then (if bt233.2 = 0 then (if (bt233.1.size : Int) = x2 then (if (bt235.1.size : Int) = 32 then (if (bt235.2.1.size : Int) = 12 then (if (bt235.2.2.size : Int) = 32 then ((kdf_Reset.f x0 x1).bind fun t245 => (some ((t245.size : Int) == 16))) else (none)) else (none)) else (none)) else (none)) else (if bt233.1.toList = ([] : List UInt8) then (if (bt235.1.size : Int) = 32 then (if (bt235.2.1.size : Int) = 12 then (if (bt235.2.2.size : Int) = 32 then ((kdf_Reset.f x0 x1).bind fun t246 => (some ((t246.size : Int) == 16))) else (none)) else (none)) else (none)) else (none))) else (none))) else (none))) else (none)) else (if ((bt231.2 == 0) == false) = true then (if ((bt233.2 == 0) == false) = true then (if bt231.2 = 0 then (if (bt231.1.size : Int) = x2 then (if bt233.2 = 0 then (if (bt233.1.size : Int) = x2 then (if (bt235.1.size : Int) = 32 then (if (bt235.2.1.size : Int) = 12 then (if (bt235.2.2.size : Int) = 32 then ((kdf_Reset.f x0 x1).bind fun t247 => (some ((t247.size : Int) == 16))) else (none)) else (none)) else (none)) else (none)) else (if bt233.1.toList = ([] : List UInt8) then (if (bt235.1.size : Int) = 32 then (if (bt235.2.1.size : Int) = 12 then (if (bt235.2.2.size : Int) = 32 then ((kdf_Reset.f x0 x1).bind fun t248 => (some ((t248.size : Int) == 16))) else (none)) else (none)) else (none)) else (none))) else (none)) else (if bt231.1.toList = ([] : List UInt8) then (if bt233.2 = 0 then (if (bt233.1.size : Int) = x2 then (if (bt235.1.size : Int) = 32 then (if (bt235.2.1.size : Int) = 12 then (if (bt235.2.2.size : Int) = 32 then ((kdf_Reset.f x0 x1).bind fun t249 => (some ((t249.size : Int) == 16))) else (none)) else (none)) else (none)) else (none)) else (if bt233.1.toList = ([] : List UInt8) then (if (bt235.1.size : Int) = 32 then (if (bt235.2.1.size : Int) = 12 then (if (bt235.2.2.size : Int) = 32 then ((kdf_Reset.f x0 x1).bind fun t250 => (some ((t250.size : Int) == 16))) else (none)) else (none)) else (none)) else (none))) else (none))) else (none)) else (none))))))
def dominolaw08_KdfLengths.f (k : Nat) (a0 : ByteArray) (a1 : ByteArray) (a2 : Int) : Option (Bool) := if (a0.size : Int) > 100 then (dominolaw08_KdfLengths.j0 k a0 a1 a2 true) else (if (a1.size : Int) > 300 then (dominolaw08_KdfLengths.j0 k a0 a1 a2 true) else (if a2 > 500 then (if a2 ≤ 8160 then (dominolaw08_KdfLengths.j0 k a0 a1 a2 true) else ((dominolaw08_shown.f k).bind fun t228 => (dominolaw08_KdfLengths.j0 k a0 a1 a2 (!t228)))) else ((dominolaw08_shown.f k).bind fun t229 => (dominolaw08_KdfLengths.j0 k a0 a1 a2 (!t229)))))
theorem dominolaw08_KdfLengths.mono_l : ∀ k, (∀ y0 y1 y2 y3, LeO (dominolaw08_KdfLengths.j0 k y0 y1 y2 y3) (dominolaw08_KdfLengths.j0 (k + 1) y0 y1 y2 y3))
 | 0 => fun _ _ _ _ r h => by simp [dominolaw08_KdfLengths.j0] at h
 | k + 1 => by
  have ih0 := dominolaw08_KdfLengths.mono_l k
  ·intro y0 y1 y2 y3
   unfold dominolaw08_KdfLengths.j0
   repeat' first
   | (with_reducible exact ih0 _ _ _ _)
   | (with_reducible exact dominolaw08_shown.mono _)
   | (with_reducible exact kdf_Expand.mono _ _ _ _)
   | (with_reducible exact kdf_Label.mono _ _ _ _ _)
   | (with_reducible exact kdf_Of.mono _ _)
   | (with_reducible exact LeO.refl _)
   | (with_reducible exact LeO.none _)
   | (with_reducible refine LeO.ite ?_ ?_)
   | (with_reducible refine LeO.bind ?_ (fun _ => ?_))
   | exact ih0 _ _ _ _
   | exact dominolaw08_shown.mono _
   | exact kdf_Expand.mono _ _ _ _
   | exact kdf_Label.mono _ _ _ _ _
   | exact kdf_Of.mono _ _
   | exact LeO.none _
   | refine LeO.ite ?_ ?_
   | refine LeO.bind ?_ (fun _ => ?_)
theorem dominolaw08_KdfLengths.mono : ∀ a0 a1 a2 k, LeO (dominolaw08_KdfLengths.f k a0 a1 a2) (dominolaw08_KdfLengths.f (k + 1) a0 a1 a2) := by
 intro a0 a1 a2 k
 have ih0 := dominolaw08_KdfLengths.mono_l k
 unfold dominolaw08_KdfLengths.f
 repeat' first
   | (with_reducible exact ih0 _ _ _ _)
   | (with_reducible exact dominolaw08_shown.mono _)
   | (with_reducible exact kdf_Expand.mono _ _ _ _)
   | (with_reducible exact kdf_Label.mono _ _ _ _ _)
   | (with_reducible exact kdf_Of.mono _ _)
   | (with_reducible exact LeO.refl _)
   | (with_reducible exact LeO.none _)
   | (with_reducible refine LeO.ite ?_ ?_)
   | (with_reducible refine LeO.bind ?_ (fun _ => ?_))
   | exact ih0 _ _ _ _
   | exact dominolaw08_shown.mono _
   | exact kdf_Expand.mono _ _ _ _
   | exact kdf_Label.mono _ _ _ _ _
   | exact kdf_Of.mono _ _
   | exact LeO.none _
   | refine LeO.ite ?_ ?_
   | refine LeO.bind ?_ (fun _ => ?_)
set_option maxHeartbeats 8000000 in
set_option maxRecDepth 100000 in
theorem dominolaw08_KdfLengths.calls (k : Nat) (a0 : ByteArray) (a1 : ByteArray) (a2 : Int) (r : Bool) (w : World) (h : dominolaw08_KdfLengths.f k a0 a1 a2 = some r) :
  Calls Try.prog 5 #[.string a0, .string a1, .int .i64 a2] w fun e w' => e = .returned (.bool r) ∧ Below w.heap.size w w' := by
 have hu30 := Try.underlying30
 have HB := Aside0.mk (Below.refl w.heap.size w)
 have H : (if (a0.size : Int) > 100 then (dominolaw08_KdfLengths.j0 k a0 a1 a2 true) else (if (a1.size : Int) > 300 then (dominolaw08_KdfLengths.j0 k a0 a1 a2 true) else (if a2 > 500 then (if a2 ≤ 8160 then (dominolaw08_KdfLengths.j0 k a0 a1 a2 true) else ((dominolaw08_shown.f k).bind fun t228 => (dominolaw08_KdfLengths.j0 k a0 a1 a2 (!t228)))) else ((dominolaw08_shown.f k).bind fun t229 => (dominolaw08_KdfLengths.j0 k a0 a1 a2 (!t229)))))) = some r := h
 clear h
 have HC4 := Aside0.mk H
 clear H
 go_enter Try.func5, Try.ntmps5
 go_upto_region 1 with (fail)
 go_cut [32] (fun v32 wc => ∃ (kq : Nat) (x32_3 : Bool), v32 = .bool x32_3 ∧ Aside0 (dominolaw08_KdfLengths.j0 kq a0 a1 a2 x32_3 = some r) ∧ Aside0 (kq ≤ k) ∧ Aside0 (Below w.heap.size w wc))
 case first =>
  have H := HC4.out
  clear HC4
  by_cases c5 : (a0.size : Int) > 100
  ·rw [if_pos c5] at H
   have c5b0 : decide (100 < (a0.size : Int)) = true := decide_eq_true c5
   have c5b1 : decide (100 < a0.size) = true := decide_eq_true (by omega)
   clear c5
   (first | rw [c5b0] | (simp only [i64_w, i32_w]; rw [c5b0]) | skip)
   have H' := Aside0.mk H
   clear H
   go_wp2
   go_meet
   case rel => exact ⟨_, (true), (by first | rfl | (simp; done) | (simp [*]; done)), H', ⟨by first | omega | exact Nat.le_refl _⟩, ⟨by repeat (first | (with_reducible first | exact HB.out | apply below_alloc | apply pw_below_drewN | apply below_drew1) | exact HB.out)⟩⟩
  ·rw [if_neg c5] at H
   have c5b0 : decide (100 < (a0.size : Int)) = false := decide_eq_false c5
   have c5b1 : decide (100 < a0.size) = false := decide_eq_false (by omega)
   clear c5
   (first | rw [c5b0] | (simp only [i64_w, i32_w]; rw [c5b0]) | skip)
   by_cases c6 : (a1.size : Int) > 300
   ·rw [if_pos c6] at H
    have c6b0 : decide (300 < (a1.size : Int)) = true := decide_eq_true c6
    have c6b1 : decide (300 < a1.size) = true := decide_eq_true (by omega)
    clear c6
    have H' := Aside0.mk H
    clear H
    go_wp2
    go_meet
    case rel => exact ⟨_, (true), (by first | rfl | (simp; done) | (simp [*]; done)), H', ⟨by first | omega | exact Nat.le_refl _⟩, ⟨by repeat (first | (with_reducible first | exact HB.out | apply below_alloc | apply pw_below_drewN | apply below_drew1) | exact HB.out)⟩⟩
   ·rw [if_neg c6] at H
    have c6b0 : decide (300 < (a1.size : Int)) = false := decide_eq_false c6
    have c6b1 : decide (300 < a1.size) = false := decide_eq_false (by omega)
    clear c6
    by_cases c7 : a2 > 500
    ·rw [if_pos c7] at H
     have c7b0 : decide (500 < a2) = true := decide_eq_true c7
     clear c7
     by_cases c8 : a2 ≤ 8160
     ·rw [if_pos c8] at H
      have c8b0 : decide (a2 ≤ 8160) = true := decide_eq_true c8
      clear c8
      have H' := Aside0.mk H
      clear H
      go_wp2
      go_meet
      case rel => exact ⟨_, (true), (by first | rfl | (simp; done) | (simp [*]; done)), H', ⟨by first | omega | exact Nat.le_refl _⟩, ⟨by repeat (first | (with_reducible first | exact HB.out | apply below_alloc | apply pw_below_drewN | apply below_drew1) | exact HB.out)⟩⟩
     ·rw [if_neg c8] at H
      have c8b0 : decide (a2 ≤ 8160) = false := decide_eq_false c8
      clear c8
      replace H := Option.bind_eq_some_iff.mp H
      obtain ⟨t228, A90, H⟩ := H
      replace H : (dominolaw08_KdfLengths.j0 k a0 a1 a2 (!t228)) = some r := H
      have A9 := Aside0.mk A90
      clear A90
      have H' := Aside0.mk H
      clear H
      go_wp2_with (first | (go_at_call 9; (with_reducible refine (dominolaw08_shown.calls k  t228 _ A9.out).mono ?_); rintro e w10 ⟨rfl, hb⟩; have n0_ := Aside0.mk (below_step (by repeat (first | (with_reducible first | exact HB.out | apply below_alloc | apply pw_below_drewN | apply below_drew1) | exact HB.out)) hb); clear HB; have HB := n0_; clear n0_; (try clear hb); (try clear hb2); (try clear hk); (try clear hi)))
      go_meet
      case rel => exact ⟨_, (!t228), (by first | rfl | (simp; done) | (simp [*]; done)), H', ⟨by first | omega | exact Nat.le_refl _⟩, ⟨by repeat (first | (with_reducible first | exact HB.out | apply below_alloc | apply pw_below_drewN | apply below_drew1) | exact HB.out)⟩⟩
    ·rw [if_neg c7] at H
     have c7b0 : decide (500 < a2) = false := decide_eq_false c7
     clear c7
     replace H := Option.bind_eq_some_iff.mp H
     obtain ⟨t229, A110, H⟩ := H
     replace H : (dominolaw08_KdfLengths.j0 k a0 a1 a2 (!t229)) = some r := H
     have A11 := Aside0.mk A110
     clear A110
     have H' := Aside0.mk H
     clear H
     go_wp2_with (first | (go_at_call 9; (with_reducible refine (dominolaw08_shown.calls k  t229 _ A11.out).mono ?_); rintro e w12 ⟨rfl, hb⟩; have n0_ := Aside0.mk (below_step (by repeat (first | (with_reducible first | exact HB.out | apply below_alloc | apply pw_below_drewN | apply below_drew1) | exact HB.out)) hb); clear HB; have HB := n0_; clear n0_; (try clear hb); (try clear hb2); (try clear hk); (try clear hi)))
     go_meet
     case rel => exact ⟨_, (!t229), (by first | rfl | (simp; done) | (simp [*]; done)), H', ⟨by first | omega | exact Nat.le_refl _⟩, ⟨by repeat (first | (with_reducible first | exact HB.out | apply below_alloc | apply pw_below_drewN | apply below_drew1) | exact HB.out)⟩⟩
 case rest =>
  clear HC4
  try clear p2
  try clear c5
  try clear c5b0
  try clear c5b1
  try clear c6
  try clear c6b0
  try clear c6b1
  try clear c7
  try clear c7b0
  try clear c8
  try clear c8b0
  obtain ⟨kq, x32_3, rfl, HA, HJ3, HB⟩ := hcut
  cases kq with
  | zero => exact absurd HA.out (by simp [dominolaw08_KdfLengths.j0])
  | succ kj3 =>
   have H := HA.out
   clear HA
   simp only [dominolaw08_KdfLengths.j0] at H
   by_cases c13 : x32_3 = true
   ·subst c13
    have H1 : ((dominolaw08_shown.f kj3).bind fun t230 => (some t230)) = some r := by rw [if_pos rfl] at H; exact H
    clear H
    have H := H1
    clear H1
    replace H := Option.bind_eq_some_iff.mp H
    obtain ⟨t230, A140, H⟩ := H
    replace H : (some t230) = some r := H
    have A14 := Aside0.mk A140
    clear A140
    obtain rfl := Option.some.inj H
    go_wp2_with (first | ((with_reducible refine gate_callee (f := 9) rfl ?_); refine goesL_ (some 33) rfl rfl Try.func9 (by kernel_rfl) rfl #[] rfl (by (try simp only [List.map_toArray, List.map_cons, List.map_nil]); first | done | rfl | (simp only [List.length_drop, List.length_take]; rfl)) ?_; (with_reducible refine (dominolaw08_shown.calls kj3  t230 _ A14.out).mono ?_); rintro e w15 ⟨rfl, hb⟩; refine ⟨_, rfl, ?_⟩; have n0_ := Aside0.mk (below_step (by repeat (first | (with_reducible first | exact HB.out | apply below_alloc | apply pw_below_drewN | apply below_drew1) | exact HB.out)) hb); clear HB; have HB := n0_; clear n0_; (try clear hb); (try clear hb2); (try clear hk); (try clear hi)))
    go_ret
    exact ⟨by first | rfl | (simp [errW_none, errW_some] <;> rfl) | (simp [*, errW_none, errW_some] <;> rfl), by repeat (first | (with_reducible first | exact HB.out | apply below_alloc | apply pw_below_drewN | apply below_drew1) | exact HB.out)⟩
   ·replace c13 := Bool.eq_false_iff.mpr c13
    subst c13
    have H1 : ((kdf_Expand.f kj3 a0 a1 a2).bind fun bt231 => ((kdf_Label.f kj3 a0 a1 (⟨#[]⟩ : ByteArray) a2).bind fun bt233 => ((kdf_Of.f kj3 a0).bind fun bt235 => (if a2 ≥ 0 then (if ((bt231.2 == 0) == (decide (a2 ≤ 8160))) = true then (if a2 ≤ 8160 then (if ((bt233.2 == 0) == (decide ((a1.size : Int) ≤ 249))) = true then (if bt231.2 = 0 then (if (bt231.1.size : Int) = a2 then (if bt233.2 = 0 then (if (bt233.1.size : Int) = a2 then (if (bt235.1.size : Int) = 32 then (if (bt235.2.1.size : Int) = 12 then (if (bt235.2.2.size : Int) = 32 then ((kdf_Reset.f a0 a1).bind fun t239 => (some ((t239.size : Int) == 16))) else (none)) else (none)) else (none)) else (none)) else (if bt233.1.toList = ([] : List UInt8) then (if (bt235.1.size : Int) = 32 then (if (bt235.2.1.size : Int) = 12 then (if (bt235.2.2.size : Int) = 32 then ((kdf_Reset.f a0 a1).bind fun t240 => (some ((t240.size : Int) == 16))) else (none)) else (none)) else (none)) else (none))) else (none)) else (if bt231.1.toList = ([] : List UInt8) then (if bt233.2 = 0 then (if (bt233.1.size : Int) = a2 then (if (bt235.1.size : Int) = 32 then (if (bt235.2.1.size : Int) = 12 then (if (bt235.2.2.size : Int) = 32 then ((kdf_Reset.f a0 a1).bind fun t241 => (some ((t241.size : Int) == 16))) else (none)) else (none)) else (none)) else (none)) else (if bt233.1.toList = ([] : List UInt8) then (if (bt235.1.size : Int) = 32 then (if (bt235.2.1.size : Int) = 12 then (if (bt235.2.2.size : Int) = 32 then ((kdf_Reset.f a0 a1).bind fun t242 => (some ((t242.size : Int) == 16))) else (none)) else (none)) else (none)) else (none))) else (none))) else (none)) else (if ((bt233.2 == 0) == false) = true then (if bt231.2 = 0 then (if (bt231.1.size : Int) = a2 then (if bt233.2 = 0 then (if (bt233.1.size : Int) = a2 then (if (bt235.1.size : Int) = 32 then (if (bt235.2.1.size : Int) = 12 then (if (bt235.2.2.size : Int) = 32 then ((kdf_Reset.f a0 a1).bind fun t243 => (some ((t243.size : Int) == 16))) else (none)) else (none)) else (none)) else (none)) else (if bt233.1.toList = ([] : List UInt8) then (if (bt235.1.size : Int) = 32 then (if (bt235.2.1.size : Int) = 12 then (if (bt235.2.2.size : Int) = 32 then ((kdf_Reset.f a0 a1).bind fun t244 => (some ((t244.size : Int) == 16))) else (none)) else (none)) else (none)) else (none))) else (none)) else (if bt231.1.toList = ([] : List UInt8) then (if bt233.2 = 0 then (if (bt233.1.size : Int) = a2 then (if (bt235.1.size : Int) = 32 then (if (bt235.2.1.size : Int) = 12 then (if (bt235.2.2.size : Int) = 32 then ((kdf_Reset.f a0 a1).bind fun t245 => (some ((t245.size : Int) == 16))) else (none)) else (none)) else (none)) else (none)) else (if bt233.1.toList = ([] : List UInt8) then (if (bt235.1.size : Int) = 32 then (if (bt235.2.1.size : Int) = 12 then (if (bt235.2.2.size : Int) = 32 then ((kdf_Reset.f a0 a1).bind fun t246 => (some ((t246.size : Int) == 16))) else (none)) else (none)) else (none)) else (none))) else (none))) else (none))) else (none)) else (if ((bt231.2 == 0) == false) = true then (if ((bt233.2 == 0) == false) = true then (if bt231.2 = 0 then (if (bt231.1.size : Int) = a2 then (if bt233.2 = 0 then (if (bt233.1.size : Int) = a2 then (if (bt235.1.size : Int) = 32 then (if (bt235.2.1.size : Int) = 12 then (if (bt235.2.2.size : Int) = 32 then ((kdf_Reset.f a0 a1).bind fun t247 => (some ((t247.size : Int) == 16))) else (none)) else (none)) else (none)) else (none)) else (if bt233.1.toList = ([] : List UInt8) then (if (bt235.1.size : Int) = 32 then (if (bt235.2.1.size : Int) = 12 then (if (bt235.2.2.size : Int) = 32 then ((kdf_Reset.f a0 a1).bind fun t248 => (some ((t248.size : Int) == 16))) else (none)) else (none)) else (none)) else (none))) else (none)) else (if bt231.1.toList = ([] : List UInt8) then (if bt233.2 = 0 then (if (bt233.1.size : Int) = a2 then (if (bt235.1.size : Int) = 32 then (if (bt235.2.1.size : Int) = 12 then (if (bt235.2.2.size : Int) = 32 then ((kdf_Reset.f a0 a1).bind fun t249 => (some ((t249.size : Int) == 16))) else (none)) else (none)) else (none)) else (none)) else (if bt233.1.toList = ([] : List UInt8) then (if (bt235.1.size : Int) = 32 then (if (bt235.2.1.size : Int) = 12 then (if (bt235.2.2.size : Int) = 32 then ((kdf_Reset.f a0 a1).bind fun t250 => (some ((t250.size : Int) == 16))) else (none)) else (none)) else (none)) else (none))) else (none))) else (none)) else (none)))))) = some r := by rw [if_neg (show ¬ (false = true) by decide)] at H; exact H
    clear H
    have H := H1
    clear H1
    replace H := Option.bind_eq_some_iff.mp H
    obtain ⟨⟨t231, t232⟩, A160, H⟩ := H
    replace H : ((kdf_Label.f kj3 a0 a1 (⟨#[]⟩ : ByteArray) a2).bind fun bt233 => ((kdf_Of.f kj3 a0).bind fun bt235 => (if a2 ≥ 0 then (if ((t232 == 0) == (decide (a2 ≤ 8160))) = true then (if a2 ≤ 8160 then (if ((bt233.2 == 0) == (decide ((a1.size : Int) ≤ 249))) = true then (if t232 = 0 then (if (t231.size : Int) = a2 then (if bt233.2 = 0 then (if (bt233.1.size : Int) = a2 then (if (bt235.1.size : Int) = 32 then (if (bt235.2.1.size : Int) = 12 then (if (bt235.2.2.size : Int) = 32 then ((kdf_Reset.f a0 a1).bind fun t239 => (some ((t239.size : Int) == 16))) else (none)) else (none)) else (none)) else (none)) else (if bt233.1.toList = ([] : List UInt8) then (if (bt235.1.size : Int) = 32 then (if (bt235.2.1.size : Int) = 12 then (if (bt235.2.2.size : Int) = 32 then ((kdf_Reset.f a0 a1).bind fun t240 => (some ((t240.size : Int) == 16))) else (none)) else (none)) else (none)) else (none))) else (none)) else (if t231.toList = ([] : List UInt8) then (if bt233.2 = 0 then (if (bt233.1.size : Int) = a2 then (if (bt235.1.size : Int) = 32 then (if (bt235.2.1.size : Int) = 12 then (if (bt235.2.2.size : Int) = 32 then ((kdf_Reset.f a0 a1).bind fun t241 => (some ((t241.size : Int) == 16))) else (none)) else (none)) else (none)) else (none)) else (if bt233.1.toList = ([] : List UInt8) then (if (bt235.1.size : Int) = 32 then (if (bt235.2.1.size : Int) = 12 then (if (bt235.2.2.size : Int) = 32 then ((kdf_Reset.f a0 a1).bind fun t242 => (some ((t242.size : Int) == 16))) else (none)) else (none)) else (none)) else (none))) else (none))) else (none)) else (if ((bt233.2 == 0) == false) = true then (if t232 = 0 then (if (t231.size : Int) = a2 then (if bt233.2 = 0 then (if (bt233.1.size : Int) = a2 then (if (bt235.1.size : Int) = 32 then (if (bt235.2.1.size : Int) = 12 then (if (bt235.2.2.size : Int) = 32 then ((kdf_Reset.f a0 a1).bind fun t243 => (some ((t243.size : Int) == 16))) else (none)) else (none)) else (none)) else (none)) else (if bt233.1.toList = ([] : List UInt8) then (if (bt235.1.size : Int) = 32 then (if (bt235.2.1.size : Int) = 12 then (if (bt235.2.2.size : Int) = 32 then ((kdf_Reset.f a0 a1).bind fun t244 => (some ((t244.size : Int) == 16))) else (none)) else (none)) else (none)) else (none))) else (none)) else (if t231.toList = ([] : List UInt8) then (if bt233.2 = 0 then (if (bt233.1.size : Int) = a2 then (if (bt235.1.size : Int) = 32 then (if (bt235.2.1.size : Int) = 12 then (if (bt235.2.2.size : Int) = 32 then ((kdf_Reset.f a0 a1).bind fun t245 => (some ((t245.size : Int) == 16))) else (none)) else (none)) else (none)) else (none)) else (if bt233.1.toList = ([] : List UInt8) then (if (bt235.1.size : Int) = 32 then (if (bt235.2.1.size : Int) = 12 then (if (bt235.2.2.size : Int) = 32 then ((kdf_Reset.f a0 a1).bind fun t246 => (some ((t246.size : Int) == 16))) else (none)) else (none)) else (none)) else (none))) else (none))) else (none))) else (none)) else (if ((t232 == 0) == false) = true then (if ((bt233.2 == 0) == false) = true then (if t232 = 0 then (if (t231.size : Int) = a2 then (if bt233.2 = 0 then (if (bt233.1.size : Int) = a2 then (if (bt235.1.size : Int) = 32 then (if (bt235.2.1.size : Int) = 12 then (if (bt235.2.2.size : Int) = 32 then ((kdf_Reset.f a0 a1).bind fun t247 => (some ((t247.size : Int) == 16))) else (none)) else (none)) else (none)) else (none)) else (if bt233.1.toList = ([] : List UInt8) then (if (bt235.1.size : Int) = 32 then (if (bt235.2.1.size : Int) = 12 then (if (bt235.2.2.size : Int) = 32 then ((kdf_Reset.f a0 a1).bind fun t248 => (some ((t248.size : Int) == 16))) else (none)) else (none)) else (none)) else (none))) else (none)) else (if t231.toList = ([] : List UInt8) then (if bt233.2 = 0 then (if (bt233.1.size : Int) = a2 then (if (bt235.1.size : Int) = 32 then (if (bt235.2.1.size : Int) = 12 then (if (bt235.2.2.size : Int) = 32 then ((kdf_Reset.f a0 a1).bind fun t249 => (some ((t249.size : Int) == 16))) else (none)) else (none)) else (none)) else (none)) else (if bt233.1.toList = ([] : List UInt8) then (if (bt235.1.size : Int) = 32 then (if (bt235.2.1.size : Int) = 12 then (if (bt235.2.2.size : Int) = 32 then ((kdf_Reset.f a0 a1).bind fun t250 => (some ((t250.size : Int) == 16))) else (none)) else (none)) else (none)) else (none))) else (none))) else (none)) else (none))))) = some r := H
    have A16 := Aside0.mk A160
    clear A160
    replace H := Option.bind_eq_some_iff.mp H
    obtain ⟨⟨t233, t234⟩, A170, H⟩ := H
    replace H : ((kdf_Of.f kj3 a0).bind fun bt235 => (if a2 ≥ 0 then (if ((t232 == 0) == (decide (a2 ≤ 8160))) = true then (if a2 ≤ 8160 then (if ((t234 == 0) == (decide ((a1.size : Int) ≤ 249))) = true then (if t232 = 0 then (if (t231.size : Int) = a2 then (if t234 = 0 then (if (t233.size : Int) = a2 then (if (bt235.1.size : Int) = 32 then (if (bt235.2.1.size : Int) = 12 then (if (bt235.2.2.size : Int) = 32 then ((kdf_Reset.f a0 a1).bind fun t239 => (some ((t239.size : Int) == 16))) else (none)) else (none)) else (none)) else (none)) else (if t233.toList = ([] : List UInt8) then (if (bt235.1.size : Int) = 32 then (if (bt235.2.1.size : Int) = 12 then (if (bt235.2.2.size : Int) = 32 then ((kdf_Reset.f a0 a1).bind fun t240 => (some ((t240.size : Int) == 16))) else (none)) else (none)) else (none)) else (none))) else (none)) else (if t231.toList = ([] : List UInt8) then (if t234 = 0 then (if (t233.size : Int) = a2 then (if (bt235.1.size : Int) = 32 then (if (bt235.2.1.size : Int) = 12 then (if (bt235.2.2.size : Int) = 32 then ((kdf_Reset.f a0 a1).bind fun t241 => (some ((t241.size : Int) == 16))) else (none)) else (none)) else (none)) else (none)) else (if t233.toList = ([] : List UInt8) then (if (bt235.1.size : Int) = 32 then (if (bt235.2.1.size : Int) = 12 then (if (bt235.2.2.size : Int) = 32 then ((kdf_Reset.f a0 a1).bind fun t242 => (some ((t242.size : Int) == 16))) else (none)) else (none)) else (none)) else (none))) else (none))) else (none)) else (if ((t234 == 0) == false) = true then (if t232 = 0 then (if (t231.size : Int) = a2 then (if t234 = 0 then (if (t233.size : Int) = a2 then (if (bt235.1.size : Int) = 32 then (if (bt235.2.1.size : Int) = 12 then (if (bt235.2.2.size : Int) = 32 then ((kdf_Reset.f a0 a1).bind fun t243 => (some ((t243.size : Int) == 16))) else (none)) else (none)) else (none)) else (none)) else (if t233.toList = ([] : List UInt8) then (if (bt235.1.size : Int) = 32 then (if (bt235.2.1.size : Int) = 12 then (if (bt235.2.2.size : Int) = 32 then ((kdf_Reset.f a0 a1).bind fun t244 => (some ((t244.size : Int) == 16))) else (none)) else (none)) else (none)) else (none))) else (none)) else (if t231.toList = ([] : List UInt8) then (if t234 = 0 then (if (t233.size : Int) = a2 then (if (bt235.1.size : Int) = 32 then (if (bt235.2.1.size : Int) = 12 then (if (bt235.2.2.size : Int) = 32 then ((kdf_Reset.f a0 a1).bind fun t245 => (some ((t245.size : Int) == 16))) else (none)) else (none)) else (none)) else (none)) else (if t233.toList = ([] : List UInt8) then (if (bt235.1.size : Int) = 32 then (if (bt235.2.1.size : Int) = 12 then (if (bt235.2.2.size : Int) = 32 then ((kdf_Reset.f a0 a1).bind fun t246 => (some ((t246.size : Int) == 16))) else (none)) else (none)) else (none)) else (none))) else (none))) else (none))) else (none)) else (if ((t232 == 0) == false) = true then (if ((t234 == 0) == false) = true then (if t232 = 0 then (if (t231.size : Int) = a2 then (if t234 = 0 then (if (t233.size : Int) = a2 then (if (bt235.1.size : Int) = 32 then (if (bt235.2.1.size : Int) = 12 then (if (bt235.2.2.size : Int) = 32 then ((kdf_Reset.f a0 a1).bind fun t247 => (some ((t247.size : Int) == 16))) else (none)) else (none)) else (none)) else (none)) else (if t233.toList = ([] : List UInt8) then (if (bt235.1.size : Int) = 32 then (if (bt235.2.1.size : Int) = 12 then (if (bt235.2.2.size : Int) = 32 then ((kdf_Reset.f a0 a1).bind fun t248 => (some ((t248.size : Int) == 16))) else (none)) else (none)) else (none)) else (none))) else (none)) else (if t231.toList = ([] : List UInt8) then (if t234 = 0 then (if (t233.size : Int) = a2 then (if (bt235.1.size : Int) = 32 then (if (bt235.2.1.size : Int) = 12 then (if (bt235.2.2.size : Int) = 32 then ((kdf_Reset.f a0 a1).bind fun t249 => (some ((t249.size : Int) == 16))) else (none)) else (none)) else (none)) else (none)) else (if t233.toList = ([] : List UInt8) then (if (bt235.1.size : Int) = 32 then (if (bt235.2.1.size : Int) = 12 then (if (bt235.2.2.size : Int) = 32 then ((kdf_Reset.f a0 a1).bind fun t250 => (some ((t250.size : Int) == 16))) else (none)) else (none)) else (none)) else (none))) else (none))) else (none)) else (none)))) = some r := H
    have A17 := Aside0.mk A170
    clear A170
    replace H := Option.bind_eq_some_iff.mp H
    obtain ⟨⟨t235, t236, t237⟩, A180, H⟩ := H
    replace H : (if a2 ≥ 0 then (if ((t232 == 0) == (decide (a2 ≤ 8160))) = true then (if a2 ≤ 8160 then (if ((t234 == 0) == (decide ((a1.size : Int) ≤ 249))) = true then (if t232 = 0 then (if (t231.size : Int) = a2 then (if t234 = 0 then (if (t233.size : Int) = a2 then (if (t235.size : Int) = 32 then (if (t236.size : Int) = 12 then (if (t237.size : Int) = 32 then ((kdf_Reset.f a0 a1).bind fun t239 => (some ((t239.size : Int) == 16))) else (none)) else (none)) else (none)) else (none)) else (if t233.toList = ([] : List UInt8) then (if (t235.size : Int) = 32 then (if (t236.size : Int) = 12 then (if (t237.size : Int) = 32 then ((kdf_Reset.f a0 a1).bind fun t240 => (some ((t240.size : Int) == 16))) else (none)) else (none)) else (none)) else (none))) else (none)) else (if t231.toList = ([] : List UInt8) then (if t234 = 0 then (if (t233.size : Int) = a2 then (if (t235.size : Int) = 32 then (if (t236.size : Int) = 12 then (if (t237.size : Int) = 32 then ((kdf_Reset.f a0 a1).bind fun t241 => (some ((t241.size : Int) == 16))) else (none)) else (none)) else (none)) else (none)) else (if t233.toList = ([] : List UInt8) then (if (t235.size : Int) = 32 then (if (t236.size : Int) = 12 then (if (t237.size : Int) = 32 then ((kdf_Reset.f a0 a1).bind fun t242 => (some ((t242.size : Int) == 16))) else (none)) else (none)) else (none)) else (none))) else (none))) else (none)) else (if ((t234 == 0) == false) = true then (if t232 = 0 then (if (t231.size : Int) = a2 then (if t234 = 0 then (if (t233.size : Int) = a2 then (if (t235.size : Int) = 32 then (if (t236.size : Int) = 12 then (if (t237.size : Int) = 32 then ((kdf_Reset.f a0 a1).bind fun t243 => (some ((t243.size : Int) == 16))) else (none)) else (none)) else (none)) else (none)) else (if t233.toList = ([] : List UInt8) then (if (t235.size : Int) = 32 then (if (t236.size : Int) = 12 then (if (t237.size : Int) = 32 then ((kdf_Reset.f a0 a1).bind fun t244 => (some ((t244.size : Int) == 16))) else (none)) else (none)) else (none)) else (none))) else (none)) else (if t231.toList = ([] : List UInt8) then (if t234 = 0 then (if (t233.size : Int) = a2 then (if (t235.size : Int) = 32 then (if (t236.size : Int) = 12 then (if (t237.size : Int) = 32 then ((kdf_Reset.f a0 a1).bind fun t245 => (some ((t245.size : Int) == 16))) else (none)) else (none)) else (none)) else (none)) else (if t233.toList = ([] : List UInt8) then (if (t235.size : Int) = 32 then (if (t236.size : Int) = 12 then (if (t237.size : Int) = 32 then ((kdf_Reset.f a0 a1).bind fun t246 => (some ((t246.size : Int) == 16))) else (none)) else (none)) else (none)) else (none))) else (none))) else (none))) else (none)) else (if ((t232 == 0) == false) = true then (if ((t234 == 0) == false) = true then (if t232 = 0 then (if (t231.size : Int) = a2 then (if t234 = 0 then (if (t233.size : Int) = a2 then (if (t235.size : Int) = 32 then (if (t236.size : Int) = 12 then (if (t237.size : Int) = 32 then ((kdf_Reset.f a0 a1).bind fun t247 => (some ((t247.size : Int) == 16))) else (none)) else (none)) else (none)) else (none)) else (if t233.toList = ([] : List UInt8) then (if (t235.size : Int) = 32 then (if (t236.size : Int) = 12 then (if (t237.size : Int) = 32 then ((kdf_Reset.f a0 a1).bind fun t248 => (some ((t248.size : Int) == 16))) else (none)) else (none)) else (none)) else (none))) else (none)) else (if t231.toList = ([] : List UInt8) then (if t234 = 0 then (if (t233.size : Int) = a2 then (if (t235.size : Int) = 32 then (if (t236.size : Int) = 12 then (if (t237.size : Int) = 32 then ((kdf_Reset.f a0 a1).bind fun t249 => (some ((t249.size : Int) == 16))) else (none)) else (none)) else (none)) else (none)) else (if t233.toList = ([] : List UInt8) then (if (t235.size : Int) = 32 then (if (t236.size : Int) = 12 then (if (t237.size : Int) = 32 then ((kdf_Reset.f a0 a1).bind fun t250 => (some ((t250.size : Int) == 16))) else (none)) else (none)) else (none)) else (none))) else (none))) else (none)) else (none))) = some r := H
    have A18 := Aside0.mk A180
    clear A180
    by_cases c19 : a2 ≥ 0
    ·rw [if_pos c19] at H
     have c19b0 : decide (0 ≤ a2) = true := decide_eq_true c19
     clear c19
     by_cases c20 : ((t232 == 0) == (decide (a2 ≤ 8160))) = true
     ·rw [if_pos c20] at H
      have c20b0 : ((t232 == 0) == (decide (a2 ≤ 8160))) = true := c20
      (try (have c20b1 : decide ((t232 == 0) = (decide (a2 ≤ 8160))) = true := by simpa using c20))
      (try (have c20b2 : ((t232 == 0) == (decide (a2 ≤ 8160))) = true := by simpa using c20))
      clear c20
      by_cases c21 : a2 ≤ 8160
      ·rw [if_pos c21] at H
       have c21b0 : decide (a2 ≤ 8160) = true := decide_eq_true c21
       clear c21
       by_cases c22 : ((t234 == 0) == (decide ((a1.size : Int) ≤ 249))) = true
       ·rw [if_pos c22] at H
        have c22b0 : ((t234 == 0) == (decide ((a1.size : Int) ≤ 249))) = true := c22
        (try (have c22b1 : decide ((t234 == 0) = (decide ((a1.size : Int) ≤ 249))) = true := by simpa using c22))
        (try (have c22b2 : ((t234 == 0) == (decide ((a1.size : Int) ≤ 249))) = true := by simpa using c22))
        clear c22
        by_cases c23 : t232 = 0
        ·rw [if_pos c23] at H
         have c23b0 : (t232 == 0) = true := beq_iff_eq.mpr c23
         have c23b1 : (t232 != 0) = false := bne_eq_false_iff_eq.mpr c23
         clear c23
         by_cases c24 : (t231.size : Int) = a2
         ·rw [if_pos c24] at H
          have c24b0 : ((t231.size : Int) == a2) = true := beq_iff_eq.mpr c24
          have c24b1 : ((t231.size : Int) != a2) = false := bne_eq_false_iff_eq.mpr c24
          clear c24
          by_cases c25 : t234 = 0
          ·rw [if_pos c25] at H
           have c25b0 : (t234 == 0) = true := beq_iff_eq.mpr c25
           have c25b1 : (t234 != 0) = false := bne_eq_false_iff_eq.mpr c25
           clear c25
           by_cases c26 : (t233.size : Int) = a2
           ·rw [if_pos c26] at H
            have c26b0 : ((t233.size : Int) == a2) = true := beq_iff_eq.mpr c26
            have c26b1 : ((t233.size : Int) != a2) = false := bne_eq_false_iff_eq.mpr c26
            clear c26
            by_cases c27 : (t235.size : Int) = 32
            ·rw [if_pos c27] at H
             have c27b0 : ((t235.size : Int) == 32) = true := beq_iff_eq.mpr c27
             have c27b1 : ((t235.size : Int) != 32) = false := bne_eq_false_iff_eq.mpr c27
             clear c27
             by_cases c28 : (t236.size : Int) = 12
             ·rw [if_pos c28] at H
              have c28b0 : ((t236.size : Int) == 12) = true := beq_iff_eq.mpr c28
              have c28b1 : ((t236.size : Int) != 12) = false := bne_eq_false_iff_eq.mpr c28
              clear c28
              by_cases c29 : (t237.size : Int) = 32
              ·rw [if_pos c29] at H
               have c29b0 : ((t237.size : Int) == 32) = true := beq_iff_eq.mpr c29
               have c29b1 : ((t237.size : Int) != 32) = false := bne_eq_false_iff_eq.mpr c29
               clear c29
               replace H := Option.bind_eq_some_iff.mp H
               obtain ⟨t239, A300, H⟩ := H
               replace H : (some ((t239.size : Int) == 16)) = some r := H
               have A30 := Aside0.mk A300
               clear A300
               obtain rfl := Option.some.inj H
               have q2_ : decide ((a1.size : Int) ≤ 249) = true := by rw [c25b0] at c22b0; simpa using c22b0
               (try clear c22b2)
               (try clear c22b1)
               clear c22b0
               (try clear c20b2)
               (try clear c20b1)
               (try clear c20b0)
               go_upto_region 7 with (first | ((with_reducible refine gate_callee (f := 10) rfl ?_); refine goesL_ (some 38) rfl rfl Try.func10 (by kernel_rfl) rfl #[.string a0, .string a1, .int .i64 a2] rfl (by (try simp only [List.map_toArray, List.map_cons, List.map_nil]); first | done | rfl | (simp only [List.length_drop, List.length_take]; rfl)) ?_; (with_reducible refine (kdf_Expand.calls kj3 a0 a1 a2 t231 t232 _ A16.out).mono ?_); rintro e w31 ⟨rfl, hb⟩; refine ⟨_, rfl, ?_⟩; have n0_ := Aside0.mk (below_step (by repeat (first | (with_reducible first | exact HB.out | apply below_alloc | apply pw_below_drewN | apply below_drew1) | exact HB.out)) hb); clear HB; have HB := n0_; clear n0_; (try clear hb); (try clear hb2); (try clear hk); (try clear hi)) | ((with_reducible refine gate_callee (f := 12) rfl ?_); refine goesL_ (some 45) rfl rfl Try.func12 (by kernel_rfl) rfl #[.string a0, .string a1, .string (⟨#[]⟩ : ByteArray), .int .i64 a2] rfl (by (try simp only [List.map_toArray, List.map_cons, List.map_nil]); first | done | rfl | (simp only [List.length_drop, List.length_take]; rfl)) ?_; (with_reducible refine (kdf_Label.calls kj3 a0 a1 (⟨#[]⟩ : ByteArray) a2 t233 t234 _ A17.out).mono ?_); rintro e w32 ⟨rfl, hb⟩; refine ⟨_, rfl, ?_⟩; have n0_ := Aside0.mk (below_step (by repeat (first | (with_reducible first | exact HB.out | apply below_alloc | apply pw_below_drewN | apply below_drew1) | exact HB.out)) hb); clear HB; have HB := n0_; clear n0_; (try clear hb); (try clear hb2); (try clear hk); (try clear hi)) | ((with_reducible refine gate_callee (f := 14) rfl ?_); refine goesL_ (some 49) rfl rfl Try.func14 (by kernel_rfl) rfl #[.string a0] rfl (by (try simp only [List.map_toArray, List.map_cons, List.map_nil]); first | done | rfl | (simp only [List.length_drop, List.length_take]; rfl)) ?_; (with_reducible refine (kdf_Of.calls kj3 a0 t235 t236 t237 _ A18.out).mono ?_); rintro e w33 ⟨rfl, hb⟩; refine ⟨_, rfl, ?_⟩; have n0_ := Aside0.mk (below_step (by repeat (first | (with_reducible first | exact HB.out | apply below_alloc | apply pw_below_drewN | apply below_drew1) | exact HB.out)) hb); clear HB; have HB := n0_; clear n0_; (try clear hb); (try clear hb2); (try clear hk); (try clear hi)) | ((with_reducible refine gate_dst (N := 11) rfl ?_); (try (refine gate_guard (by rfl) ?_; dsimp only)); refine box_event ?hg (N := 11) ?hd (cs := #[.string (⟨#[]⟩ : ByteArray), .string (⟨#[]⟩ : ByteArray), .string (⟨#[]⟩ : ByteArray)]) (t := 30) ?hr ?_; (case hd => rfl); (case hg => rfl); (case hr => first | (go_simp; done) | (go_simp; rfl)); intro gb238 hg w34 hbox hb; have n0_ := Aside0.mk (below_step (by repeat (first | (with_reducible first | exact HB.out | apply below_alloc | apply pw_below_drewN | apply below_drew1) | exact HB.out)) hb); have n1_ := Aside0.mk (hbox); have n2_ := Aside0.mk ((by rw [hg]; exact (below_size (by repeat (first | (with_reducible first | exact HB.out | apply below_alloc | apply pw_below_drewN | apply below_drew1) | exact HB.out))) : w.heap.size ≤ gb238)); have n3_ := Aside0.mk ((by rw [hg]; exact (below_size (by repeat (first | (with_reducible first | exact HB.out | apply below_alloc | apply pw_below_drewN | apply below_drew1) | exact HB.out))) : w.heap.size ≤ gb238)); clear HB; have HB := n0_; have BK238 := n1_; have GW238 := n2_; have GE238 := n3_; clear n0_ n1_ n2_ n3_; clear hb hbox hg; have hcz35_0 : w34.cell? ⟨gb238, 0, none⟩ = some (.string (⟨#[]⟩ : ByteArray)) := (blk_cell BK238.out 0).trans rfl; have hcz35_1 : w34.cell? ⟨gb238, 1, none⟩ = some (.string (⟨#[]⟩ : ByteArray)) := (blk_cell BK238.out 1).trans rfl; have hcz35_2 : w34.cell? ⟨gb238, 2, none⟩ = some (.string (⟨#[]⟩ : ByteArray)) := (blk_cell BK238.out 2).trans rfl; have hfz35_0 := blk_frozen BK238.out 0; have hfz35_1 := blk_frozen BK238.out 1; have hfz35_2 := blk_frozen BK238.out 2) | (go_at_call 15; (with_reducible refine (kdf_Reset.calls a0 a1 t239 _ A30.out).mono ?_); rintro e w36 ⟨rfl, hb⟩; have n0_ := Aside0.mk (blk_below (g := gb238) (o := .cells #[.string t235, .string t236, .string t237] 30 (0, 0)) (by (with_reducible repeat (first | refine blk_drewN ?_ _ | refine blk_drew ?_ | refine blk_alloc ?_ _)); refine blk_put (cs := #[.string t235, .string t236, .string (⟨#[]⟩ : ByteArray)]) ?_ 2 _ rfl; (with_reducible repeat (first | refine blk_drewN ?_ _ | refine blk_drew ?_ | refine blk_alloc ?_ _)); refine blk_put (cs := #[.string t235, .string (⟨#[]⟩ : ByteArray), .string (⟨#[]⟩ : ByteArray)]) ?_ 1 _ rfl; (with_reducible repeat (first | refine blk_drewN ?_ _ | refine blk_drew ?_ | refine blk_alloc ?_ _)); refine blk_put (cs := #[.string (⟨#[]⟩ : ByteArray), .string (⟨#[]⟩ : ByteArray), .string (⟨#[]⟩ : ByteArray)]) ?_ 0 _ rfl; (with_reducible repeat (first | refine blk_drewN ?_ _ | refine blk_drew ?_ | refine blk_alloc ?_ _)); exact BK238.out) hb); have n1_ := Aside0.mk (below_step (by repeat (first | (with_reducible first | exact HB.out | apply below_alloc | apply pw_below_drewN | apply below_drew1 | refine below_set ?_ GE238.out) | exact HB.out)) hb); clear BK238; clear HB; have BK238 := n0_; have HB := n1_; clear n0_ n1_; (try clear hb); (try clear hb2); (try clear hk); (try clear hi)))
               simp only [List.append_eq, List.cons_append, List.nil_append]
               go_wp2_with (first | ((first | (with_reducible refine gate_dst (N := 75) rfl ?_) | (with_reducible refine gate_dst (N := 76) rfl ?_) | (with_reducible refine gate_dst (N := 93) rfl ?_) | (with_reducible refine gate_dst (N := 94) rfl ?_)); (with_reducible refine skip_guard ?hw_ ?_); (case hw_ => kernel_rfl); (simp only [Act.put, List.setIfInBounds_toArray, List.set_cons_zero, List.set_cons_succ])) | ((with_reducible refine gate_callee (f := 10) rfl ?_); refine goesL_ (some 38) rfl rfl Try.func10 (by kernel_rfl) rfl #[.string a0, .string a1, .int .i64 a2] rfl (by (try simp only [List.map_toArray, List.map_cons, List.map_nil]); first | done | rfl | (simp only [List.length_drop, List.length_take]; rfl)) ?_; (with_reducible refine (kdf_Expand.calls kj3 a0 a1 a2 t231 t232 _ A16.out).mono ?_); rintro e w31 ⟨rfl, hb⟩; refine ⟨_, rfl, ?_⟩; have n0_ := Aside0.mk (below_step (by repeat (first | (with_reducible first | exact HB.out | apply below_alloc | apply pw_below_drewN | apply below_drew1) | exact HB.out)) hb); clear HB; have HB := n0_; clear n0_; (try clear hb); (try clear hb2); (try clear hk); (try clear hi)) | ((with_reducible refine gate_callee (f := 12) rfl ?_); refine goesL_ (some 45) rfl rfl Try.func12 (by kernel_rfl) rfl #[.string a0, .string a1, .string (⟨#[]⟩ : ByteArray), .int .i64 a2] rfl (by (try simp only [List.map_toArray, List.map_cons, List.map_nil]); first | done | rfl | (simp only [List.length_drop, List.length_take]; rfl)) ?_; (with_reducible refine (kdf_Label.calls kj3 a0 a1 (⟨#[]⟩ : ByteArray) a2 t233 t234 _ A17.out).mono ?_); rintro e w32 ⟨rfl, hb⟩; refine ⟨_, rfl, ?_⟩; have n0_ := Aside0.mk (below_step (by repeat (first | (with_reducible first | exact HB.out | apply below_alloc | apply pw_below_drewN | apply below_drew1) | exact HB.out)) hb); clear HB; have HB := n0_; clear n0_; (try clear hb); (try clear hb2); (try clear hk); (try clear hi)) | ((with_reducible refine gate_callee (f := 14) rfl ?_); refine goesL_ (some 49) rfl rfl Try.func14 (by kernel_rfl) rfl #[.string a0] rfl (by (try simp only [List.map_toArray, List.map_cons, List.map_nil]); first | done | rfl | (simp only [List.length_drop, List.length_take]; rfl)) ?_; (with_reducible refine (kdf_Of.calls kj3 a0 t235 t236 t237 _ A18.out).mono ?_); rintro e w33 ⟨rfl, hb⟩; refine ⟨_, rfl, ?_⟩; have n0_ := Aside0.mk (below_step (by repeat (first | (with_reducible first | exact HB.out | apply below_alloc | apply pw_below_drewN | apply below_drew1) | exact HB.out)) hb); clear HB; have HB := n0_; clear n0_; (try clear hb); (try clear hb2); (try clear hk); (try clear hi)) | ((with_reducible refine gate_dst (N := 11) rfl ?_); (try (refine gate_guard (by rfl) ?_; dsimp only)); refine box_event ?hg (N := 11) ?hd (cs := #[.string (⟨#[]⟩ : ByteArray), .string (⟨#[]⟩ : ByteArray), .string (⟨#[]⟩ : ByteArray)]) (t := 30) ?hr ?_; (case hd => rfl); (case hg => rfl); (case hr => first | (go_simp; done) | (go_simp; rfl)); intro gb238 hg w34 hbox hb; have n0_ := Aside0.mk (below_step (by repeat (first | (with_reducible first | exact HB.out | apply below_alloc | apply pw_below_drewN | apply below_drew1) | exact HB.out)) hb); have n1_ := Aside0.mk (hbox); have n2_ := Aside0.mk ((by rw [hg]; exact (below_size (by repeat (first | (with_reducible first | exact HB.out | apply below_alloc | apply pw_below_drewN | apply below_drew1) | exact HB.out))) : w.heap.size ≤ gb238)); have n3_ := Aside0.mk ((by rw [hg]; exact (below_size (by repeat (first | (with_reducible first | exact HB.out | apply below_alloc | apply pw_below_drewN | apply below_drew1) | exact HB.out))) : w.heap.size ≤ gb238)); clear HB; have HB := n0_; have BK238 := n1_; have GW238 := n2_; have GE238 := n3_; clear n0_ n1_ n2_ n3_; clear hb hbox hg; have hcz35_0 : w34.cell? ⟨gb238, 0, none⟩ = some (.string (⟨#[]⟩ : ByteArray)) := (blk_cell BK238.out 0).trans rfl; have hcz35_1 : w34.cell? ⟨gb238, 1, none⟩ = some (.string (⟨#[]⟩ : ByteArray)) := (blk_cell BK238.out 1).trans rfl; have hcz35_2 : w34.cell? ⟨gb238, 2, none⟩ = some (.string (⟨#[]⟩ : ByteArray)) := (blk_cell BK238.out 2).trans rfl; have hfz35_0 := blk_frozen BK238.out 0; have hfz35_1 := blk_frozen BK238.out 1; have hfz35_2 := blk_frozen BK238.out 2) | (go_at_call 15; (with_reducible refine (kdf_Reset.calls a0 a1 t239 _ A30.out).mono ?_); rintro e w36 ⟨rfl, hb⟩; have n0_ := Aside0.mk (blk_below (g := gb238) (o := .cells #[.string t235, .string t236, .string t237] 30 (0, 0)) (by (with_reducible repeat (first | refine blk_drewN ?_ _ | refine blk_drew ?_ | refine blk_alloc ?_ _)); refine blk_put (cs := #[.string t235, .string t236, .string (⟨#[]⟩ : ByteArray)]) ?_ 2 _ rfl; (with_reducible repeat (first | refine blk_drewN ?_ _ | refine blk_drew ?_ | refine blk_alloc ?_ _)); refine blk_put (cs := #[.string t235, .string (⟨#[]⟩ : ByteArray), .string (⟨#[]⟩ : ByteArray)]) ?_ 1 _ rfl; (with_reducible repeat (first | refine blk_drewN ?_ _ | refine blk_drew ?_ | refine blk_alloc ?_ _)); refine blk_put (cs := #[.string (⟨#[]⟩ : ByteArray), .string (⟨#[]⟩ : ByteArray), .string (⟨#[]⟩ : ByteArray)]) ?_ 0 _ rfl; (with_reducible repeat (first | refine blk_drewN ?_ _ | refine blk_drew ?_ | refine blk_alloc ?_ _)); exact BK238.out) hb); have n1_ := Aside0.mk (below_step (by repeat (first | (with_reducible first | exact HB.out | apply below_alloc | apply pw_below_drewN | apply below_drew1 | refine below_set ?_ GE238.out) | exact HB.out)) hb); clear BK238; clear HB; have BK238 := n0_; have HB := n1_; clear n0_ n1_; (try clear hb); (try clear hb2); (try clear hk); (try clear hi)))
               go_ret
               exact ⟨by first | rfl | (simp [errW_none, errW_some] <;> rfl) | (simp [*, errW_none, errW_some] <;> rfl), by repeat (first | (with_reducible first | exact HB.out | apply below_alloc | apply pw_below_drewN | apply below_drew1 | refine below_set ?_ GE238.out) | exact HB.out)⟩
              ·rw [if_neg c29] at H
               exact absurd H (by simp)
             ·rw [if_neg c28] at H
              exact absurd H (by simp)
            ·rw [if_neg c27] at H
             exact absurd H (by simp)
           ·rw [if_neg c26] at H
            exact absurd H (by simp)
          ·rw [if_neg c25] at H
           have c25b0 : (t234 == 0) = false := beq_eq_false_iff_ne.mpr c25
           have c25b1 : (t234 != 0) = true := bne_iff_ne.mpr c25
           by_cases c37 : t233.toList = ([] : List UInt8)
           ·rw [if_pos c37] at H
            have c37b0 : (t233.toList == ([] : List UInt8)) = true := beq_iff_eq.mpr c37
            have c37b1 : (t233.toList != ([] : List UInt8)) = false := bne_eq_false_iff_eq.mpr c37
            clear c37
            by_cases c38 : (t235.size : Int) = 32
            ·rw [if_pos c38] at H
             have c38b0 : ((t235.size : Int) == 32) = true := beq_iff_eq.mpr c38
             have c38b1 : ((t235.size : Int) != 32) = false := bne_eq_false_iff_eq.mpr c38
             clear c38
             by_cases c39 : (t236.size : Int) = 12
             ·rw [if_pos c39] at H
              have c39b0 : ((t236.size : Int) == 12) = true := beq_iff_eq.mpr c39
              have c39b1 : ((t236.size : Int) != 12) = false := bne_eq_false_iff_eq.mpr c39
              clear c39
              by_cases c40 : (t237.size : Int) = 32
              ·rw [if_pos c40] at H
               have c40b0 : ((t237.size : Int) == 32) = true := beq_iff_eq.mpr c40
               have c40b1 : ((t237.size : Int) != 32) = false := bne_eq_false_iff_eq.mpr c40
               clear c40
               replace H := Option.bind_eq_some_iff.mp H
               obtain ⟨t240, A410, H⟩ := H
               replace H : (some ((t240.size : Int) == 16)) = some r := H
               have A41 := Aside0.mk A410
               clear A410
               obtain rfl := Option.some.inj H
               have q2_ : decide ((a1.size : Int) ≤ 249) = false := by rw [c25b0] at c22b0; simpa using c22b0
               (try clear c22b2)
               (try clear c22b1)
               clear c22b0
               (try clear c20b2)
               (try clear c20b1)
               (try clear c20b0)
               go_upto_region 7 with (first | ((with_reducible refine gate_callee (f := 10) rfl ?_); refine goesL_ (some 38) rfl rfl Try.func10 (by kernel_rfl) rfl #[.string a0, .string a1, .int .i64 a2] rfl (by (try simp only [List.map_toArray, List.map_cons, List.map_nil]); first | done | rfl | (simp only [List.length_drop, List.length_take]; rfl)) ?_; (with_reducible refine (kdf_Expand.calls kj3 a0 a1 a2 t231 t232 _ A16.out).mono ?_); rintro e w42 ⟨rfl, hb⟩; refine ⟨_, rfl, ?_⟩; have n0_ := Aside0.mk (below_step (by repeat (first | (with_reducible first | exact HB.out | apply below_alloc | apply pw_below_drewN | apply below_drew1) | exact HB.out)) hb); clear HB; have HB := n0_; clear n0_; (try clear hb); (try clear hb2); (try clear hk); (try clear hi)) | ((with_reducible refine gate_callee (f := 12) rfl ?_); refine goesL_ (some 45) rfl rfl Try.func12 (by kernel_rfl) rfl #[.string a0, .string a1, .string (⟨#[]⟩ : ByteArray), .int .i64 a2] rfl (by (try simp only [List.map_toArray, List.map_cons, List.map_nil]); first | done | rfl | (simp only [List.length_drop, List.length_take]; rfl)) ?_; (with_reducible refine (kdf_Label.calls kj3 a0 a1 (⟨#[]⟩ : ByteArray) a2 t233 t234 _ A17.out).mono ?_); rintro e w43 ⟨rfl, hb⟩; refine ⟨_, rfl, ?_⟩; have n0_ := Aside0.mk (below_step (by repeat (first | (with_reducible first | exact HB.out | apply below_alloc | apply pw_below_drewN | apply below_drew1) | exact HB.out)) hb); clear HB; have HB := n0_; clear n0_; (try clear hb); (try clear hb2); (try clear hk); (try clear hi)) | ((with_reducible refine gate_callee (f := 14) rfl ?_); refine goesL_ (some 49) rfl rfl Try.func14 (by kernel_rfl) rfl #[.string a0] rfl (by (try simp only [List.map_toArray, List.map_cons, List.map_nil]); first | done | rfl | (simp only [List.length_drop, List.length_take]; rfl)) ?_; (with_reducible refine (kdf_Of.calls kj3 a0 t235 t236 t237 _ A18.out).mono ?_); rintro e w44 ⟨rfl, hb⟩; refine ⟨_, rfl, ?_⟩; have n0_ := Aside0.mk (below_step (by repeat (first | (with_reducible first | exact HB.out | apply below_alloc | apply pw_below_drewN | apply below_drew1) | exact HB.out)) hb); clear HB; have HB := n0_; clear n0_; (try clear hb); (try clear hb2); (try clear hk); (try clear hi)) | ((with_reducible refine gate_dst (N := 11) rfl ?_); (try (refine gate_guard (by rfl) ?_; dsimp only)); refine box_event ?hg (N := 11) ?hd (cs := #[.string (⟨#[]⟩ : ByteArray), .string (⟨#[]⟩ : ByteArray), .string (⟨#[]⟩ : ByteArray)]) (t := 30) ?hr ?_; (case hd => rfl); (case hg => rfl); (case hr => first | (go_simp; done) | (go_simp; rfl)); intro gb238 hg w45 hbox hb; have n0_ := Aside0.mk (below_step (by repeat (first | (with_reducible first | exact HB.out | apply below_alloc | apply pw_below_drewN | apply below_drew1) | exact HB.out)) hb); have n1_ := Aside0.mk (hbox); have n2_ := Aside0.mk ((by rw [hg]; exact (below_size (by repeat (first | (with_reducible first | exact HB.out | apply below_alloc | apply pw_below_drewN | apply below_drew1) | exact HB.out))) : w.heap.size ≤ gb238)); have n3_ := Aside0.mk ((by rw [hg]; exact (below_size (by repeat (first | (with_reducible first | exact HB.out | apply below_alloc | apply pw_below_drewN | apply below_drew1) | exact HB.out))) : w.heap.size ≤ gb238)); clear HB; have HB := n0_; have BK238 := n1_; have GW238 := n2_; have GE238 := n3_; clear n0_ n1_ n2_ n3_; clear hb hbox hg; have hcz46_0 : w45.cell? ⟨gb238, 0, none⟩ = some (.string (⟨#[]⟩ : ByteArray)) := (blk_cell BK238.out 0).trans rfl; have hcz46_1 : w45.cell? ⟨gb238, 1, none⟩ = some (.string (⟨#[]⟩ : ByteArray)) := (blk_cell BK238.out 1).trans rfl; have hcz46_2 : w45.cell? ⟨gb238, 2, none⟩ = some (.string (⟨#[]⟩ : ByteArray)) := (blk_cell BK238.out 2).trans rfl; have hfz46_0 := blk_frozen BK238.out 0; have hfz46_1 := blk_frozen BK238.out 1; have hfz46_2 := blk_frozen BK238.out 2) | (go_at_call 15; (with_reducible refine (kdf_Reset.calls a0 a1 t240 _ A41.out).mono ?_); rintro e w47 ⟨rfl, hb⟩; have n0_ := Aside0.mk (blk_below (g := gb238) (o := .cells #[.string t235, .string t236, .string t237] 30 (0, 0)) (by (with_reducible repeat (first | refine blk_drewN ?_ _ | refine blk_drew ?_ | refine blk_alloc ?_ _)); refine blk_put (cs := #[.string t235, .string t236, .string (⟨#[]⟩ : ByteArray)]) ?_ 2 _ rfl; (with_reducible repeat (first | refine blk_drewN ?_ _ | refine blk_drew ?_ | refine blk_alloc ?_ _)); refine blk_put (cs := #[.string t235, .string (⟨#[]⟩ : ByteArray), .string (⟨#[]⟩ : ByteArray)]) ?_ 1 _ rfl; (with_reducible repeat (first | refine blk_drewN ?_ _ | refine blk_drew ?_ | refine blk_alloc ?_ _)); refine blk_put (cs := #[.string (⟨#[]⟩ : ByteArray), .string (⟨#[]⟩ : ByteArray), .string (⟨#[]⟩ : ByteArray)]) ?_ 0 _ rfl; (with_reducible repeat (first | refine blk_drewN ?_ _ | refine blk_drew ?_ | refine blk_alloc ?_ _)); exact BK238.out) hb); have n1_ := Aside0.mk (below_step (by repeat (first | (with_reducible first | exact HB.out | apply below_alloc | apply pw_below_drewN | apply below_drew1 | refine below_set ?_ GE238.out) | exact HB.out)) hb); clear BK238; clear HB; have BK238 := n0_; have HB := n1_; clear n0_ n1_; (try clear hb); (try clear hb2); (try clear hk); (try clear hi)))
               simp only [List.append_eq, List.cons_append, List.nil_append]
               go_wp2_with (first | ((first | (with_reducible refine gate_dst (N := 75) rfl ?_) | (with_reducible refine gate_dst (N := 76) rfl ?_) | (with_reducible refine gate_dst (N := 97) rfl ?_) | (with_reducible refine gate_dst (N := 98) rfl ?_) | (with_reducible refine gate_dst (N := 99) rfl ?_) | (with_reducible refine gate_dst (N := 100) rfl ?_) | (with_reducible refine gate_dst (N := 101) rfl ?_) | (with_reducible refine gate_dst (N := 102) rfl ?_) | (with_reducible refine gate_dst (N := 103) rfl ?_) | (with_reducible refine gate_dst (N := 104) rfl ?_)); (with_reducible refine skip_guard ?hw_ ?_); (case hw_ => kernel_rfl); (simp only [Act.put, List.setIfInBounds_toArray, List.set_cons_zero, List.set_cons_succ])) | ((with_reducible refine gate_callee (f := 10) rfl ?_); refine goesL_ (some 38) rfl rfl Try.func10 (by kernel_rfl) rfl #[.string a0, .string a1, .int .i64 a2] rfl (by (try simp only [List.map_toArray, List.map_cons, List.map_nil]); first | done | rfl | (simp only [List.length_drop, List.length_take]; rfl)) ?_; (with_reducible refine (kdf_Expand.calls kj3 a0 a1 a2 t231 t232 _ A16.out).mono ?_); rintro e w42 ⟨rfl, hb⟩; refine ⟨_, rfl, ?_⟩; have n0_ := Aside0.mk (below_step (by repeat (first | (with_reducible first | exact HB.out | apply below_alloc | apply pw_below_drewN | apply below_drew1) | exact HB.out)) hb); clear HB; have HB := n0_; clear n0_; (try clear hb); (try clear hb2); (try clear hk); (try clear hi)) | ((with_reducible refine gate_callee (f := 12) rfl ?_); refine goesL_ (some 45) rfl rfl Try.func12 (by kernel_rfl) rfl #[.string a0, .string a1, .string (⟨#[]⟩ : ByteArray), .int .i64 a2] rfl (by (try simp only [List.map_toArray, List.map_cons, List.map_nil]); first | done | rfl | (simp only [List.length_drop, List.length_take]; rfl)) ?_; (with_reducible refine (kdf_Label.calls kj3 a0 a1 (⟨#[]⟩ : ByteArray) a2 t233 t234 _ A17.out).mono ?_); rintro e w43 ⟨rfl, hb⟩; refine ⟨_, rfl, ?_⟩; have n0_ := Aside0.mk (below_step (by repeat (first | (with_reducible first | exact HB.out | apply below_alloc | apply pw_below_drewN | apply below_drew1) | exact HB.out)) hb); clear HB; have HB := n0_; clear n0_; (try clear hb); (try clear hb2); (try clear hk); (try clear hi)) | ((with_reducible refine gate_callee (f := 14) rfl ?_); refine goesL_ (some 49) rfl rfl Try.func14 (by kernel_rfl) rfl #[.string a0] rfl (by (try simp only [List.map_toArray, List.map_cons, List.map_nil]); first | done | rfl | (simp only [List.length_drop, List.length_take]; rfl)) ?_; (with_reducible refine (kdf_Of.calls kj3 a0 t235 t236 t237 _ A18.out).mono ?_); rintro e w44 ⟨rfl, hb⟩; refine ⟨_, rfl, ?_⟩; have n0_ := Aside0.mk (below_step (by repeat (first | (with_reducible first | exact HB.out | apply below_alloc | apply pw_below_drewN | apply below_drew1) | exact HB.out)) hb); clear HB; have HB := n0_; clear n0_; (try clear hb); (try clear hb2); (try clear hk); (try clear hi)) | ((with_reducible refine gate_dst (N := 11) rfl ?_); (try (refine gate_guard (by rfl) ?_; dsimp only)); refine box_event ?hg (N := 11) ?hd (cs := #[.string (⟨#[]⟩ : ByteArray), .string (⟨#[]⟩ : ByteArray), .string (⟨#[]⟩ : ByteArray)]) (t := 30) ?hr ?_; (case hd => rfl); (case hg => rfl); (case hr => first | (go_simp; done) | (go_simp; rfl)); intro gb238 hg w45 hbox hb; have n0_ := Aside0.mk (below_step (by repeat (first | (with_reducible first | exact HB.out | apply below_alloc | apply pw_below_drewN | apply below_drew1) | exact HB.out)) hb); have n1_ := Aside0.mk (hbox); have n2_ := Aside0.mk ((by rw [hg]; exact (below_size (by repeat (first | (with_reducible first | exact HB.out | apply below_alloc | apply pw_below_drewN | apply below_drew1) | exact HB.out))) : w.heap.size ≤ gb238)); have n3_ := Aside0.mk ((by rw [hg]; exact (below_size (by repeat (first | (with_reducible first | exact HB.out | apply below_alloc | apply pw_below_drewN | apply below_drew1) | exact HB.out))) : w.heap.size ≤ gb238)); clear HB; have HB := n0_; have BK238 := n1_; have GW238 := n2_; have GE238 := n3_; clear n0_ n1_ n2_ n3_; clear hb hbox hg; have hcz46_0 : w45.cell? ⟨gb238, 0, none⟩ = some (.string (⟨#[]⟩ : ByteArray)) := (blk_cell BK238.out 0).trans rfl; have hcz46_1 : w45.cell? ⟨gb238, 1, none⟩ = some (.string (⟨#[]⟩ : ByteArray)) := (blk_cell BK238.out 1).trans rfl; have hcz46_2 : w45.cell? ⟨gb238, 2, none⟩ = some (.string (⟨#[]⟩ : ByteArray)) := (blk_cell BK238.out 2).trans rfl; have hfz46_0 := blk_frozen BK238.out 0; have hfz46_1 := blk_frozen BK238.out 1; have hfz46_2 := blk_frozen BK238.out 2) | (go_at_call 15; (with_reducible refine (kdf_Reset.calls a0 a1 t240 _ A41.out).mono ?_); rintro e w47 ⟨rfl, hb⟩; have n0_ := Aside0.mk (blk_below (g := gb238) (o := .cells #[.string t235, .string t236, .string t237] 30 (0, 0)) (by (with_reducible repeat (first | refine blk_drewN ?_ _ | refine blk_drew ?_ | refine blk_alloc ?_ _)); refine blk_put (cs := #[.string t235, .string t236, .string (⟨#[]⟩ : ByteArray)]) ?_ 2 _ rfl; (with_reducible repeat (first | refine blk_drewN ?_ _ | refine blk_drew ?_ | refine blk_alloc ?_ _)); refine blk_put (cs := #[.string t235, .string (⟨#[]⟩ : ByteArray), .string (⟨#[]⟩ : ByteArray)]) ?_ 1 _ rfl; (with_reducible repeat (first | refine blk_drewN ?_ _ | refine blk_drew ?_ | refine blk_alloc ?_ _)); refine blk_put (cs := #[.string (⟨#[]⟩ : ByteArray), .string (⟨#[]⟩ : ByteArray), .string (⟨#[]⟩ : ByteArray)]) ?_ 0 _ rfl; (with_reducible repeat (first | refine blk_drewN ?_ _ | refine blk_drew ?_ | refine blk_alloc ?_ _)); exact BK238.out) hb); have n1_ := Aside0.mk (below_step (by repeat (first | (with_reducible first | exact HB.out | apply below_alloc | apply pw_below_drewN | apply below_drew1 | refine below_set ?_ GE238.out) | exact HB.out)) hb); clear BK238; clear HB; have BK238 := n0_; have HB := n1_; clear n0_ n1_; (try clear hb); (try clear hb2); (try clear hk); (try clear hi)))
               go_ret
               exact ⟨by first | rfl | (simp [errW_none, errW_some] <;> rfl) | (simp [*, errW_none, errW_some] <;> rfl), by repeat (first | (with_reducible first | exact HB.out | apply below_alloc | apply pw_below_drewN | apply below_drew1 | refine below_set ?_ GE238.out) | exact HB.out)⟩
              ·rw [if_neg c40] at H
               exact absurd H (by simp)
             ·rw [if_neg c39] at H
              exact absurd H (by simp)
            ·rw [if_neg c38] at H
             exact absurd H (by simp)
           ·rw [if_neg c37] at H
            exact absurd H (by simp)
         ·rw [if_neg c24] at H
          exact absurd H (by simp)
        ·rw [if_neg c23] at H
         have c23b0 : (t232 == 0) = false := beq_eq_false_iff_ne.mpr c23
         have c23b1 : (t232 != 0) = true := bne_iff_ne.mpr c23
         by_cases c48 : t231.toList = ([] : List UInt8)
         ·rw [if_pos c48] at H
          have c48b0 : (t231.toList == ([] : List UInt8)) = true := beq_iff_eq.mpr c48
          have c48b1 : (t231.toList != ([] : List UInt8)) = false := bne_eq_false_iff_eq.mpr c48
          clear c48
          by_cases c49 : t234 = 0
          ·rw [if_pos c49] at H
           have c49b0 : (t234 == 0) = true := beq_iff_eq.mpr c49
           have c49b1 : (t234 != 0) = false := bne_eq_false_iff_eq.mpr c49
           clear c49
           by_cases c50 : (t233.size : Int) = a2
           ·rw [if_pos c50] at H
            have c50b0 : ((t233.size : Int) == a2) = true := beq_iff_eq.mpr c50
            have c50b1 : ((t233.size : Int) != a2) = false := bne_eq_false_iff_eq.mpr c50
            clear c50
            by_cases c51 : (t235.size : Int) = 32
            ·rw [if_pos c51] at H
             have c51b0 : ((t235.size : Int) == 32) = true := beq_iff_eq.mpr c51
             have c51b1 : ((t235.size : Int) != 32) = false := bne_eq_false_iff_eq.mpr c51
             clear c51
             by_cases c52 : (t236.size : Int) = 12
             ·rw [if_pos c52] at H
              have c52b0 : ((t236.size : Int) == 12) = true := beq_iff_eq.mpr c52
              have c52b1 : ((t236.size : Int) != 12) = false := bne_eq_false_iff_eq.mpr c52
              clear c52
              by_cases c53 : (t237.size : Int) = 32
              ·rw [if_pos c53] at H
               have c53b0 : ((t237.size : Int) == 32) = true := beq_iff_eq.mpr c53
               have c53b1 : ((t237.size : Int) != 32) = false := bne_eq_false_iff_eq.mpr c53
               clear c53
               replace H := Option.bind_eq_some_iff.mp H
               obtain ⟨t241, A540, H⟩ := H
               replace H : (some ((t241.size : Int) == 16)) = some r := H
               have A54 := Aside0.mk A540
               clear A540
               obtain rfl := Option.some.inj H
               rw [c23b0, c21b0] at c20b0; exact absurd c20b0 (by decide)
              ·rw [if_neg c53] at H
               exact absurd H (by simp)
             ·rw [if_neg c52] at H
              exact absurd H (by simp)
            ·rw [if_neg c51] at H
             exact absurd H (by simp)
           ·rw [if_neg c50] at H
            exact absurd H (by simp)
          ·rw [if_neg c49] at H
           have c49b0 : (t234 == 0) = false := beq_eq_false_iff_ne.mpr c49
           have c49b1 : (t234 != 0) = true := bne_iff_ne.mpr c49
           by_cases c61 : t233.toList = ([] : List UInt8)
           ·rw [if_pos c61] at H
            have c61b0 : (t233.toList == ([] : List UInt8)) = true := beq_iff_eq.mpr c61
            have c61b1 : (t233.toList != ([] : List UInt8)) = false := bne_eq_false_iff_eq.mpr c61
            clear c61
            by_cases c62 : (t235.size : Int) = 32
            ·rw [if_pos c62] at H
             have c62b0 : ((t235.size : Int) == 32) = true := beq_iff_eq.mpr c62
             have c62b1 : ((t235.size : Int) != 32) = false := bne_eq_false_iff_eq.mpr c62
             clear c62
             by_cases c63 : (t236.size : Int) = 12
             ·rw [if_pos c63] at H
              have c63b0 : ((t236.size : Int) == 12) = true := beq_iff_eq.mpr c63
              have c63b1 : ((t236.size : Int) != 12) = false := bne_eq_false_iff_eq.mpr c63
              clear c63
              by_cases c64 : (t237.size : Int) = 32
              ·rw [if_pos c64] at H
               have c64b0 : ((t237.size : Int) == 32) = true := beq_iff_eq.mpr c64
               have c64b1 : ((t237.size : Int) != 32) = false := bne_eq_false_iff_eq.mpr c64
               clear c64
               replace H := Option.bind_eq_some_iff.mp H
               obtain ⟨t242, A650, H⟩ := H
               replace H : (some ((t242.size : Int) == 16)) = some r := H
               have A65 := Aside0.mk A650
               clear A650
               obtain rfl := Option.some.inj H
               rw [c23b0, c21b0] at c20b0; exact absurd c20b0 (by decide)
              ·rw [if_neg c64] at H
               exact absurd H (by simp)
             ·rw [if_neg c63] at H
              exact absurd H (by simp)
            ·rw [if_neg c62] at H
             exact absurd H (by simp)
           ·rw [if_neg c61] at H
            exact absurd H (by simp)
         ·rw [if_neg c48] at H
          exact absurd H (by simp)
       ·rw [if_neg c22] at H
        exact absurd H (by simp)
      ·rw [if_neg c21] at H
       have c21b0 : decide (a2 ≤ 8160) = false := decide_eq_false c21
       clear c21
       by_cases c72 : ((t234 == 0) == false) = true
       ·rw [if_pos c72] at H
        have c72b0 : ((t234 == 0) == false) = true := c72
        (try (have c72b1 : decide ((t234 == 0) = false) = true := by simpa using c72))
        (try (have c72b2 : ((t234 == 0) == false) = true := by simpa using c72))
        clear c72
        by_cases c73 : t232 = 0
        ·rw [if_pos c73] at H
         have c73b0 : (t232 == 0) = true := beq_iff_eq.mpr c73
         have c73b1 : (t232 != 0) = false := bne_eq_false_iff_eq.mpr c73
         clear c73
         by_cases c74 : (t231.size : Int) = a2
         ·rw [if_pos c74] at H
          have c74b0 : ((t231.size : Int) == a2) = true := beq_iff_eq.mpr c74
          have c74b1 : ((t231.size : Int) != a2) = false := bne_eq_false_iff_eq.mpr c74
          clear c74
          by_cases c75 : t234 = 0
          ·rw [if_pos c75] at H
           have c75b0 : (t234 == 0) = true := beq_iff_eq.mpr c75
           have c75b1 : (t234 != 0) = false := bne_eq_false_iff_eq.mpr c75
           clear c75
           by_cases c76 : (t233.size : Int) = a2
           ·rw [if_pos c76] at H
            have c76b0 : ((t233.size : Int) == a2) = true := beq_iff_eq.mpr c76
            have c76b1 : ((t233.size : Int) != a2) = false := bne_eq_false_iff_eq.mpr c76
            clear c76
            by_cases c77 : (t235.size : Int) = 32
            ·rw [if_pos c77] at H
             have c77b0 : ((t235.size : Int) == 32) = true := beq_iff_eq.mpr c77
             have c77b1 : ((t235.size : Int) != 32) = false := bne_eq_false_iff_eq.mpr c77
             clear c77
             by_cases c78 : (t236.size : Int) = 12
             ·rw [if_pos c78] at H
              have c78b0 : ((t236.size : Int) == 12) = true := beq_iff_eq.mpr c78
              have c78b1 : ((t236.size : Int) != 12) = false := bne_eq_false_iff_eq.mpr c78
              clear c78
              by_cases c79 : (t237.size : Int) = 32
              ·rw [if_pos c79] at H
               have c79b0 : ((t237.size : Int) == 32) = true := beq_iff_eq.mpr c79
               have c79b1 : ((t237.size : Int) != 32) = false := bne_eq_false_iff_eq.mpr c79
               clear c79
               replace H := Option.bind_eq_some_iff.mp H
               obtain ⟨t243, A800, H⟩ := H
               replace H : (some ((t243.size : Int) == 16)) = some r := H
               have A80 := Aside0.mk A800
               clear A800
               obtain rfl := Option.some.inj H
               rw [c73b0, c21b0] at c20b0; exact absurd c20b0 (by decide)
              ·rw [if_neg c79] at H
               exact absurd H (by simp)
             ·rw [if_neg c78] at H
              exact absurd H (by simp)
            ·rw [if_neg c77] at H
             exact absurd H (by simp)
           ·rw [if_neg c76] at H
            exact absurd H (by simp)
          ·rw [if_neg c75] at H
           have c75b0 : (t234 == 0) = false := beq_eq_false_iff_ne.mpr c75
           have c75b1 : (t234 != 0) = true := bne_iff_ne.mpr c75
           by_cases c87 : t233.toList = ([] : List UInt8)
           ·rw [if_pos c87] at H
            have c87b0 : (t233.toList == ([] : List UInt8)) = true := beq_iff_eq.mpr c87
            have c87b1 : (t233.toList != ([] : List UInt8)) = false := bne_eq_false_iff_eq.mpr c87
            clear c87
            by_cases c88 : (t235.size : Int) = 32
            ·rw [if_pos c88] at H
             have c88b0 : ((t235.size : Int) == 32) = true := beq_iff_eq.mpr c88
             have c88b1 : ((t235.size : Int) != 32) = false := bne_eq_false_iff_eq.mpr c88
             clear c88
             by_cases c89 : (t236.size : Int) = 12
             ·rw [if_pos c89] at H
              have c89b0 : ((t236.size : Int) == 12) = true := beq_iff_eq.mpr c89
              have c89b1 : ((t236.size : Int) != 12) = false := bne_eq_false_iff_eq.mpr c89
              clear c89
              by_cases c90 : (t237.size : Int) = 32
              ·rw [if_pos c90] at H
               have c90b0 : ((t237.size : Int) == 32) = true := beq_iff_eq.mpr c90
               have c90b1 : ((t237.size : Int) != 32) = false := bne_eq_false_iff_eq.mpr c90
               clear c90
               replace H := Option.bind_eq_some_iff.mp H
               obtain ⟨t244, A910, H⟩ := H
               replace H : (some ((t244.size : Int) == 16)) = some r := H
               have A91 := Aside0.mk A910
               clear A910
               obtain rfl := Option.some.inj H
               rw [c73b0, c21b0] at c20b0; exact absurd c20b0 (by decide)
              ·rw [if_neg c90] at H
               exact absurd H (by simp)
             ·rw [if_neg c89] at H
              exact absurd H (by simp)
            ·rw [if_neg c88] at H
             exact absurd H (by simp)
           ·rw [if_neg c87] at H
            exact absurd H (by simp)
         ·rw [if_neg c74] at H
          exact absurd H (by simp)
        ·rw [if_neg c73] at H
         have c73b0 : (t232 == 0) = false := beq_eq_false_iff_ne.mpr c73
         have c73b1 : (t232 != 0) = true := bne_iff_ne.mpr c73
         by_cases c98 : t231.toList = ([] : List UInt8)
         ·rw [if_pos c98] at H
          have c98b0 : (t231.toList == ([] : List UInt8)) = true := beq_iff_eq.mpr c98
          have c98b1 : (t231.toList != ([] : List UInt8)) = false := bne_eq_false_iff_eq.mpr c98
          clear c98
          by_cases c99 : t234 = 0
          ·rw [if_pos c99] at H
           have c99b0 : (t234 == 0) = true := beq_iff_eq.mpr c99
           have c99b1 : (t234 != 0) = false := bne_eq_false_iff_eq.mpr c99
           clear c99
           by_cases c100 : (t233.size : Int) = a2
           ·rw [if_pos c100] at H
            have c100b0 : ((t233.size : Int) == a2) = true := beq_iff_eq.mpr c100
            have c100b1 : ((t233.size : Int) != a2) = false := bne_eq_false_iff_eq.mpr c100
            clear c100
            by_cases c101 : (t235.size : Int) = 32
            ·rw [if_pos c101] at H
             have c101b0 : ((t235.size : Int) == 32) = true := beq_iff_eq.mpr c101
             have c101b1 : ((t235.size : Int) != 32) = false := bne_eq_false_iff_eq.mpr c101
             clear c101
             by_cases c102 : (t236.size : Int) = 12
             ·rw [if_pos c102] at H
              have c102b0 : ((t236.size : Int) == 12) = true := beq_iff_eq.mpr c102
              have c102b1 : ((t236.size : Int) != 12) = false := bne_eq_false_iff_eq.mpr c102
              clear c102
              by_cases c103 : (t237.size : Int) = 32
              ·rw [if_pos c103] at H
               have c103b0 : ((t237.size : Int) == 32) = true := beq_iff_eq.mpr c103
               have c103b1 : ((t237.size : Int) != 32) = false := bne_eq_false_iff_eq.mpr c103
               clear c103
               replace H := Option.bind_eq_some_iff.mp H
               obtain ⟨t245, A1040, H⟩ := H
               replace H : (some ((t245.size : Int) == 16)) = some r := H
               have A104 := Aside0.mk A1040
               clear A1040
               obtain rfl := Option.some.inj H
               rw [c99b0] at c72b0; exact absurd c72b0 (by decide)
              ·rw [if_neg c103] at H
               exact absurd H (by simp)
             ·rw [if_neg c102] at H
              exact absurd H (by simp)
            ·rw [if_neg c101] at H
             exact absurd H (by simp)
           ·rw [if_neg c100] at H
            exact absurd H (by simp)
          ·rw [if_neg c99] at H
           have c99b0 : (t234 == 0) = false := beq_eq_false_iff_ne.mpr c99
           have c99b1 : (t234 != 0) = true := bne_iff_ne.mpr c99
           by_cases c111 : t233.toList = ([] : List UInt8)
           ·rw [if_pos c111] at H
            have c111b0 : (t233.toList == ([] : List UInt8)) = true := beq_iff_eq.mpr c111
            have c111b1 : (t233.toList != ([] : List UInt8)) = false := bne_eq_false_iff_eq.mpr c111
            clear c111
            by_cases c112 : (t235.size : Int) = 32
            ·rw [if_pos c112] at H
             have c112b0 : ((t235.size : Int) == 32) = true := beq_iff_eq.mpr c112
             have c112b1 : ((t235.size : Int) != 32) = false := bne_eq_false_iff_eq.mpr c112
             clear c112
             by_cases c113 : (t236.size : Int) = 12
             ·rw [if_pos c113] at H
              have c113b0 : ((t236.size : Int) == 12) = true := beq_iff_eq.mpr c113
              have c113b1 : ((t236.size : Int) != 12) = false := bne_eq_false_iff_eq.mpr c113
              clear c113
              by_cases c114 : (t237.size : Int) = 32
              ·rw [if_pos c114] at H
               have c114b0 : ((t237.size : Int) == 32) = true := beq_iff_eq.mpr c114
               have c114b1 : ((t237.size : Int) != 32) = false := bne_eq_false_iff_eq.mpr c114
               clear c114
               replace H := Option.bind_eq_some_iff.mp H
               obtain ⟨t246, A1150, H⟩ := H
               replace H : (some ((t246.size : Int) == 16)) = some r := H
               have A115 := Aside0.mk A1150
               clear A1150
               obtain rfl := Option.some.inj H
               (try clear c20b2)
               (try clear c20b1)
               (try clear c20b0)
               (try clear c72b2)
               (try clear c72b1)
               (try clear c72b0)
               go_upto_region 7 with (first | ((with_reducible refine gate_callee (f := 10) rfl ?_); refine goesL_ (some 38) rfl rfl Try.func10 (by kernel_rfl) rfl #[.string a0, .string a1, .int .i64 a2] rfl (by (try simp only [List.map_toArray, List.map_cons, List.map_nil]); first | done | rfl | (simp only [List.length_drop, List.length_take]; rfl)) ?_; (with_reducible refine (kdf_Expand.calls kj3 a0 a1 a2 t231 t232 _ A16.out).mono ?_); rintro e w116 ⟨rfl, hb⟩; refine ⟨_, rfl, ?_⟩; have n0_ := Aside0.mk (below_step (by repeat (first | (with_reducible first | exact HB.out | apply below_alloc | apply pw_below_drewN | apply below_drew1) | exact HB.out)) hb); clear HB; have HB := n0_; clear n0_; (try clear hb); (try clear hb2); (try clear hk); (try clear hi)) | ((with_reducible refine gate_callee (f := 12) rfl ?_); refine goesL_ (some 45) rfl rfl Try.func12 (by kernel_rfl) rfl #[.string a0, .string a1, .string (⟨#[]⟩ : ByteArray), .int .i64 a2] rfl (by (try simp only [List.map_toArray, List.map_cons, List.map_nil]); first | done | rfl | (simp only [List.length_drop, List.length_take]; rfl)) ?_; (with_reducible refine (kdf_Label.calls kj3 a0 a1 (⟨#[]⟩ : ByteArray) a2 t233 t234 _ A17.out).mono ?_); rintro e w117 ⟨rfl, hb⟩; refine ⟨_, rfl, ?_⟩; have n0_ := Aside0.mk (below_step (by repeat (first | (with_reducible first | exact HB.out | apply below_alloc | apply pw_below_drewN | apply below_drew1) | exact HB.out)) hb); clear HB; have HB := n0_; clear n0_; (try clear hb); (try clear hb2); (try clear hk); (try clear hi)) | ((with_reducible refine gate_callee (f := 14) rfl ?_); refine goesL_ (some 49) rfl rfl Try.func14 (by kernel_rfl) rfl #[.string a0] rfl (by (try simp only [List.map_toArray, List.map_cons, List.map_nil]); first | done | rfl | (simp only [List.length_drop, List.length_take]; rfl)) ?_; (with_reducible refine (kdf_Of.calls kj3 a0 t235 t236 t237 _ A18.out).mono ?_); rintro e w118 ⟨rfl, hb⟩; refine ⟨_, rfl, ?_⟩; have n0_ := Aside0.mk (below_step (by repeat (first | (with_reducible first | exact HB.out | apply below_alloc | apply pw_below_drewN | apply below_drew1) | exact HB.out)) hb); clear HB; have HB := n0_; clear n0_; (try clear hb); (try clear hb2); (try clear hk); (try clear hi)) | ((with_reducible refine gate_dst (N := 11) rfl ?_); (try (refine gate_guard (by rfl) ?_; dsimp only)); refine box_event ?hg (N := 11) ?hd (cs := #[.string (⟨#[]⟩ : ByteArray), .string (⟨#[]⟩ : ByteArray), .string (⟨#[]⟩ : ByteArray)]) (t := 30) ?hr ?_; (case hd => rfl); (case hg => rfl); (case hr => first | (go_simp; done) | (go_simp; rfl)); intro gb238 hg w119 hbox hb; have n0_ := Aside0.mk (below_step (by repeat (first | (with_reducible first | exact HB.out | apply below_alloc | apply pw_below_drewN | apply below_drew1) | exact HB.out)) hb); have n1_ := Aside0.mk (hbox); have n2_ := Aside0.mk ((by rw [hg]; exact (below_size (by repeat (first | (with_reducible first | exact HB.out | apply below_alloc | apply pw_below_drewN | apply below_drew1) | exact HB.out))) : w.heap.size ≤ gb238)); have n3_ := Aside0.mk ((by rw [hg]; exact (below_size (by repeat (first | (with_reducible first | exact HB.out | apply below_alloc | apply pw_below_drewN | apply below_drew1) | exact HB.out))) : w.heap.size ≤ gb238)); clear HB; have HB := n0_; have BK238 := n1_; have GW238 := n2_; have GE238 := n3_; clear n0_ n1_ n2_ n3_; clear hb hbox hg; have hcz120_0 : w119.cell? ⟨gb238, 0, none⟩ = some (.string (⟨#[]⟩ : ByteArray)) := (blk_cell BK238.out 0).trans rfl; have hcz120_1 : w119.cell? ⟨gb238, 1, none⟩ = some (.string (⟨#[]⟩ : ByteArray)) := (blk_cell BK238.out 1).trans rfl; have hcz120_2 : w119.cell? ⟨gb238, 2, none⟩ = some (.string (⟨#[]⟩ : ByteArray)) := (blk_cell BK238.out 2).trans rfl; have hfz120_0 := blk_frozen BK238.out 0; have hfz120_1 := blk_frozen BK238.out 1; have hfz120_2 := blk_frozen BK238.out 2) | (go_at_call 15; (with_reducible refine (kdf_Reset.calls a0 a1 t246 _ A115.out).mono ?_); rintro e w121 ⟨rfl, hb⟩; have n0_ := Aside0.mk (blk_below (g := gb238) (o := .cells #[.string t235, .string t236, .string t237] 30 (0, 0)) (by (with_reducible repeat (first | refine blk_drewN ?_ _ | refine blk_drew ?_ | refine blk_alloc ?_ _)); refine blk_put (cs := #[.string t235, .string t236, .string (⟨#[]⟩ : ByteArray)]) ?_ 2 _ rfl; (with_reducible repeat (first | refine blk_drewN ?_ _ | refine blk_drew ?_ | refine blk_alloc ?_ _)); refine blk_put (cs := #[.string t235, .string (⟨#[]⟩ : ByteArray), .string (⟨#[]⟩ : ByteArray)]) ?_ 1 _ rfl; (with_reducible repeat (first | refine blk_drewN ?_ _ | refine blk_drew ?_ | refine blk_alloc ?_ _)); refine blk_put (cs := #[.string (⟨#[]⟩ : ByteArray), .string (⟨#[]⟩ : ByteArray), .string (⟨#[]⟩ : ByteArray)]) ?_ 0 _ rfl; (with_reducible repeat (first | refine blk_drewN ?_ _ | refine blk_drew ?_ | refine blk_alloc ?_ _)); exact BK238.out) hb); have n1_ := Aside0.mk (below_step (by repeat (first | (with_reducible first | exact HB.out | apply below_alloc | apply pw_below_drewN | apply below_drew1 | refine below_set ?_ GE238.out) | exact HB.out)) hb); clear BK238; clear HB; have BK238 := n0_; have HB := n1_; clear n0_ n1_; (try clear hb); (try clear hb2); (try clear hk); (try clear hi)))
               simp only [List.append_eq, List.cons_append, List.nil_append]
               go_wp2_with (first | ((first | (with_reducible refine gate_dst (N := 79) rfl ?_) | (with_reducible refine gate_dst (N := 80) rfl ?_) | (with_reducible refine gate_dst (N := 81) rfl ?_) | (with_reducible refine gate_dst (N := 82) rfl ?_) | (with_reducible refine gate_dst (N := 83) rfl ?_) | (with_reducible refine gate_dst (N := 84) rfl ?_) | (with_reducible refine gate_dst (N := 85) rfl ?_) | (with_reducible refine gate_dst (N := 86) rfl ?_) | (with_reducible refine gate_dst (N := 97) rfl ?_) | (with_reducible refine gate_dst (N := 98) rfl ?_) | (with_reducible refine gate_dst (N := 99) rfl ?_) | (with_reducible refine gate_dst (N := 100) rfl ?_) | (with_reducible refine gate_dst (N := 101) rfl ?_) | (with_reducible refine gate_dst (N := 102) rfl ?_) | (with_reducible refine gate_dst (N := 103) rfl ?_) | (with_reducible refine gate_dst (N := 104) rfl ?_)); (with_reducible refine skip_guard ?hw_ ?_); (case hw_ => kernel_rfl); (simp only [Act.put, List.setIfInBounds_toArray, List.set_cons_zero, List.set_cons_succ])) | ((with_reducible refine gate_callee (f := 10) rfl ?_); refine goesL_ (some 38) rfl rfl Try.func10 (by kernel_rfl) rfl #[.string a0, .string a1, .int .i64 a2] rfl (by (try simp only [List.map_toArray, List.map_cons, List.map_nil]); first | done | rfl | (simp only [List.length_drop, List.length_take]; rfl)) ?_; (with_reducible refine (kdf_Expand.calls kj3 a0 a1 a2 t231 t232 _ A16.out).mono ?_); rintro e w116 ⟨rfl, hb⟩; refine ⟨_, rfl, ?_⟩; have n0_ := Aside0.mk (below_step (by repeat (first | (with_reducible first | exact HB.out | apply below_alloc | apply pw_below_drewN | apply below_drew1) | exact HB.out)) hb); clear HB; have HB := n0_; clear n0_; (try clear hb); (try clear hb2); (try clear hk); (try clear hi)) | ((with_reducible refine gate_callee (f := 12) rfl ?_); refine goesL_ (some 45) rfl rfl Try.func12 (by kernel_rfl) rfl #[.string a0, .string a1, .string (⟨#[]⟩ : ByteArray), .int .i64 a2] rfl (by (try simp only [List.map_toArray, List.map_cons, List.map_nil]); first | done | rfl | (simp only [List.length_drop, List.length_take]; rfl)) ?_; (with_reducible refine (kdf_Label.calls kj3 a0 a1 (⟨#[]⟩ : ByteArray) a2 t233 t234 _ A17.out).mono ?_); rintro e w117 ⟨rfl, hb⟩; refine ⟨_, rfl, ?_⟩; have n0_ := Aside0.mk (below_step (by repeat (first | (with_reducible first | exact HB.out | apply below_alloc | apply pw_below_drewN | apply below_drew1) | exact HB.out)) hb); clear HB; have HB := n0_; clear n0_; (try clear hb); (try clear hb2); (try clear hk); (try clear hi)) | ((with_reducible refine gate_callee (f := 14) rfl ?_); refine goesL_ (some 49) rfl rfl Try.func14 (by kernel_rfl) rfl #[.string a0] rfl (by (try simp only [List.map_toArray, List.map_cons, List.map_nil]); first | done | rfl | (simp only [List.length_drop, List.length_take]; rfl)) ?_; (with_reducible refine (kdf_Of.calls kj3 a0 t235 t236 t237 _ A18.out).mono ?_); rintro e w118 ⟨rfl, hb⟩; refine ⟨_, rfl, ?_⟩; have n0_ := Aside0.mk (below_step (by repeat (first | (with_reducible first | exact HB.out | apply below_alloc | apply pw_below_drewN | apply below_drew1) | exact HB.out)) hb); clear HB; have HB := n0_; clear n0_; (try clear hb); (try clear hb2); (try clear hk); (try clear hi)) | ((with_reducible refine gate_dst (N := 11) rfl ?_); (try (refine gate_guard (by rfl) ?_; dsimp only)); refine box_event ?hg (N := 11) ?hd (cs := #[.string (⟨#[]⟩ : ByteArray), .string (⟨#[]⟩ : ByteArray), .string (⟨#[]⟩ : ByteArray)]) (t := 30) ?hr ?_; (case hd => rfl); (case hg => rfl); (case hr => first | (go_simp; done) | (go_simp; rfl)); intro gb238 hg w119 hbox hb; have n0_ := Aside0.mk (below_step (by repeat (first | (with_reducible first | exact HB.out | apply below_alloc | apply pw_below_drewN | apply below_drew1) | exact HB.out)) hb); have n1_ := Aside0.mk (hbox); have n2_ := Aside0.mk ((by rw [hg]; exact (below_size (by repeat (first | (with_reducible first | exact HB.out | apply below_alloc | apply pw_below_drewN | apply below_drew1) | exact HB.out))) : w.heap.size ≤ gb238)); have n3_ := Aside0.mk ((by rw [hg]; exact (below_size (by repeat (first | (with_reducible first | exact HB.out | apply below_alloc | apply pw_below_drewN | apply below_drew1) | exact HB.out))) : w.heap.size ≤ gb238)); clear HB; have HB := n0_; have BK238 := n1_; have GW238 := n2_; have GE238 := n3_; clear n0_ n1_ n2_ n3_; clear hb hbox hg; have hcz120_0 : w119.cell? ⟨gb238, 0, none⟩ = some (.string (⟨#[]⟩ : ByteArray)) := (blk_cell BK238.out 0).trans rfl; have hcz120_1 : w119.cell? ⟨gb238, 1, none⟩ = some (.string (⟨#[]⟩ : ByteArray)) := (blk_cell BK238.out 1).trans rfl; have hcz120_2 : w119.cell? ⟨gb238, 2, none⟩ = some (.string (⟨#[]⟩ : ByteArray)) := (blk_cell BK238.out 2).trans rfl; have hfz120_0 := blk_frozen BK238.out 0; have hfz120_1 := blk_frozen BK238.out 1; have hfz120_2 := blk_frozen BK238.out 2) | (go_at_call 15; (with_reducible refine (kdf_Reset.calls a0 a1 t246 _ A115.out).mono ?_); rintro e w121 ⟨rfl, hb⟩; have n0_ := Aside0.mk (blk_below (g := gb238) (o := .cells #[.string t235, .string t236, .string t237] 30 (0, 0)) (by (with_reducible repeat (first | refine blk_drewN ?_ _ | refine blk_drew ?_ | refine blk_alloc ?_ _)); refine blk_put (cs := #[.string t235, .string t236, .string (⟨#[]⟩ : ByteArray)]) ?_ 2 _ rfl; (with_reducible repeat (first | refine blk_drewN ?_ _ | refine blk_drew ?_ | refine blk_alloc ?_ _)); refine blk_put (cs := #[.string t235, .string (⟨#[]⟩ : ByteArray), .string (⟨#[]⟩ : ByteArray)]) ?_ 1 _ rfl; (with_reducible repeat (first | refine blk_drewN ?_ _ | refine blk_drew ?_ | refine blk_alloc ?_ _)); refine blk_put (cs := #[.string (⟨#[]⟩ : ByteArray), .string (⟨#[]⟩ : ByteArray), .string (⟨#[]⟩ : ByteArray)]) ?_ 0 _ rfl; (with_reducible repeat (first | refine blk_drewN ?_ _ | refine blk_drew ?_ | refine blk_alloc ?_ _)); exact BK238.out) hb); have n1_ := Aside0.mk (below_step (by repeat (first | (with_reducible first | exact HB.out | apply below_alloc | apply pw_below_drewN | apply below_drew1 | refine below_set ?_ GE238.out) | exact HB.out)) hb); clear BK238; clear HB; have BK238 := n0_; have HB := n1_; clear n0_ n1_; (try clear hb); (try clear hb2); (try clear hk); (try clear hi)))
               go_ret
               exact ⟨by first | rfl | (simp [errW_none, errW_some] <;> rfl) | (simp [*, errW_none, errW_some] <;> rfl), by repeat (first | (with_reducible first | exact HB.out | apply below_alloc | apply pw_below_drewN | apply below_drew1 | refine below_set ?_ GE238.out) | exact HB.out)⟩
              ·rw [if_neg c114] at H
               exact absurd H (by simp)
             ·rw [if_neg c113] at H
              exact absurd H (by simp)
            ·rw [if_neg c112] at H
             exact absurd H (by simp)
           ·rw [if_neg c111] at H
            exact absurd H (by simp)
         ·rw [if_neg c98] at H
          exact absurd H (by simp)
       ·rw [if_neg c72] at H
        exact absurd H (by simp)
     ·rw [if_neg c20] at H
      exact absurd H (by simp)
    ·rw [if_neg c19] at H
     have c19b0 : decide (0 ≤ a2) = false := decide_eq_false c19
     clear c19
     by_cases c122 : ((t232 == 0) == false) = true
     ·rw [if_pos c122] at H
      have c122b0 : ((t232 == 0) == false) = true := c122
      (try (have c122b1 : decide ((t232 == 0) = false) = true := by simpa using c122))
      (try (have c122b2 : ((t232 == 0) == false) = true := by simpa using c122))
      clear c122
      by_cases c123 : ((t234 == 0) == false) = true
      ·rw [if_pos c123] at H
       have c123b0 : ((t234 == 0) == false) = true := c123
       (try (have c123b1 : decide ((t234 == 0) = false) = true := by simpa using c123))
       (try (have c123b2 : ((t234 == 0) == false) = true := by simpa using c123))
       clear c123
       by_cases c124 : t232 = 0
       ·rw [if_pos c124] at H
        have c124b0 : (t232 == 0) = true := beq_iff_eq.mpr c124
        have c124b1 : (t232 != 0) = false := bne_eq_false_iff_eq.mpr c124
        clear c124
        by_cases c125 : (t231.size : Int) = a2
        ·rw [if_pos c125] at H
         have c125b0 : ((t231.size : Int) == a2) = true := beq_iff_eq.mpr c125
         have c125b1 : ((t231.size : Int) != a2) = false := bne_eq_false_iff_eq.mpr c125
         clear c125
         by_cases c126 : t234 = 0
         ·rw [if_pos c126] at H
          have c126b0 : (t234 == 0) = true := beq_iff_eq.mpr c126
          have c126b1 : (t234 != 0) = false := bne_eq_false_iff_eq.mpr c126
          clear c126
          by_cases c127 : (t233.size : Int) = a2
          ·rw [if_pos c127] at H
           have c127b0 : ((t233.size : Int) == a2) = true := beq_iff_eq.mpr c127
           have c127b1 : ((t233.size : Int) != a2) = false := bne_eq_false_iff_eq.mpr c127
           clear c127
           by_cases c128 : (t235.size : Int) = 32
           ·rw [if_pos c128] at H
            have c128b0 : ((t235.size : Int) == 32) = true := beq_iff_eq.mpr c128
            have c128b1 : ((t235.size : Int) != 32) = false := bne_eq_false_iff_eq.mpr c128
            clear c128
            by_cases c129 : (t236.size : Int) = 12
            ·rw [if_pos c129] at H
             have c129b0 : ((t236.size : Int) == 12) = true := beq_iff_eq.mpr c129
             have c129b1 : ((t236.size : Int) != 12) = false := bne_eq_false_iff_eq.mpr c129
             clear c129
             by_cases c130 : (t237.size : Int) = 32
             ·rw [if_pos c130] at H
              have c130b0 : ((t237.size : Int) == 32) = true := beq_iff_eq.mpr c130
              have c130b1 : ((t237.size : Int) != 32) = false := bne_eq_false_iff_eq.mpr c130
              clear c130
              replace H := Option.bind_eq_some_iff.mp H
              obtain ⟨t247, A1310, H⟩ := H
              replace H : (some ((t247.size : Int) == 16)) = some r := H
              have A131 := Aside0.mk A1310
              clear A1310
              obtain rfl := Option.some.inj H
              rw [c124b0] at c122b0; exact absurd c122b0 (by decide)
             ·rw [if_neg c130] at H
              exact absurd H (by simp)
            ·rw [if_neg c129] at H
             exact absurd H (by simp)
           ·rw [if_neg c128] at H
            exact absurd H (by simp)
          ·rw [if_neg c127] at H
           exact absurd H (by simp)
         ·rw [if_neg c126] at H
          have c126b0 : (t234 == 0) = false := beq_eq_false_iff_ne.mpr c126
          have c126b1 : (t234 != 0) = true := bne_iff_ne.mpr c126
          by_cases c138 : t233.toList = ([] : List UInt8)
          ·rw [if_pos c138] at H
           have c138b0 : (t233.toList == ([] : List UInt8)) = true := beq_iff_eq.mpr c138
           have c138b1 : (t233.toList != ([] : List UInt8)) = false := bne_eq_false_iff_eq.mpr c138
           clear c138
           by_cases c139 : (t235.size : Int) = 32
           ·rw [if_pos c139] at H
            have c139b0 : ((t235.size : Int) == 32) = true := beq_iff_eq.mpr c139
            have c139b1 : ((t235.size : Int) != 32) = false := bne_eq_false_iff_eq.mpr c139
            clear c139
            by_cases c140 : (t236.size : Int) = 12
            ·rw [if_pos c140] at H
             have c140b0 : ((t236.size : Int) == 12) = true := beq_iff_eq.mpr c140
             have c140b1 : ((t236.size : Int) != 12) = false := bne_eq_false_iff_eq.mpr c140
             clear c140
             by_cases c141 : (t237.size : Int) = 32
             ·rw [if_pos c141] at H
              have c141b0 : ((t237.size : Int) == 32) = true := beq_iff_eq.mpr c141
              have c141b1 : ((t237.size : Int) != 32) = false := bne_eq_false_iff_eq.mpr c141
              clear c141
              replace H := Option.bind_eq_some_iff.mp H
              obtain ⟨t248, A1420, H⟩ := H
              replace H : (some ((t248.size : Int) == 16)) = some r := H
              have A142 := Aside0.mk A1420
              clear A1420
              obtain rfl := Option.some.inj H
              rw [c124b0] at c122b0; exact absurd c122b0 (by decide)
             ·rw [if_neg c141] at H
              exact absurd H (by simp)
            ·rw [if_neg c140] at H
             exact absurd H (by simp)
           ·rw [if_neg c139] at H
            exact absurd H (by simp)
          ·rw [if_neg c138] at H
           exact absurd H (by simp)
        ·rw [if_neg c125] at H
         exact absurd H (by simp)
       ·rw [if_neg c124] at H
        have c124b0 : (t232 == 0) = false := beq_eq_false_iff_ne.mpr c124
        have c124b1 : (t232 != 0) = true := bne_iff_ne.mpr c124
        by_cases c149 : t231.toList = ([] : List UInt8)
        ·rw [if_pos c149] at H
         have c149b0 : (t231.toList == ([] : List UInt8)) = true := beq_iff_eq.mpr c149
         have c149b1 : (t231.toList != ([] : List UInt8)) = false := bne_eq_false_iff_eq.mpr c149
         clear c149
         by_cases c150 : t234 = 0
         ·rw [if_pos c150] at H
          have c150b0 : (t234 == 0) = true := beq_iff_eq.mpr c150
          have c150b1 : (t234 != 0) = false := bne_eq_false_iff_eq.mpr c150
          clear c150
          by_cases c151 : (t233.size : Int) = a2
          ·rw [if_pos c151] at H
           have c151b0 : ((t233.size : Int) == a2) = true := beq_iff_eq.mpr c151
           have c151b1 : ((t233.size : Int) != a2) = false := bne_eq_false_iff_eq.mpr c151
           clear c151
           by_cases c152 : (t235.size : Int) = 32
           ·rw [if_pos c152] at H
            have c152b0 : ((t235.size : Int) == 32) = true := beq_iff_eq.mpr c152
            have c152b1 : ((t235.size : Int) != 32) = false := bne_eq_false_iff_eq.mpr c152
            clear c152
            by_cases c153 : (t236.size : Int) = 12
            ·rw [if_pos c153] at H
             have c153b0 : ((t236.size : Int) == 12) = true := beq_iff_eq.mpr c153
             have c153b1 : ((t236.size : Int) != 12) = false := bne_eq_false_iff_eq.mpr c153
             clear c153
             by_cases c154 : (t237.size : Int) = 32
             ·rw [if_pos c154] at H
              have c154b0 : ((t237.size : Int) == 32) = true := beq_iff_eq.mpr c154
              have c154b1 : ((t237.size : Int) != 32) = false := bne_eq_false_iff_eq.mpr c154
              clear c154
              replace H := Option.bind_eq_some_iff.mp H
              obtain ⟨t249, A1550, H⟩ := H
              replace H : (some ((t249.size : Int) == 16)) = some r := H
              have A155 := Aside0.mk A1550
              clear A1550
              obtain rfl := Option.some.inj H
              rw [c150b0] at c123b0; exact absurd c123b0 (by decide)
             ·rw [if_neg c154] at H
              exact absurd H (by simp)
            ·rw [if_neg c153] at H
             exact absurd H (by simp)
           ·rw [if_neg c152] at H
            exact absurd H (by simp)
          ·rw [if_neg c151] at H
           exact absurd H (by simp)
         ·rw [if_neg c150] at H
          have c150b0 : (t234 == 0) = false := beq_eq_false_iff_ne.mpr c150
          have c150b1 : (t234 != 0) = true := bne_iff_ne.mpr c150
          by_cases c162 : t233.toList = ([] : List UInt8)
          ·rw [if_pos c162] at H
           have c162b0 : (t233.toList == ([] : List UInt8)) = true := beq_iff_eq.mpr c162
           have c162b1 : (t233.toList != ([] : List UInt8)) = false := bne_eq_false_iff_eq.mpr c162
           clear c162
           by_cases c163 : (t235.size : Int) = 32
           ·rw [if_pos c163] at H
            have c163b0 : ((t235.size : Int) == 32) = true := beq_iff_eq.mpr c163
            have c163b1 : ((t235.size : Int) != 32) = false := bne_eq_false_iff_eq.mpr c163
            clear c163
            by_cases c164 : (t236.size : Int) = 12
            ·rw [if_pos c164] at H
             have c164b0 : ((t236.size : Int) == 12) = true := beq_iff_eq.mpr c164
             have c164b1 : ((t236.size : Int) != 12) = false := bne_eq_false_iff_eq.mpr c164
             clear c164
             by_cases c165 : (t237.size : Int) = 32
             ·rw [if_pos c165] at H
              have c165b0 : ((t237.size : Int) == 32) = true := beq_iff_eq.mpr c165
              have c165b1 : ((t237.size : Int) != 32) = false := bne_eq_false_iff_eq.mpr c165
              clear c165
              replace H := Option.bind_eq_some_iff.mp H
              obtain ⟨t250, A1660, H⟩ := H
              replace H : (some ((t250.size : Int) == 16)) = some r := H
              have A166 := Aside0.mk A1660
              clear A1660
              obtain rfl := Option.some.inj H
              (try clear c122b2)
              (try clear c122b1)
              (try clear c122b0)
              (try clear c123b2)
              (try clear c123b1)
              (try clear c123b0)
              go_upto_region 7 with (first | ((with_reducible refine gate_callee (f := 10) rfl ?_); refine goesL_ (some 38) rfl rfl Try.func10 (by kernel_rfl) rfl #[.string a0, .string a1, .int .i64 a2] rfl (by (try simp only [List.map_toArray, List.map_cons, List.map_nil]); first | done | rfl | (simp only [List.length_drop, List.length_take]; rfl)) ?_; (with_reducible refine (kdf_Expand.calls kj3 a0 a1 a2 t231 t232 _ A16.out).mono ?_); rintro e w167 ⟨rfl, hb⟩; refine ⟨_, rfl, ?_⟩; have n0_ := Aside0.mk (below_step (by repeat (first | (with_reducible first | exact HB.out | apply below_alloc | apply pw_below_drewN | apply below_drew1) | exact HB.out)) hb); clear HB; have HB := n0_; clear n0_; (try clear hb); (try clear hb2); (try clear hk); (try clear hi)) | ((with_reducible refine gate_callee (f := 12) rfl ?_); refine goesL_ (some 45) rfl rfl Try.func12 (by kernel_rfl) rfl #[.string a0, .string a1, .string (⟨#[]⟩ : ByteArray), .int .i64 a2] rfl (by (try simp only [List.map_toArray, List.map_cons, List.map_nil]); first | done | rfl | (simp only [List.length_drop, List.length_take]; rfl)) ?_; (with_reducible refine (kdf_Label.calls kj3 a0 a1 (⟨#[]⟩ : ByteArray) a2 t233 t234 _ A17.out).mono ?_); rintro e w168 ⟨rfl, hb⟩; refine ⟨_, rfl, ?_⟩; have n0_ := Aside0.mk (below_step (by repeat (first | (with_reducible first | exact HB.out | apply below_alloc | apply pw_below_drewN | apply below_drew1) | exact HB.out)) hb); clear HB; have HB := n0_; clear n0_; (try clear hb); (try clear hb2); (try clear hk); (try clear hi)) | ((with_reducible refine gate_callee (f := 14) rfl ?_); refine goesL_ (some 49) rfl rfl Try.func14 (by kernel_rfl) rfl #[.string a0] rfl (by (try simp only [List.map_toArray, List.map_cons, List.map_nil]); first | done | rfl | (simp only [List.length_drop, List.length_take]; rfl)) ?_; (with_reducible refine (kdf_Of.calls kj3 a0 t235 t236 t237 _ A18.out).mono ?_); rintro e w169 ⟨rfl, hb⟩; refine ⟨_, rfl, ?_⟩; have n0_ := Aside0.mk (below_step (by repeat (first | (with_reducible first | exact HB.out | apply below_alloc | apply pw_below_drewN | apply below_drew1) | exact HB.out)) hb); clear HB; have HB := n0_; clear n0_; (try clear hb); (try clear hb2); (try clear hk); (try clear hi)) | ((with_reducible refine gate_dst (N := 11) rfl ?_); (try (refine gate_guard (by rfl) ?_; dsimp only)); refine box_event ?hg (N := 11) ?hd (cs := #[.string (⟨#[]⟩ : ByteArray), .string (⟨#[]⟩ : ByteArray), .string (⟨#[]⟩ : ByteArray)]) (t := 30) ?hr ?_; (case hd => rfl); (case hg => rfl); (case hr => first | (go_simp; done) | (go_simp; rfl)); intro gb238 hg w170 hbox hb; have n0_ := Aside0.mk (below_step (by repeat (first | (with_reducible first | exact HB.out | apply below_alloc | apply pw_below_drewN | apply below_drew1) | exact HB.out)) hb); have n1_ := Aside0.mk (hbox); have n2_ := Aside0.mk ((by rw [hg]; exact (below_size (by repeat (first | (with_reducible first | exact HB.out | apply below_alloc | apply pw_below_drewN | apply below_drew1) | exact HB.out))) : w.heap.size ≤ gb238)); have n3_ := Aside0.mk ((by rw [hg]; exact (below_size (by repeat (first | (with_reducible first | exact HB.out | apply below_alloc | apply pw_below_drewN | apply below_drew1) | exact HB.out))) : w.heap.size ≤ gb238)); clear HB; have HB := n0_; have BK238 := n1_; have GW238 := n2_; have GE238 := n3_; clear n0_ n1_ n2_ n3_; clear hb hbox hg; have hcz171_0 : w170.cell? ⟨gb238, 0, none⟩ = some (.string (⟨#[]⟩ : ByteArray)) := (blk_cell BK238.out 0).trans rfl; have hcz171_1 : w170.cell? ⟨gb238, 1, none⟩ = some (.string (⟨#[]⟩ : ByteArray)) := (blk_cell BK238.out 1).trans rfl; have hcz171_2 : w170.cell? ⟨gb238, 2, none⟩ = some (.string (⟨#[]⟩ : ByteArray)) := (blk_cell BK238.out 2).trans rfl; have hfz171_0 := blk_frozen BK238.out 0; have hfz171_1 := blk_frozen BK238.out 1; have hfz171_2 := blk_frozen BK238.out 2) | (go_at_call 15; (with_reducible refine (kdf_Reset.calls a0 a1 t250 _ A166.out).mono ?_); rintro e w172 ⟨rfl, hb⟩; have n0_ := Aside0.mk (blk_below (g := gb238) (o := .cells #[.string t235, .string t236, .string t237] 30 (0, 0)) (by (with_reducible repeat (first | refine blk_drewN ?_ _ | refine blk_drew ?_ | refine blk_alloc ?_ _)); refine blk_put (cs := #[.string t235, .string t236, .string (⟨#[]⟩ : ByteArray)]) ?_ 2 _ rfl; (with_reducible repeat (first | refine blk_drewN ?_ _ | refine blk_drew ?_ | refine blk_alloc ?_ _)); refine blk_put (cs := #[.string t235, .string (⟨#[]⟩ : ByteArray), .string (⟨#[]⟩ : ByteArray)]) ?_ 1 _ rfl; (with_reducible repeat (first | refine blk_drewN ?_ _ | refine blk_drew ?_ | refine blk_alloc ?_ _)); refine blk_put (cs := #[.string (⟨#[]⟩ : ByteArray), .string (⟨#[]⟩ : ByteArray), .string (⟨#[]⟩ : ByteArray)]) ?_ 0 _ rfl; (with_reducible repeat (first | refine blk_drewN ?_ _ | refine blk_drew ?_ | refine blk_alloc ?_ _)); exact BK238.out) hb); have n1_ := Aside0.mk (below_step (by repeat (first | (with_reducible first | exact HB.out | apply below_alloc | apply pw_below_drewN | apply below_drew1 | refine below_set ?_ GE238.out) | exact HB.out)) hb); clear BK238; clear HB; have BK238 := n0_; have HB := n1_; clear n0_ n1_; (try clear hb); (try clear hb2); (try clear hk); (try clear hi)))
              simp only [List.append_eq, List.cons_append, List.nil_append]
              go_wp2_with (first | ((first | (with_reducible refine gate_dst (N := 79) rfl ?_) | (with_reducible refine gate_dst (N := 80) rfl ?_) | (with_reducible refine gate_dst (N := 81) rfl ?_) | (with_reducible refine gate_dst (N := 82) rfl ?_) | (with_reducible refine gate_dst (N := 83) rfl ?_) | (with_reducible refine gate_dst (N := 84) rfl ?_) | (with_reducible refine gate_dst (N := 85) rfl ?_) | (with_reducible refine gate_dst (N := 86) rfl ?_) | (with_reducible refine gate_dst (N := 97) rfl ?_) | (with_reducible refine gate_dst (N := 98) rfl ?_) | (with_reducible refine gate_dst (N := 99) rfl ?_) | (with_reducible refine gate_dst (N := 100) rfl ?_) | (with_reducible refine gate_dst (N := 101) rfl ?_) | (with_reducible refine gate_dst (N := 102) rfl ?_) | (with_reducible refine gate_dst (N := 103) rfl ?_) | (with_reducible refine gate_dst (N := 104) rfl ?_)); (with_reducible refine skip_guard ?hw_ ?_); (case hw_ => kernel_rfl); (simp only [Act.put, List.setIfInBounds_toArray, List.set_cons_zero, List.set_cons_succ])) | ((with_reducible refine gate_callee (f := 10) rfl ?_); refine goesL_ (some 38) rfl rfl Try.func10 (by kernel_rfl) rfl #[.string a0, .string a1, .int .i64 a2] rfl (by (try simp only [List.map_toArray, List.map_cons, List.map_nil]); first | done | rfl | (simp only [List.length_drop, List.length_take]; rfl)) ?_; (with_reducible refine (kdf_Expand.calls kj3 a0 a1 a2 t231 t232 _ A16.out).mono ?_); rintro e w167 ⟨rfl, hb⟩; refine ⟨_, rfl, ?_⟩; have n0_ := Aside0.mk (below_step (by repeat (first | (with_reducible first | exact HB.out | apply below_alloc | apply pw_below_drewN | apply below_drew1) | exact HB.out)) hb); clear HB; have HB := n0_; clear n0_; (try clear hb); (try clear hb2); (try clear hk); (try clear hi)) | ((with_reducible refine gate_callee (f := 12) rfl ?_); refine goesL_ (some 45) rfl rfl Try.func12 (by kernel_rfl) rfl #[.string a0, .string a1, .string (⟨#[]⟩ : ByteArray), .int .i64 a2] rfl (by (try simp only [List.map_toArray, List.map_cons, List.map_nil]); first | done | rfl | (simp only [List.length_drop, List.length_take]; rfl)) ?_; (with_reducible refine (kdf_Label.calls kj3 a0 a1 (⟨#[]⟩ : ByteArray) a2 t233 t234 _ A17.out).mono ?_); rintro e w168 ⟨rfl, hb⟩; refine ⟨_, rfl, ?_⟩; have n0_ := Aside0.mk (below_step (by repeat (first | (with_reducible first | exact HB.out | apply below_alloc | apply pw_below_drewN | apply below_drew1) | exact HB.out)) hb); clear HB; have HB := n0_; clear n0_; (try clear hb); (try clear hb2); (try clear hk); (try clear hi)) | ((with_reducible refine gate_callee (f := 14) rfl ?_); refine goesL_ (some 49) rfl rfl Try.func14 (by kernel_rfl) rfl #[.string a0] rfl (by (try simp only [List.map_toArray, List.map_cons, List.map_nil]); first | done | rfl | (simp only [List.length_drop, List.length_take]; rfl)) ?_; (with_reducible refine (kdf_Of.calls kj3 a0 t235 t236 t237 _ A18.out).mono ?_); rintro e w169 ⟨rfl, hb⟩; refine ⟨_, rfl, ?_⟩; have n0_ := Aside0.mk (below_step (by repeat (first | (with_reducible first | exact HB.out | apply below_alloc | apply pw_below_drewN | apply below_drew1) | exact HB.out)) hb); clear HB; have HB := n0_; clear n0_; (try clear hb); (try clear hb2); (try clear hk); (try clear hi)) | ((with_reducible refine gate_dst (N := 11) rfl ?_); (try (refine gate_guard (by rfl) ?_; dsimp only)); refine box_event ?hg (N := 11) ?hd (cs := #[.string (⟨#[]⟩ : ByteArray), .string (⟨#[]⟩ : ByteArray), .string (⟨#[]⟩ : ByteArray)]) (t := 30) ?hr ?_; (case hd => rfl); (case hg => rfl); (case hr => first | (go_simp; done) | (go_simp; rfl)); intro gb238 hg w170 hbox hb; have n0_ := Aside0.mk (below_step (by repeat (first | (with_reducible first | exact HB.out | apply below_alloc | apply pw_below_drewN | apply below_drew1) | exact HB.out)) hb); have n1_ := Aside0.mk (hbox); have n2_ := Aside0.mk ((by rw [hg]; exact (below_size (by repeat (first | (with_reducible first | exact HB.out | apply below_alloc | apply pw_below_drewN | apply below_drew1) | exact HB.out))) : w.heap.size ≤ gb238)); have n3_ := Aside0.mk ((by rw [hg]; exact (below_size (by repeat (first | (with_reducible first | exact HB.out | apply below_alloc | apply pw_below_drewN | apply below_drew1) | exact HB.out))) : w.heap.size ≤ gb238)); clear HB; have HB := n0_; have BK238 := n1_; have GW238 := n2_; have GE238 := n3_; clear n0_ n1_ n2_ n3_; clear hb hbox hg; have hcz171_0 : w170.cell? ⟨gb238, 0, none⟩ = some (.string (⟨#[]⟩ : ByteArray)) := (blk_cell BK238.out 0).trans rfl; have hcz171_1 : w170.cell? ⟨gb238, 1, none⟩ = some (.string (⟨#[]⟩ : ByteArray)) := (blk_cell BK238.out 1).trans rfl; have hcz171_2 : w170.cell? ⟨gb238, 2, none⟩ = some (.string (⟨#[]⟩ : ByteArray)) := (blk_cell BK238.out 2).trans rfl; have hfz171_0 := blk_frozen BK238.out 0; have hfz171_1 := blk_frozen BK238.out 1; have hfz171_2 := blk_frozen BK238.out 2) | (go_at_call 15; (with_reducible refine (kdf_Reset.calls a0 a1 t250 _ A166.out).mono ?_); rintro e w172 ⟨rfl, hb⟩; have n0_ := Aside0.mk (blk_below (g := gb238) (o := .cells #[.string t235, .string t236, .string t237] 30 (0, 0)) (by (with_reducible repeat (first | refine blk_drewN ?_ _ | refine blk_drew ?_ | refine blk_alloc ?_ _)); refine blk_put (cs := #[.string t235, .string t236, .string (⟨#[]⟩ : ByteArray)]) ?_ 2 _ rfl; (with_reducible repeat (first | refine blk_drewN ?_ _ | refine blk_drew ?_ | refine blk_alloc ?_ _)); refine blk_put (cs := #[.string t235, .string (⟨#[]⟩ : ByteArray), .string (⟨#[]⟩ : ByteArray)]) ?_ 1 _ rfl; (with_reducible repeat (first | refine blk_drewN ?_ _ | refine blk_drew ?_ | refine blk_alloc ?_ _)); refine blk_put (cs := #[.string (⟨#[]⟩ : ByteArray), .string (⟨#[]⟩ : ByteArray), .string (⟨#[]⟩ : ByteArray)]) ?_ 0 _ rfl; (with_reducible repeat (first | refine blk_drewN ?_ _ | refine blk_drew ?_ | refine blk_alloc ?_ _)); exact BK238.out) hb); have n1_ := Aside0.mk (below_step (by repeat (first | (with_reducible first | exact HB.out | apply below_alloc | apply pw_below_drewN | apply below_drew1 | refine below_set ?_ GE238.out) | exact HB.out)) hb); clear BK238; clear HB; have BK238 := n0_; have HB := n1_; clear n0_ n1_; (try clear hb); (try clear hb2); (try clear hk); (try clear hi)))
              go_ret
              exact ⟨by first | rfl | (simp [errW_none, errW_some] <;> rfl) | (simp [*, errW_none, errW_some] <;> rfl), by repeat (first | (with_reducible first | exact HB.out | apply below_alloc | apply pw_below_drewN | apply below_drew1 | refine below_set ?_ GE238.out) | exact HB.out)⟩
             ·rw [if_neg c165] at H
              exact absurd H (by simp)
            ·rw [if_neg c164] at H
             exact absurd H (by simp)
           ·rw [if_neg c163] at H
            exact absurd H (by simp)
          ·rw [if_neg c162] at H
           exact absurd H (by simp)
        ·rw [if_neg c149] at H
         exact absurd H (by simp)
      ·rw [if_neg c123] at H
       exact absurd H (by simp)
     ·rw [if_neg c122] at H
      exact absurd H (by simp)

/-- THE ONE PURE STATEMENT of dominolaw08_KdfLengths: yours. -/
def dominolaw08_KdfLengths.Pure : Prop := ∀ (a0 : ByteArray) (a1 : ByteArray) (a2 : Int), a0.size ≤ 140737488351232 → a1.size ≤ 140737488351232 → (Lit.int .i64 a2).wf = true → ∃ k, dominolaw08_KdfLengths.f k a0 a1 a2 = some true
theorem dominolaw08_KdfLengths.walk (P : dominolaw08_KdfLengths.Pure) (a0 : ByteArray) (a1 : ByteArray) (a2 : Int) (w : World) (w0 : a0.size ≤ 140737488351232) (w1 : a1.size ≤ 140737488351232) (w2 : (Lit.int .i64 a2).wf = true) :
  Calls Try.prog 5 #[.string a0, .string a1, .int .i64 a2] w fun e w' => e = .returned (.bool true) ∧ Below w.heap.size w w' := by
 obtain ⟨k, h⟩ := P a0 a1 a2 w0 w1 w2
 refine (dominolaw08_KdfLengths.calls k a0 a1 a2 true w h).mono ?_
 rintro e w' ⟨rfl, hd⟩
 exact ⟨rfl, hd⟩

end Go.Proofs.Ytghdmlcmoeoohaa.PKfx
