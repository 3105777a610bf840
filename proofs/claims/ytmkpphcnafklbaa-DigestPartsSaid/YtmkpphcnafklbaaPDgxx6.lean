-- printed for this claim by a program of the claim (wip/tools/pp.py over the kit's print)
import Derived.Test.YtmkpphcnafklbaaPDgxx0
import Derived.Test.YtmkpphcnafklbaaPDgxx1
import Derived.Test.YtmkpphcnafklbaaPDgxx3
import Derived.Test.YtmkpphcnafklbaaPDgxx4
import Derived.Test.YtmkpphcnafklbaaPDgxx5
namespace Go.Proofs.Ytmkpphcnafklbaa.PDgx
open Go.RowKit Go.Proofs.YtmkpphcnafklbaaW.PrintWords Go.Proofs.YtmkpphcnafklbaaW.PrintLast Go.Proofs.YtmkpphcnafklbaaW.PrintMore
attribute [local go_sem] max2_int min2_int max_two min_two max_three min_three max_four min_four   -- for this text's walks alone
set_option linter.unusedVariables false
set_option linter.unusedSimpArgs false

attribute [local go_sem] isSome_setCell_
/-! ### dominolaw07_DigestSums: function 3 -/
def dominolaw07_DigestSums.j0 : Nat → List ByteArray → Bool → Option (Bool)
 | 0, _, _ => none
 | k + 1, x0, x10 => if x10 = true then ((dominolaw07_shown.f).bind fun t119 => (some t119)) else ((digest_Sum.f x0).bind fun t120 => ((dominoref07_Join.f k x0).bind fun t121 => ((dominoref07_Sum.f t121).bind fun t122 => (if t120.toList = t122.toList then (some ((t120.size : Int) == 32)) else (none)))))
def dominolaw07_DigestSums.f (k : Nat) (l0 : List ByteArray) : Option (Bool) := (dominolaw07_bounded.f k l0).bind fun t117 => (if t117 = true then ((dominolaw07_shown.f).bind fun t118 => (dominolaw07_DigestSums.j0 k l0 (!t118))) else (dominolaw07_DigestSums.j0 k l0 true))
theorem dominolaw07_DigestSums.mono_l : ∀ k, (∀ y0 y1, LeO (dominolaw07_DigestSums.j0 k y0 y1) (dominolaw07_DigestSums.j0 (k + 1) y0 y1))
 | 0 => fun _ _ r h => by simp [dominolaw07_DigestSums.j0] at h
 | k + 1 => by
  have ih0 := dominolaw07_DigestSums.mono_l k
  ·intro y0 y1
   unfold dominolaw07_DigestSums.j0
   repeat' first
   | (with_reducible exact ih0 _ _)
   | (with_reducible exact dominolaw07_bounded.mono _ _)
   | (with_reducible exact dominoref07_Join.mono _ _)
   | (with_reducible exact LeO.refl _)
   | (with_reducible exact LeO.none _)
   | (with_reducible refine LeO.ite ?_ ?_)
   | (with_reducible refine LeO.bind ?_ (fun _ => ?_))
   | exact ih0 _ _
   | exact dominolaw07_bounded.mono _ _
   | exact dominoref07_Join.mono _ _
   | exact LeO.none _
   | refine LeO.ite ?_ ?_
   | refine LeO.bind ?_ (fun _ => ?_)
theorem dominolaw07_DigestSums.mono : ∀ a0 k, LeO (dominolaw07_DigestSums.f k a0) (dominolaw07_DigestSums.f (k + 1) a0) := by
 intro a0 k
 have ih0 := dominolaw07_DigestSums.mono_l k
 unfold dominolaw07_DigestSums.f
 repeat' first
   | (with_reducible exact ih0 _ _)
   | (with_reducible exact dominolaw07_bounded.mono _ _)
   | (with_reducible exact dominoref07_Join.mono _ _)
   | (with_reducible exact LeO.refl _)
   | (with_reducible exact LeO.none _)
   | (with_reducible refine LeO.ite ?_ ?_)
   | (with_reducible refine LeO.bind ?_ (fun _ => ?_))
   | exact ih0 _ _
   | exact dominolaw07_bounded.mono _ _
   | exact dominoref07_Join.mono _ _
   | exact LeO.none _
   | refine LeO.ite ?_ ?_
   | refine LeO.bind ?_ (fun _ => ?_)
set_option maxHeartbeats 8000000 in
set_option maxRecDepth 100000 in
theorem dominolaw07_DigestSums.calls (k : Nat) (A0 : Option Addr) (c0 : Nat) (l0 : List ByteArray) (r : Bool) (w : World) (hr0 : Kd.C Kd.string w A0 l0.length l0) (hc0 : l0.length ≤ c0) (h : dominolaw07_DigestSums.f k l0 = some r) :
  Calls Try.prog 3 #[.slice A0 l0.length c0] w fun e w' => e = .returned (.bool r) ∧ Below w.heap.size w w' := by
 have HR0 := Aside0.mk hr0
 have HC0 := Aside0.mk hc0
 clear hr0 hc0
 have HB := Aside0.mk (Below.refl w.heap.size w)
 have H : ((dominolaw07_bounded.f k l0).bind fun t117 => (if t117 = true then ((dominolaw07_shown.f).bind fun t118 => (dominolaw07_DigestSums.j0 k l0 (!t118))) else (dominolaw07_DigestSums.j0 k l0 true))) = some r := h
 clear h
 have HC2 := Aside0.mk H
 clear H
 go_enter Try.func3, Try.ntmps3
 go_upto_region 1 with (fail)
 go_cut [10] (fun v10 wc => ∃ (kq : Nat) (x10_1 : Bool), v10 = .bool x10_1 ∧ Aside0 (dominolaw07_DigestSums.j0 kq l0 x10_1 = some r) ∧ Aside0 (kq ≤ k) ∧ Aside0 (Below w.heap.size w wc))
 case first =>
  have H := HC2.out
  clear HC2
  replace H := Option.bind_eq_some_iff.mp H
  obtain ⟨t117, A30, H⟩ := H
  replace H : (if t117 = true then ((dominolaw07_shown.f).bind fun t118 => (dominolaw07_DigestSums.j0 k l0 (!t118))) else (dominolaw07_DigestSums.j0 k l0 true)) = some r := H
  have A3 := Aside0.mk A30
  clear A30
  by_cases c4 : t117 = true
  ·subst c4
   have H1 : ((dominolaw07_shown.f).bind fun t118 => (dominolaw07_DigestSums.j0 k l0 (!t118))) = some r := by rw [if_pos rfl] at H; exact H
   clear H
   have H := H1
   clear H1
   replace H := Option.bind_eq_some_iff.mp H
   obtain ⟨t118, A50, H⟩ := H
   replace H : (dominolaw07_DigestSums.j0 k l0 (!t118)) = some r := H
   have A5 := Aside0.mk A50
   clear A50
   have H' := Aside0.mk H
   clear H
   go_wp2_with (first | ((with_reducible refine gate_callee (f := 8) rfl ?_); refine goesL_ (some 5) rfl rfl Try.func8 (by kernel_rfl) rfl #[.slice A0 l0.length c0] rfl (by (try simp only [List.map_toArray, List.map_cons, List.map_nil]); first | done | rfl | (simp only [List.length_drop, List.length_take]; rfl)) ?_; (with_reducible refine (dominolaw07_bounded.calls k _ _ l0 true _ ?side1 ?side2 A3.out).mono ?_); (case side1 => repeat (first | exact (Kd.C_below HR0.out HB.out) | (with_reducible refine Kd.C_alloc ?_ _) | (with_reducible refine Kd.C_drewN ?_ _) | (with_reducible refine Kd.C_drew ?_))); (case side2 => exact HC0.out); rintro e w' ⟨rfl, ⟨nd, rfl⟩⟩; refine ⟨_, rfl, ?_⟩) | (go_at_call 9; (with_reducible refine (dominolaw07_shown.calls  t118 _ A5.out).mono ?_); rintro e w6 ⟨rfl, hb⟩; have n0_ := Aside0.mk (below_step (by repeat (first | (with_reducible first | exact HB.out | apply below_alloc | apply pw_below_drewN | apply below_drew1) | exact HB.out)) hb); clear HB; have HB := n0_; clear n0_; (try clear hb); (try clear hb2); (try clear hk); (try clear hi)))
   go_meet
   case rel => exact ⟨_, (!t118), (by first | rfl | (simp; done) | (simp [*]; done)), H', ⟨by first | omega | exact Nat.le_refl _⟩, ⟨by repeat (first | (with_reducible first | exact HB.out | apply below_alloc | apply pw_below_drewN | apply below_drew1) | exact HB.out)⟩⟩
  ·replace c4 := Bool.eq_false_iff.mpr c4
   subst c4
   have H1 : (dominolaw07_DigestSums.j0 k l0 true) = some r := by rw [if_neg (show ¬ (false = true) by decide)] at H; exact H
   clear H
   have H := H1
   clear H1
   have H' := Aside0.mk H
   clear H
   go_wp2_with (first | ((with_reducible refine gate_callee (f := 8) rfl ?_); refine goesL_ (some 5) rfl rfl Try.func8 (by kernel_rfl) rfl #[.slice A0 l0.length c0] rfl (by (try simp only [List.map_toArray, List.map_cons, List.map_nil]); first | done | rfl | (simp only [List.length_drop, List.length_take]; rfl)) ?_; (with_reducible refine (dominolaw07_bounded.calls k _ _ l0 false _ ?side1 ?side2 A3.out).mono ?_); (case side1 => repeat (first | exact (Kd.C_below HR0.out HB.out) | (with_reducible refine Kd.C_alloc ?_ _) | (with_reducible refine Kd.C_drewN ?_ _) | (with_reducible refine Kd.C_drew ?_))); (case side2 => exact HC0.out); rintro e w' ⟨rfl, ⟨nd, rfl⟩⟩; refine ⟨_, rfl, ?_⟩))
   go_meet
   case rel => exact ⟨_, (true), (by first | rfl | (simp; done) | (simp [*]; done)), H', ⟨by first | omega | exact Nat.le_refl _⟩, ⟨by repeat (first | (with_reducible first | exact HB.out | apply below_alloc | apply pw_below_drewN | apply below_drew1) | exact HB.out)⟩⟩
 case rest =>
  clear HC2
  try clear p2
  try clear c3
  try clear c4
  obtain ⟨kq, x10_1, rfl, HA, HJ1, HB⟩ := hcut
  cases kq with
  | zero => exact absurd HA.out (by simp [dominolaw07_DigestSums.j0])
  | succ kj1 =>
   have H := HA.out
   clear HA
   simp only [dominolaw07_DigestSums.j0] at H
   by_cases c7 : x10_1 = true
   ·subst c7
    have H1 : ((dominolaw07_shown.f).bind fun t119 => (some t119)) = some r := by rw [if_pos rfl] at H; exact H
    clear H
    have H := H1
    clear H1
    replace H := Option.bind_eq_some_iff.mp H
    obtain ⟨t119, A80, H⟩ := H
    replace H : (some t119) = some r := H
    have A8 := Aside0.mk A80
    clear A80
    obtain rfl := Option.some.inj H
    go_wp2_with (first | ((with_reducible refine gate_callee (f := 9) rfl ?_); refine goesL_ (some 11) rfl rfl Try.func9 (by kernel_rfl) rfl #[] rfl (by (try simp only [List.map_toArray, List.map_cons, List.map_nil]); first | done | rfl | (simp only [List.length_drop, List.length_take]; rfl)) ?_; (with_reducible refine (dominolaw07_shown.calls  t119 _ A8.out).mono ?_); rintro e w9 ⟨rfl, hb⟩; refine ⟨_, rfl, ?_⟩; have n0_ := Aside0.mk (below_step (by repeat (first | (with_reducible first | exact HB.out | apply below_alloc | apply pw_below_drewN | apply below_drew1) | exact HB.out)) hb); clear HB; have HB := n0_; clear n0_; (try clear hb); (try clear hb2); (try clear hk); (try clear hi)))
    go_ret
    exact ⟨by first | rfl | (simp [errW_none, errW_some] <;> rfl) | (simp [*, errW_none, errW_some] <;> rfl), by repeat (first | (with_reducible first | exact HB.out | apply below_alloc | apply pw_below_drewN | apply below_drew1) | exact HB.out)⟩
   ·replace c7 := Bool.eq_false_iff.mpr c7
    subst c7
    have H1 : ((digest_Sum.f l0).bind fun t120 => ((dominoref07_Join.f kj1 l0).bind fun t121 => ((dominoref07_Sum.f t121).bind fun t122 => (if t120.toList = t122.toList then (some ((t120.size : Int) == 32)) else (none))))) = some r := by rw [if_neg (show ¬ (false = true) by decide)] at H; exact H
    clear H
    have H := H1
    clear H1
    replace H := Option.bind_eq_some_iff.mp H
    obtain ⟨t120, A100, H⟩ := H
    replace H : ((dominoref07_Join.f kj1 l0).bind fun t121 => ((dominoref07_Sum.f t121).bind fun t122 => (if t120.toList = t122.toList then (some ((t120.size : Int) == 32)) else (none)))) = some r := H
    have A10 := Aside0.mk A100
    clear A100
    replace H := Option.bind_eq_some_iff.mp H
    obtain ⟨t121, A110, H⟩ := H
    replace H : ((dominoref07_Sum.f t121).bind fun t122 => (if t120.toList = t122.toList then (some ((t120.size : Int) == 32)) else (none))) = some r := H
    have A11 := Aside0.mk A110
    clear A110
    replace H := Option.bind_eq_some_iff.mp H
    obtain ⟨t122, A120, H⟩ := H
    replace H : (if t120.toList = t122.toList then (some ((t120.size : Int) == 32)) else (none)) = some r := H
    have A12 := Aside0.mk A120
    clear A120
    by_cases c13 : t120.toList = t122.toList
    ·rw [if_pos c13] at H
     have c13b0 : (t120.toList == t122.toList) = true := beq_iff_eq.mpr c13
     have c13b1 : (t120.toList != t122.toList) = false := bne_eq_false_iff_eq.mpr c13
     clear c13
     obtain rfl := Option.some.inj H
     go_wp2_with (first | ((with_reducible refine gate_callee (f := 10) rfl ?_); refine goesL_ (some 13) rfl rfl Try.func10 (by kernel_rfl) rfl #[.slice A0 l0.length c0] rfl (by (try simp only [List.map_toArray, List.map_cons, List.map_nil]); first | done | rfl | (simp only [List.length_drop, List.length_take]; rfl)) ?_; (with_reducible refine (digest_Sum.calls _ _ l0 t120 _ ?side1 ?side2 A10.out).mono ?_); (case side1 => repeat (first | exact (Kd.C_below HR0.out HB.out) | (with_reducible refine Kd.C_alloc ?_ _) | (with_reducible refine Kd.C_drewN ?_ _) | (with_reducible refine Kd.C_drew ?_))); (case side2 => exact HC0.out); rintro e w14 ⟨rfl, hb⟩; refine ⟨_, rfl, ?_⟩; have n0_ := Aside0.mk (below_step (by repeat (first | (with_reducible first | exact HB.out | apply below_alloc | apply pw_below_drewN | apply below_drew1) | exact HB.out)) hb); clear HB; have HB := n0_; clear n0_; (try clear hb); (try clear hb2); (try clear hk); (try clear hi)) | ((with_reducible refine gate_callee (f := 12) rfl ?_); refine goesL_ (some 16) rfl rfl Try.func12 (by kernel_rfl) rfl #[.slice A0 l0.length c0] rfl (by (try simp only [List.map_toArray, List.map_cons, List.map_nil]); first | done | rfl | (simp only [List.length_drop, List.length_take]; rfl)) ?_; (with_reducible refine (dominoref07_Join.calls kj1 _ _ l0 t121 _ ?side1 ?side2 A11.out).mono ?_); (case side1 => repeat (first | exact (Kd.C_below HR0.out HB.out) | (with_reducible refine Kd.C_alloc ?_ _) | (with_reducible refine Kd.C_drewN ?_ _) | (with_reducible refine Kd.C_drew ?_))); (case side2 => exact HC0.out); rintro e w' ⟨rfl, ⟨nd, rfl⟩⟩; refine ⟨_, rfl, ?_⟩) | ((with_reducible refine gate_callee (f := 11) rfl ?_); refine goesL_ (some 17) rfl rfl Try.func11 (by kernel_rfl) rfl #[.string t121] rfl (by (try simp only [List.map_toArray, List.map_cons, List.map_nil]); first | done | rfl | (simp only [List.length_drop, List.length_take]; rfl)) ?_; (with_reducible refine (dominoref07_Sum.calls t121 t122 _ A12.out).mono ?_); rintro e w15 ⟨rfl, hb⟩; refine ⟨_, rfl, ?_⟩; have n0_ := Aside0.mk (below_step (by repeat (first | (with_reducible first | exact HB.out | apply below_alloc | apply pw_below_drewN | apply below_drew1) | exact HB.out)) hb); clear HB; have HB := n0_; clear n0_; (try clear hb); (try clear hb2); (try clear hk); (try clear hi)))
     go_ret
     exact ⟨by first | rfl | (simp [errW_none, errW_some] <;> rfl) | (simp [*, errW_none, errW_some] <;> rfl), by repeat (first | (with_reducible first | exact HB.out | apply below_alloc | apply pw_below_drewN | apply below_drew1) | exact HB.out)⟩
    ·rw [if_neg c13] at H
     exact absurd H (by simp)

/-- THE ONE PURE STATEMENT of dominolaw07_DigestSums: yours. -/
def dominolaw07_DigestSums.Pure : Prop := ∀ (l0 : List ByteArray), l0.length ≤ maxLen → l0.length * 16 ≤ 140737488351232 → (∀ x ∈ l0, x.size ≤ 140737488351232) → ∃ k, dominolaw07_DigestSums.f k l0 = some true
theorem dominolaw07_DigestSums.walk (P : dominolaw07_DigestSums.Pure) (a0 : Option Addr) (cap0 : Nat) (l0 : List ByteArray) (w : World) (hr0 : Kd.C Kd.string w a0 l0.length l0) (hc0 : l0.length ≤ cap0) (w0_0 : l0.length ≤ maxLen) (w0_1 : l0.length * 16 ≤ 140737488351232) (w0_2 : (∀ x ∈ l0, x.size ≤ 140737488351232)) :
  Calls Try.prog 3 #[.slice a0 l0.length cap0] w fun e w' => e = .returned (.bool true) ∧ Below w.heap.size w w' := by
 obtain ⟨k, h⟩ := P l0 w0_0 w0_1 w0_2
 refine (dominolaw07_DigestSums.calls k a0 cap0 l0 true w hr0 hc0 h).mono ?_
 rintro e w' ⟨rfl, hd⟩
 exact ⟨rfl, hd⟩

/-! ### dominolaw07_DigestParts: function 4 -/
def dominolaw07_DigestParts.j0 : Nat → ByteArray → Int → Int → Bool → Option (Bool)
 | 0, _, _, _, _ => none
 | k + 1, x0, x1, x2, x15 => if x15 = true then ((dominolaw07_shown.f).bind fun t124 => (some t124)) else (if (wrap64 ((x0.size : Int) + 1)) = 0 then (none) else (if (wrap64 ((wrap64 ((x0.size : Int) - (Int.tmod (wrap64 (x1)) (wrap64 ((x0.size : Int) + 1))))) + 1)) = 0 then (none) else (if 0 ≤ (Int.tmod (wrap64 (x1)) (wrap64 ((x0.size : Int) + 1))) then (if (Int.tmod (wrap64 (x1)) (wrap64 ((x0.size : Int) + 1))) ≤ (x0.size : Int) then (if (Int.tmod (wrap64 (x1)) (wrap64 ((x0.size : Int) + 1))) ≤ (wrap64 ((Int.tmod (wrap64 (x1)) (wrap64 ((x0.size : Int) + 1))) + (Int.tmod (wrap64 (x2)) (wrap64 ((wrap64 ((x0.size : Int) - (Int.tmod (wrap64 (x1)) (wrap64 ((x0.size : Int) + 1))))) + 1))))) then (if (wrap64 ((Int.tmod (wrap64 (x1)) (wrap64 ((x0.size : Int) + 1))) + (Int.tmod (wrap64 (x2)) (wrap64 ((wrap64 ((x0.size : Int) - (Int.tmod (wrap64 (x1)) (wrap64 ((x0.size : Int) + 1))))) + 1))))) ≤ (x0.size : Int) then (if 0 ≤ (wrap64 ((Int.tmod (wrap64 (x1)) (wrap64 ((x0.size : Int) + 1))) + (Int.tmod (wrap64 (x2)) (wrap64 ((wrap64 ((x0.size : Int) - (Int.tmod (wrap64 (x1)) (wrap64 ((x0.size : Int) + 1))))) + 1))))) then ((digest_Sum.f (([x0.extract 0 ((Int.tmod (wrap64 (x1)) (wrap64 ((x0.size : Int) + 1))) : Int).toNat, x0.extract ((Int.tmod (wrap64 (x1)) (wrap64 ((x0.size : Int) + 1))) : Int).toNat ((wrap64 ((Int.tmod (wrap64 (x1)) (wrap64 ((x0.size : Int) + 1))) + (Int.tmod (wrap64 (x2)) (wrap64 ((wrap64 ((x0.size : Int) - (Int.tmod (wrap64 (x1)) (wrap64 ((x0.size : Int) + 1))))) + 1))))) : Int).toNat, (⟨#[]⟩ : ByteArray), x0.extract ((wrap64 ((Int.tmod (wrap64 (x1)) (wrap64 ((x0.size : Int) + 1))) + (Int.tmod (wrap64 (x2)) (wrap64 ((wrap64 ((x0.size : Int) - (Int.tmod (wrap64 (x1)) (wrap64 ((x0.size : Int) + 1))))) + 1))))) : Int).toNat x0.size] : List ByteArray))).bind fun t128 => ((digest_Sum.f (([x0] : List ByteArray))).bind fun t132 => (some (t128.toList == t132.toList)))) else (none)) else (none)) else (none)) else (none)) else (none))))
def dominolaw07_DigestParts.f (k : Nat) (a0 : ByteArray) (a1 : Int) (a2 : Int) : Option (Bool) := if (a0.size : Int) > 2000 then (dominolaw07_DigestParts.j0 k a0 a1 a2 true) else ((dominolaw07_shown.f).bind fun t123 => (dominolaw07_DigestParts.j0 k a0 a1 a2 (!t123)))
theorem dominolaw07_DigestParts.mono_l : ∀ k, (∀ y0 y1 y2 y3, LeO (dominolaw07_DigestParts.j0 k y0 y1 y2 y3) (dominolaw07_DigestParts.j0 (k + 1) y0 y1 y2 y3))
 | 0 => fun _ _ _ _ r h => by simp [dominolaw07_DigestParts.j0] at h
 | k + 1 => by
  have ih0 := dominolaw07_DigestParts.mono_l k
  ·intro y0 y1 y2 y3
   unfold dominolaw07_DigestParts.j0
   repeat' first
   | (with_reducible exact ih0 _ _ _ _)
   | (with_reducible exact LeO.refl _)
   | (with_reducible exact LeO.none _)
   | (with_reducible refine LeO.ite ?_ ?_)
   | (with_reducible refine LeO.bind ?_ (fun _ => ?_))
   | exact ih0 _ _ _ _
   | exact LeO.none _
   | refine LeO.ite ?_ ?_
   | refine LeO.bind ?_ (fun _ => ?_)
theorem dominolaw07_DigestParts.mono : ∀ a0 a1 a2 k, LeO (dominolaw07_DigestParts.f k a0 a1 a2) (dominolaw07_DigestParts.f (k + 1) a0 a1 a2) := by
 intro a0 a1 a2 k
 have ih0 := dominolaw07_DigestParts.mono_l k
 unfold dominolaw07_DigestParts.f
 repeat' first
   | (with_reducible exact ih0 _ _ _ _)
   | (with_reducible exact LeO.refl _)
   | (with_reducible exact LeO.none _)
   | (with_reducible refine LeO.ite ?_ ?_)
   | (with_reducible refine LeO.bind ?_ (fun _ => ?_))
   | exact ih0 _ _ _ _
   | exact LeO.none _
   | refine LeO.ite ?_ ?_
   | refine LeO.bind ?_ (fun _ => ?_)
def dominolaw07_DigestParts.T5 : Bool × List (List Nat × List Nat) := (true, [([], []), ([], []), ([0, 1], [0, 1]), ([], []), ([], []), ([], []), ([3, 4, 5], [3, 4, 5]), ([], []), ([], []), ([7, 8], [7, 8]), ([2, 6, 9], [2, 6, 9]), ([10], [10]), ([], []), ([12], [12]), ([13, 11], [13]), ([11, 14], [11, 14]), ([15, 14, 0, 1, 2, 3, 4, 5, 6, 7, 8, 9, 10, 11, 12, 13, 14, 15], [15])])
def dominolaw07_DigestParts.B5 : List Nat := [0, 0, 3, 0, 0, 0, 56, 0, 0, 384, 1023, 2047, 0, 4096, 16383, 32767, 65535]
theorem dominolaw07_DigestParts.tab5 : rtab .any (opsOf Try.f4 5) = dominolaw07_DigestParts.T5 := by kernel_rfl
theorem dominolaw07_DigestParts.bits5 : waitsOk dominolaw07_DigestParts.T5.2 dominolaw07_DigestParts.B5 = true := by kernel_rfl
set_option maxHeartbeats 8000000 in
set_option maxRecDepth 100000 in
theorem dominolaw07_DigestParts.calls (k : Nat) (a0 : ByteArray) (a1 : Int) (a2 : Int) (r : Bool) (w : World) (h : dominolaw07_DigestParts.f k a0 a1 a2 = some r) :
  Calls Try.prog 4 #[.string a0, .int .u16 a1, .int .u16 a2] w fun e w' => e = .returned (.bool r) ∧ Below w.heap.size w w' := by
 have HB := Aside0.mk (Below.refl w.heap.size w)
 have H : (if (a0.size : Int) > 2000 then (dominolaw07_DigestParts.j0 k a0 a1 a2 true) else ((dominolaw07_shown.f).bind fun t123 => (dominolaw07_DigestParts.j0 k a0 a1 a2 (!t123)))) = some r := h
 clear h
 have HC4 := Aside0.mk H
 clear H
 go_enter Try.func4, Try.ntmps4
 go_upto_region 1 with (fail)
 go_cut [15] (fun v15 wc => ∃ (kq : Nat) (x15_3 : Bool), v15 = .bool x15_3 ∧ Aside0 (dominolaw07_DigestParts.j0 kq a0 a1 a2 x15_3 = some r) ∧ Aside0 (kq ≤ k) ∧ Aside0 (Below w.heap.size w wc))
 case first =>
  have H := HC4.out
  clear HC4
  by_cases c5 : (a0.size : Int) > 2000
  ·rw [if_pos c5] at H
   have c5b0 : decide (2000 < (a0.size : Int)) = true := decide_eq_true c5
   have c5b1 : decide (2000 < a0.size) = true := decide_eq_true (by omega)
   clear c5
   (first | rw [c5b0] | (simp only [i64_w, i32_w]; rw [c5b0]) | skip)
   have H' := Aside0.mk H
   clear H
   go_wp2
   go_meet
   case rel => exact ⟨_, (true), (by first | rfl | (simp; done) | (simp [*]; done)), H', ⟨by first | omega | exact Nat.le_refl _⟩, ⟨by repeat (first | (with_reducible first | exact HB.out | apply below_alloc | apply pw_below_drewN | apply below_drew1) | exact HB.out)⟩⟩
  ·rw [if_neg c5] at H
   have c5b0 : decide (2000 < (a0.size : Int)) = false := decide_eq_false c5
   have c5b1 : decide (2000 < a0.size) = false := decide_eq_false (by omega)
   clear c5
   (first | rw [c5b0] | (simp only [i64_w, i32_w]; rw [c5b0]) | skip)
   replace H := Option.bind_eq_some_iff.mp H
   obtain ⟨t123, A60, H⟩ := H
   replace H : (dominolaw07_DigestParts.j0 k a0 a1 a2 (!t123)) = some r := H
   have A6 := Aside0.mk A60
   clear A60
   have H' := Aside0.mk H
   clear H
   go_wp2_with (first | (go_at_call 9; (with_reducible refine (dominolaw07_shown.calls  t123 _ A6.out).mono ?_); rintro e w7 ⟨rfl, hb⟩; have n0_ := Aside0.mk (below_step (by repeat (first | (with_reducible first | exact HB.out | apply below_alloc | apply pw_below_drewN | apply below_drew1) | exact HB.out)) hb); clear HB; have HB := n0_; clear n0_; (try clear hb); (try clear hb2); (try clear hk); (try clear hi)))
   go_meet
   case rel => exact ⟨_, (!t123), (by first | rfl | (simp; done) | (simp [*]; done)), H', ⟨by first | omega | exact Nat.le_refl _⟩, ⟨by repeat (first | (with_reducible first | exact HB.out | apply below_alloc | apply pw_below_drewN | apply below_drew1) | exact HB.out)⟩⟩
 case rest =>
  clear HC4
  try clear p2
  try clear c4
  try clear c5
  try clear c5b0
  try clear c5b1
  obtain ⟨kq, x15_3, rfl, HA, HJ3, HB⟩ := hcut
  cases kq with
  | zero => exact absurd HA.out (by simp [dominolaw07_DigestParts.j0])
  | succ kj3 =>
   have H := HA.out
   clear HA
   simp only [dominolaw07_DigestParts.j0] at H
   by_cases c8 : x15_3 = true
   ·subst c8
    have H1 : ((dominolaw07_shown.f).bind fun t124 => (some t124)) = some r := by rw [if_pos rfl] at H; exact H
    clear H
    have H := H1
    clear H1
    replace H := Option.bind_eq_some_iff.mp H
    obtain ⟨t124, A90, H⟩ := H
    replace H : (some t124) = some r := H
    have A9 := Aside0.mk A90
    clear A90
    obtain rfl := Option.some.inj H
    go_wp2_with (first | ((with_reducible refine gate_callee (f := 9) rfl ?_); refine goesL_ (some 16) rfl rfl Try.func9 (by kernel_rfl) rfl #[] rfl (by (try simp only [List.map_toArray, List.map_cons, List.map_nil]); first | done | rfl | (simp only [List.length_drop, List.length_take]; rfl)) ?_; (with_reducible refine (dominolaw07_shown.calls  t124 _ A9.out).mono ?_); rintro e w10 ⟨rfl, hb⟩; refine ⟨_, rfl, ?_⟩; have n0_ := Aside0.mk (below_step (by repeat (first | (with_reducible first | exact HB.out | apply below_alloc | apply pw_below_drewN | apply below_drew1) | exact HB.out)) hb); clear HB; have HB := n0_; clear n0_; (try clear hb); (try clear hb2); (try clear hk); (try clear hi)))
    go_ret
    exact ⟨by first | rfl | (simp [errW_none, errW_some] <;> rfl) | (simp [*, errW_none, errW_some] <;> rfl), by repeat (first | (with_reducible first | exact HB.out | apply below_alloc | apply pw_below_drewN | apply below_drew1) | exact HB.out)⟩
   ·replace c8 := Bool.eq_false_iff.mpr c8
    subst c8
    have H1 : (if (wrap64 ((a0.size : Int) + 1)) = 0 then (none) else (if (wrap64 ((wrap64 ((a0.size : Int) - (Int.tmod (wrap64 (a1)) (wrap64 ((a0.size : Int) + 1))))) + 1)) = 0 then (none) else (if 0 ≤ (Int.tmod (wrap64 (a1)) (wrap64 ((a0.size : Int) + 1))) then (if (Int.tmod (wrap64 (a1)) (wrap64 ((a0.size : Int) + 1))) ≤ (a0.size : Int) then (if (Int.tmod (wrap64 (a1)) (wrap64 ((a0.size : Int) + 1))) ≤ (wrap64 ((Int.tmod (wrap64 (a1)) (wrap64 ((a0.size : Int) + 1))) + (Int.tmod (wrap64 (a2)) (wrap64 ((wrap64 ((a0.size : Int) - (Int.tmod (wrap64 (a1)) (wrap64 ((a0.size : Int) + 1))))) + 1))))) then (if (wrap64 ((Int.tmod (wrap64 (a1)) (wrap64 ((a0.size : Int) + 1))) + (Int.tmod (wrap64 (a2)) (wrap64 ((wrap64 ((a0.size : Int) - (Int.tmod (wrap64 (a1)) (wrap64 ((a0.size : Int) + 1))))) + 1))))) ≤ (a0.size : Int) then (if 0 ≤ (wrap64 ((Int.tmod (wrap64 (a1)) (wrap64 ((a0.size : Int) + 1))) + (Int.tmod (wrap64 (a2)) (wrap64 ((wrap64 ((a0.size : Int) - (Int.tmod (wrap64 (a1)) (wrap64 ((a0.size : Int) + 1))))) + 1))))) then ((digest_Sum.f (([a0.extract 0 ((Int.tmod (wrap64 (a1)) (wrap64 ((a0.size : Int) + 1))) : Int).toNat, a0.extract ((Int.tmod (wrap64 (a1)) (wrap64 ((a0.size : Int) + 1))) : Int).toNat ((wrap64 ((Int.tmod (wrap64 (a1)) (wrap64 ((a0.size : Int) + 1))) + (Int.tmod (wrap64 (a2)) (wrap64 ((wrap64 ((a0.size : Int) - (Int.tmod (wrap64 (a1)) (wrap64 ((a0.size : Int) + 1))))) + 1))))) : Int).toNat, (⟨#[]⟩ : ByteArray), a0.extract ((wrap64 ((Int.tmod (wrap64 (a1)) (wrap64 ((a0.size : Int) + 1))) + (Int.tmod (wrap64 (a2)) (wrap64 ((wrap64 ((a0.size : Int) - (Int.tmod (wrap64 (a1)) (wrap64 ((a0.size : Int) + 1))))) + 1))))) : Int).toNat a0.size] : List ByteArray))).bind fun t128 => ((digest_Sum.f (([a0] : List ByteArray))).bind fun t132 => (some (t128.toList == t132.toList)))) else (none)) else (none)) else (none)) else (none)) else (none)))) = some r := by rw [if_neg (show ¬ (false = true) by decide)] at H; exact H
    clear H
    have H := H1
    clear H1
    by_cases c11 : (wrap64 ((a0.size : Int) + 1)) = 0
    ·rw [if_pos c11] at H
     exact absurd H (by simp)
    ·rw [if_neg c11] at H
     have c11b0 : ((wrap64 ((a0.size : Int) + 1)) == 0) = false := beq_eq_false_iff_ne.mpr c11
     have c11b1 : ((wrap64 ((a0.size : Int) + 1)) != 0) = true := bne_iff_ne.mpr c11
     by_cases c12 : (wrap64 ((wrap64 ((a0.size : Int) - (Int.tmod (wrap64 (a1)) (wrap64 ((a0.size : Int) + 1))))) + 1)) = 0
     ·rw [if_pos c12] at H
      exact absurd H (by simp)
     ·rw [if_neg c12] at H
      have c12b0 : ((wrap64 ((wrap64 ((a0.size : Int) - (Int.tmod (wrap64 (a1)) (wrap64 ((a0.size : Int) + 1))))) + 1)) == 0) = false := beq_eq_false_iff_ne.mpr c12
      have c12b1 : ((wrap64 ((wrap64 ((a0.size : Int) - (Int.tmod (wrap64 (a1)) (wrap64 ((a0.size : Int) + 1))))) + 1)) != 0) = true := bne_iff_ne.mpr c12
      obtain ⟨ji13, hji13⟩ : ∃ j_ : Int, (Int.tmod (wrap64 (a1)) (wrap64 ((a0.size : Int) + 1))) = j_ := ⟨_, rfl⟩
      replace H : (if 0 ≤ (ji13) then (if (ji13) ≤ (a0.size : Int) then (if (ji13) ≤ (wrap64 ((ji13) + (Int.tmod (wrap64 (a2)) (wrap64 ((wrap64 ((a0.size : Int) - (ji13))) + 1))))) then (if (wrap64 ((ji13) + (Int.tmod (wrap64 (a2)) (wrap64 ((wrap64 ((a0.size : Int) - (ji13))) + 1))))) ≤ (a0.size : Int) then (if 0 ≤ (wrap64 ((ji13) + (Int.tmod (wrap64 (a2)) (wrap64 ((wrap64 ((a0.size : Int) - (ji13))) + 1))))) then ((digest_Sum.f (([a0.extract 0 ((ji13) : Int).toNat, a0.extract ((ji13) : Int).toNat ((wrap64 ((ji13) + (Int.tmod (wrap64 (a2)) (wrap64 ((wrap64 ((a0.size : Int) - (ji13))) + 1))))) : Int).toNat, (⟨#[]⟩ : ByteArray), a0.extract ((wrap64 ((ji13) + (Int.tmod (wrap64 (a2)) (wrap64 ((wrap64 ((a0.size : Int) - (ji13))) + 1))))) : Int).toNat a0.size] : List ByteArray))).bind fun t128 => ((digest_Sum.f (([a0] : List ByteArray))).bind fun t132 => (some (t128.toList == t132.toList)))) else (none)) else (none)) else (none)) else (none)) else (none)) = some r := by first | (rw [hji13] at H; exact H) | (simp only [hji13] at H ⊢; exact H)
      (try rw [hji13] at c12b0)
      (try rw [hji13] at c12b1)
      (try rw [hji13] at c12)
      by_cases c14 : 0 ≤ (ji13)
      ·rw [if_pos c14] at H
       have c14b0 := eq_true c14
       have c14b1 : decide (0 ≤ (ji13)) = true := decide_eq_true c14
       clear c14
       by_cases c15 : (ji13) ≤ (a0.size : Int)
       ·rw [if_pos c15] at H
        have c15b0 := eq_true c15
        have c15b1 : decide ((ji13) ≤ (a0.size : Int)) = true := decide_eq_true c15
        clear c15
        have c16b0 := eq_true (of_decide_eq_true (by first | (with_reducible assumption) | assumption) : 0 ≤ (ji13))
        by_cases c17 : (ji13) ≤ (wrap64 ((ji13) + (Int.tmod (wrap64 (a2)) (wrap64 ((wrap64 ((a0.size : Int) - (ji13))) + 1)))))
        ·rw [if_pos c17] at H
         have c17b0 := eq_true c17
         have c17b1 : decide ((ji13) ≤ (wrap64 ((ji13) + (Int.tmod (wrap64 (a2)) (wrap64 ((wrap64 ((a0.size : Int) - (ji13))) + 1)))))) = true := decide_eq_true c17
         by_cases c18 : (wrap64 ((ji13) + (Int.tmod (wrap64 (a2)) (wrap64 ((wrap64 ((a0.size : Int) - (ji13))) + 1))))) ≤ (a0.size : Int)
         ·rw [if_pos c18] at H
          have c18b0 := eq_true c18
          have c18b1 : decide ((wrap64 ((ji13) + (Int.tmod (wrap64 (a2)) (wrap64 ((wrap64 ((a0.size : Int) - (ji13))) + 1))))) ≤ (a0.size : Int)) = true := decide_eq_true c18
          obtain ⟨ji19, hji19⟩ : ∃ j_ : Int, (wrap64 ((ji13) + (Int.tmod (wrap64 (a2)) (wrap64 ((wrap64 ((a0.size : Int) - (ji13))) + 1))))) = j_ := ⟨_, rfl⟩
          replace H : (if 0 ≤ (ji19) then ((digest_Sum.f (([a0.extract 0 ((ji13) : Int).toNat, a0.extract ((ji13) : Int).toNat ((ji19) : Int).toNat, (⟨#[]⟩ : ByteArray), a0.extract ((ji19) : Int).toNat a0.size] : List ByteArray))).bind fun t128 => ((digest_Sum.f (([a0] : List ByteArray))).bind fun t132 => (some (t128.toList == t132.toList)))) else (none)) = some r := by first | (rw [hji19] at H; exact H) | (simp only [hji19] at H ⊢; exact H)
          (try rw [hji19] at c17b0)
          (try rw [hji19] at c17b1)
          (try rw [hji19] at c17)
          (try rw [hji19] at c18b0)
          (try rw [hji19] at c18b1)
          (try rw [hji19] at c18)
          have hji19w : (IntKind.i64.wrap ((ji13) + (Int.tmod (wrap64 (a2)) (wrap64 ((wrap64 ((a0.size : Int) - (ji13))) + 1))))) = ji19 := (i64_w _).trans hji19
          by_cases c20 : 0 ≤ (ji19)
          ·rw [if_pos c20] at H
           have c20b0 := eq_true c20
           have c20b1 : decide (0 ≤ (ji19)) = true := decide_eq_true c20
           clear c20
           have c21b0 := eq_true (of_decide_eq_true (by first | (with_reducible assumption) | assumption) : (ji19) ≤ (a0.size : Int))
           obtain ⟨y125, hy125⟩ : ∃ y_ : List ByteArray, y_ = (([a0.extract 0 ((ji13) : Int).toNat, a0.extract ((ji13) : Int).toNat ((ji19) : Int).toNat, (⟨#[]⟩ : ByteArray), a0.extract ((ji19) : Int).toNat a0.size] : List ByteArray)) := ⟨_, rfl⟩
           replace H : ((digest_Sum.f y125).bind fun t128 => ((digest_Sum.f (([a0] : List ByteArray))).bind fun t132 => (some (t128.toList == t132.toList)))) = some r := by first | (rw [hy125]; with_reducible exact H) | (have H2_ := (Option.bind_some _ _).symm.trans H; rw [hy125]; with_reducible exact H2_) | (have H2_ := (Option.bind_some _ _).symm.trans H; with_reducible exact H2_) | with_reducible exact H | (rw [hy125]; exact H) | exact H
           have Ny125 := Aside0.mk hy125
           clear hy125
           replace H := Option.bind_eq_some_iff.mp H
           obtain ⟨t128, A220, H⟩ := H
           replace H : ((digest_Sum.f (([a0] : List ByteArray))).bind fun t132 => (some (t128.toList == t132.toList))) = some r := H
           have A22 := Aside0.mk A220
           clear A220
           obtain ⟨y129, hy129⟩ : ∃ y_ : List ByteArray, y_ = (([a0] : List ByteArray)) := ⟨_, rfl⟩
           replace H : ((digest_Sum.f y129).bind fun t132 => (some (t128.toList == t132.toList))) = some r := by first | (rw [hy129]; with_reducible exact H) | (have H2_ := (Option.bind_some _ _).symm.trans H; rw [hy129]; with_reducible exact H2_) | (have H2_ := (Option.bind_some _ _).symm.trans H; with_reducible exact H2_) | with_reducible exact H | (rw [hy129]; exact H) | exact H
           have Ny129 := Aside0.mk hy129
           clear hy129
           replace H := Option.bind_eq_some_iff.mp H
           obtain ⟨t132, A230, H⟩ := H
           replace H : (some (t128.toList == t132.toList)) = some r := H
           have A23 := Aside0.mk A230
           clear A230
           obtain rfl := Option.some.inj H
           try go_wp2
           have n0_ := Aside0.mk (below_drew1 HB.out)
           clear HB
           have HB := n0_
           clear n0_
           refine start_ (n := 17) (S := fun w' => True) (ds := []) #[false,false,false,false,false,false,false,false,false,false,false,false,false,false,false,false,false] (by kernel_rfl) rfl rfl trivial (fun hHeld => ?_); refine with_tabW dominolaw07_DigestParts.tab5 dominolaw07_DigestParts.bits5 (fun HT_ HW_ => ?_)
           generalize wc.drew = w24 at HB hHeld ⊢
           refine pure_ (i := 0) (N := some 33) (v := ?_) (a' := ?_) #[true,false,false,false,false,false,false,false,false,false,false,false,false,false,false,false,false] rfl rfl (any_of HT_.out (by kernel_rfl)) (fun _ _ _ h => h) (Or.inl ⟨by rfl, ?_⟩) ?_ ?_
           rotate_left;(intro w';go_simp;with_reducible rfl);rotate_left;(simp only [Act.put, List.setIfInBounds_toArray, List.set_cons_zero, List.set_cons_succ, i64_w, i32_w];rfl)
           refine pure_ (i := 1) (N := some 34) (v := ?_) (a' := ?_) #[true,true,false,false,false,false,false,false,false,false,false,false,false,false,false,false,false] rfl rfl (any_of HT_.out (by kernel_rfl)) (fun _ _ _ h => h) (Or.inl ⟨by rfl, ?_⟩) ?_ ?_
           rotate_left;(intro w';go_simp;with_reducible rfl);rotate_left;(simp only [Act.put, List.setIfInBounds_toArray, List.set_cons_zero, List.set_cons_succ, i64_w, i32_w];rfl)
           refine pure_ (i := 3) (N := some 36) (v := ?_) (a' := ?_) #[true,true,false,true,false,false,false,false,false,false,false,false,false,false,false,false,false] rfl rfl (any_of HT_.out (by kernel_rfl)) (fun _ _ _ h => h) (Or.inl ⟨by rfl, ?_⟩) ?_ ?_
           rotate_left;(intro w';go_simp;with_reducible rfl);rotate_left;(simp only [Act.put, List.setIfInBounds_toArray, List.set_cons_zero, List.set_cons_succ, i64_w, i32_w];rfl)
           refine pure_ (i := 4) (N := some 37) (v := ?_) (a' := ?_) #[true,true,false,true,true,false,false,false,false,false,false,false,false,false,false,false,false] rfl rfl (any_of HT_.out (by kernel_rfl)) (fun _ _ _ h => h) (Or.inl ⟨by rfl, ?_⟩) ?_ ?_
           rotate_left;(intro w';go_simp;with_reducible rfl);rotate_left;(simp only [Act.put, List.setIfInBounds_toArray, List.set_cons_zero, List.set_cons_succ, i64_w, i32_w];rfl)
           refine pure_ (i := 5) (N := some 38) (v := ?_) (a' := ?_) #[true,true,false,true,true,true,false,false,false,false,false,false,false,false,false,false,false] rfl rfl (any_of HT_.out (by kernel_rfl)) (fun _ _ _ h => h) (Or.inl ⟨by rfl, ?_⟩) ?_ ?_
           rotate_left;(intro w';go_simp;with_reducible rfl);rotate_left;(simp only [Act.put, List.setIfInBounds_toArray, List.set_cons_zero, List.set_cons_succ, i64_w, i32_w];rfl)
           refine pure_ (i := 7) (N := some 40) (v := ?_) (a' := ?_) #[true,true,false,true,true,true,false,true,false,false,false,false,false,false,false,false,false] rfl rfl (any_of HT_.out (by kernel_rfl)) (fun _ _ _ h => h) (Or.inl ⟨by rfl, ?_⟩) ?_ ?_
           rotate_left;(intro w';go_simp;with_reducible rfl);rotate_left;(simp only [Act.put, List.setIfInBounds_toArray, List.set_cons_zero, List.set_cons_succ, i64_w, i32_w];rfl)
           refine pure_ (i := 8) (N := some 41) (v := ?_) (a' := ?_) #[true,true,false,true,true,true,false,true,true,false,false,false,false,false,false,false,false] rfl rfl (any_of HT_.out (by kernel_rfl)) (fun _ _ _ h => h) (Or.inl ⟨by rfl, ?_⟩) ?_ ?_
           rotate_left;(intro w';go_simp;with_reducible rfl);rotate_left;(simp only [Act.put, List.setIfInBounds_toArray, List.set_cons_zero, List.set_cons_succ, i64_w, i32_w];rfl)
           refine pure_ (i := 12) (N := some 45) (v := ?_) (a' := ?_) #[true,true,false,true,true,true,false,true,true,false,false,false,true,false,false,false,false] rfl rfl (any_of HT_.out (by kernel_rfl)) (fun _ _ _ h => h) (Or.inl ⟨by rfl, ?_⟩) ?_ ?_
           rotate_left;(intro w';go_simp;with_reducible rfl);rotate_left;(simp only [Act.put, List.setIfInBounds_toArray, List.set_cons_zero, List.set_cons_succ, i64_w, i32_w];rfl)
           refine inv_at [2, 6, 9, 10, 11, 13, 14, 15, 16] (fun a0_ b a w' => ∃ (v126 : Value) (v130 : Value), a = putSel a0_ b [(2, 35, .string (a0.extract 0 ((ji13) : Int).toNat)), (6, 39, .string (a0.extract ((ji13) : Int).toNat ((ji19) : Int).toNat)), (9, 42, .string (a0.extract ((ji19) : Int).toNat a0.size)), (10, 43, v126), (11, 44, .string t128), (13, 46, v130), (14, 47, .string t132), (15, 48, .bool (t128.toList == t132.toList)), (16, 6, .bool (t128.toList == t132.toList))] ∧ (Below w.heap.size w w') ∧ (b 10 = true → Kd.R Kd.string 9 w' w.heap.size (fun _ => True) v126 y125) ∧ (b 13 = true → Kd.R Kd.string 9 w' w.heap.size (fun _ => True) v130 y129)) HT_.out HW_.out (by kernel_rfl) (by kernel_rfl) ?_ ?_ ?_
           ·exact ⟨.bool false, .bool false, by simp only [putSel, Bool.false_eq_true, if_false], HB.out, fun h_ => absurd h_ (by decide), fun h_ => absurd h_ (by decide)⟩
           ·skip
            clear HB
            refine steps_cons ?_ ?_
            ·rintro b a w' ⟨v126, v130, ha, Q_HB, Q_HO127, Q_HO131⟩ hb_ hon hoff
             refine ⟨_, rfl, fun K hK => ?_⟩
             have e33 : a.tmps[33]? = some (.string a0) := by rw [ha]; exact (putSel_off rfl).trans rfl
             have e34 : a.tmps[34]? = some (.int .i64 ji13) := by rw [ha]; exact (putSel_off rfl).trans rfl
             replace ha := Aside0.mk ha
             have HB := Aside0.mk Q_HB
             refine value_ (w1 := w') (v := .string (a0.extract 0 ((ji13) : Int).toNat)) (by rfl) rfl ?_ ?_
             ·go_simp
              (try simp only [i64_w])
              try rfl
             refine hK.out _ _ ⟨v126, v130, (by rw [ha.out]; exact putSel_upk 0 hb_ rfl rfl rfl), Q_HB, fun h0_ => absurd ((hoff 10 (by kernel_rfl)).symm.trans h0_) (by decide), Q_HO131⟩
            refine steps_cons ?_ ?_
            ·rintro b a w' ⟨v126, v130, ha, Q_HB, Q_HO127, Q_HO131⟩ hb_ hon hoff
             refine ⟨_, rfl, fun K hK => ?_⟩
             have e36 : a.tmps[36]? = some (.string a0) := by rw [ha]; exact (putSel_off rfl).trans rfl
             have e37 : a.tmps[37]? = some (.int .i64 ji13) := by rw [ha]; exact (putSel_off rfl).trans rfl
             have e38 : a.tmps[38]? = some (.int .i64 ji19) := by rw [ha]; exact (putSel_off rfl).trans rfl
             replace ha := Aside0.mk ha
             have HB := Aside0.mk Q_HB
             refine value_ (w1 := w') (v := .string (a0.extract ((ji13) : Int).toNat ((ji19) : Int).toNat)) (by rfl) rfl ?_ ?_
             ·go_simp
              (try simp only [i64_w])
              try rfl
             refine hK.out _ _ ⟨v126, v130, (by rw [ha.out]; exact putSel_upk 1 hb_ rfl rfl rfl), Q_HB, fun h0_ => absurd ((hoff 10 (by kernel_rfl)).symm.trans h0_) (by decide), Q_HO131⟩
            refine steps_cons ?_ ?_
            ·rintro b a w' ⟨v126, v130, ha, Q_HB, Q_HO127, Q_HO131⟩ hb_ hon hoff
             refine ⟨_, rfl, fun K hK => ?_⟩
             have e40 : a.tmps[40]? = some (.string a0) := by rw [ha]; exact (putSel_off rfl).trans rfl
             have e41 : a.tmps[41]? = some (.int .i64 ji19) := by rw [ha]; exact (putSel_off rfl).trans rfl
             replace ha := Aside0.mk ha
             have HB := Aside0.mk Q_HB
             refine value_ (w1 := w') (v := .string (a0.extract ((ji19) : Int).toNat a0.size)) (by rfl) rfl ?_ ?_
             ·go_simp
              (try simp only [i64_w])
              try rfl
             refine hK.out _ _ ⟨v126, v130, (by rw [ha.out]; exact putSel_upk 2 hb_ rfl rfl rfl), Q_HB, fun h0_ => absurd ((hoff 10 (by kernel_rfl)).symm.trans h0_) (by decide), Q_HO131⟩
            refine steps_cons ?_ ?_
            ·rintro b a w' ⟨v126, v130, ha, Q_HB, Q_HO127, Q_HO131⟩ hb_ hon hoff
             refine ⟨_, rfl, fun K hK => ?_⟩
             have e35 : a.tmps[35]? = some (.string (a0.extract 0 ((ji13) : Int).toNat)) := by rw [ha]; exact putSel_on (e := (2, 35, .string (a0.extract 0 ((ji13) : Int).toNat))) 0 rfl rfl (hon 2 (by kernel_rfl)) rfl
             have e39 : a.tmps[39]? = some (.string (a0.extract ((ji13) : Int).toNat ((ji19) : Int).toNat)) := by rw [ha]; exact putSel_on (e := (6, 39, .string (a0.extract ((ji13) : Int).toNat ((ji19) : Int).toNat))) 1 rfl rfl (hon 6 (by kernel_rfl)) rfl
             have e42 : a.tmps[42]? = some (.string (a0.extract ((ji19) : Int).toNat a0.size)) := by rw [ha]; exact putSel_on (e := (9, 42, .string (a0.extract ((ji19) : Int).toNat a0.size))) 2 rfl rfl (hon 9 (by kernel_rfl)) rfl
             replace ha := Aside0.mk ha
             have HB := Aside0.mk Q_HB
             refine Kd.R_lit_step Kd.string _ 9 ?hg (N := 43) ?hd (xs := ([a0.extract 0 ((ji13) : Int).toNat, a0.extract ((ji13) : Int).toNat ((ji19) : Int).toNat, (⟨#[]⟩ : ByteArray), a0.extract ((ji19) : Int).toNat a0.size] : List ByteArray)) (inner := [.string (a0.extract 0 ((ji13) : Int).toNat), .string (a0.extract ((ji13) : Int).toNat ((ji19) : Int).toNat), .string (⟨#[]⟩ : ByteArray), .string (a0.extract ((ji19) : Int).toNat a0.size)]) (ok := fun _ => True) (okp := fun _ => True) ?hr ?hp (fun _ hk => hk) trivial (Below.refl _ _) (Nat.le_refl _) (by simp) ?_; (case hd => rfl); (case hg => rfl); (case hr => first | (go_simp; done) | (go_simp; rfl)); (case hp => exact (Reps.one (show Kd.M Kd.string _ _ _ (a0.extract 0 ((ji13) : Int).toNat) [.string (a0.extract 0 ((ji13) : Int).toNat)] from rfl) (Reps.one (show Kd.M Kd.string _ _ _ (a0.extract ((ji13) : Int).toNat ((ji19) : Int).toNat) [.string (a0.extract ((ji13) : Int).toNat ((ji19) : Int).toNat)] from rfl) (Reps.one (show Kd.M Kd.string _ _ _ (⟨#[]⟩ : ByteArray) [.string (⟨#[]⟩ : ByteArray)] from rfl) (Reps.one (show Kd.M Kd.string _ _ _ (a0.extract ((ji19) : Int).toNat a0.size) [.string (a0.extract ((ji19) : Int).toNat a0.size)] from rfl) (Reps.none _ _))))))
             intro v126 w25 ho26 hb hg_ hnew_
             clear hg_ hnew_
             (first | rw [← Ny125.out] at ho26 | (simp only [Int.reduceToNat] at ho26; rw [← Ny125.out] at ho26))
             have n0_ := Aside0.mk (Kd.R_lower ho26 (below_size (by repeat (first | (with_reducible first | exact HB.out | apply below_alloc | apply pw_below_drewN | apply below_drew1) | exact HB.out))))
             have n1_ := Aside0.mk (below_step (by repeat (first | (with_reducible first | exact HB.out | apply below_alloc | apply pw_below_drewN | apply below_drew1) | exact HB.out)) hb)
             have z_HO131 := fun (h0_ : b 13 = true) => (show Kd.R Kd.string 9 w25 w.heap.size (fun _ => True) v130 y129 from by first | exact (Kd.R_elder' (by (with_reducible repeat (first | apply Kd.R_alloc | apply Kd.R_drewN | apply Kd.R_drew)); exact (Q_HO131 h0_)) (Kd.R_base ho26) hb) | exact Kd.R_mono (Kd.R_elder' (by (with_reducible repeat (first | apply Kd.R_alloc | apply Kd.R_drewN | apply Kd.R_drew)); exact (Q_HO131 h0_)) (Kd.R_base ho26) hb) (fun _ h_ => by first | trivial | exact h_ | exact h_.1))
             clear HB
             have HO127 := n0_
             have HB := n1_
             clear n0_ n1_
             clear hb ho26
             refine hK.out _ _ ⟨v126, v130, (by rw [ha.out]; exact putSel_upk 3 hb_ rfl rfl rfl), (by repeat (first | (with_reducible first | exact HB.out | apply below_alloc | apply pw_below_drewN | apply below_drew1) | exact HB.out)), fun _ => (by (with_reducible repeat (first | apply Kd.R_alloc | apply Kd.R_drewN | apply Kd.R_drew)); exact HO127.out), z_HO131⟩
            refine steps_cons ?_ ?_
            ·rintro b a w' ⟨v126, v130, ha, Q_HB, Q_HO127, Q_HO131⟩ hb_ hon hoff
             refine ⟨_, rfl, fun K hK => ?_⟩
             have e43 : a.tmps[43]? = some (v126) := by rw [ha]; exact putSel_on (e := (10, 43, v126)) 3 rfl rfl (hon 10 (by kernel_rfl)) rfl
             replace ha := Aside0.mk ha
             have HB := Aside0.mk Q_HB
             have HO127 := Aside0.mk (Q_HO127 (hon 10 (by kernel_rfl)))
             obtain ⟨Ao28, co28, eo28⟩ := Kd.R_slice HO127.out
             (first | subst eo28 | (injection eo28 with f1_ f2_ f3_; have f4_ := f1_.symm; have f5_ := f3_.symm; clear f1_ f2_ f3_; subst f4_; subst f5_))
             refine goes_ Try.func10 (by kernel_rfl) rfl #[.slice Ao28 y125.length co28] (by rfl) rfl rfl (by first | (simp only [List.map_toArray, List.map_cons, List.map_nil, Act.eval, Array.getD_eq_getD_getElem?, Option.getD_some, e43]; done) | (simp only [List.map_toArray, List.map_cons, List.map_nil, Act.eval, Array.getD_eq_getD_getElem?, Option.getD_some, e43]; rfl)) ?_
             with_reducible refine (digest_Sum.calls _ _ y125 t128 _ ?side1 ?side2 A22.out).mono ?_
             (case side1 => repeat (first | exact (Kd.R_reads' HO127.out).2.2 | (with_reducible refine Kd.C_alloc ?_ _) | (with_reducible refine Kd.C_drewN ?_ _) | (with_reducible refine Kd.C_drew ?_)))
             (case side2 => exact (Kd.R_reads' HO127.out).2.1)
             rintro e w29 ⟨rfl, hb⟩
             refine ⟨_, rfl, ?_⟩
             have n0_ := Aside0.mk (Kd.R_below (by (with_reducible repeat (first | apply Kd.R_alloc | apply Kd.R_drewN | apply Kd.R_drew)); exact HO127.out) hb)
             have n1_ := Aside0.mk (below_step (by repeat (first | (with_reducible first | exact HB.out | apply below_alloc | apply pw_below_drewN | apply below_drew1) | exact HB.out)) hb)
             have z_HO131 := fun (h0_ : b 13 = true) => (show Kd.R Kd.string 9 w29 w.heap.size (fun _ => True) v130 y129 from by first | exact (Kd.R_below (by (with_reducible repeat (first | apply Kd.R_alloc | apply Kd.R_drewN | apply Kd.R_drew)); exact (Q_HO131 h0_)) hb) | exact Kd.R_mono (Kd.R_below (by (with_reducible repeat (first | apply Kd.R_alloc | apply Kd.R_drewN | apply Kd.R_drew)); exact (Q_HO131 h0_)) hb) (fun _ h_ => by first | trivial | exact h_ | exact h_.1))
             clear HO127
             clear HB
             have HO127 := n0_
             have HB := n1_
             clear n0_ n1_
             (try clear hb)
             (try clear hb2)
             (try clear hk)
             (try clear hi)
             refine hK.out _ _ ⟨.slice Ao28 y125.length co28, v130, (by rw [ha.out]; exact putSel_upk 4 hb_ rfl rfl rfl), (by repeat (first | (with_reducible first | exact HB.out | apply below_alloc | apply pw_below_drewN | apply below_drew1) | exact HB.out)), fun _ => (by (with_reducible repeat (first | apply Kd.R_alloc | apply Kd.R_drewN | apply Kd.R_drew)); exact HO127.out), z_HO131⟩
            refine steps_cons ?_ ?_
            ·rintro b a w' ⟨v126, v130, ha, Q_HB, Q_HO127, Q_HO131⟩ hb_ hon hoff
             refine ⟨_, rfl, fun K hK => ?_⟩
             have e45 : a.tmps[45]? = some (.string a0) := by rw [ha]; exact (putSel_off rfl).trans rfl
             replace ha := Aside0.mk ha
             have HB := Aside0.mk Q_HB
             refine Kd.R_lit_step Kd.string _ 9 ?hg (N := 46) ?hd (xs := ([a0] : List ByteArray)) (inner := [.string a0]) (ok := fun _ => True) (okp := fun _ => True) ?hr ?hp (fun _ hk => hk) trivial (Below.refl _ _) (Nat.le_refl _) (by simp) ?_; (case hd => rfl); (case hg => rfl); (case hr => first | (go_simp; done) | (go_simp; rfl)); (case hp => exact (Reps.one (show Kd.M Kd.string _ _ _ a0 [.string a0] from rfl) (Reps.none _ _)))
             intro v130 w25 ho26 hb hg_ hnew_
             clear hg_ hnew_
             (first | rw [← Ny129.out] at ho26 | (simp only [Int.reduceToNat] at ho26; rw [← Ny129.out] at ho26))
             have n0_ := Aside0.mk (Kd.R_lower ho26 (below_size (by repeat (first | (with_reducible first | exact HB.out | apply below_alloc | apply pw_below_drewN | apply below_drew1) | exact HB.out))))
             have n1_ := Aside0.mk (below_step (by repeat (first | (with_reducible first | exact HB.out | apply below_alloc | apply pw_below_drewN | apply below_drew1) | exact HB.out)) hb)
             have z_HO127 := fun (h0_ : b 10 = true) => (show Kd.R Kd.string 9 w25 w.heap.size (fun _ => True) v126 y125 from by first | exact (Kd.R_elder' (by (with_reducible repeat (first | apply Kd.R_alloc | apply Kd.R_drewN | apply Kd.R_drew)); exact (Q_HO127 h0_)) (Kd.R_base ho26) hb) | exact Kd.R_mono (Kd.R_elder' (by (with_reducible repeat (first | apply Kd.R_alloc | apply Kd.R_drewN | apply Kd.R_drew)); exact (Q_HO127 h0_)) (Kd.R_base ho26) hb) (fun _ h_ => by first | trivial | exact h_ | exact h_.1))
             clear HB
             have HO131 := n0_
             have HB := n1_
             clear n0_ n1_
             clear hb ho26
             refine hK.out _ _ ⟨v126, v130, (by rw [ha.out]; exact putSel_upk 5 hb_ rfl rfl rfl), (by repeat (first | (with_reducible first | exact HB.out | apply below_alloc | apply pw_below_drewN | apply below_drew1) | exact HB.out)), z_HO127, fun _ => (by (with_reducible repeat (first | apply Kd.R_alloc | apply Kd.R_drewN | apply Kd.R_drew)); exact HO131.out)⟩
            refine steps_cons ?_ ?_
            ·rintro b a w' ⟨v126, v130, ha, Q_HB, Q_HO127, Q_HO131⟩ hb_ hon hoff
             refine ⟨_, rfl, fun K hK => ?_⟩
             have e46 : a.tmps[46]? = some (v130) := by rw [ha]; exact putSel_on (e := (13, 46, v130)) 5 rfl rfl (hon 13 (by kernel_rfl)) rfl
             replace ha := Aside0.mk ha
             have HB := Aside0.mk Q_HB
             have HO127 := Aside0.mk (Q_HO127 (hon 10 (by kernel_rfl)))
             have HO131 := Aside0.mk (Q_HO131 (hon 13 (by kernel_rfl)))
             obtain ⟨Ao32, co32, eo32⟩ := Kd.R_slice HO131.out
             (first | subst eo32 | (injection eo32 with f1_ f2_ f3_; have f4_ := f1_.symm; have f5_ := f3_.symm; clear f1_ f2_ f3_; subst f4_; subst f5_))
             refine goes_ Try.func10 (by kernel_rfl) rfl #[.slice Ao32 y129.length co32] (by rfl) rfl rfl (by first | (simp only [List.map_toArray, List.map_cons, List.map_nil, Act.eval, Array.getD_eq_getD_getElem?, Option.getD_some, e46]; done) | (simp only [List.map_toArray, List.map_cons, List.map_nil, Act.eval, Array.getD_eq_getD_getElem?, Option.getD_some, e46]; rfl)) ?_
             with_reducible refine (digest_Sum.calls _ _ y129 t132 _ ?side1 ?side2 A23.out).mono ?_
             (case side1 => repeat (first | exact (Kd.R_reads' HO131.out).2.2 | (with_reducible refine Kd.C_alloc ?_ _) | (with_reducible refine Kd.C_drewN ?_ _) | (with_reducible refine Kd.C_drew ?_)))
             (case side2 => exact (Kd.R_reads' HO131.out).2.1)
             rintro e w33 ⟨rfl, hb⟩
             refine ⟨_, rfl, ?_⟩
             have n0_ := Aside0.mk (Kd.R_below (by (with_reducible repeat (first | apply Kd.R_alloc | apply Kd.R_drewN | apply Kd.R_drew)); exact HO127.out) hb)
             have n1_ := Aside0.mk (Kd.R_below (by (with_reducible repeat (first | apply Kd.R_alloc | apply Kd.R_drewN | apply Kd.R_drew)); exact HO131.out) hb)
             have n2_ := Aside0.mk (below_step (by repeat (first | (with_reducible first | exact HB.out | apply below_alloc | apply pw_below_drewN | apply below_drew1) | exact HB.out)) hb)
             clear HO127
             clear HO131
             clear HB
             have HO127 := n0_
             have HO131 := n1_
             have HB := n2_
             clear n0_ n1_ n2_
             (try clear hb)
             (try clear hb2)
             (try clear hk)
             (try clear hi)
             refine hK.out _ _ ⟨v126, .slice Ao32 y129.length co32, (by rw [ha.out]; exact putSel_upk 6 hb_ rfl rfl rfl), (by repeat (first | (with_reducible first | exact HB.out | apply below_alloc | apply pw_below_drewN | apply below_drew1) | exact HB.out)), fun _ => (by (with_reducible repeat (first | apply Kd.R_alloc | apply Kd.R_drewN | apply Kd.R_drew)); exact HO127.out), fun _ => (by (with_reducible repeat (first | apply Kd.R_alloc | apply Kd.R_drewN | apply Kd.R_drew)); exact HO131.out)⟩
            refine steps_cons ?_ ?_
            ·rintro b a w' ⟨v126, v130, ha, Q_HB, Q_HO127, Q_HO131⟩ hb_ hon hoff
             refine ⟨_, rfl, fun K hK => ?_⟩
             have e44 : a.tmps[44]? = some (.string t128) := by rw [ha]; exact putSel_on (e := (11, 44, .string t128)) 4 rfl rfl (hon 11 (by kernel_rfl)) rfl
             have e47 : a.tmps[47]? = some (.string t132) := by rw [ha]; exact putSel_on (e := (14, 47, .string t132)) 6 rfl rfl (hon 14 (by kernel_rfl)) rfl
             replace ha := Aside0.mk ha
             have HB := Aside0.mk Q_HB
             have HO127 := Aside0.mk (Q_HO127 (hon 10 (by kernel_rfl)))
             have HO131 := Aside0.mk (Q_HO131 (hon 13 (by kernel_rfl)))
             refine value_ (w1 := w') (v := .bool (t128.toList == t132.toList)) (by rfl) rfl ?_ ?_
             ·go_simp
              (try simp only [i64_w])
              try rfl
             refine hK.out _ _ ⟨v126, v130, (by rw [ha.out]; exact putSel_upk 7 hb_ rfl rfl rfl), Q_HB, Q_HO127, Q_HO131⟩
            refine steps_cons ?_ ?_
            ·rintro b a w' ⟨v126, v130, ha, Q_HB, Q_HO127, Q_HO131⟩ hb_ hon hoff
             refine ⟨_, rfl, fun K hK => ?_⟩
             have e48 : a.tmps[48]? = some (.bool (t128.toList == t132.toList)) := by rw [ha]; exact putSel_on (e := (15, 48, .bool (t128.toList == t132.toList))) 7 rfl rfl (hon 15 (by kernel_rfl)) rfl
             replace ha := Aside0.mk ha
             have HB := Aside0.mk Q_HB
             have HO127 := Aside0.mk (Q_HO127 (hon 10 (by kernel_rfl)))
             have HO131 := Aside0.mk (Q_HO131 (hon 13 (by kernel_rfl)))
             refine value_ (w1 := w') (v := .bool (t128.toList == t132.toList)) (by rfl) rfl ?_ ?_
             ·go_simp
              (try simp only [i64_w])
              try rfl
             refine hK.out _ _ ⟨v126, v130, (by rw [ha.out]; exact putSel_upk 8 hb_ rfl rfl rfl), Q_HB, Q_HO127, Q_HO131⟩
            exact steps_nil
           rintro b a w33 hall ⟨v126, v130, ha, Q_HB, Q_HO127, Q_HO131⟩
           clear HB
           have hb2_ := hall 2 (by kernel_rfl)
           have hb6_ := hall 6 (by kernel_rfl)
           have hb9_ := hall 9 (by kernel_rfl)
           have hb10_ := hall 10 (by kernel_rfl)
           have hb11_ := hall 11 (by kernel_rfl)
           have hb13_ := hall 13 (by kernel_rfl)
           have hb14_ := hall 14 (by kernel_rfl)
           have hb15_ := hall 15 (by kernel_rfl)
           have hb16_ := hall 16 (by kernel_rfl)
           subst ha
           simp only [putSel, hb2_, hb6_, hb9_, hb10_, hb11_, hb13_, hb14_, hb15_, hb16_, if_true, Act.put, List.setIfInBounds_toArray, List.set_cons_zero, List.set_cons_succ]
           have HB := Aside0.mk Q_HB
           clear Q_HB
           have HO127 := Aside0.mk (Q_HO127 hb10_)
           clear Q_HO127
           have HO131 := Aside0.mk (Q_HO131 hb13_)
           clear Q_HO131
           clear hall hb2_ hb6_ hb9_ hb10_ hb11_ hb13_ hb14_ hb15_ hb16_
           try go_wp2
           go_ret
           exact ⟨by first | rfl | (simp [errW_none, errW_some] <;> rfl) | (simp only [← hji13, ← hji19]; first | rfl | (simp [errW_none, errW_some] <;> rfl)) | (simp [*, errW_none, errW_some] <;> rfl), by repeat (first | (with_reducible first | exact HB.out | apply below_alloc | apply pw_below_drewN | apply below_drew1) | exact HB.out)⟩
          ·rw [if_neg c20] at H
           exact absurd H (by simp)
         ·rw [if_neg c18] at H
          exact absurd H (by simp)
        ·rw [if_neg c17] at H
         exact absurd H (by simp)
       ·rw [if_neg c15] at H
        exact absurd H (by simp)
      ·rw [if_neg c14] at H
       exact absurd H (by simp)

/-- THE ONE PURE STATEMENT of dominolaw07_DigestParts: yours. -/
def dominolaw07_DigestParts.Pure : Prop := ∀ (a0 : ByteArray) (a1 : Int) (a2 : Int), a0.size ≤ 140737488351232 → (Lit.int .u16 a1).wf = true → (Lit.int .u16 a2).wf = true → ∃ k, dominolaw07_DigestParts.f k a0 a1 a2 = some true
theorem dominolaw07_DigestParts.walk (P : dominolaw07_DigestParts.Pure) (a0 : ByteArray) (a1 : Int) (a2 : Int) (w : World) (w0 : a0.size ≤ 140737488351232) (w1 : (Lit.int .u16 a1).wf = true) (w2 : (Lit.int .u16 a2).wf = true) :
  Calls Try.prog 4 #[.string a0, .int .u16 a1, .int .u16 a2] w fun e w' => e = .returned (.bool true) ∧ Below w.heap.size w w' := by
 obtain ⟨k, h⟩ := P a0 a1 a2 w0 w1 w2
 refine (dominolaw07_DigestParts.calls k a0 a1 a2 true w h).mono ?_
 rintro e w' ⟨rfl, hd⟩
 exact ⟨rfl, hd⟩

end Go.Proofs.Ytmkpphcnafklbaa.PDgx
