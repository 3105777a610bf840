-- printed for this claim by a program of the claim (wip/tools/pp.py over the kit's print)
import Derived.Test.YtghdmlcmoeoohaaPKfxx0
import Derived.Test.YtghdmlcmoeoohaaPKfxx5
import Derived.Test.YtghdmlcmoeoohaaPKfxx7
import Derived.Test.YtghdmlcmoeoohaaPKfxx9
namespace Go.Proofs.Ytghdmlcmoeoohaa.PKfx
open Go.RowKit Go.Proofs.YtghdmlcmoeoohaaW.PrintWords Go.Proofs.YtghdmlcmoeoohaaW.PrintLast Go.Proofs.YtghdmlcmoeoohaaW.PrintMore
attribute [local go_sem] max2_int min2_int max_two min_two max_three min_three max_four min_four   -- for this text's walks alone
set_option linter.unusedVariables false
set_option linter.unusedSimpArgs false

attribute [local go_sem] isSome_setCell_
/-! ### dominoref08_Extract: function 21 -/
def dominoref08_Extract.f (k : Nat) (a0 : ByteArray) (a1 : ByteArray) : Option (ByteArray) := if a0.toList = ([] : List UInt8) then (if 32 ≤ 281474976710656 then ((dominoref08_Mac.f k (strOfNums (List.replicate 32 0)) a1).bind fun t182 => (some t182)) else (none)) else ((dominoref08_Mac.f k a0 a1).bind fun t183 => (some t183))
theorem dominoref08_Extract.mono : ∀ a0 a1 k, LeO (dominoref08_Extract.f k a0 a1) (dominoref08_Extract.f (k + 1) a0 a1) := by
 intro a0 a1 k
 unfold dominoref08_Extract.f
 repeat' first
   | (with_reducible exact dominoref08_Mac.mono _ _ _)
   | (with_reducible exact LeO.refl _)
   | (with_reducible exact LeO.none _)
   | (with_reducible refine LeO.ite ?_ ?_)
   | (with_reducible refine LeO.bind ?_ (fun _ => ?_))
   | exact dominoref08_Mac.mono _ _ _
   | exact LeO.none _
   | refine LeO.ite ?_ ?_
   | refine LeO.bind ?_ (fun _ => ?_)
set_option maxHeartbeats 8000000 in
set_option maxRecDepth 100000 in
theorem dominoref08_Extract.calls (k : Nat) (a0 : ByteArray) (a1 : ByteArray) (r : ByteArray) (w : World) (h : dominoref08_Extract.f k a0 a1 = some r) :
  Calls Try.prog 21 #[.string a0, .string a1] w fun e w' => e = .returned (.string r) ∧ Below w.heap.size w w' := by
 have HB := Aside0.mk (Below.refl w.heap.size w)
 have H : (if a0.toList = ([] : List UInt8) then (if 32 ≤ 281474976710656 then ((dominoref08_Mac.f k (strOfNums (List.replicate 32 0)) a1).bind fun t182 => (some t182)) else (none)) else ((dominoref08_Mac.f k a0 a1).bind fun t183 => (some t183))) = some r := h
 clear h
 by_cases c3 : a0.toList = ([] : List UInt8)
 ·rw [if_pos c3] at H
  have c3b0 : (a0.toList == ([] : List UInt8)) = true := beq_iff_eq.mpr c3
  have c3b1 : (a0.toList != ([] : List UInt8)) = false := bne_eq_false_iff_eq.mpr c3
  clear c3
  by_cases c4 : 32 ≤ 281474976710656
  ·rw [if_pos c4] at H
   have c4b0 := eq_true c4
   have c4b1 : decide (32 ≤ 281474976710656) = true := decide_eq_true c4
   clear c4
   obtain ⟨y179, hy179⟩ : ∃ y_ : List Int, y_ = (List.replicate 32 0) := ⟨_, rfl⟩
   replace H : ((dominoref08_Mac.f k (strOfNums y179) a1).bind fun t182 => (some t182)) = some r := by first | (rw [hy179]; with_reducible exact H) | (have H2_ := (Option.bind_some _ _).symm.trans H; rw [hy179]; with_reducible exact H2_) | (have H2_ := (Option.bind_some _ _).symm.trans H; with_reducible exact H2_) | with_reducible exact H | (rw [hy179]; exact H) | exact H
   have Ny179 := Aside0.mk hy179
   clear hy179
   replace H := Option.bind_eq_some_iff.mp H
   obtain ⟨t182, A50, H⟩ := H
   replace H : (some t182) = some r := H
   have A5 := Aside0.mk A50
   clear A50
   obtain rfl := Option.some.inj H
   go_enter Try.func21, Try.ntmps21
   go_wp2_with (first | ((with_reducible refine gate_dst (N := 7) rfl ?_); refine Kd.R_make (Kd.int .u8) _ 5 rfl (N := 7) rfl 46 _ _ rfl 32 rfl rfl Try.underlying46 (.int .u8 0) 1 info5 rfl (by decide) (by omega) 0 (ok := fun _ => True) (okp := fun _ => True) rfl (fun _ hk => hk) trivial (by omega) (by omega) (Below.refl _ _) (Nat.le_refl _) ?_; intro v180 w6 ho7 hb hg_ hnew_; clear hg_ hnew_; (first | rw [← Ny179.out] at ho7 | (simp only [Int.reduceToNat] at ho7; rw [← Ny179.out] at ho7)); have n0_ := Aside0.mk (Kd.R_lower ho7 (below_size (by repeat (first | (with_reducible first | exact HB.out | apply below_alloc | apply pw_below_drewN | apply below_drew1) | exact HB.out)))); have n1_ := Aside0.mk (below_step (by repeat (first | (with_reducible first | exact HB.out | apply below_alloc | apply pw_below_drewN | apply below_drew1) | exact HB.out)) hb); clear HB; have HO181 := n0_; have HB := n1_; clear n0_ n1_; clear hb ho7; have hcv8 := own_string (P := Try.prog) Try.underlying46 Try.underlying5 Try.underlying9 (Kd.own_of_R HO181.out)) | ((with_reducible refine gate_callee (f := 19) rfl ?_); refine goesL_ (some 11) rfl rfl Try.func19 (by kernel_rfl) rfl #[.string (strOfNums y179), .string a1] rfl (by (try simp only [List.map_toArray, List.map_cons, List.map_nil]); first | done | rfl | (simp only [List.length_drop, List.length_take]; rfl)) ?_; (with_reducible refine (dominoref08_Mac.calls k (strOfNums y179) a1 t182 _ A5.out).mono ?_); rintro e w9 ⟨rfl, hb⟩; refine ⟨_, rfl, ?_⟩; have n0_ := Aside0.mk (Kd.R_below (by (with_reducible repeat (first | apply Kd.R_alloc | apply Kd.R_drewN | apply Kd.R_drew)); exact HO181.out) hb); have n1_ := Aside0.mk (below_step (by repeat (first | (with_reducible first | exact HB.out | apply below_alloc | apply pw_below_drewN | apply below_drew1) | exact HB.out)) hb); clear HO181; clear HB; have HO181 := n0_; have HB := n1_; clear n0_ n1_; (try clear hb); (try clear hb2); (try clear hk); (try clear hi)))
   go_ret
   exact ⟨by first | rfl | (simp [errW_none, errW_some] <;> rfl) | (simp [*, errW_none, errW_some] <;> rfl), by repeat (first | (with_reducible first | exact HB.out | apply below_alloc | apply pw_below_drewN | apply below_drew1) | exact HB.out)⟩
  ·rw [if_neg c4] at H
   exact absurd H (by simp)
 ·rw [if_neg c3] at H
  have c3b0 : (a0.toList == ([] : List UInt8)) = false := beq_eq_false_iff_ne.mpr c3
  have c3b1 : (a0.toList != ([] : List UInt8)) = true := bne_iff_ne.mpr c3
  replace H := Option.bind_eq_some_iff.mp H
  obtain ⟨t183, A100, H⟩ := H
  replace H : (some t183) = some r := H
  have A10 := Aside0.mk A100
  clear A100
  obtain rfl := Option.some.inj H
  go_enter Try.func21, Try.ntmps21
  go_wp2_with (first | ((with_reducible refine gate_callee (f := 19) rfl ?_); refine goesL_ (some 11) rfl rfl Try.func19 (by kernel_rfl) rfl #[.string a0, .string a1] rfl (by (try simp only [List.map_toArray, List.map_cons, List.map_nil]); first | done | rfl | (simp only [List.length_drop, List.length_take]; rfl)) ?_; (with_reducible refine (dominoref08_Mac.calls k a0 a1 t183 _ A10.out).mono ?_); rintro e w11 ⟨rfl, hb⟩; refine ⟨_, rfl, ?_⟩; have n0_ := Aside0.mk (below_step (by repeat (first | (with_reducible first | exact HB.out | apply below_alloc | apply pw_below_drewN | apply below_drew1) | exact HB.out)) hb); clear HB; have HB := n0_; clear n0_; (try clear hb); (try clear hb2); (try clear hk); (try clear hi)))
  go_ret
  exact ⟨by first | rfl | (simp [errW_none, errW_some] <;> rfl) | (simp [*, errW_none, errW_some] <;> rfl), by repeat (first | (with_reducible first | exact HB.out | apply below_alloc | apply pw_below_drewN | apply below_drew1) | exact HB.out)⟩

/-! ### dominolaw08_KdfMacs: function 6 -/
def dominolaw08_KdfMacs.j0 : Nat → ByteArray → List ByteArray → ByteArray → Bool → Option (Bool)
 | 0, _, _, _, _ => none
 | k + 1, x0, x1, x2, x24 => if x24 = true then ((dominolaw08_shown.f k).bind fun t186 => (some t186)) else ((dominoref07_Join.f k x1).bind fun t187 => ((kdf_Mac.f x0 x1).bind fun t188 => ((dominoref08_Mac.f k x0 t187).bind fun t189 => (if t188.toList = t189.toList then ((kdf_Extract.f x2 t187).bind fun t190 => ((dominoref08_Extract.f k x2 t187).bind fun t191 => (some (t190.toList == t191.toList)))) else (none)))))
def dominolaw08_KdfMacs.f (k : Nat) (a0 : ByteArray) (l1 : List ByteArray) (a2 : ByteArray) : Option (Bool) := if (a0.size : Int) > 200 then (dominolaw08_KdfMacs.j0 k a0 l1 a2 true) else (if (a2.size : Int) > 200 then (dominolaw08_KdfMacs.j0 k a0 l1 a2 true) else ((dominolaw08_bounded.f k l1).bind fun t184 => (if t184 = true then ((dominolaw08_shown.f k).bind fun t185 => (dominolaw08_KdfMacs.j0 k a0 l1 a2 (!t185))) else (dominolaw08_KdfMacs.j0 k a0 l1 a2 true))))
theorem dominolaw08_KdfMacs.mono_l : ∀ k, (∀ y0 y1 y2 y3, LeO (dominolaw08_KdfMacs.j0 k y0 y1 y2 y3) (dominolaw08_KdfMacs.j0 (k + 1) y0 y1 y2 y3))
 | 0 => fun _ _ _ _ r h => by simp [dominolaw08_KdfMacs.j0] at h
 | k + 1 => by
  have ih0 := dominolaw08_KdfMacs.mono_l k
  ·intro y0 y1 y2 y3
   unfold dominolaw08_KdfMacs.j0
   repeat' first
   | (with_reducible exact ih0 _ _ _ _)
   | (with_reducible exact dominolaw08_bounded.mono _ _)
   | (with_reducible exact dominolaw08_shown.mono _)
   | (with_reducible exact dominoref07_Join.mono _ _)
   | (with_reducible exact dominoref08_Extract.mono _ _ _)
   | (with_reducible exact dominoref08_Mac.mono _ _ _)
   | (with_reducible exact LeO.refl _)
   | (with_reducible exact LeO.none _)
   | (with_reducible refine LeO.ite ?_ ?_)
   | (with_reducible refine LeO.bind ?_ (fun _ => ?_))
   | exact ih0 _ _ _ _
   | exact dominolaw08_bounded.mono _ _
   | exact dominolaw08_shown.mono _
   | exact dominoref07_Join.mono _ _
   | exact dominoref08_Extract.mono _ _ _
   | exact dominoref08_Mac.mono _ _ _
   | exact LeO.none _
   | refine LeO.ite ?_ ?_
   | refine LeO.bind ?_ (fun _ => ?_)
theorem dominolaw08_KdfMacs.mono : ∀ a0 a1 a2 k, LeO (dominolaw08_KdfMacs.f k a0 a1 a2) (dominolaw08_KdfMacs.f (k + 1) a0 a1 a2) := by
 intro a0 a1 a2 k
 have ih0 := dominolaw08_KdfMacs.mono_l k
 unfold dominolaw08_KdfMacs.f
 repeat' first
   | (with_reducible exact ih0 _ _ _ _)
   | (with_reducible exact dominolaw08_bounded.mono _ _)
   | (with_reducible exact dominolaw08_shown.mono _)
   | (with_reducible exact dominoref07_Join.mono _ _)
   | (with_reducible exact dominoref08_Extract.mono _ _ _)
   | (with_reducible exact dominoref08_Mac.mono _ _ _)
   | (with_reducible exact LeO.refl _)
   | (with_reducible exact LeO.none _)
   | (with_reducible refine LeO.ite ?_ ?_)
   | (with_reducible refine LeO.bind ?_ (fun _ => ?_))
   | exact ih0 _ _ _ _
   | exact dominolaw08_bounded.mono _ _
   | exact dominolaw08_shown.mono _
   | exact dominoref07_Join.mono _ _
   | exact dominoref08_Extract.mono _ _ _
   | exact dominoref08_Mac.mono _ _ _
   | exact LeO.none _
   | refine LeO.ite ?_ ?_
   | refine LeO.bind ?_ (fun _ => ?_)
set_option maxHeartbeats 8000000 in
set_option maxRecDepth 100000 in
theorem dominolaw08_KdfMacs.calls (k : Nat) (a0 : ByteArray) (A1 : Option Addr) (c1 : Nat) (l1 : List ByteArray) (a2 : ByteArray) (r : Bool) (w : World) (hr1 : Kd.C Kd.string w A1 l1.length l1) (hc1 : l1.length ≤ c1) (h : dominolaw08_KdfMacs.f k a0 l1 a2 = some r) :
  Calls Try.prog 6 #[.string a0, .slice A1 l1.length c1, .string a2] w fun e w' => e = .returned (.bool r) ∧ Below w.heap.size w w' := by
 have HR1 := Aside0.mk hr1
 have HC1 := Aside0.mk hc1
 clear hr1 hc1
 have HB := Aside0.mk (Below.refl w.heap.size w)
 have H : (if (a0.size : Int) > 200 then (dominolaw08_KdfMacs.j0 k a0 l1 a2 true) else (if (a2.size : Int) > 200 then (dominolaw08_KdfMacs.j0 k a0 l1 a2 true) else ((dominolaw08_bounded.f k l1).bind fun t184 => (if t184 = true then ((dominolaw08_shown.f k).bind fun t185 => (dominolaw08_KdfMacs.j0 k a0 l1 a2 (!t185))) else (dominolaw08_KdfMacs.j0 k a0 l1 a2 true))))) = some r := h
 clear h
 have HC4 := Aside0.mk H
 clear H
 go_enter Try.func6, Try.ntmps6
 go_upto_region 1 with (fail)
 go_cut [24] (fun v24 wc => ∃ (kq : Nat) (x24_3 : Bool), v24 = .bool x24_3 ∧ Aside0 (dominolaw08_KdfMacs.j0 kq a0 l1 a2 x24_3 = some r) ∧ Aside0 (kq ≤ k) ∧ Aside0 (Below w.heap.size w wc))
 case first =>
  have H := HC4.out
  clear HC4
  by_cases c5 : (a0.size : Int) > 200
  ·rw [if_pos c5] at H
   have c5b0 : decide (200 < (a0.size : Int)) = true := decide_eq_true c5
   have c5b1 : decide (200 < a0.size) = true := decide_eq_true (by omega)
   clear c5
   (first | rw [c5b0] | (simp only [i64_w, i32_w]; rw [c5b0]) | skip)
   have H' := Aside0.mk H
   clear H
   go_wp2
   go_meet
   case rel => exact ⟨_, (true), (by first | rfl | (simp; done) | (simp [*]; done)), H', ⟨by first | omega | exact Nat.le_refl _⟩, ⟨by repeat (first | (with_reducible first | exact HB.out | apply below_alloc | apply pw_below_drewN | apply below_drew1) | exact HB.out)⟩⟩
  ·rw [if_neg c5] at H
   have c5b0 : decide (200 < (a0.size : Int)) = false := decide_eq_false c5
   have c5b1 : decide (200 < a0.size) = false := decide_eq_false (by omega)
   clear c5
   (first | rw [c5b0] | (simp only [i64_w, i32_w]; rw [c5b0]) | skip)
   by_cases c6 : (a2.size : Int) > 200
   ·rw [if_pos c6] at H
    have c6b0 : decide (200 < (a2.size : Int)) = true := decide_eq_true c6
    have c6b1 : decide (200 < a2.size) = true := decide_eq_true (by omega)
    clear c6
    have H' := Aside0.mk H
    clear H
    go_wp2
    go_meet
    case rel => exact ⟨_, (true), (by first | rfl | (simp; done) | (simp [*]; done)), H', ⟨by first | omega | exact Nat.le_refl _⟩, ⟨by repeat (first | (with_reducible first | exact HB.out | apply below_alloc | apply pw_below_drewN | apply below_drew1) | exact HB.out)⟩⟩
   ·rw [if_neg c6] at H
    have c6b0 : decide (200 < (a2.size : Int)) = false := decide_eq_false c6
    have c6b1 : decide (200 < a2.size) = false := decide_eq_false (by omega)
    clear c6
    replace H := Option.bind_eq_some_iff.mp H
    obtain ⟨t184, A70, H⟩ := H
    replace H : (if t184 = true then ((dominolaw08_shown.f k).bind fun t185 => (dominolaw08_KdfMacs.j0 k a0 l1 a2 (!t185))) else (dominolaw08_KdfMacs.j0 k a0 l1 a2 true)) = some r := H
    have A7 := Aside0.mk A70
    clear A70
    by_cases c8 : t184 = true
    ·subst c8
     have H1 : ((dominolaw08_shown.f k).bind fun t185 => (dominolaw08_KdfMacs.j0 k a0 l1 a2 (!t185))) = some r := by rw [if_pos rfl] at H; exact H
     clear H
     have H := H1
     clear H1
     replace H := Option.bind_eq_some_iff.mp H
     obtain ⟨t185, A90, H⟩ := H
     replace H : (dominolaw08_KdfMacs.j0 k a0 l1 a2 (!t185)) = some r := H
     have A9 := Aside0.mk A90
     clear A90
     have H' := Aside0.mk H
     clear H
     go_wp2_with (first | (go_at_call 16; (with_reducible refine (dominolaw08_bounded.calls k _ _ l1 true _ ?side1 ?side2 A7.out).mono ?_); (case side1 => repeat (first | exact (Kd.C_below HR1.out HB.out) | (with_reducible refine Kd.C_alloc ?_ _) | (with_reducible refine Kd.C_drewN ?_ _) | (with_reducible refine Kd.C_drew ?_))); (case side2 => exact HC1.out); rintro e w' ⟨rfl, ⟨nd, rfl⟩⟩) | (go_at_call 9; (with_reducible refine (dominolaw08_shown.calls k  t185 _ A9.out).mono ?_); rintro e w10 ⟨rfl, hb⟩; have n0_ := Aside0.mk (below_step (by repeat (first | (with_reducible first | exact HB.out | apply below_alloc | apply pw_below_drewN | apply below_drew1) | exact HB.out)) hb); clear HB; have HB := n0_; clear n0_; (try clear hb); (try clear hb2); (try clear hk); (try clear hi)))
     go_meet
     case rel => exact ⟨_, (!t185), (by first | rfl | (simp; done) | (simp [*]; done)), H', ⟨by first | omega | exact Nat.le_refl _⟩, ⟨by repeat (first | (with_reducible first | exact HB.out | apply below_alloc | apply pw_below_drewN | apply below_drew1) | exact HB.out)⟩⟩
    ·replace c8 := Bool.eq_false_iff.mpr c8
     subst c8
     have H1 : (dominolaw08_KdfMacs.j0 k a0 l1 a2 true) = some r := by rw [if_neg (show ¬ (false = true) by decide)] at H; exact H
     clear H
     have H := H1
     clear H1
     have H' := Aside0.mk H
     clear H
     go_wp2_with (first | (go_at_call 16; (with_reducible refine (dominolaw08_bounded.calls k _ _ l1 false _ ?side1 ?side2 A7.out).mono ?_); (case side1 => repeat (first | exact (Kd.C_below HR1.out HB.out) | (with_reducible refine Kd.C_alloc ?_ _) | (with_reducible refine Kd.C_drewN ?_ _) | (with_reducible refine Kd.C_drew ?_))); (case side2 => exact HC1.out); rintro e w' ⟨rfl, ⟨nd, rfl⟩⟩))
     go_meet
     case rel => exact ⟨_, (true), (by first | rfl | (simp; done) | (simp [*]; done)), H', ⟨by first | omega | exact Nat.le_refl _⟩, ⟨by repeat (first | (with_reducible first | exact HB.out | apply below_alloc | apply pw_below_drewN | apply below_drew1) | exact HB.out)⟩⟩
 case rest =>
  clear HC4
  try clear c1
  try clear p2
  try clear c5
  try clear c5b0
  try clear c5b1
  try clear c6
  try clear c6b0
  try clear c6b1
  try clear c8
  obtain ⟨kq, x24_3, rfl, HA, HJ3, HB⟩ := hcut
  cases kq with
  | zero => exact absurd HA.out (by simp [dominolaw08_KdfMacs.j0])
  | succ kj3 =>
   have H := HA.out
   clear HA
   simp only [dominolaw08_KdfMacs.j0] at H
   by_cases c11 : x24_3 = true
   ·subst c11
    have H1 : ((dominolaw08_shown.f kj3).bind fun t186 => (some t186)) = some r := by rw [if_pos rfl] at H; exact H
    clear H
    have H := H1
    clear H1
    replace H := Option.bind_eq_some_iff.mp H
    obtain ⟨t186, A120, H⟩ := H
    replace H : (some t186) = some r := H
    have A12 := Aside0.mk A120
    clear A120
    obtain rfl := Option.some.inj H
    go_wp2_with (first | ((with_reducible refine gate_callee (f := 9) rfl ?_); refine goesL_ (some 25) rfl rfl Try.func9 (by kernel_rfl) rfl #[] rfl (by (try simp only [List.map_toArray, List.map_cons, List.map_nil]); first | done | rfl | (simp only [List.length_drop, List.length_take]; rfl)) ?_; (with_reducible refine (dominolaw08_shown.calls kj3  t186 _ A12.out).mono ?_); rintro e w13 ⟨rfl, hb⟩; refine ⟨_, rfl, ?_⟩; have n0_ := Aside0.mk (below_step (by repeat (first | (with_reducible first | exact HB.out | apply below_alloc | apply pw_below_drewN | apply below_drew1) | exact HB.out)) hb); clear HB; have HB := n0_; clear n0_; (try clear hb); (try clear hb2); (try clear hk); (try clear hi)))
    go_ret
    exact ⟨by first | rfl | (simp [errW_none, errW_some] <;> rfl) | (simp [*, errW_none, errW_some] <;> rfl), by repeat (first | (with_reducible first | exact HB.out | apply below_alloc | apply pw_below_drewN | apply below_drew1) | exact HB.out)⟩
   ·replace c11 := Bool.eq_false_iff.mpr c11
    subst c11
    have H1 : ((dominoref07_Join.f kj3 l1).bind fun t187 => ((kdf_Mac.f a0 l1).bind fun t188 => ((dominoref08_Mac.f kj3 a0 t187).bind fun t189 => (if t188.toList = t189.toList then ((kdf_Extract.f a2 t187).bind fun t190 => ((dominoref08_Extract.f kj3 a2 t187).bind fun t191 => (some (t190.toList == t191.toList)))) else (none))))) = some r := by rw [if_neg (show ¬ (false = true) by decide)] at H; exact H
    clear H
    have H := H1
    clear H1
    replace H := Option.bind_eq_some_iff.mp H
    obtain ⟨t187, A140, H⟩ := H
    replace H : ((kdf_Mac.f a0 l1).bind fun t188 => ((dominoref08_Mac.f kj3 a0 t187).bind fun t189 => (if t188.toList = t189.toList then ((kdf_Extract.f a2 t187).bind fun t190 => ((dominoref08_Extract.f kj3 a2 t187).bind fun t191 => (some (t190.toList == t191.toList)))) else (none)))) = some r := H
    have A14 := Aside0.mk A140
    clear A140
    replace H := Option.bind_eq_some_iff.mp H
    obtain ⟨t188, A150, H⟩ := H
    replace H : ((dominoref08_Mac.f kj3 a0 t187).bind fun t189 => (if t188.toList = t189.toList then ((kdf_Extract.f a2 t187).bind fun t190 => ((dominoref08_Extract.f kj3 a2 t187).bind fun t191 => (some (t190.toList == t191.toList)))) else (none))) = some r := H
    have A15 := Aside0.mk A150
    clear A150
    replace H := Option.bind_eq_some_iff.mp H
    obtain ⟨t189, A160, H⟩ := H
    replace H : (if t188.toList = t189.toList then ((kdf_Extract.f a2 t187).bind fun t190 => ((dominoref08_Extract.f kj3 a2 t187).bind fun t191 => (some (t190.toList == t191.toList)))) else (none)) = some r := H
    have A16 := Aside0.mk A160
    clear A160
    by_cases c17 : t188.toList = t189.toList
    ·rw [if_pos c17] at H
     have c17b0 : (t188.toList == t189.toList) = true := beq_iff_eq.mpr c17
     have c17b1 : (t188.toList != t189.toList) = false := bne_eq_false_iff_eq.mpr c17
     clear c17
     replace H := Option.bind_eq_some_iff.mp H
     obtain ⟨t190, A180, H⟩ := H
     replace H : ((dominoref08_Extract.f kj3 a2 t187).bind fun t191 => (some (t190.toList == t191.toList))) = some r := H
     have A18 := Aside0.mk A180
     clear A180
     replace H := Option.bind_eq_some_iff.mp H
     obtain ⟨t191, A190, H⟩ := H
     replace H : (some (t190.toList == t191.toList)) = some r := H
     have A19 := Aside0.mk A190
     clear A190
     obtain rfl := Option.some.inj H
     go_wp2_with (first | ((with_reducible refine gate_callee (f := 17) rfl ?_); refine goesL_ (some 27) rfl rfl Try.func17 (by kernel_rfl) rfl #[.slice A1 l1.length c1] rfl (by (try simp only [List.map_toArray, List.map_cons, List.map_nil]); first | done | rfl | (simp only [List.length_drop, List.length_take]; rfl)) ?_; (with_reducible refine (dominoref07_Join.calls kj3 _ _ l1 t187 _ ?side1 ?side2 A14.out).mono ?_); (case side1 => repeat (first | exact (Kd.C_below HR1.out HB.out) | (with_reducible refine Kd.C_alloc ?_ _) | (with_reducible refine Kd.C_drewN ?_ _) | (with_reducible refine Kd.C_drew ?_))); (case side2 => exact HC1.out); rintro e w' ⟨rfl, ⟨nd, rfl⟩⟩; refine ⟨_, rfl, ?_⟩) | ((with_reducible refine gate_callee (f := 18) rfl ?_); refine goesL_ (some 30) rfl rfl Try.func18 (by kernel_rfl) rfl #[.string a0, .slice A1 l1.length c1] rfl (by (try simp only [List.map_toArray, List.map_cons, List.map_nil]); first | done | rfl | (simp only [List.length_drop, List.length_take]; rfl)) ?_; (with_reducible refine (kdf_Mac.calls a0 _ _ l1 t188 _ ?side1 ?side2 A15.out).mono ?_); (case side1 => repeat (first | exact (Kd.C_below HR1.out (by repeat (first | (with_reducible first | exact HB.out | apply below_alloc | apply pw_below_drewN | apply below_drew1) | exact HB.out))) | (with_reducible refine Kd.C_alloc ?_ _) | (with_reducible refine Kd.C_drewN ?_ _) | (with_reducible refine Kd.C_drew ?_))); (case side2 => exact HC1.out); rintro e w20 ⟨rfl, hb⟩; refine ⟨_, rfl, ?_⟩; have n0_ := Aside0.mk (below_step (by repeat (first | (with_reducible first | exact HB.out | apply below_alloc | apply pw_below_drewN | apply below_drew1) | exact HB.out)) hb); clear HB; have HB := n0_; clear n0_; (try clear hb); (try clear hb2); (try clear hk); (try clear hi)) | ((with_reducible refine gate_callee (f := 19) rfl ?_); refine goesL_ (some 33) rfl rfl Try.func19 (by kernel_rfl) rfl #[.string a0, .string t187] rfl (by (try simp only [List.map_toArray, List.map_cons, List.map_nil]); first | done | rfl | (simp only [List.length_drop, List.length_take]; rfl)) ?_; (with_reducible refine (dominoref08_Mac.calls kj3 a0 t187 t189 _ A16.out).mono ?_); rintro e w21 ⟨rfl, hb⟩; refine ⟨_, rfl, ?_⟩; have n0_ := Aside0.mk (below_step (by repeat (first | (with_reducible first | exact HB.out | apply below_alloc | apply pw_below_drewN | apply below_drew1) | exact HB.out)) hb); clear HB; have HB := n0_; clear n0_; (try clear hb); (try clear hb2); (try clear hk); (try clear hi)) | (go_at_call 20; (with_reducible refine (kdf_Extract.calls a2 t187 t190 _ A18.out).mono ?_); rintro e w22 ⟨rfl, hb⟩; have n0_ := Aside0.mk (below_step (by repeat (first | (with_reducible first | exact HB.out | apply below_alloc | apply pw_below_drewN | apply below_drew1) | exact HB.out)) hb); clear HB; have HB := n0_; clear n0_; (try clear hb); (try clear hb2); (try clear hk); (try clear hi)) | (go_at_call 21; (with_reducible refine (dominoref08_Extract.calls kj3 a2 t187 t191 _ A19.out).mono ?_); rintro e w23 ⟨rfl, hb⟩; have n0_ := Aside0.mk (below_step (by repeat (first | (with_reducible first | exact HB.out | apply below_alloc | apply pw_below_drewN | apply below_drew1) | exact HB.out)) hb); clear HB; have HB := n0_; clear n0_; (try clear hb); (try clear hb2); (try clear hk); (try clear hi)))
     go_ret
     exact ⟨by first | rfl | (simp [errW_none, errW_some] <;> rfl) | (simp [*, errW_none, errW_some] <;> rfl), by repeat (first | (with_reducible first | exact HB.out | apply below_alloc | apply pw_below_drewN | apply below_drew1) | exact HB.out)⟩
    ·rw [if_neg c17] at H
     exact absurd H (by simp)

/-- THE ONE PURE STATEMENT of dominolaw08_KdfMacs: yours. -/
def dominolaw08_KdfMacs.Pure : Prop := ∀ (a0 : ByteArray) (l1 : List ByteArray) (a2 : ByteArray), a0.size ≤ 140737488351232 → l1.length ≤ maxLen → l1.length * 16 ≤ 140737488351232 → (∀ x ∈ l1, x.size ≤ 140737488351232) → a2.size ≤ 140737488351232 → ∃ k, dominolaw08_KdfMacs.f k a0 l1 a2 = some true
theorem dominolaw08_KdfMacs.walk (P : dominolaw08_KdfMacs.Pure) (a0 : ByteArray) (a1 : Option Addr) (cap1 : Nat) (l1 : List ByteArray) (a2 : ByteArray) (w : World) (w0 : a0.size ≤ 140737488351232) (hr1 : Kd.C Kd.string w a1 l1.length l1) (hc1 : l1.length ≤ cap1) (w1_0 : l1.length ≤ maxLen) (w1_1 : l1.length * 16 ≤ 140737488351232) (w1_2 : (∀ x ∈ l1, x.size ≤ 140737488351232)) (w2 : a2.size ≤ 140737488351232) :
  Calls Try.prog 6 #[.string a0, .slice a1 l1.length cap1, .string a2] w fun e w' => e = .returned (.bool true) ∧ Below w.heap.size w w' := by
 obtain ⟨k, h⟩ := P a0 l1 a2 w0 w1_0 w1_1 w1_2 w2
 refine (dominolaw08_KdfMacs.calls k a0 a1 cap1 l1 a2 true w hr1 hc1 h).mono ?_
 rintro e w' ⟨rfl, hd⟩
 exact ⟨rfl, hd⟩

/-! ### dominoref08_byteOf: function 30 -/
def dominoref08_byteOf.f (a0 : Int) : Option (ByteArray) := some (strOfNums (([(a0) % 256] : List Int)))
set_option maxHeartbeats 8000000 in
set_option maxRecDepth 100000 in
theorem dominoref08_byteOf.calls (a0 : Int) (r : ByteArray) (w : World) (h : dominoref08_byteOf.f a0 = some r) :
  Calls Try.prog 30 #[.int .i64 a0] w fun e w' => e = .returned (.string r) ∧ Below w.heap.size w w' := by
 have HB := Aside0.mk (Below.refl w.heap.size w)
 have H : (some (strOfNums (([(a0) % 256] : List Int)))) = some r := h
 clear h
 obtain ⟨y192, hy192⟩ : ∃ y_ : List Int, y_ = (([(a0) % 256] : List Int)) := ⟨_, rfl⟩
 replace H : (some (strOfNums y192)) = some r := by first | (rw [hy192]; with_reducible exact H) | (have H2_ := (Option.bind_some _ _).symm.trans H; rw [hy192]; with_reducible exact H2_) | (have H2_ := (Option.bind_some _ _).symm.trans H; with_reducible exact H2_) | with_reducible exact H | (rw [hy192]; exact H) | exact H
 have Ny192 := Aside0.mk hy192
 clear hy192
 obtain rfl := Option.some.inj H
 go_enter Try.func30, Try.ntmps30
 go_wp2_with (first | ((with_reducible refine gate_dst (N := 5) rfl ?_); refine Kd.R_lit (Kd.int .u8) _ 5 ?hg (N := 5) ?hd (xs := ([(a0) % 256] : List Int)) (inner := [.int .u8 ((a0) % 256)]) (ok := fun _ => True) (okp := fun _ => True) ?hr ?hp (fun _ hk => hk) trivial (Below.refl _ _) (Nat.le_refl _) (by simp) ?_; (case hd => rfl); (case hg => rfl); (case hr => first | (go_simp; done) | (go_simp; rfl)); (case hp => exact (Reps.one (show Kd.M (Kd.int .u8) _ _ _ ((a0) % 256) [.int .u8 ((a0) % 256)] from rfl) (Reps.none _ _))); intro v193 w2 ho3 hb hg_ hnew_; clear hg_ hnew_; (first | rw [← Ny192.out] at ho3 | (simp only [Int.reduceToNat] at ho3; rw [← Ny192.out] at ho3)); have n0_ := Aside0.mk (Kd.R_lower ho3 (below_size (by repeat (first | (with_reducible first | exact HB.out | apply below_alloc | apply pw_below_drewN | apply below_drew1) | exact HB.out)))); have n1_ := Aside0.mk (below_step (by repeat (first | (with_reducible first | exact HB.out | apply below_alloc | apply pw_below_drewN | apply below_drew1) | exact HB.out)) hb); clear HB; have HO194 := n0_; have HB := n1_; clear n0_ n1_; clear hb ho3; have hcv4 := own_string (P := Try.prog) Try.underlying46 Try.underlying5 Try.underlying9 (Kd.own_of_R HO194.out)))
 go_ret
 exact ⟨by first | rfl | (simp [errW_none, errW_some] <;> rfl) | (simp [*, errW_none, errW_some] <;> rfl), by repeat (first | (with_reducible first | exact HB.out | apply below_alloc | apply pw_below_drewN | apply below_drew1) | exact HB.out)⟩

/-! ### dominoref08_Expand: function 11 -/
mutual
def dominoref08_Expand.j0 : Nat → ByteArray → ByteArray → Int → Bool → Option (ByteArray × Int)
 | 0, _, _, _, _ => none
 | k + 1, x0, x1, x2, x16 => if x16 = true then (some ((⟨#[]⟩ : ByteArray), 1)) else (dominoref08_Expand.l0 k x0 x1 x2 (⟨#[]⟩ : ByteArray) (⟨#[]⟩ : ByteArray) 1)
def dominoref08_Expand.l0 : Nat → ByteArray → ByteArray → Int → ByteArray → ByteArray → Int → Option (ByteArray × Int)
 | 0, _, _, _, _, _, _ => none
 | k + 1, x0, x1, x2, x8, x9, x10 => if (x8.size : Int) < x2 then (if x9.size + x1.size ≤ 9223372036854775807 then ((dominoref08_byteOf.f x10).bind fun t195 => (if (x9 ++ x1).size + t195.size ≤ 9223372036854775807 then ((dominoref08_Mac.f k x0 ((x9 ++ x1) ++ t195)).bind fun t196 => (if x8.size + t196.size ≤ 9223372036854775807 then (dominoref08_Expand.l0 k x0 x1 x2 (x8 ++ t196) t196 (wrap64 (x10 + 1))) else (none))) else (none))) else (none)) else (if 0 ≤ x2 then (if x2 ≤ (x8.size : Int) then (some (x8.extract 0 (x2 : Int).toNat, 0)) else (none)) else (none))
end
def dominoref08_Expand.f (k : Nat) (a0 : ByteArray) (a1 : ByteArray) (a2 : Int) : Option (ByteArray × Int) := if a2 < 0 then (dominoref08_Expand.j0 k a0 a1 a2 true) else (dominoref08_Expand.j0 k a0 a1 a2 (decide (a2 > 8160)))
theorem dominoref08_Expand.mono_l : ∀ k, (∀ y0 y1 y2 y3, LeO (dominoref08_Expand.j0 k y0 y1 y2 y3) (dominoref08_Expand.j0 (k + 1) y0 y1 y2 y3)) ∧ (∀ y0 y1 y2 y3 y4 y5, LeO (dominoref08_Expand.l0 k y0 y1 y2 y3 y4 y5) (dominoref08_Expand.l0 (k + 1) y0 y1 y2 y3 y4 y5))
 | 0 => ⟨fun _ _ _ _ r h => by simp [dominoref08_Expand.j0] at h, fun _ _ _ _ _ _ r h => by simp [dominoref08_Expand.l0] at h⟩
 | k + 1 => by
  obtain ⟨ih0, ih1⟩ := dominoref08_Expand.mono_l k
  refine ⟨?_, ?_⟩
  ·intro y0 y1 y2 y3
   unfold dominoref08_Expand.j0
   repeat' first
   | (with_reducible exact ih0 _ _ _ _)
   | (with_reducible exact ih1 _ _ _ _ _ _)
   | (with_reducible exact dominoref08_Mac.mono _ _ _)
   | (with_reducible exact LeO.refl _)
   | (with_reducible exact LeO.none _)
   | (with_reducible refine LeO.ite ?_ ?_)
   | (with_reducible refine LeO.bind ?_ (fun _ => ?_))
   | exact ih0 _ _ _ _
   | exact ih1 _ _ _ _ _ _
   | exact dominoref08_Mac.mono _ _ _
   | exact LeO.none _
   | refine LeO.ite ?_ ?_
   | refine LeO.bind ?_ (fun _ => ?_)
  ·intro y0 y1 y2 y3 y4 y5
   unfold dominoref08_Expand.l0
   repeat' first
   | (with_reducible exact ih0 _ _ _ _)
   | (with_reducible exact ih1 _ _ _ _ _ _)
   | (with_reducible exact dominoref08_Mac.mono _ _ _)
   | (with_reducible exact LeO.refl _)
   | (with_reducible exact LeO.none _)
   | (with_reducible refine LeO.ite ?_ ?_)
   | (with_reducible refine LeO.bind ?_ (fun _ => ?_))
   | exact ih0 _ _ _ _
   | exact ih1 _ _ _ _ _ _
   | exact dominoref08_Mac.mono _ _ _
   | exact LeO.none _
   | refine LeO.ite ?_ ?_
   | refine LeO.bind ?_ (fun _ => ?_)
theorem dominoref08_Expand.mono : ∀ a0 a1 a2 k, LeO (dominoref08_Expand.f k a0 a1 a2) (dominoref08_Expand.f (k + 1) a0 a1 a2) := by
 intro a0 a1 a2 k
 obtain ⟨ih0, ih1⟩ := dominoref08_Expand.mono_l k
 unfold dominoref08_Expand.f
 repeat' first
   | (with_reducible exact ih0 _ _ _ _)
   | (with_reducible exact ih1 _ _ _ _ _ _)
   | (with_reducible exact dominoref08_Mac.mono _ _ _)
   | (with_reducible exact LeO.refl _)
   | (with_reducible exact LeO.none _)
   | (with_reducible refine LeO.ite ?_ ?_)
   | (with_reducible refine LeO.bind ?_ (fun _ => ?_))
   | exact ih0 _ _ _ _
   | exact ih1 _ _ _ _ _ _
   | exact dominoref08_Mac.mono _ _ _
   | exact LeO.none _
   | refine LeO.ite ?_ ?_
   | refine LeO.bind ?_ (fun _ => ?_)
set_option maxHeartbeats 8000000 in
set_option maxRecDepth 100000 in
theorem dominoref08_Expand.calls (k : Nat) (a0 : ByteArray) (a1 : ByteArray) (a2 : Int) (r1 : ByteArray) (r2 : Int) (w : World) (h : dominoref08_Expand.f k a0 a1 a2 = some (r1, r2)) :
  Calls Try.prog 11 #[.string a0, .string a1, .int .i64 a2] w fun e w' => e = .returned (.tuple #[.string r1, .int .i64 r2]) ∧ Below w.heap.size w w' := by
 have HB := Aside0.mk (Below.refl w.heap.size w)
 have H : (if a2 < 0 then (dominoref08_Expand.j0 k a0 a1 a2 true) else (dominoref08_Expand.j0 k a0 a1 a2 (decide (a2 > 8160)))) = some (r1, r2) := h
 clear h
 have HC4 := Aside0.mk H
 clear H
 go_enter Try.func11, Try.ntmps11
 go_upto_region 1 with (fail)
 go_cut [16] (fun v16 wc => ∃ (kq : Nat) (x16_3 : Bool), v16 = .bool x16_3 ∧ Aside0 (dominoref08_Expand.j0 kq a0 a1 a2 x16_3 = some (r1, r2)) ∧ Aside0 (kq ≤ k) ∧ Aside0 (Below w.heap.size w wc))
 case first =>
  have H := HC4.out
  clear HC4
  by_cases c5 : a2 < 0
  ·rw [if_pos c5] at H
   have c5b0 : decide (a2 < 0) = true := decide_eq_true c5
   clear c5
   (first | rw [c5b0] | (simp only [i64_w, i32_w]; rw [c5b0]) | skip)
   have H' := Aside0.mk H
   clear H
   go_wp2
   go_meet
   case rel => exact ⟨_, (true), (by first | rfl | (simp; done) | (simp [*]; done)), H', ⟨by first | omega | exact Nat.le_refl _⟩, ⟨by repeat (first | (with_reducible first | exact HB.out | apply below_alloc | apply pw_below_drewN | apply below_drew1) | exact HB.out)⟩⟩
  ·rw [if_neg c5] at H
   have c5b0 : decide (a2 < 0) = false := decide_eq_false c5
   clear c5
   (first | rw [c5b0] | (simp only [i64_w, i32_w]; rw [c5b0]) | skip)
   have H' := Aside0.mk H
   clear H
   go_wp2
   go_meet
   case rel => exact ⟨_, (decide (a2 > 8160)), (by first | rfl | (simp; done) | (simp [*]; done)), H', ⟨by first | omega | exact Nat.le_refl _⟩, ⟨by repeat (first | (with_reducible first | exact HB.out | apply below_alloc | apply pw_below_drewN | apply below_drew1) | exact HB.out)⟩⟩
 case rest =>
  clear HC4
  try clear c1
  try clear p2
  try clear c5
  try clear c5b0
  obtain ⟨kq, x16_3, rfl, HA, HJ3, HB⟩ := hcut
  cases kq with
  | zero => exact absurd HA.out (by simp [dominoref08_Expand.j0])
  | succ kj3 =>
   have H := HA.out
   clear HA
   simp only [dominoref08_Expand.j0] at H
   by_cases c6 : x16_3 = true
   ·subst c6
    have H1 : (some ((⟨#[]⟩ : ByteArray), 1)) = some (r1, r2) := by rw [if_pos rfl] at H; exact H
    clear H
    have H := H1
    clear H1
    simp only [Option.some.injEq, Prod.mk.injEq] at H
    obtain ⟨rfl, rfl⟩ := H
    go_wp2
    go_ret2
    exact ⟨by first | rfl | (simp [errW_none, errW_some] <;> rfl) | (simp [*, errW_none, errW_some] <;> rfl), by repeat (first | (with_reducible first | exact HB.out | apply below_alloc | apply pw_below_drewN | apply below_drew1) | exact HB.out)⟩
   ·replace c6 := Bool.eq_false_iff.mpr c6
    subst c6
    have H1 : (dominoref08_Expand.l0 kj3 a0 a1 a2 (⟨#[]⟩ : ByteArray) (⟨#[]⟩ : ByteArray) 1) = some (r1, r2) := by rw [if_neg (show ¬ (false = true) by decide)] at H; exact H
    clear H
    have H := H1
    clear H1
    have H' := Aside0.mk H
    clear H
    go_wp2
    go_loopg [8, 9, 10] kj3 (fun kq v8 v9 v10 w' => ∃ (x8_2 : ByteArray) (x9_2 : ByteArray) (x10_2 : Int), v8 = .string x8_2 ∧ v9 = .string x9_2 ∧ v10 = .int .i64 x10_2 ∧ Aside0 (dominoref08_Expand.l0 kq a0 a1 a2 x8_2 x9_2 x10_2 = some (r1, r2)) ∧ Aside0 (kq ≤ kj3) ∧ Aside0 (Below w.heap.size w w'))
    case atStart => exact ⟨((⟨#[]⟩ : ByteArray)), ((⟨#[]⟩ : ByteArray)), (1), (by first | rfl | (simp; done) | (simp [*]; done)), (by first | rfl | (simp; done) | (simp [*]; done)), (by first | rfl | (simp; done) | (simp [*]; done)), H', ⟨Nat.le_refl _⟩, ⟨by repeat (first | (with_reducible first | exact HB.out | apply below_alloc | apply pw_below_drewN | apply below_drew1) | exact HB.out)⟩⟩
    case round =>
     clear H'
     try clear c1
     try clear p2
     try clear c5
     try clear c5b0
     try clear c6
     try clear p2
     obtain ⟨x8_2, x9_2, x10_2, rfl, rfl, rfl, HA, HK2, HB⟩ := hrel
     cases gk with
     | zero => exact absurd HA.out (by simp [dominoref08_Expand.l0])
     | succ k2 =>
      have H := HA.out
      clear HA
      simp only [dominoref08_Expand.l0] at H
      by_cases c7 : (x8_2.size : Int) < a2
      ·rw [if_pos c7] at H
       have c7b0 : decide ((x8_2.size : Int) < a2) = true := decide_eq_true c7
       clear c7
       by_cases c8 : x9_2.size + a1.size ≤ 9223372036854775807
       ·rw [if_pos c8] at H
        have c8b0 := eq_true c8
        have c8b1 : decide (x9_2.size + a1.size ≤ 9223372036854775807) = true := decide_eq_true c8
        try have c8b2 : (9223372036854775807 < x9_2.size + a1.size) = False := eq_false (Nat.not_lt.2 c8)
        replace H := Option.bind_eq_some_iff.mp H
        obtain ⟨t195, A90, H⟩ := H
        replace H : (if (x9_2 ++ a1).size + t195.size ≤ 9223372036854775807 then ((dominoref08_Mac.f k2 a0 ((x9_2 ++ a1) ++ t195)).bind fun t196 => (if x8_2.size + t196.size ≤ 9223372036854775807 then (dominoref08_Expand.l0 k2 a0 a1 a2 (x8_2 ++ t196) t196 (wrap64 (x10_2 + 1))) else (none))) else (none)) = some (r1, r2) := H
        have A9 := Aside0.mk A90
        clear A90
        by_cases c10 : (x9_2 ++ a1).size + t195.size ≤ 9223372036854775807
        ·rw [if_pos c10] at H
         have c10b0 := eq_true c10
         have c10b1 : decide ((x9_2 ++ a1).size + t195.size ≤ 9223372036854775807) = true := decide_eq_true c10
         try have c10b2 : (9223372036854775807 < (x9_2 ++ a1).size + t195.size) = False := eq_false (Nat.not_lt.2 c10)
         (try (have c10b3 := c10; simp [ByteArray.size_append] at c10b3; have c10b4 := eq_false (Nat.not_lt.2 c10b3); have c10b5 := eq_true c10b3; clear c10b3))
         (try (have c10b6 := c10; simp only [ByteArray.size_append] at c10b6; have c10b7 := eq_false (Nat.not_lt.2 c10b6); have c10b8 := eq_true c10b6; clear c10b6))
         replace H := Option.bind_eq_some_iff.mp H
         obtain ⟨t196, A110, H⟩ := H
         replace H : (if x8_2.size + t196.size ≤ 9223372036854775807 then (dominoref08_Expand.l0 k2 a0 a1 a2 (x8_2 ++ t196) t196 (wrap64 (x10_2 + 1))) else (none)) = some (r1, r2) := H
         have A11 := Aside0.mk A110
         clear A110
         by_cases c12 : x8_2.size + t196.size ≤ 9223372036854775807
         ·rw [if_pos c12] at H
          have c12b0 := eq_true c12
          have c12b1 : decide (x8_2.size + t196.size ≤ 9223372036854775807) = true := decide_eq_true c12
          try have c12b2 : (9223372036854775807 < x8_2.size + t196.size) = False := eq_false (Nat.not_lt.2 c12)
          have H' := Aside0.mk H
          clear H
          go_wp2_with (first | ((with_reducible refine gate_callee (f := 30) rfl ?_); refine goesL_ (some 28) rfl rfl Try.func30 (by kernel_rfl) rfl #[.int .i64 x10_2] rfl (by (try simp only [List.map_toArray, List.map_cons, List.map_nil]); first | done | rfl | (simp only [List.length_drop, List.length_take]; rfl)) ?_; (with_reducible refine (dominoref08_byteOf.calls x10_2 t195 _ A9.out).mono ?_); rintro e w13 ⟨rfl, hb⟩; refine ⟨_, rfl, ?_⟩; have n0_ := Aside0.mk (below_step (by repeat (first | (with_reducible first | exact HB.out | apply below_alloc | apply pw_below_drewN | apply below_drew1) | exact HB.out)) hb); clear HB; have HB := n0_; clear n0_; (try clear hb); (try clear hb2); (try clear hk); (try clear hi)) | ((with_reducible refine gate_callee (f := 19) rfl ?_); refine goesL_ (some 30) rfl rfl Try.func19 (by kernel_rfl) rfl #[.string a0, .string ((x9_2 ++ a1) ++ t195)] rfl (by (try simp only [List.map_toArray, List.map_cons, List.map_nil]); first | done | rfl | (simp only [List.length_drop, List.length_take]; rfl)) ?_; (with_reducible refine (dominoref08_Mac.calls k2 a0 ((x9_2 ++ a1) ++ t195) t196 _ A11.out).mono ?_); rintro e w14 ⟨rfl, hb⟩; refine ⟨_, rfl, ?_⟩; have n0_ := Aside0.mk (below_step (by repeat (first | (with_reducible first | exact HB.out | apply below_alloc | apply pw_below_drewN | apply below_drew1) | exact HB.out)) hb); clear HB; have HB := n0_; clear n0_; (try clear hb); (try clear hb2); (try clear hk); (try clear hi)))
          go_roundg k2
          case measure => have := HJ3.out; have := HK2.out; omega
          case rel => exact ⟨(x8_2 ++ t196), (t196), (wrap64 (x10_2 + 1)), (by first | rfl | (simp; done) | (simp [*]; done)), (by first | rfl | (simp; done) | (simp [*]; done)), (by first | rfl | (simp; done) | (simp [*]; done)), H', ⟨by have := HJ3.out; have := HK2.out; omega⟩, ⟨by repeat (first | (with_reducible first | exact HB.out | apply below_alloc | apply pw_below_drewN | apply below_drew1) | exact HB.out)⟩⟩
         ·rw [if_neg c12] at H
          exact absurd H (by simp)
        ·rw [if_neg c10] at H
         exact absurd H (by simp)
       ·rw [if_neg c8] at H
        exact absurd H (by simp)
      ·rw [if_neg c7] at H
       have c7b0 : decide ((x8_2.size : Int) < a2) = false := decide_eq_false c7
       clear c7
       by_cases c15 : 0 ≤ a2
       ·rw [if_pos c15] at H
        have c15b0 := eq_true c15
        have c15b1 : decide (0 ≤ a2) = true := decide_eq_true c15
        clear c15
        by_cases c16 : a2 ≤ (x8_2.size : Int)
        ·rw [if_pos c16] at H
         have c16b0 := eq_true c16
         have c16b1 : decide (a2 ≤ (x8_2.size : Int)) = true := decide_eq_true c16
         clear c16
         simp only [Option.some.injEq, Prod.mk.injEq] at H
         obtain ⟨rfl, rfl⟩ := H
         go_wp2
         go_ret2
         exact ⟨by first | rfl | (simp [errW_none, errW_some] <;> rfl) | (simp [*, errW_none, errW_some] <;> rfl), by repeat (first | (with_reducible first | exact HB.out | apply below_alloc | apply pw_below_drewN | apply below_drew1) | exact HB.out)⟩
        ·rw [if_neg c16] at H
         exact absurd H (by simp)
       ·rw [if_neg c15] at H
        exact absurd H (by simp)

/-! ### dominoref08_Label: function 13 -/
def dominoref08_Label.j0 : Nat → ByteArray → ByteArray → ByteArray → Int → Bool → Option (ByteArray × Int)
 | 0, _, _, _, _, _ => none
 | k + 1, x0, x1, x2, x3, x25 => if x25 = true then (some ((⟨#[]⟩ : ByteArray), 1)) else ((dominoref08_byteOf.f (wrap64 (Int.tdiv x3 256))).bind fun t197 => ((dominoref08_byteOf.f (Int.tmod x3 256)).bind fun t198 => (if t197.size + t198.size ≤ 9223372036854775807 then ((dominoref08_byteOf.f (wrap64 ((x1.size : Int) + 6))).bind fun t199 => (if (t197 ++ t198).size + t199.size ≤ 9223372036854775807 then (if ((t197 ++ t198) ++ t199).size + 6 ≤ 9223372036854775807 then (if (((t197 ++ t198) ++ t199) ++ (⟨#[116, 108, 115, 49, 51, 32]⟩ : ByteArray)).size + x1.size ≤ 9223372036854775807 then ((dominoref08_byteOf.f (x2.size : Int)).bind fun t200 => (if ((((t197 ++ t198) ++ t199) ++ (⟨#[116, 108, 115, 49, 51, 32]⟩ : ByteArray)) ++ x1).size + t200.size ≤ 9223372036854775807 then (if (((((t197 ++ t198) ++ t199) ++ (⟨#[116, 108, 115, 49, 51, 32]⟩ : ByteArray)) ++ x1) ++ t200).size + x2.size ≤ 9223372036854775807 then ((dominoref08_Expand.f k x0 ((((((t197 ++ t198) ++ t199) ++ (⟨#[116, 108, 115, 49, 51, 32]⟩ : ByteArray)) ++ x1) ++ t200) ++ x2) x3).bind fun bt201 => (some (bt201.1, bt201.2))) else (none)) else (none))) else (none)) else (none)) else (none))) else (none))))
def dominoref08_Label.f (k : Nat) (a0 : ByteArray) (a1 : ByteArray) (a2 : ByteArray) (a3 : Int) : Option (ByteArray × Int) := if a3 < 0 then (dominoref08_Label.j0 k a0 a1 a2 a3 true) else (if a3 > 8160 then (dominoref08_Label.j0 k a0 a1 a2 a3 true) else (if (a1.size : Int) > 249 then (dominoref08_Label.j0 k a0 a1 a2 a3 true) else (dominoref08_Label.j0 k a0 a1 a2 a3 (decide ((a2.size : Int) > 255)))))
theorem dominoref08_Label.mono_l : ∀ k, (∀ y0 y1 y2 y3 y4, LeO (dominoref08_Label.j0 k y0 y1 y2 y3 y4) (dominoref08_Label.j0 (k + 1) y0 y1 y2 y3 y4))
 | 0 => fun _ _ _ _ _ r h => by simp [dominoref08_Label.j0] at h
 | k + 1 => by
  have ih0 := dominoref08_Label.mono_l k
  ·intro y0 y1 y2 y3 y4
   unfold dominoref08_Label.j0
   repeat' first
   | (with_reducible exact ih0 _ _ _ _ _)
   | (with_reducible exact dominoref08_Expand.mono _ _ _ _)
   | (with_reducible exact LeO.refl _)
   | (with_reducible exact LeO.none _)
   | (with_reducible refine LeO.ite ?_ ?_)
   | (with_reducible refine LeO.bind ?_ (fun _ => ?_))
   | exact ih0 _ _ _ _ _
   | exact dominoref08_Expand.mono _ _ _ _
   | exact LeO.none _
   | refine LeO.ite ?_ ?_
   | refine LeO.bind ?_ (fun _ => ?_)
theorem dominoref08_Label.mono : ∀ a0 a1 a2 a3 k, LeO (dominoref08_Label.f k a0 a1 a2 a3) (dominoref08_Label.f (k + 1) a0 a1 a2 a3) := by
 intro a0 a1 a2 a3 k
 have ih0 := dominoref08_Label.mono_l k
 unfold dominoref08_Label.f
 repeat' first
   | (with_reducible exact ih0 _ _ _ _ _)
   | (with_reducible exact dominoref08_Expand.mono _ _ _ _)
   | (with_reducible exact LeO.refl _)
   | (with_reducible exact LeO.none _)
   | (with_reducible refine LeO.ite ?_ ?_)
   | (with_reducible refine LeO.bind ?_ (fun _ => ?_))
   | exact ih0 _ _ _ _ _
   | exact dominoref08_Expand.mono _ _ _ _
   | exact LeO.none _
   | refine LeO.ite ?_ ?_
   | refine LeO.bind ?_ (fun _ => ?_)
set_option maxHeartbeats 8000000 in
set_option maxRecDepth 100000 in
theorem dominoref08_Label.calls (k : Nat) (a0 : ByteArray) (a1 : ByteArray) (a2 : ByteArray) (a3 : Int) (r1 : ByteArray) (r2 : Int) (w : World) (h : dominoref08_Label.f k a0 a1 a2 a3 = some (r1, r2)) :
  Calls Try.prog 13 #[.string a0, .string a1, .string a2, .int .i64 a3] w fun e w' => e = .returned (.tuple #[.string r1, .int .i64 r2]) ∧ Below w.heap.size w w' := by
 have HB := Aside0.mk (Below.refl w.heap.size w)
 have H : (if a3 < 0 then (dominoref08_Label.j0 k a0 a1 a2 a3 true) else (if a3 > 8160 then (dominoref08_Label.j0 k a0 a1 a2 a3 true) else (if (a1.size : Int) > 249 then (dominoref08_Label.j0 k a0 a1 a2 a3 true) else (dominoref08_Label.j0 k a0 a1 a2 a3 (decide ((a2.size : Int) > 255)))))) = some (r1, r2) := h
 clear h
 have HC5 := Aside0.mk H
 clear H
 go_enter Try.func13, Try.ntmps13
 go_upto_region 1 with (fail)
 go_cut [25] (fun v25 wc => ∃ (kq : Nat) (x25_4 : Bool), v25 = .bool x25_4 ∧ Aside0 (dominoref08_Label.j0 kq a0 a1 a2 a3 x25_4 = some (r1, r2)) ∧ Aside0 (kq ≤ k) ∧ Aside0 (Below w.heap.size w wc))
 case first =>
  have H := HC5.out
  clear HC5
  by_cases c6 : a3 < 0
  ·rw [if_pos c6] at H
   have c6b0 : decide (a3 < 0) = true := decide_eq_true c6
   clear c6
   (first | rw [c6b0] | (simp only [i64_w, i32_w]; rw [c6b0]) | skip)
   have H' := Aside0.mk H
   clear H
   go_wp2
   go_meet
   case rel => exact ⟨_, (true), (by first | rfl | (simp; done) | (simp [*]; done)), H', ⟨by first | omega | exact Nat.le_refl _⟩, ⟨by repeat (first | (with_reducible first | exact HB.out | apply below_alloc | apply pw_below_drewN | apply below_drew1) | exact HB.out)⟩⟩
  ·rw [if_neg c6] at H
   have c6b0 : decide (a3 < 0) = false := decide_eq_false c6
   clear c6
   (first | rw [c6b0] | (simp only [i64_w, i32_w]; rw [c6b0]) | skip)
   by_cases c7 : a3 > 8160
   ·rw [if_pos c7] at H
    have c7b0 : decide (8160 < a3) = true := decide_eq_true c7
    clear c7
    have H' := Aside0.mk H
    clear H
    go_wp2
    go_meet
    case rel => exact ⟨_, (true), (by first | rfl | (simp; done) | (simp [*]; done)), H', ⟨by first | omega | exact Nat.le_refl _⟩, ⟨by repeat (first | (with_reducible first | exact HB.out | apply below_alloc | apply pw_below_drewN | apply below_drew1) | exact HB.out)⟩⟩
   ·rw [if_neg c7] at H
    have c7b0 : decide (8160 < a3) = false := decide_eq_false c7
    clear c7
    by_cases c8 : (a1.size : Int) > 249
    ·rw [if_pos c8] at H
     have c8b0 : decide (249 < (a1.size : Int)) = true := decide_eq_true c8
     have c8b1 : decide (249 < a1.size) = true := decide_eq_true (by omega)
     clear c8
     have H' := Aside0.mk H
     clear H
     go_wp2
     go_meet
     case rel => exact ⟨_, (true), (by first | rfl | (simp; done) | (simp [*]; done)), H', ⟨by first | omega | exact Nat.le_refl _⟩, ⟨by repeat (first | (with_reducible first | exact HB.out | apply below_alloc | apply pw_below_drewN | apply below_drew1) | exact HB.out)⟩⟩
    ·rw [if_neg c8] at H
     have c8b0 : decide (249 < (a1.size : Int)) = false := decide_eq_false c8
     have c8b1 : decide (249 < a1.size) = false := decide_eq_false (by omega)
     clear c8
     have H' := Aside0.mk H
     clear H
     go_wp2
     go_meet
     case rel => exact ⟨_, (decide ((a2.size : Int) > 255)), (by first | rfl | (simp; done) | (simp [*]; done)), H', ⟨by first | omega | exact Nat.le_refl _⟩, ⟨by repeat (first | (with_reducible first | exact HB.out | apply below_alloc | apply pw_below_drewN | apply below_drew1) | exact HB.out)⟩⟩
 case rest =>
  clear HC5
  try clear c1
  try clear p2
  try clear c6
  try clear c6b0
  try clear c7
  try clear c7b0
  try clear c8
  try clear c8b0
  try clear c8b1
  obtain ⟨kq, x25_4, rfl, HA, HJ4, HB⟩ := hcut
  cases kq with
  | zero => exact absurd HA.out (by simp [dominoref08_Label.j0])
  | succ kj4 =>
   have H := HA.out
   clear HA
   simp only [dominoref08_Label.j0] at H
   by_cases c9 : x25_4 = true
   ·subst c9
    have H1 : (some ((⟨#[]⟩ : ByteArray), 1)) = some (r1, r2) := by rw [if_pos rfl] at H; exact H
    clear H
    have H := H1
    clear H1
    simp only [Option.some.injEq, Prod.mk.injEq] at H
    obtain ⟨rfl, rfl⟩ := H
    go_wp2
    go_ret2
    exact ⟨by first | rfl | (simp [errW_none, errW_some] <;> rfl) | (simp [*, errW_none, errW_some] <;> rfl), by repeat (first | (with_reducible first | exact HB.out | apply below_alloc | apply pw_below_drewN | apply below_drew1) | exact HB.out)⟩
   ·replace c9 := Bool.eq_false_iff.mpr c9
    subst c9
    have H1 : ((dominoref08_byteOf.f (wrap64 (Int.tdiv a3 256))).bind fun t197 => ((dominoref08_byteOf.f (Int.tmod a3 256)).bind fun t198 => (if t197.size + t198.size ≤ 9223372036854775807 then ((dominoref08_byteOf.f (wrap64 ((a1.size : Int) + 6))).bind fun t199 => (if (t197 ++ t198).size + t199.size ≤ 9223372036854775807 then (if ((t197 ++ t198) ++ t199).size + 6 ≤ 9223372036854775807 then (if (((t197 ++ t198) ++ t199) ++ (⟨#[116, 108, 115, 49, 51, 32]⟩ : ByteArray)).size + a1.size ≤ 9223372036854775807 then ((dominoref08_byteOf.f (a2.size : Int)).bind fun t200 => (if ((((t197 ++ t198) ++ t199) ++ (⟨#[116, 108, 115, 49, 51, 32]⟩ : ByteArray)) ++ a1).size + t200.size ≤ 9223372036854775807 then (if (((((t197 ++ t198) ++ t199) ++ (⟨#[116, 108, 115, 49, 51, 32]⟩ : ByteArray)) ++ a1) ++ t200).size + a2.size ≤ 9223372036854775807 then ((dominoref08_Expand.f kj4 a0 ((((((t197 ++ t198) ++ t199) ++ (⟨#[116, 108, 115, 49, 51, 32]⟩ : ByteArray)) ++ a1) ++ t200) ++ a2) a3).bind fun bt201 => (some (bt201.1, bt201.2))) else (none)) else (none))) else (none)) else (none)) else (none))) else (none)))) = some (r1, r2) := by rw [if_neg (show ¬ (false = true) by decide)] at H; exact H
    clear H
    have H := H1
    clear H1
    replace H := Option.bind_eq_some_iff.mp H
    obtain ⟨t197, A100, H⟩ := H
    replace H : ((dominoref08_byteOf.f (Int.tmod a3 256)).bind fun t198 => (if t197.size + t198.size ≤ 9223372036854775807 then ((dominoref08_byteOf.f (wrap64 ((a1.size : Int) + 6))).bind fun t199 => (if (t197 ++ t198).size + t199.size ≤ 9223372036854775807 then (if ((t197 ++ t198) ++ t199).size + 6 ≤ 9223372036854775807 then (if (((t197 ++ t198) ++ t199) ++ (⟨#[116, 108, 115, 49, 51, 32]⟩ : ByteArray)).size + a1.size ≤ 9223372036854775807 then ((dominoref08_byteOf.f (a2.size : Int)).bind fun t200 => (if ((((t197 ++ t198) ++ t199) ++ (⟨#[116, 108, 115, 49, 51, 32]⟩ : ByteArray)) ++ a1).size + t200.size ≤ 9223372036854775807 then (if (((((t197 ++ t198) ++ t199) ++ (⟨#[116, 108, 115, 49, 51, 32]⟩ : ByteArray)) ++ a1) ++ t200).size + a2.size ≤ 9223372036854775807 then ((dominoref08_Expand.f kj4 a0 ((((((t197 ++ t198) ++ t199) ++ (⟨#[116, 108, 115, 49, 51, 32]⟩ : ByteArray)) ++ a1) ++ t200) ++ a2) a3).bind fun bt201 => (some (bt201.1, bt201.2))) else (none)) else (none))) else (none)) else (none)) else (none))) else (none))) = some (r1, r2) := H
    have A10 := Aside0.mk A100
    clear A100
    replace H := Option.bind_eq_some_iff.mp H
    obtain ⟨t198, A110, H⟩ := H
    replace H : (if t197.size + t198.size ≤ 9223372036854775807 then ((dominoref08_byteOf.f (wrap64 ((a1.size : Int) + 6))).bind fun t199 => (if (t197 ++ t198).size + t199.size ≤ 9223372036854775807 then (if ((t197 ++ t198) ++ t199).size + 6 ≤ 9223372036854775807 then (if (((t197 ++ t198) ++ t199) ++ (⟨#[116, 108, 115, 49, 51, 32]⟩ : ByteArray)).size + a1.size ≤ 9223372036854775807 then ((dominoref08_byteOf.f (a2.size : Int)).bind fun t200 => (if ((((t197 ++ t198) ++ t199) ++ (⟨#[116, 108, 115, 49, 51, 32]⟩ : ByteArray)) ++ a1).size + t200.size ≤ 9223372036854775807 then (if (((((t197 ++ t198) ++ t199) ++ (⟨#[116, 108, 115, 49, 51, 32]⟩ : ByteArray)) ++ a1) ++ t200).size + a2.size ≤ 9223372036854775807 then ((dominoref08_Expand.f kj4 a0 ((((((t197 ++ t198) ++ t199) ++ (⟨#[116, 108, 115, 49, 51, 32]⟩ : ByteArray)) ++ a1) ++ t200) ++ a2) a3).bind fun bt201 => (some (bt201.1, bt201.2))) else (none)) else (none))) else (none)) else (none)) else (none))) else (none)) = some (r1, r2) := H
    have A11 := Aside0.mk A110
    clear A110
    by_cases c12 : t197.size + t198.size ≤ 9223372036854775807
    ·rw [if_pos c12] at H
     have c12b0 := eq_true c12
     have c12b1 : decide (t197.size + t198.size ≤ 9223372036854775807) = true := decide_eq_true c12
     try have c12b2 : (9223372036854775807 < t197.size + t198.size) = False := eq_false (Nat.not_lt.2 c12)
     replace H := Option.bind_eq_some_iff.mp H
     obtain ⟨t199, A130, H⟩ := H
     replace H : (if (t197 ++ t198).size + t199.size ≤ 9223372036854775807 then (if ((t197 ++ t198) ++ t199).size + 6 ≤ 9223372036854775807 then (if (((t197 ++ t198) ++ t199) ++ (⟨#[116, 108, 115, 49, 51, 32]⟩ : ByteArray)).size + a1.size ≤ 9223372036854775807 then ((dominoref08_byteOf.f (a2.size : Int)).bind fun t200 => (if ((((t197 ++ t198) ++ t199) ++ (⟨#[116, 108, 115, 49, 51, 32]⟩ : ByteArray)) ++ a1).size + t200.size ≤ 9223372036854775807 then (if (((((t197 ++ t198) ++ t199) ++ (⟨#[116, 108, 115, 49, 51, 32]⟩ : ByteArray)) ++ a1) ++ t200).size + a2.size ≤ 9223372036854775807 then ((dominoref08_Expand.f kj4 a0 ((((((t197 ++ t198) ++ t199) ++ (⟨#[116, 108, 115, 49, 51, 32]⟩ : ByteArray)) ++ a1) ++ t200) ++ a2) a3).bind fun bt201 => (some (bt201.1, bt201.2))) else (none)) else (none))) else (none)) else (none)) else (none)) = some (r1, r2) := H
     have A13 := Aside0.mk A130
     clear A130
     by_cases c14 : (t197 ++ t198).size + t199.size ≤ 9223372036854775807
     ·rw [if_pos c14] at H
      have c14b0 := eq_true c14
      have c14b1 : decide ((t197 ++ t198).size + t199.size ≤ 9223372036854775807) = true := decide_eq_true c14
      try have c14b2 : (9223372036854775807 < (t197 ++ t198).size + t199.size) = False := eq_false (Nat.not_lt.2 c14)
      (try (have c14b3 := c14; simp [ByteArray.size_append] at c14b3; have c14b4 := eq_false (Nat.not_lt.2 c14b3); have c14b5 := eq_true c14b3; clear c14b3))
      (try (have c14b6 := c14; simp only [ByteArray.size_append] at c14b6; have c14b7 := eq_false (Nat.not_lt.2 c14b6); have c14b8 := eq_true c14b6; clear c14b6))
      by_cases c15 : ((t197 ++ t198) ++ t199).size + 6 ≤ 9223372036854775807
      ·rw [if_pos c15] at H
       have c15b0 := eq_true c15
       have c15b1 : decide (((t197 ++ t198) ++ t199).size + 6 ≤ 9223372036854775807) = true := decide_eq_true c15
       try have c15b2 : (9223372036854775807 < ((t197 ++ t198) ++ t199).size + 6) = False := eq_false (Nat.not_lt.2 c15)
       (try (have c15b3 := c15; simp [ByteArray.size_append] at c15b3; have c15b4 := eq_false (Nat.not_lt.2 c15b3); have c15b5 := eq_true c15b3; clear c15b3))
       (try (have c15b6 := c15; simp only [ByteArray.size_append] at c15b6; have c15b7 := eq_false (Nat.not_lt.2 c15b6); have c15b8 := eq_true c15b6; clear c15b6))
       by_cases c16 : (((t197 ++ t198) ++ t199) ++ (⟨#[116, 108, 115, 49, 51, 32]⟩ : ByteArray)).size + a1.size ≤ 9223372036854775807
       ·rw [if_pos c16] at H
        have c16b0 := eq_true c16
        have c16b1 : decide ((((t197 ++ t198) ++ t199) ++ (⟨#[116, 108, 115, 49, 51, 32]⟩ : ByteArray)).size + a1.size ≤ 9223372036854775807) = true := decide_eq_true c16
        try have c16b2 : (9223372036854775807 < (((t197 ++ t198) ++ t199) ++ (⟨#[116, 108, 115, 49, 51, 32]⟩ : ByteArray)).size + a1.size) = False := eq_false (Nat.not_lt.2 c16)
        (try (have c16b3 := c16; simp [ByteArray.size_append, show (⟨#[116, 108, 115, 49, 51, 32]⟩ : ByteArray).size = 6 from rfl] at c16b3; have c16b4 := eq_false (Nat.not_lt.2 c16b3); have c16b5 := eq_true c16b3; clear c16b3))
        (try (have c16b6 := c16; simp only [ByteArray.size_append, show (⟨#[116, 108, 115, 49, 51, 32]⟩ : ByteArray).size = 6 from rfl] at c16b6; have c16b7 := eq_false (Nat.not_lt.2 c16b6); have c16b8 := eq_true c16b6; clear c16b6))
        replace H := Option.bind_eq_some_iff.mp H
        obtain ⟨t200, A170, H⟩ := H
        replace H : (if ((((t197 ++ t198) ++ t199) ++ (⟨#[116, 108, 115, 49, 51, 32]⟩ : ByteArray)) ++ a1).size + t200.size ≤ 9223372036854775807 then (if (((((t197 ++ t198) ++ t199) ++ (⟨#[116, 108, 115, 49, 51, 32]⟩ : ByteArray)) ++ a1) ++ t200).size + a2.size ≤ 9223372036854775807 then ((dominoref08_Expand.f kj4 a0 ((((((t197 ++ t198) ++ t199) ++ (⟨#[116, 108, 115, 49, 51, 32]⟩ : ByteArray)) ++ a1) ++ t200) ++ a2) a3).bind fun bt201 => (some (bt201.1, bt201.2))) else (none)) else (none)) = some (r1, r2) := H
        have A17 := Aside0.mk A170
        clear A170
        by_cases c18 : ((((t197 ++ t198) ++ t199) ++ (⟨#[116, 108, 115, 49, 51, 32]⟩ : ByteArray)) ++ a1).size + t200.size ≤ 9223372036854775807
        ·rw [if_pos c18] at H
         have c18b0 := eq_true c18
         have c18b1 : decide (((((t197 ++ t198) ++ t199) ++ (⟨#[116, 108, 115, 49, 51, 32]⟩ : ByteArray)) ++ a1).size + t200.size ≤ 9223372036854775807) = true := decide_eq_true c18
         try have c18b2 : (9223372036854775807 < ((((t197 ++ t198) ++ t199) ++ (⟨#[116, 108, 115, 49, 51, 32]⟩ : ByteArray)) ++ a1).size + t200.size) = False := eq_false (Nat.not_lt.2 c18)
         (try (have c18b3 := c18; simp [ByteArray.size_append, show (⟨#[116, 108, 115, 49, 51, 32]⟩ : ByteArray).size = 6 from rfl] at c18b3; have c18b4 := eq_false (Nat.not_lt.2 c18b3); have c18b5 := eq_true c18b3; clear c18b3))
         (try (have c18b6 := c18; simp only [ByteArray.size_append, show (⟨#[116, 108, 115, 49, 51, 32]⟩ : ByteArray).size = 6 from rfl] at c18b6; have c18b7 := eq_false (Nat.not_lt.2 c18b6); have c18b8 := eq_true c18b6; clear c18b6))
         by_cases c19 : (((((t197 ++ t198) ++ t199) ++ (⟨#[116, 108, 115, 49, 51, 32]⟩ : ByteArray)) ++ a1) ++ t200).size + a2.size ≤ 9223372036854775807
         ·rw [if_pos c19] at H
          have c19b0 := eq_true c19
          have c19b1 : decide ((((((t197 ++ t198) ++ t199) ++ (⟨#[116, 108, 115, 49, 51, 32]⟩ : ByteArray)) ++ a1) ++ t200).size + a2.size ≤ 9223372036854775807) = true := decide_eq_true c19
          try have c19b2 : (9223372036854775807 < (((((t197 ++ t198) ++ t199) ++ (⟨#[116, 108, 115, 49, 51, 32]⟩ : ByteArray)) ++ a1) ++ t200).size + a2.size) = False := eq_false (Nat.not_lt.2 c19)
          (try (have c19b3 := c19; simp [ByteArray.size_append, show (⟨#[116, 108, 115, 49, 51, 32]⟩ : ByteArray).size = 6 from rfl] at c19b3; have c19b4 := eq_false (Nat.not_lt.2 c19b3); have c19b5 := eq_true c19b3; clear c19b3))
          (try (have c19b6 := c19; simp only [ByteArray.size_append, show (⟨#[116, 108, 115, 49, 51, 32]⟩ : ByteArray).size = 6 from rfl] at c19b6; have c19b7 := eq_false (Nat.not_lt.2 c19b6); have c19b8 := eq_true c19b6; clear c19b6))
          replace H := Option.bind_eq_some_iff.mp H
          obtain ⟨⟨t201, t202⟩, A200, H⟩ := H
          replace H : (some (t201, t202)) = some (r1, r2) := H
          have A20 := Aside0.mk A200
          clear A200
          simp only [Option.some.injEq, Prod.mk.injEq] at H
          obtain ⟨rfl, rfl⟩ := H
          go_wp2_with (first | ((with_reducible refine gate_callee (f := 30) rfl ?_); refine goesL_ (some 29) rfl rfl Try.func30 (by kernel_rfl) rfl #[.int .i64 (wrap64 (Int.tdiv a3 256))] rfl (by (try simp only [List.map_toArray, List.map_cons, List.map_nil]); first | done | rfl | (simp only [List.length_drop, List.length_take]; rfl)) ?_; (with_reducible refine (dominoref08_byteOf.calls (wrap64 (Int.tdiv a3 256)) t197 _ A10.out).mono ?_); rintro e w21 ⟨rfl, hb⟩; refine ⟨_, rfl, ?_⟩; have n0_ := Aside0.mk (below_step (by repeat (first | (with_reducible first | exact HB.out | apply below_alloc | apply pw_below_drewN | apply below_drew1) | exact HB.out)) hb); clear HB; have HB := n0_; clear n0_; (try clear hb); (try clear hb2); (try clear hk); (try clear hi)) | ((with_reducible refine gate_callee (f := 30) rfl ?_); refine goesL_ (some 32) rfl rfl Try.func30 (by kernel_rfl) rfl #[.int .i64 (Int.tmod a3 256)] rfl (by (try simp only [List.map_toArray, List.map_cons, List.map_nil]); first | done | rfl | (simp only [List.length_drop, List.length_take]; rfl)) ?_; (with_reducible refine (dominoref08_byteOf.calls (Int.tmod a3 256) t198 _ A11.out).mono ?_); rintro e w22 ⟨rfl, hb⟩; refine ⟨_, rfl, ?_⟩; have n0_ := Aside0.mk (below_step (by repeat (first | (with_reducible first | exact HB.out | apply below_alloc | apply pw_below_drewN | apply below_drew1) | exact HB.out)) hb); clear HB; have HB := n0_; clear n0_; (try clear hb); (try clear hb2); (try clear hk); (try clear hi)) | ((with_reducible refine gate_callee (f := 30) rfl ?_); refine goesL_ (some 37) rfl rfl Try.func30 (by kernel_rfl) rfl #[.int .i64 (wrap64 ((a1.size : Int) + 6))] rfl (by (try simp only [List.map_toArray, List.map_cons, List.map_nil]); first | done | rfl | (simp only [List.length_drop, List.length_take]; rfl)) ?_; (with_reducible refine (dominoref08_byteOf.calls (wrap64 ((a1.size : Int) + 6)) t199 _ A13.out).mono ?_); rintro e w23 ⟨rfl, hb⟩; refine ⟨_, rfl, ?_⟩; have n0_ := Aside0.mk (below_step (by repeat (first | (with_reducible first | exact HB.out | apply below_alloc | apply pw_below_drewN | apply below_drew1) | exact HB.out)) hb); clear HB; have HB := n0_; clear n0_; (try clear hb); (try clear hb2); (try clear hk); (try clear hi)) | ((with_reducible refine gate_callee (f := 30) rfl ?_); refine goesL_ (some 44) rfl rfl Try.func30 (by kernel_rfl) rfl #[.int .i64 (a2.size : Int)] rfl (by (try simp only [List.map_toArray, List.map_cons, List.map_nil]); first | done | rfl | (simp only [List.length_drop, List.length_take]; rfl)) ?_; (with_reducible refine (dominoref08_byteOf.calls (a2.size : Int) t200 _ A17.out).mono ?_); rintro e w24 ⟨rfl, hb⟩; refine ⟨_, rfl, ?_⟩; have n0_ := Aside0.mk (below_step (by repeat (first | (with_reducible first | exact HB.out | apply below_alloc | apply pw_below_drewN | apply below_drew1) | exact HB.out)) hb); clear HB; have HB := n0_; clear n0_; (try clear hb); (try clear hb2); (try clear hk); (try clear hi)) | ((with_reducible refine gate_callee (f := 11) rfl ?_); refine goesL_ (some 49) rfl rfl Try.func11 (by kernel_rfl) rfl #[.string a0, .string ((((((t197 ++ t198) ++ t199) ++ (⟨#[116, 108, 115, 49, 51, 32]⟩ : ByteArray)) ++ a1) ++ t200) ++ a2), .int .i64 a3] rfl (by (try simp only [List.map_toArray, List.map_cons, List.map_nil]); first | done | rfl | (simp only [List.length_drop, List.length_take]; rfl)) ?_; (with_reducible refine (dominoref08_Expand.calls kj4 a0 ((((((t197 ++ t198) ++ t199) ++ (⟨#[116, 108, 115, 49, 51, 32]⟩ : ByteArray)) ++ a1) ++ t200) ++ a2) a3 t201 t202 _ A20.out).mono ?_); rintro e w25 ⟨rfl, hb⟩; refine ⟨_, rfl, ?_⟩; have n0_ := Aside0.mk (below_step (by repeat (first | (with_reducible first | exact HB.out | apply below_alloc | apply pw_below_drewN | apply below_drew1) | exact HB.out)) hb); clear HB; have HB := n0_; clear n0_; (try clear hb); (try clear hb2); (try clear hk); (try clear hi)))
          go_ret2
          exact ⟨by first | rfl | (simp [errW_none, errW_some] <;> rfl) | (simp [*, errW_none, errW_some] <;> rfl), by repeat (first | (with_reducible first | exact HB.out | apply below_alloc | apply pw_below_drewN | apply below_drew1) | exact HB.out)⟩
         ·rw [if_neg c19] at H
          exact absurd H (by simp)
        ·rw [if_neg c18] at H
         exact absurd H (by simp)
       ·rw [if_neg c16] at H
        exact absurd H (by simp)
      ·rw [if_neg c15] at H
       exact absurd H (by simp)
     ·rw [if_neg c14] at H
      exact absurd H (by simp)
    ·rw [if_neg c12] at H
     exact absurd H (by simp)

end Go.Proofs.Ytghdmlcmoeoohaa.PKfx
