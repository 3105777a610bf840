-- printed for this claim by a program of the claim (wip/tools/pp.py over the kit's print)
import Derived.Test.YthbnedjcaflofaaDoorPPaxx0
namespace Go.Proofs.YthbnedjcaflofaaDoor.PPax
open Go.RowKit Go.Proofs.YthbnedjcaflofaaDoorW.PrintWords Go.Proofs.YthbnedjcaflofaaDoorW.PrintLast Go.Proofs.YthbnedjcaflofaaDoorW.PrintMore
attribute [local go_sem] max2_int min2_int max_two min_two max_three min_three max_four min_four   -- for this text's walks alone
set_option linter.unusedVariables false
set_option linter.unusedSimpArgs false

attribute [local go_sem] isSome_setCell_
/-! ### varint_Get: function 25 -/
def varint_Get.l0 : Nat → ByteArray → Int → Int → Int → Option (Int × ByteArray × Int)
  | 0, _, _, _, _ => none
  | k + 1, x0, x5, x6, x7 => if x7 < x5 then (if 0 ≤ x7 then (if x7 < (x0.size : Int) then (varint_Get.l0 k x0 x5 (Go.bits .or .u64 (IntKind.u64.wrap (x6 * 256)) (IntKind.u64.wrap (bt x0 x7))) (wrap64 (x7 + 1))) else (none)) else (none)) else (if 0 ≤ x5 then (if x5 ≤ (x0.size : Int) then (some (x6, x0.extract (x5 : Int).toNat x0.size, 0)) else (none)) else (none))
def varint_Get.f (k : Nat) (a0 : ByteArray) : Option (Int × ByteArray × Int) := if a0.toList = ([] : List UInt8) then (some (0, (⟨#[]⟩ : ByteArray), 10)) else (if 0 < (a0.size : Int) then (if 0 ≤ ((bt a0 0) / 64) then (if (a0.size : Int) < (shl .i64 1 ((bt a0 0) / 64)) then (some (0, (⟨#[]⟩ : ByteArray), 10)) else (varint_Get.l0 k a0 (shl .i64 1 ((bt a0 0) / 64)) (IntKind.u64.wrap (Go.bits .and .u8 (bt a0 0) 63)) 1)) else (none)) else (none))
theorem varint_Get.mono_l : ∀ k, (∀ y0 y1 y2 y3, LeO (varint_Get.l0 k y0 y1 y2 y3) (varint_Get.l0 (k + 1) y0 y1 y2 y3))
  | 0 => fun _ _ _ _ r h => by simp [varint_Get.l0] at h
  | k + 1 => by
    have ih0 := varint_Get.mono_l k
    · intro y0 y1 y2 y3
      unfold varint_Get.l0
      repeat' first
      | (with_reducible exact ih0 _ _ _ _)
      | (with_reducible exact LeO.refl _)
      | (with_reducible exact LeO.none _)
      | (with_reducible refine LeO.ite ?_ ?_)
      | (with_reducible refine LeO.bind ?_ (fun _ => ?_))
      | exact ih0 _ _ _ _
      | exact LeO.none _
      | refine LeO.ite ?_ ?_
      | refine LeO.bind ?_ (fun _ => ?_)
theorem varint_Get.mono : ∀ a0 k, LeO (varint_Get.f k a0) (varint_Get.f (k + 1) a0) := by
  intro a0 k
  have ih0 := varint_Get.mono_l k
  unfold varint_Get.f
  repeat' first
      | (with_reducible exact ih0 _ _ _ _)
      | (with_reducible exact LeO.refl _)
      | (with_reducible exact LeO.none _)
      | (with_reducible refine LeO.ite ?_ ?_)
      | (with_reducible refine LeO.bind ?_ (fun _ => ?_))
      | exact ih0 _ _ _ _
      | exact LeO.none _
      | refine LeO.ite ?_ ?_
      | refine LeO.bind ?_ (fun _ => ?_)
set_option maxHeartbeats 8000000 in
set_option maxRecDepth 100000 in
theorem varint_Get.calls (k : Nat) (a0 : ByteArray) (r1 : Int) (r2 : ByteArray) (r3 : Int) (w : World) (h : varint_Get.f k a0 = some (r1, r2, r3)) :
    Calls Tryd.prog 25 #[.string a0] w fun e w' => e = .returned (.tuple #[.int .u64 r1, .string r2, .int .i64 r3]) ∧ Drawn0 w w' := by
  have H : (if a0.toList = ([] : List UInt8) then (some (0, (⟨#[]⟩ : ByteArray), 10)) else (if 0 < (a0.size : Int) then (if 0 ≤ ((bt a0 0) / 64) then (if (a0.size : Int) < (shl .i64 1 ((bt a0 0) / 64)) then (some (0, (⟨#[]⟩ : ByteArray), 10)) else (varint_Get.l0 k a0 (shl .i64 1 ((bt a0 0) / 64)) (IntKind.u64.wrap (Go.bits .and .u8 (bt a0 0) 63)) 1)) else (none)) else (none))) = some (r1, r2, r3) := h
  clear h
  by_cases c2 : a0.toList = ([] : List UInt8)
  · rw [if_pos c2] at H
    have c2b0 : (a0.toList == ([] : List UInt8)) = true := beq_iff_eq.mpr c2
    have c2b1 : (a0.toList != ([] : List UInt8)) = false := bne_eq_false_iff_eq.mpr c2
    clear c2
    simp only [Option.some.injEq, Prod.mk.injEq] at H
    obtain ⟨rfl, rfl, rfl⟩ := H
    go_enter Tryd.func25, Tryd.ntmps25
    go_wp2
    repeat (go_quiet (fail); try go_wp2)
    go_ret3
    exact ⟨by first | rfl | (simp; done) | (simp [*]; done), by repeat (first | exact Drawn0.refl _ | apply Drawn0.step)⟩
  · rw [if_neg c2] at H
    have c2b0 : (a0.toList == ([] : List UInt8)) = false := beq_eq_false_iff_ne.mpr c2
    have c2b1 : (a0.toList != ([] : List UInt8)) = true := bne_iff_ne.mpr c2
    by_cases c3 : 0 < (a0.size : Int)
    · rw [if_pos c3] at H
      have c3b0 : decide (0 < (a0.size : Int)) = true := decide_eq_true c3
      have c3b1 : decide (0 < a0.size) = true := decide_eq_true (by omega)
      clear c3
      obtain ⟨ji5, hji5⟩ : ∃ j_ : Int, ((bt a0 0) / 64) = j_ := ⟨_, rfl⟩
      replace H : (if 0 ≤ (ji5) then (if (a0.size : Int) < (shl .i64 1 (ji5)) then (some (0, (⟨#[]⟩ : ByteArray), 10)) else (varint_Get.l0 k a0 (shl .i64 1 (ji5)) (IntKind.u64.wrap (Go.bits .and .u8 (bt a0 0) 63)) 1)) else (none)) = some (r1, r2, r3) := by first | (rw [hji5] at H; exact H) | (simp only [hji5] at H ⊢; exact H)
      by_cases c6 : 0 ≤ (ji5)
      · rw [if_pos c6] at H
        have c6b0 := eq_true c6
        have c6b1 : decide (0 ≤ (ji5)) = true := decide_eq_true c6
        clear c6
        obtain ⟨ji7, hji7⟩ : ∃ j_ : Int, (shl .i64 1 (ji5)) = j_ := ⟨_, rfl⟩
        replace H : (if (a0.size : Int) < (ji7) then (some (0, (⟨#[]⟩ : ByteArray), 10)) else (varint_Get.l0 k a0 ji7 (IntKind.u64.wrap (Go.bits .and .u8 (bt a0 0) 63)) 1)) = some (r1, r2, r3) := by first | (rw [hji7] at H; exact H) | (simp only [hji7] at H ⊢; exact H)
        have hji7_ : (IntKind.i64.wrap (1 * 2 ^ min (ji5).toNat 64)) = ji7 := hji7
        have hji7z : (ji5) ≤ 64 → (IntKind.i64.wrap (1 * 2 ^ (ji5).toNat)) = ji7 := shl_small hji7
        have hji7u : (IntKind.i64.wrap (2 ^ min (ji5).toNat 64)) = ji7 := by have h_ := hji7_; rw [Int.one_mul] at h_; exact h_
        have hji7v : (ji5) ≤ 64 → (IntKind.i64.wrap (2 ^ (ji5).toNat)) = ji7 := fun hle_ => by have h_ := hji7z hle_; rw [Int.one_mul] at h_; exact h_
        have hji7y : (wrap64 (1 * 2 ^ min (ji5).toNat 64)) = ji7 := (i64_w _).symm.trans hji7_
        have hji7x : (ji5) ≤ 64 → (wrap64 (1 * 2 ^ (ji5).toNat)) = ji7 := fun h_ => (i64_w _).symm.trans (hji7z h_)
        by_cases c8 : (a0.size : Int) < (ji7)
        · rw [if_pos c8] at H
          have c8b0 : decide ((a0.size : Int) < (ji7)) = true := decide_eq_true c8
          clear c8
          simp only [Option.some.injEq, Prod.mk.injEq] at H
          obtain ⟨rfl, rfl, rfl⟩ := H
          have p4 : 0 ≤ (0 : Int) := (by omega)
          have q4 : 0 < a0.size := (by have : (0 : Int) < (a0.size : Int) := of_decide_eq_true (by first | (with_reducible assumption) | assumption); omega)
          have hx4 : ∀ h : 0 < a0.size, ((a0[0]'h).toNat : Int) = bt a0 0 := bt_at a0 0
          clear p4
          have qi4 : (0 < (a0.size : Int)) = True := eq_true (of_decide_eq_true (by first | (with_reducible assumption) | assumption))
          replace q4 := eq_true q4
          go_enter Tryd.func25, Tryd.ntmps25
          go_wp2
          repeat (go_quiet (fail); try go_wp2)
          go_ret3
          exact ⟨by first | rfl | (simp; done) | (simp only [← hji5, ← hji7] <;> (first | rfl | simp)) | (simp [*]; done), by repeat (first | exact Drawn0.refl _ | apply Drawn0.step)⟩
        · rw [if_neg c8] at H
          have c8b0 : decide ((a0.size : Int) < (ji7)) = false := decide_eq_false c8
          clear c8
          have H' := Aside0.mk H
          clear H
          have p4 : 0 ≤ (0 : Int) := (by omega)
          have q4 : 0 < a0.size := (by have : (0 : Int) < (a0.size : Int) := of_decide_eq_true (by first | (with_reducible assumption) | assumption); omega)
          have hx4 : ∀ h : 0 < a0.size, ((a0[0]'h).toNat : Int) = bt a0 0 := bt_at a0 0
          clear p4
          have qi4 : (0 < (a0.size : Int)) = True := eq_true (of_decide_eq_true (by first | (with_reducible assumption) | assumption))
          replace q4 := eq_true q4
          have p9 : 0 ≤ (0 : Int) := (by omega)
          have q9 : 0 < a0.size := (by have : (0 : Int) < (a0.size : Int) := of_decide_eq_true (by first | (with_reducible assumption) | assumption); omega)
          have hx9 : ∀ h : 0 < a0.size, ((a0[0]'h).toNat : Int) = bt a0 0 := bt_at a0 0
          clear p9
          have qi9 : (0 < (a0.size : Int)) = True := eq_true (of_decide_eq_true (by first | (with_reducible assumption) | assumption))
          replace q9 := eq_true q9
          go_enter Tryd.func25, Tryd.ntmps25
          go_wp2
          repeat (go_quiet (fail); try go_wp2)
          go_loopg [6, 7] k (fun kq v6 v7 w' => ∃ (x6_1 : Int) (x7_1 : Int), v6 = .int .u64 x6_1 ∧ v7 = .int .i64 x7_1 ∧ Aside0 (varint_Get.l0 kq a0 ji7 x6_1 x7_1 = some (r1, r2, r3)) ∧ Aside0 (kq ≤ k) ∧ Drawn0 w w')
          case atStart => exact ⟨(IntKind.u64.wrap (Go.bits .and .u8 (bt a0 0) 63)), (1), (by first | rfl | (simp; done) | (simp [*]; done)), (by first | rfl | (simp; done) | (simp [*]; done)), H', ⟨Nat.le_refl _⟩, by repeat (first | exact Drawn0.refl _ | apply Drawn0.step)⟩
          case round =>
            clear H'
            try clear c2
            try clear c2b0
            try clear c2b1
            try clear p2
            try clear c3
            try clear c3b0
            try clear c3b1
            try clear p4
            try clear q4
            try clear hx4
            try clear qi4
            try clear c6
            try clear c6b0
            try clear c6b1
            try clear p6
            try clear c8
            try clear c8b0
            try clear p9
            try clear q9
            try clear hx9
            try clear qi9
            try clear p4
            try clear p9
            try clear q4
            try clear q9
            obtain ⟨x6_1, x7_1, rfl, rfl, HA, HK1, ⟨m1, rfl⟩⟩ := hrel
            cases gk with
            | zero => exact absurd HA.out (by simp [varint_Get.l0])
            | succ k1 =>
              have H := HA.out
              clear HA
              simp only [varint_Get.l0] at H
              by_cases c10 : x7_1 < ji7
              · rw [if_pos c10] at H
                have c10b0 : decide (x7_1 < ji7) = true := decide_eq_true c10
                clear c10
                by_cases c11 : 0 ≤ x7_1
                · rw [if_pos c11] at H
                  have c11b0 : decide (0 ≤ x7_1) = true := decide_eq_true c11
                  clear c11
                  by_cases c12 : x7_1 < (a0.size : Int)
                  · rw [if_pos c12] at H
                    have c12b0 : decide (x7_1 < (a0.size : Int)) = true := decide_eq_true c12
                    clear c12
                    have H' := Aside0.mk H
                    clear H
                    have p13 : 0 ≤ (x7_1 : Int) := of_decide_eq_true (by first | (with_reducible assumption) | assumption)
                    have q13 : x7_1 < (a0.size : Int) := of_decide_eq_true (by first | (with_reducible assumption) | assumption)
                    have hx13 := bt_at a0 x7_1
                    replace p13 := eq_true p13
                    replace q13 := eq_true q13
                    go_wp2
                    repeat (go_quiet (fail); try go_wp2)
                    go_roundg k1
                    case measure => have := HK1.out; omega
                    case rel => exact ⟨(Go.bits .or .u64 (IntKind.u64.wrap (x6_1 * 256)) (IntKind.u64.wrap (bt a0 x7_1))), (wrap64 (x7_1 + 1)), (by first | rfl | (simp; done) | (simp [*]; done)), (by first | rfl | (simp; done) | (simp [*]; done)), H', ⟨by have := HK1.out; omega⟩, by repeat (first | exact Drawn0.refl _ | apply Drawn0.step)⟩
                  · rw [if_neg c12] at H
                    exact absurd H (by simp)
                · rw [if_neg c11] at H
                  exact absurd H (by simp)
              · rw [if_neg c10] at H
                have c10b0 : decide (x7_1 < ji7) = false := decide_eq_false c10
                clear c10
                by_cases c14 : 0 ≤ ji7
                · rw [if_pos c14] at H
                  have c14b0 := eq_true c14
                  have c14b1 : decide (0 ≤ ji7) = true := decide_eq_true c14
                  clear c14
                  by_cases c15 : ji7 ≤ (a0.size : Int)
                  · rw [if_pos c15] at H
                    have c15b0 := eq_true c15
                    have c15b1 : decide (ji7 ≤ (a0.size : Int)) = true := decide_eq_true c15
                    clear c15
                    simp only [Option.some.injEq, Prod.mk.injEq] at H
                    obtain ⟨rfl, rfl, rfl⟩ := H
                    go_wp2
                    repeat (go_quiet (fail); try go_wp2)
                    go_ret3
                    exact ⟨by first | rfl | (simp; done) | (simp only [← hji5, ← hji7] <;> (first | rfl | simp)) | (simp [*]; done), by repeat (first | exact Drawn0.refl _ | apply Drawn0.step)⟩
                  · rw [if_neg c15] at H
                    exact absurd H (by simp)
                · rw [if_neg c14] at H
                  exact absurd H (by simp)
      · rw [if_neg c6] at H
        exact absurd H (by simp)
    · rw [if_neg c3] at H
      exact absurd H (by simp)

/-! ### varint_Gets: function 36 -/
def varint_Gets.l0 : Nat → Int → List Int → ByteArray → Option (List Int × ByteArray × Int)
  | 0, _, _, _ => none
  | k + 1, x1, x4, x5 => if x1 > 0 then ((varint_Get.f k x5).bind fun bt102 => (if bt102.2.2 = 0 then (if x4.length < 17592186044416 then (varint_Gets.l0 k (wrap64 (x1 - 1)) (x4 ++ [bt102.1]) bt102.2.1) else (none)) else (some (([] : List Int), (⟨#[]⟩ : ByteArray), bt102.2.2)))) else (some (x4, x5, 0))
def varint_Gets.f (k : Nat) (a0 : ByteArray) (a1 : Int) : Option (List Int × ByteArray × Int) := varint_Gets.l0 k a1 ([] : List Int) a0
theorem varint_Gets.mono_l : ∀ k, (∀ y0 y1 y2, LeO (varint_Gets.l0 k y0 y1 y2) (varint_Gets.l0 (k + 1) y0 y1 y2))
  | 0 => fun _ _ _ r h => by simp [varint_Gets.l0] at h
  | k + 1 => by
    have ih0 := varint_Gets.mono_l k
    · intro y0 y1 y2
      unfold varint_Gets.l0
      repeat' first
      | (with_reducible exact ih0 _ _ _)
      | (with_reducible exact varint_Get.mono _ _)
      | (with_reducible exact LeO.refl _)
      | (with_reducible exact LeO.none _)
      | (with_reducible refine LeO.ite ?_ ?_)
      | (with_reducible refine LeO.bind ?_ (fun _ => ?_))
      | exact ih0 _ _ _
      | exact varint_Get.mono _ _
      | exact LeO.none _
      | refine LeO.ite ?_ ?_
      | refine LeO.bind ?_ (fun _ => ?_)
theorem varint_Gets.mono : ∀ a0 a1 k, LeO (varint_Gets.f k a0 a1) (varint_Gets.f (k + 1) a0 a1) := by
  intro a0 a1 k
  have ih0 := varint_Gets.mono_l k
  unfold varint_Gets.f
  repeat' first
      | (with_reducible exact ih0 _ _ _)
      | (with_reducible exact varint_Get.mono _ _)
      | (with_reducible exact LeO.refl _)
      | (with_reducible exact LeO.none _)
      | (with_reducible refine LeO.ite ?_ ?_)
      | (with_reducible refine LeO.bind ?_ (fun _ => ?_))
      | exact ih0 _ _ _
      | exact varint_Get.mono _ _
      | exact LeO.none _
      | refine LeO.ite ?_ ?_
      | refine LeO.bind ?_ (fun _ => ?_)
set_option maxHeartbeats 8000000 in
set_option maxRecDepth 100000 in
theorem varint_Gets.calls (k : Nat) (a0 : ByteArray) (a1 : Int) (r1 : List Int) (r2 : ByteArray) (r3 : Int) (w : World) (h : varint_Gets.f k a0 a1 = some (r1, r2, r3)) :
    Calls Tryd.prog 36 #[.string a0, .int .i64 a1] w fun e w' => ∃ v0_ : Value, e = .returned (.tuple #[v0_, .string r2, .int .i64 r3]) ∧ Kd.R (Kd.int .u64) 22 w' w.heap.size (fun _ => True) v0_ r1 ∧ Below w.heap.size w w' := by
  have HB := Aside0.mk (Below.refl w.heap.size w)
  have H : (varint_Gets.l0 k a1 ([] : List Int) a0) = some (r1, r2, r3) := h
  clear h
  have H' := Aside0.mk H
  clear H
  go_enter Tryd.func36, Tryd.ntmps36
  go_wp2
  go_loopg [1, 4, 5] k (fun kq v1 v4 v5 w' => ∃ (x1_1 : Int) (x4_1 : List Int) (x5_1 : ByteArray), v1 = .int .i64 x1_1 ∧ v5 = .string x5_1 ∧ Aside0 (varint_Gets.l0 kq x1_1 x4_1 x5_1 = some (r1, r2, r3)) ∧ Aside0 (kq ≤ k) ∧ Aside0 (Kd.R (Kd.int .u64) 22 w' w.heap.size (fun _ => True) v4 x4_1) ∧ Aside0 (Below w.heap.size w w'))
  case atStart => exact ⟨(a1), (([] : List Int)), (a0), (by first | rfl | (simp; done) | (simp [*]; done)), (by first | rfl | (simp; done) | (simp [*]; done)), H', ⟨Nat.le_refl _⟩, ⟨by first | exact Kd.R_nil _ _ _ _ _ | exact Kd.N_nil _ _ _ _ _ | exact Kd.V_nil _ _ _ _ _ | exact Kd.Q_nil _ _ _ _ _ | exact Kd.S_nil _ _ _ _ _⟩, ⟨by repeat (first | (with_reducible first | exact HB.out | apply below_alloc | apply pw_below_drewN | apply below_drew1) | exact HB.out)⟩⟩
  case round =>
    clear H'
    try clear p2
    obtain ⟨x1_1, x4_1, x5_1, rfl, rfl, HA, HK1, HO_4, HB⟩ := hrel
    cases gk with
    | zero => exact absurd HA.out (by simp [varint_Gets.l0])
    | succ k1 =>
      have H := HA.out
      clear HA
      simp only [varint_Gets.l0] at H
      by_cases c3 : x1_1 > 0
      · rw [if_pos c3] at H
        have c3b0 : decide (0 < x1_1) = true := decide_eq_true c3
        clear c3
        replace H := Option.bind_eq_some_iff.mp H
        obtain ⟨⟨t102, t103, t104⟩, A40, H⟩ := H
        replace H : (if t104 = 0 then (if x4_1.length < 17592186044416 then (varint_Gets.l0 k1 (wrap64 (x1_1 - 1)) (x4_1 ++ [t102]) t103) else (none)) else (some (([] : List Int), (⟨#[]⟩ : ByteArray), t104))) = some (r1, r2, r3) := H
        have A4 := Aside0.mk A40
        clear A40
        by_cases c5 : t104 = 0
        · rw [if_pos c5] at H
          have c5b0 : (t104 == 0) = true := beq_iff_eq.mpr c5
          have c5b1 : (t104 != 0) = false := bne_eq_false_iff_eq.mpr c5
          clear c5
          by_cases c6 : x4_1.length < 17592186044416
          · rw [if_pos c6] at H
            have LMc6 := Aside0.mk c6
            clear c6
            obtain ⟨y105, hy105⟩ : ∃ y_ : List Int, y_ = (x4_1 ++ [t102]) := ⟨_, rfl⟩
            replace H : (varint_Gets.l0 k1 (wrap64 (x1_1 - 1)) y105 t103) = some (r1, r2, r3) := by first | (rw [hy105]; with_reducible exact H) | (have H2_ := (Option.bind_some _ _).symm.trans H; rw [hy105]; with_reducible exact H2_) | (have H2_ := (Option.bind_some _ _).symm.trans H; with_reducible exact H2_) | with_reducible exact H | (rw [hy105]; exact H) | exact H
            have Ny105 := Aside0.mk hy105
            clear hy105
            have H' := Aside0.mk H
            clear H
            go_wp2_with (first | ((with_reducible refine gate_callee (f := 25) rfl ?_); refine goesL_ (some 15) rfl rfl Tryd.func25 (by kernel_rfl) rfl #[.string x5_1] rfl (by (try simp only [List.map_toArray, List.map_cons, List.map_nil]); first | done | rfl | (simp only [List.length_drop, List.length_take]; rfl)) ?_; (with_reducible refine (varint_Get.calls k1 x5_1 t102 t103 t104 _ A4.out).mono ?_); rintro e w' ⟨rfl, ⟨nd, rfl⟩⟩; refine ⟨_, rfl, ?_⟩) | ((with_reducible refine gate_builtin (b := .append) (xs := #[.tmp 22, .tmp 24]) rfl ?_); at_builtin; refine Kd.R_append (Kd.int .u64) (w0 := w) w.heap.size rfl (.tmp 22) (.tmp 24) 68 22 (.int .u64 0) 8 rfl Tryd.underlying68 info22 rfl (by decide) (by omega) u4 x4_1 t102 [.int .u64 t102] (fun _ => True) (fun _ => False) rfl rfl ?aP (fun _ hk => hk.elim) ?aF ?aO ?aB ?aS ?aL ?_; (case aP => exact rfl); (case aB => exact (by repeat (first | (with_reducible first | exact HB.out | apply below_alloc | apply pw_below_drewN | apply below_drew1) | exact HB.out))); (case aF => exact (fun _ _ => trivial)); (case aO => exact (by (with_reducible repeat (first | apply Kd.R_alloc | apply Kd.R_drewN | apply Kd.R_drew)); exact HO_4.out)); (case aS => exact (below_size (by repeat (first | (with_reducible first | exact HB.out | apply below_alloc | apply pw_below_drewN | apply below_drew1) | exact HB.out)))); (case aL => have := LMc6.out; omega); intro v106 w7 ho hb hg hat; rw [← Ny105.out] at ho; have n0_ := Aside0.mk (hb); have n1_ := Aside0.mk (ho); clear HB; clear HO_4; have HB := n0_; have HO107 := n1_; clear n0_ n1_; clear ho hb hg hat))
            go_roundg k1
            case measure => have := HK1.out; omega
            case rel => exact ⟨(wrap64 (x1_1 - 1)), (y105), (t103), (by first | rfl | (simp; done) | (simp [*]; done)), (by first | rfl | (simp; done) | (simp [*]; done)), H', ⟨by have := HK1.out; omega⟩, ⟨by (with_reducible repeat (first | apply Kd.R_alloc | apply Kd.R_drewN | apply Kd.R_drew)); exact HO107.out⟩, ⟨by repeat (first | (with_reducible first | exact HB.out | apply below_alloc | apply pw_below_drewN | apply below_drew1) | exact HB.out)⟩⟩
          · rw [if_neg c6] at H
            exact absurd H (by simp)
        · rw [if_neg c5] at H
          have c5b0 : (t104 == 0) = false := beq_eq_false_iff_ne.mpr c5
          have c5b1 : (t104 != 0) = true := bne_iff_ne.mpr c5
          simp only [Option.some.injEq, Prod.mk.injEq] at H
          obtain ⟨rfl, rfl, rfl⟩ := H
          go_wp2_with (first | ((with_reducible refine gate_callee (f := 25) rfl ?_); refine goesL_ (some 15) rfl rfl Tryd.func25 (by kernel_rfl) rfl #[.string x5_1] rfl (by (try simp only [List.map_toArray, List.map_cons, List.map_nil]); first | done | rfl | (simp only [List.length_drop, List.length_take]; rfl)) ?_; (with_reducible refine (varint_Get.calls k1 x5_1 t102 t103 t104 _ A4.out).mono ?_); rintro e w' ⟨rfl, ⟨nd, rfl⟩⟩; refine ⟨_, rfl, ?_⟩))
          go_ret3
          exact ⟨_, by first | rfl | (simp [errW_none, errW_some] <;> rfl) | (simp [*, errW_none, errW_some] <;> rfl), by first | exact Kd.R_nil _ _ _ _ _ | exact Kd.N_nil _ _ _ _ _ | exact Kd.V_nil _ _ _ _ _ | exact Kd.Q_nil _ _ _ _ _ | exact Kd.S_nil _ _ _ _ _, by repeat (first | (with_reducible first | exact HB.out | apply below_alloc | apply pw_below_drewN | apply below_drew1) | exact HB.out)⟩
      · rw [if_neg c3] at H
        have c3b0 : decide (0 < x1_1) = false := decide_eq_false c3
        clear c3
        simp only [Option.some.injEq, Prod.mk.injEq] at H
        obtain ⟨rfl, rfl, rfl⟩ := H
        go_wp2
        go_ret3
        exact ⟨_, by first | rfl | (simp [errW_none, errW_some] <;> rfl) | (simp [*, errW_none, errW_some] <;> rfl), by (with_reducible repeat (first | apply Kd.R_alloc | apply Kd.R_drewN | apply Kd.R_drew)); exact HO_4.out, by repeat (first | (with_reducible first | exact HB.out | apply below_alloc | apply pw_below_drewN | apply below_drew1) | exact HB.out)⟩

-- NOT PRINTED: function 35 (params_pairs_1)

-- NOT PRINTED: function 24 (params_pairs)

/-- What holds of a list and a world, whatever the iterator does: it turns its own box bs, and what lies from B on. -/
def Abi {α : Type} (bs B : Nat) (I : List α → World → Prop) : Prop :=
  ∀ s X Y, I s X → (∀ k, k < B → k ≠ bs → Y.heap[k]? = X.heap[k]?) → X.heap.size ≤ Y.heap.size → Y.os = X.os → Y.tape = X.tape → Y.output = X.output → I s Y
/-- What pairs tells of a text: numbers, and their bytes; the last one is none, if bytes lack. -/
def prsL : Nat → ByteArray → Option (List (Int × Option ByteArray))
 | 0, _ => none
 | k + 1, s => if s.toList = ([] : List UInt8) then some [] else (varint_Gets.f k s 2).bind fun g => (if g.2.2 = 0 then (if 1 < (g.1.length : Int) then (if 0 ≤ rd g.1 1 ∧ (g.2.1.size : Int) ≤ 9223372036854775807 then (if rd g.1 1 > (g.2.1.size : Int) then some [(0, none)] else (prsL k (g.2.1.extract (rd g.1 1).toNat g.2.1.size)).bind fun t => some ((rd g.1 0, some (g.2.1.extract 0 (rd g.1 1).toNat)) :: t)) else none) else none) else some [(0, none)])
/-- What is handed over beside the number: nothing, or a box from B on that holds the text. -/
def PtrOf (B : Nat) (x : Int × Option ByteArray) (v : Array Value) (W : World) : Prop :=
  ∃ p, v = #[.int .u64 x.1, p] ∧ match x.2 with
    | none => p = .pointer none
    | some s => ∃ b, p = .pointer (some ⟨b, 0, none⟩) ∧ B ≤ b ∧ W.heap[b]? = some (.cells #[.string s] 9 (0, 0))
theorem two_at {w : World} {base : Nat} {ok : Nat → Prop} {ad : Addr} {c : Nat} {l : List Int} (h : Kd.R (Kd.int .u64) 22 w base ok (.slice (some ad) l.length c) l) (h2 : 1 < (l.length : Int)) :
    w.cell? ad = some (.int .u64 (rd l 0)) ∧ w.cell? ⟨ad.block, ad.off + 1, none⟩ = some (.int .u64 (rd l 1)) := by
  obtain ⟨ad0, e0, hx0⟩ := Kd.at_int (Kd.R_reads' h).2.2 0 (by omega) (by omega)
  obtain ⟨ad1, e1, hx1⟩ := Kd.at_int (Kd.R_reads' h).2.2 1 (by omega) h2
  cases e0
  cases e1
  (try simp only [show (1 : Int).toNat = 1 from rfl, Nat.reduceMul, Nat.reduceEqDiff, Go.Addr.add, ↓reduceIte] at hx1)
  (try simp only [show (0 : Int).toNat = 0 from rfl, Nat.reduceMul, Nat.reduceEqDiff, Nat.add_zero, Go.Addr.add, ↓reduceIte] at hx0)
  exact ⟨hx0, hx1⟩
theorem u64_size {s : ByteArray} (h : (s.size : Int) ≤ 9223372036854775807) : IntKind.u64.wrap (s.size : Int) = (s.size : Int) := by
  show (s.size : Int) % 18446744073709551616 = _
  omega
set_option maxRecDepth 100000 in
set_option maxHeartbeats 8000000 in
theorem pairs1_in (k n : Nat) (hn : 2 ≤ n) (l bs B : Nat) (s : ByteArray) (xs : List (Int × Option ByteArray)) (hx : prsL k s = some xs) (J Jx : List (Int × Option ByteArray) → World → Prop) (W : World) (hbs : bs < B) (hB : B ≤ W.heap.size) (hJ : Abi bs B J)
    (hbox : W.heap[bs]? = some (.cells #[.string s] 9 (0, 0)))
    (hY : ∀ pre x v W1, J pre W1 → pre ++ [x] <+: xs → PtrOf B x v W1 → YieldAt Fence.wide (n - 1) Tryd.prog l v W1 fun e W' => (e = .returned (.bool true) ∧ J (pre ++ [x]) W' ∧ W'.heap[bs]? = W1.heap[bs]? ∧ W1.heap.size ≤ W'.heap.size) ∨ (e = .returned (.bool false) ∧ Jx (pre ++ [x]) W'))
    (h0 : J [] W) : CallsIn Fence.wide n Tryd.prog 35 #[.func (.yield l) #[] #[], .pointer (some ⟨bs, 0, none⟩)] W fun e W' => (∃ v, e = .returned v) ∧ (J xs W' ∨ ∃ pre, pre <+: xs ∧ Jx pre W') := by
  have h1n : 1 ≤ n := by omega
  have hro : Fence.wide.round = none := rfl
  have HBX := Aside0.mk hbox
  have HX := Aside0.mk hx
  have HJ0 := Aside0.mk h0
  have HYY := Aside0.mk hY
  have HAB := Aside0.mk hJ
  have HSZ := Aside0.mk hB
  clear hbox hx h0 hY hJ hB
  refine callsIn_of_wp Tryd.func35 rfl trivial ?_ hro
  simp only [Tryd.ntmps35, List.size_toArray, List.length_cons, List.length_nil, Nat.reduceAdd, Nat.reduceSub, Array.replicate_succ, Array.replicate_zero, List.push_toArray, List.append_toArray, List.nil_append, List.cons_append]
  gi_wp2
  gi_loopg [] k (fun kq wr => ∃ (s' : ByteArray) (pre rest : List (Int × Option ByteArray)), Aside0 (wr.heap[bs]? = some (.cells #[.string s'] 9 (0, 0))) ∧ Aside0 (prsL kq s' = some rest) ∧ Aside0 (xs = pre ++ rest) ∧ Aside0 (J pre wr) ∧ Aside0 (B ≤ wr.heap.size))
  case atStart => exact ⟨s, [], xs, HBX, HX, ⟨rfl⟩, HJ0, HSZ⟩
  case round =>
    obtain ⟨s', pre, rest, BX, HP, HE, HJ, HZ⟩ := hrel
    cases gk with
    | zero => exact absurd HP.out (by simp [prsL])
    | succ k1 =>
      have H := HP.out
      clear HP
      simp only [prsL] at H
      have hc0 : wr.cell? ⟨bs, 0, none⟩ = some (.string s') := (blk_cell BX.out 0).trans rfl
      have hf0 := blk_frozen BX.out 0
      by_cases c1 : s'.toList = ([] : List UInt8)
      · rw [if_pos c1] at H
        have c1b0 : (s'.toList == ([] : List UInt8)) = true := beq_iff_eq.mpr c1
        have c1b1 : (s'.toList != ([] : List UInt8)) = false := bne_eq_false_iff_eq.mpr c1
        clear c1
        obtain rfl := Option.some.inj H
        gi_wp2
        go_end0
        exact ⟨⟨_, rfl⟩, .inl (by rw [HE.out, List.append_nil]; exact HJ.out)⟩
      · rw [if_neg c1] at H
        have c1b0 : (s'.toList == ([] : List UInt8)) = false := beq_eq_false_iff_ne.mpr c1
        have c1b1 : (s'.toList != ([] : List UInt8)) = true := bne_iff_ne.mpr c1
        clear c1
        replace H := Option.bind_eq_some_iff.mp H
        obtain ⟨⟨t1, t2, t3⟩, A20, H⟩ := H
        have A2 := Aside0.mk A20
        clear A20
        replace H : (if t3 = 0 then (if 1 < (t1.length : Int) then (if 0 ≤ rd t1 1 ∧ (t2.size : Int) ≤ 9223372036854775807 then (if rd t1 1 > (t2.size : Int) then some [(0, none)] else (prsL k1 (t2.extract (rd t1 1).toNat t2.size)).bind fun t => some ((rd t1 0, some (t2.extract 0 (rd t1 1).toNat)) :: t)) else none) else none) else some [(0, none)]) = some rest := H
        have HH := Aside0.mk H
        clear H
        gi_wp2
        refine ⟨trivial, ?_⟩
        refine (callsIn_wide.2 (varint_Gets.calls k1 s' 2 t1 t2 t3 _ A2.out)).mono ?_
        rintro e w1 ⟨v1, rfl, hR, hb⟩
        have hz1 := hb.size
        have hj1 : J pre w1 := HAB.out pre wr w1 HJ.out (fun k hk _ => hb.block k (by have := HZ.out; omega)) hz1 hb.os hb.tape hb.output
        have BX1 := Aside0.mk ((hb.block bs (by have := HZ.out; omega)).trans BX.out)
        have HJ1 := Aside0.mk hj1
        have HZ1 := Aside0.mk (Nat.le_trans HZ.out hz1)
        have HR := Aside0.mk hR
        clear hb hz1 hj1 hR BX HJ HZ hc0 hf0
        by_cases c5 : t3 = 0
        · have H := HH.out
          rw [if_pos c5] at H
          have c5b0 : (t3 == 0) = true := beq_iff_eq.mpr c5
          have c5b1 : (t3 != 0) = false := bne_eq_false_iff_eq.mpr c5
          clear c5 HH
          by_cases c6 : 1 < (t1.length : Int)
          · rw [if_pos c6] at H
            by_cases c7 : 0 ≤ rd t1 1 ∧ (t2.size : Int) ≤ 9223372036854775807
            · rw [if_pos c7] at H
              obtain ⟨Ao, co, eo⟩ := Kd.R_slice HR.out
              subst eo
              obtain ⟨ad0, e0, -⟩ := Kd.at_int (Kd.R_reads' HR.out).2.2 0 (Int.le_refl _) (by omega)
              cases e0
              obtain ⟨hx0, hx1⟩ := two_at HR.out c6
              have q0 : 0 < (t1.length : Int) := by omega
              have qi0 : (0 < t1.length) = True := eq_true (by omega)
              have qi1 : (1 < t1.length) = True := eq_true (by omega)
              have l0_ := eq_true q0
              have l1_ := eq_true c6
              have C6 := Aside0.mk c6
              clear q0 c6
              by_cases c8 : rd t1 1 > (t2.size : Int)
              · rw [if_pos c8] at H
                have c8b0 : decide (IntKind.u64.wrap (t2.size : Int) < rd t1 1) = true := decide_eq_true (by rw [u64_size c7.2]; exact c8)
                clear c7
                obtain rfl := Option.some.inj H
                obtain ⟨fn, tmps, assign, body, hy, hRd⟩ := HYY.out pre (0, none) #[.int .u64 0, .pointer none] w1 HJ1.out ⟨[], by rw [HE.out, List.append_nil]⟩ ⟨_, rfl, rfl⟩
                have HRD := Aside0.mk hRd
                clear hRd c8
                gi_wp2
                refine HRD.out.mono ?_
                rintro e W3 (⟨rfl, hJ3, -, -⟩ | ⟨rfl, hJx3⟩)
                · have HJ3 := Aside0.mk hJ3
                  clear hJ3
                  gi_wp2
                  refine bodyPost_ret (results_none rfl _ _ _) rfl ?_
                  exact ⟨⟨_, rfl⟩, .inl (by rw [HE.out]; exact HJ3.out)⟩
                · have HJ3 := Aside0.mk hJx3
                  clear hJx3
                  gi_wp2
                  refine bodyPost_ret (results_none rfl _ _ _) rfl ?_
                  exact ⟨⟨_, rfl⟩, .inr ⟨_, ⟨[], by rw [HE.out, List.append_nil]⟩, HJ3.out⟩⟩
              · rw [if_neg c8] at H
                have c8b0 : decide (IntKind.u64.wrap (t2.size : Int) < rd t1 1) = false := decide_eq_false (by rw [u64_size c7.2]; exact c8)
                have c7b0 := eq_true c7.1
                have c8b1 : (rd t1 1 ≤ (t2.size : Int)) = True := eq_true (by omega)
                have c8b2 : ((t2.size : Int) < rd t1 1) = False := eq_false c8
                have c7b1 : (rd t1 1 < 0) = False := eq_false (by omega)
                have c8b3 : ((rd t1 1).toNat ≤ t2.size) = True := eq_true (by omega)
                have c8b4 : (t2.size < (rd t1 1).toNat) = False := eq_false (by omega)
                clear c7 c8
                replace H := Option.bind_eq_some_iff.mp H
                obtain ⟨rest', A30, H⟩ := H
                have A3 := Aside0.mk A30
                obtain rfl := Option.some.inj H
                clear A30 H
                have hR1 := Kd.R_alloc HR.out (.cells #[.string (t2.extract 0 (rd t1 1).toNat)] 9)
                have hbs1 : (w1.alloc (.cells #[.string (t2.extract 0 (rd t1 1).toNat)] 9)).heap[bs]? = some (.cells #[.string s'] 9 (0, 0)) := (Below.heap_alloc _ _ _ (by have := HZ1.out; omega)).trans BX1.out
                have hR2 := Kd.R_set hR1 hbs1 (by decide) 0 (.string (t2.extract (rd t1 1).toNat t2.size))
                obtain ⟨hy0, hy1⟩ := two_at hR1 C6.out
                obtain ⟨hz0, hz1⟩ := two_at hR2 C6.out
                have hcb := (blk_cell hbs1 0).trans rfl
                have hfb := blk_frozen hbs1 0
                have h4 : J pre ((w1.alloc (.cells #[.string (t2.extract 0 (rd t1 1).toNat)] 9)).setCell ⟨bs, 0, none⟩ (.string (t2.extract (rd t1 1).toNat t2.size))) :=
                  HAB.out pre w1 _ HJ1.out (fun k hk hne => (Below.heap_setCell _ _ _ _ hne).trans (Below.heap_alloc _ _ _ (by have := HZ1.out; omega))) (by simp [World.setCell]) rfl rfl rfl
                have hp4 : PtrOf B (rd t1 0, some (t2.extract 0 (rd t1 1).toNat)) #[.int .u64 (rd t1 0), .pointer (some ⟨w1.heap.size, 0, none⟩)] ((w1.alloc (.cells #[.string (t2.extract 0 (rd t1 1).toNat)] 9)).setCell ⟨bs, 0, none⟩ (.string (t2.extract (rd t1 1).toNat t2.size))) :=
                  ⟨_, rfl, _, rfl, HZ1.out, (Below.heap_setCell _ _ _ _ (by have := HZ1.out; show w1.heap.size ≠ bs; omega)).trans (World.alloc_heap_new w1 _)⟩
                have HBS2 := Aside0.mk (blk_put (cs' := #[.string (t2.extract (rd t1 1).toNat t2.size)]) hbs1 0 (.string (t2.extract (rd t1 1).toNat t2.size)) rfl)
                have HZ2 : Aside0 (B ≤ ((w1.alloc (.cells #[.string (t2.extract 0 (rd t1 1).toNat)] 9)).setCell ⟨bs, 0, none⟩ (.string (t2.extract (rd t1 1).toNat t2.size))).heap.size) := ⟨by have := HZ1.out; simp [World.setCell]; omega⟩
                obtain ⟨fn, tmps, assign, body, hy, hRd⟩ := HYY.out pre _ _ _ h4 (by rw [HE.out]; exact ⟨rest', by simp⟩) hp4
                have HRD := Aside0.mk hRd
                clear hRd hR1 hR2 hbs1 h4 hp4
                gi_wp2
                refine HRD.out.mono ?_
                rintro e W3 (⟨rfl, hJ3, hb3, hz3⟩ | ⟨rfl, hJx3⟩)
                · have HJ3 := Aside0.mk hJ3
                  have HB3 := Aside0.mk (hb3.trans HBS2.out)
                  have HZ3 := Aside0.mk (Nat.le_trans HZ2.out hz3)
                  clear hJ3 hb3 hz3
                  gi_wp2
                  gi_roundg k1
                  case measure => omega
                  case rel => exact ⟨_, _, rest', HB3, A3, ⟨by rw [HE.out]; simp⟩, HJ3, HZ3⟩
                · have HJ3 := Aside0.mk hJx3
                  clear hJx3
                  gi_wp2
                  refine bodyPost_ret (results_none rfl _ _ _) rfl ?_
                  exact ⟨⟨_, rfl⟩, .inr ⟨_, by rw [HE.out]; exact ⟨rest', by simp⟩, HJ3.out⟩⟩
            · rw [if_neg c7] at H
              exact absurd H (by simp)
          · rw [if_neg c6] at H
            exact absurd H (by simp)
        · have H := HH.out
          rw [if_neg c5] at H
          have c5b0 : (t3 == 0) = false := beq_eq_false_iff_ne.mpr c5
          have c5b1 : (t3 != 0) = true := bne_iff_ne.mpr c5
          obtain rfl := Option.some.inj H
          clear c5 HH
          obtain ⟨fn, tmps, assign, body, hy, hRd⟩ := HYY.out pre (0, none) #[.int .u64 0, .pointer none] w1 HJ1.out ⟨[], by rw [HE.out, List.append_nil]⟩ ⟨_, rfl, rfl⟩
          have HRD := Aside0.mk hRd
          clear hRd
          gi_wp2
          refine HRD.out.mono ?_
          rintro e W3 (⟨rfl, hJ3, -, -⟩ | ⟨rfl, hJx3⟩)
          · have HJ3 := Aside0.mk hJ3
            clear hJ3
            gi_wp2
            refine bodyPost_ret (results_none rfl _ _ _) rfl ?_
            exact ⟨⟨_, rfl⟩, .inl (by rw [HE.out]; exact HJ3.out)⟩
          · have HJ3 := Aside0.mk hJx3
            clear hJx3
            gi_wp2
            refine bodyPost_ret (results_none rfl _ _ _) rfl ?_
            exact ⟨⟨_, rfl⟩, .inr ⟨_, ⟨[], by rw [HE.out, List.append_nil]⟩, HJ3.out⟩⟩

section
variable {F : Fence} {n : Nat} {P : Program}
theorem Abi.put {α : Type} {bs B : Nat} {I : List α → World → Prop} (h : Abi bs B I) {s : List α} {W : World} {l : Nat} (o' : Obj) (hs : I s W) (hB : B ≤ l) : I s (W.putObj l o') :=
  h s W _ hs (fun k hk _ => World.putObj_heap_other (by omega)) (by rw [World.putObj_size]; exact Nat.le_refl _) rfl rfl rfl
theorem Abi.new {α : Type} {bs B : Nat} {I : List α → World → Prop} (h : Abi bs B I) {s : List α} {W : World} (o : Obj) (hs : I s W) (hB : B ≤ W.heap.size) : I s (W.alloc o) :=
  h s W _ hs (fun k hk _ => Below.heap_alloc _ _ _ (by omega)) (by simp) rfl rfl rfl
/-- How a round may be left: on, with the iterator's box as it lay; or by a return. -/
def rfPost {α : Type} (B bs : Nat) (I Ix : List α → World → Prop) (xs : List α) (W : World) : Exit → Act → World → Prop
  | .normal, _, W' => KeepsFrom B W W' ∧ W'.heap[bs]? = W.heap[bs]? ∧ I xs W'
  | .ret, _, W' => KeepsFrom B W W' ∧ Ix xs W'
  | _, _, _ => False
/-- A range over a function whose values are told together with the world they are told in (a pointer, and what lies there). -/
theorem wpIn_range {α : Type} {g : Operand} {ps : Array Tmp} {assign body : Code} {Q : Exit → Act → World → Prop} {a : Act} {w : World}
    (hro : F.round = none) (h1 : 1 ≤ n) {gf : Nat} {lb : Array Value} (hg : a.eval g = .func (.func gf) #[] lb) (hFg : F.fn gf) (eg : ∀ args w, (callFunc gf args).run P w = .ok (.enter gf args) w)
    (Cf : α → Array Value → World → Prop) (hCs : ∀ x v W, Cf x v W → v.size = ps.size)
    (bs : Nat) (hbs : bs < w.heap.size) (xs : List α)
    (hseq : ∀ (l : Nat) (J Jx : List α → World → Prop) (W : World), Below w.heap.size w W → w.heap.size ≤ W.heap.size → Abi bs W.heap.size J →
      (∀ pre x v W1, J pre W1 → pre ++ [x] <+: xs → Cf x v W1 → YieldAt F (n - 1 - 1) P l v W1 fun e W' =>
        (e = .returned (.bool true) ∧ J (pre ++ [x]) W' ∧ W'.heap[bs]? = W1.heap[bs]? ∧ W1.heap.size ≤ W'.heap.size) ∨ (e = .returned (.bool false) ∧ Jx (pre ++ [x]) W')) →
      J [] W → CallsIn F (n - 1) P gf (#[.func (.yield l) #[] #[]] ++ lb) W fun e W' => (∃ v, e = .returned v) ∧ (J xs W' ∨ ∃ pre, pre <+: xs ∧ Jx pre W'))
    (I Ix : List α → World → Prop) (hI : Abi bs w.heap.size I) (hIx : Abi bs w.heap.size Ix) (h0 : I [] w)
    (hbody : ∀ (l : Nat) (pre : List α) (x : α) (v : Array Value) (W : World), w.heap.size ≤ l → I pre W → pre ++ [x] <+: xs → Cf x v W →
      ∃ (A : Act) (Ax : World → Prop),
        (∀ X l' o o', w.heap.size ≤ l' → Ax X → X.heap[l']? = some o → o.isCells = false → Ax (X.putObj l' o')) ∧
        (∀ K : Act → World → Prop, (∀ W', KeepsFrom w.heap.size W W' → W'.heap[bs]? = W.heap[bs]? → Ax W' → K A W') →
          assign.wpIn (F.inRound l) (n - 1 - 1) P (Exit.then K (fun _ _ _ => False)) { tmps := (ps.zip v).foldl (fun t (p, v) => t.setIfInBounds p v) a.tmps, defers := [] } W) ∧
        (∀ W', w.heap.size ≤ W'.heap.size → Ax W' → body.wpIn (F.inRound l) (n - 1 - 1) P (rfPost w.heap.size bs I Ix (pre ++ [x]) W') A W'))
    (hdone : ∀ (D : Nat) (W : World), w.heap.size ≤ D → I xs W → W.heap[D]? = some (.deferred (some [])) → Q .normal { a with defers := { target := .collected D, args := #[] } :: a.defers } W)
    (hstop : ∀ (D : Nat) (pre : List α) (W : World), w.heap.size ≤ D → pre <+: xs → Ix pre W → W.heap[D]? = some (.deferred (some [])) → Code.ret.wpIn F n P Q { a with defers := { target := .collected D, args := #[] } :: a.defers } W) :
    (Code.rangeFunc g ps assign body).wpIn F n P Q a w := by
  refine wpIn_rangeFunc fun fn hfn => ?_
  rw [hro]
  -- the loop's record, and the block for deferred calls
  let rec0 : LoopState → Option Code → Loop := fun st pe => { state := st, pending := pe, fn, tmps := a.tmps, params := ps, assign, body, defers := w.heap.size }
  let D := w.heap.size
  let L := w.heap.size + 1
  obtain ⟨W1, hW1⟩ : ∃ W1, W1 = (w.alloc (.deferred (some []))).alloc (.loop (rec0 .ready none)) := ⟨_, rfl⟩
  have hz1 : W1.heap.size = w.heap.size + 2 := by rw [hW1]; simp
  have hL1 : W1.heap[L]? = some (.loop (rec0 .ready none)) := by
    have h := World.alloc_heap_new (w.alloc (.deferred (some []))) (.loop (rec0 .ready none))
    rw [World.size_alloc] at h
    rw [hW1]; exact h
  have hD1 : W1.heap[D]? = some (.deferred (some [])) := by
    rw [hW1]; exact (Below.heap_alloc _ _ _ (by simp [D])).trans (World.alloc_heap_new w _)
  have hb1 : Below w.heap.size w W1 := by
    rw [hW1]; exact ((Below.refl _ w).alloc (Nat.le_refl _) _).alloc (by simp) _
  refine ⟨L, [{ target := .collected D, args := #[] }], W1, { target := .fn (.func gf) lb, args := #[.func (.yield L) #[] #[]] }, W1, gf, #[.func (.yield L) #[] #[]] ++ lb, W1, ?_, ?_, ?_, ?_, fun _ => h1, ?_⟩
  · rw [hW1]; exact run_enterLoop_outer _ _ _ _ _
  · simp only [resolve, hg]
    simp [go_sem]
  · intro f' hf'
    simp [Target.leads] at hf'
    subst hf'; exact hFg
  · simp [invoke, go_sem, eg]
  refine (hseq L (fun pre W => I pre W ∧ W.heap[L]? = some (.loop (rec0 .ready none)) ∧ W.heap[D]? = some (.deferred (some [])))
    (fun pre W => Ix pre W ∧ W.heap[L]? = some (.loop (rec0 .done (some .ret))) ∧ W.heap[D]? = some (.deferred (some []))) W1 hb1 (by omega)
    (fun s X Y hs hb hz h1 h2 h3 => ⟨hI s X Y hs.1 (fun k hk => hb k (by omega)) hz h1 h2 h3, (hb L (by simp only [L]; omega) (by simp only [L]; omega)).trans hs.2.1, (hb D (by simp only [D]; omega) (by simp only [D]; omega)).trans hs.2.2⟩)
    ?_ ⟨by rw [hW1]; exact hI.new _ (hI.new _ h0 (Nat.le_refl _)) (by simp), hL1, hD1⟩).mono ?_
  · rintro pre x v W ⟨hi, hl, hd⟩ hpre hcf
    have hy := run_yield (P := P) (args := v) hl (hCs x v W hcf)
    refine ⟨fn, _, assign, body, hy, roundIn_of_wpIn hfn ?_⟩
    clear hy
    obtain ⟨A, Ax, hAx, hassign, hb⟩ := hbody L pre x v W (by simp [L]) hi hpre hcf
    refine hassign _ ?_
    intro Wa hka hkb hax
    have hla := hka.same _ _ (by simp [L]) hl rfl
    have hda := hka.same _ _ (Nat.le_refl _) hd rfl
    have hlt : L < Wa.heap.size := (Array.getElem?_eq_some_iff.1 hla).1
    refine ⟨_, run_beginRound hla rfl, ?_⟩
    have hl2 : (Wa.putObj L (.loop (rec0 .busy none))).heap[L]? = some (.loop (rec0 .busy none)) := World.putObj_heap_same hlt
    have hd2 : (Wa.putObj L (.loop (rec0 .busy none))).heap[D]? = some (.deferred (some [])) := (World.putObj_heap_other (by simp [L, D])).trans hda
    have hs2 : (Wa.putObj L (.loop (rec0 .busy none))).heap[bs]? = W.heap[bs]? := (World.putObj_heap_other (by simp only [L]; omega)).trans hkb
    refine wpIn_mono (hb (Wa.putObj L (.loop (rec0 .busy none))) (by rw [World.putObj_size]; simp only [L] at hlt; omega) (hAx Wa L _ _ (by simp [L]) hax hla rfl)) ?_
    rintro e a3 W3 hp
    cases e with
    | normal =>
      obtain ⟨hk3, hs3, hi3⟩ := hp
      have hl3 := hk3.same _ _ (by simp [L]) hl2 rfl
      have hd3 := hk3.same _ _ (Nat.le_refl _) hd2 rfl
      refine ⟨_, _, run_endRound none hl3, Or.inl ⟨rfl, ⟨hI.put _ hi3 (by simp [L]), World.putObj_heap_same (Array.getElem?_eq_some_iff.1 hl3).1, (World.putObj_heap_other (by simp [L, D])).trans hd3⟩, ?_, ?_⟩⟩
      · exact (World.putObj_heap_other (by simp only [L]; omega)).trans (hs3.trans hs2)
      · have q1 := hka.size
        have q2 := hk3.size
        rw [World.putObj_size] at q2 ⊢
        omega
    | ret =>
      obtain ⟨hk3, hi3⟩ := hp
      have hl3 := hk3.same _ _ (by simp [L]) hl2 rfl
      have hd3 := hk3.same _ _ (Nat.le_refl _) hd2 rfl
      exact ⟨_, _, run_endRound (some .ret) hl3, Or.inr ⟨rfl, hIx.put _ hi3 (by simp [L]), World.putObj_heap_same (Array.getElem?_eq_some_iff.1 hl3).1, (World.putObj_heap_other (by simp [L, D])).trans hd3⟩⟩
    | exit id => exact hp.elim
    | goto t => exact hp.elim
    | panic ch => exact hp.elim
    | outgrown => exact hp.elim
  · rintro e W2 ⟨⟨v, rfl⟩, (⟨hi, hl, hd⟩ | ⟨pre, hpre, hi, hl, hd⟩)⟩
    · exact ⟨none, _, run_endLoop (P := P) hl (by simp [rec0]), hdone D _ (Nat.le_refl _) (hI.put _ hi (by simp [L])) ((World.putObj_heap_other (by simp [L, D])).trans hd)⟩
    · exact ⟨some .ret, _, run_endLoop (P := P) hl (by simp [rec0]), hstop D pre _ (Nat.le_refl _) hpre (hIx.put _ hi (by simp [L])) ((World.putObj_heap_other (by simp [L, D])).trans hd)⟩
end

set_option maxRecDepth 100000 in
set_option maxHeartbeats 8000000 in
/-- pairs: a box of its own for the text; what comes back goes over it. -/
theorem pairs_c (s : ByteArray) (w : World) : Calls Tryd.prog 24 #[.string s] w fun e w' =>
    e = .returned (.func (.func 35) #[] #[.pointer (some ⟨w.heap.size, 0, none⟩)]) ∧ w'.heap[w.heap.size]? = some (.cells #[.string s] 9 (0, 0)) ∧ Below w.heap.size w w' := by
  have hmf : ∀ (fn : Fn) (first cap : Array Value) (w : World), (Instr.makeFunc fn first cap).run Tryd.prog w = .ok (.func fn first cap) w := fun _ _ _ _ => rfl
  go_enter Tryd.func24, Tryd.ntmps24
  go_wp2
  go_ret
  exact ⟨rfl, World.alloc_heap_new w _, below_alloc (Below.refl _ _) _⟩

open Go.Maps in
theorem look_law : Keyed Tryd.prog 22 := int_keyed Tryd.underlying22
theorem look_zero (w : World) : (zeroValue 3).run Tryd.prog w = .ok (.int .i64 0) w := by kernel_rfl
/-- How often a number is on a list. -/
def cntT (a : Int) (tk : List Int) : Int := ((tk.filter (· == a)).length : Int)
/-- An object that is a map. -/
def MapOb (o : Obj) : Prop := ∃ es ck, o = .map es ck
theorem mapOb_nil : MapOb (.map #[] 0) := ⟨_, _, rfl⟩
/-- The map's object: it reads, at every number, how often that is among tk; it has as many stores as tk, at most n. -/
def MapObj (om : Obj) (tk : List Int) (n : Int) : Prop :=
  ∃ D : DataW Unit, (∀ (w : World) (b : Nat), w.heap[b]? = some om → w.ownsMap Tryd.prog 22 (plainElem Tryd.prog 3) b tk.length D) ∧ (∀ a, D.atKey (.int .u64 a) (.lit (.int .i64 0)) = .lit (.int .i64 (cntT a tk))) ∧ (tk.length : Int) ≤ n ∧ MapOb om ∧ Maps.IsMap D
theorem MapObj.isMap {om : Obj} {tk : List Int} {n : Int} (h : MapObj om tk n) : MapOb om := by
  obtain ⟨_, _, _, _, h, _⟩ := h
  exact h
theorem MapObj.mono {om : Obj} {tk : List Int} {n : Int} (h : MapObj om tk n) : MapObj om tk (n + 1) := by
  obtain ⟨D, h1, h2, h3, h4⟩ := h
  exact ⟨D, h1, h2, by omega, h4⟩
theorem MapObj.next {om : Obj} {tk : List Int} {x n : Int} (h : MapObj om tk (x + 1)) (hp : 0 ≤ x ∧ x < n) (hl : x + 1 ≤ 9223372036854775807) : MapObj om tk (wrap64 (x + 1)) := by
  have e : wrap64 (x + 1) = x + 1 := by
    have := hp.1
    simp only [wrap64]
    omega
  rw [e]
  exact h
theorem mapObj_nil : MapObj (.map #[] 0) [] 0 :=
  ⟨.map [], fun w b hb => ⟨#[], 0, hb, ⟨by simp, MapKept.stamped_empty 0, by simp⟩, Nat.le_refl _, rfl⟩, fun a => rfl, Int.le_refl _, mapOb_nil, ⟨_, rfl⟩⟩
theorem cntT_le (a : Int) (tk : List Int) : 0 ≤ cntT a tk ∧ cntT a tk ≤ (tk.length : Int) := by
  have := List.length_filter_le (· == a) tk
  unfold cntT
  omega
theorem cntT_snoc (a z : Int) (tk : List Int) : cntT a (tk ++ [z]) = if a = z then cntT a tk + 1 else cntT a tk := by
  unfold cntT
  rw [List.filter_append, List.length_append]
  by_cases h : a = z
  · subst h
    simp
  · have : (z == a) = false := by simpa using fun e => h e.symm
    simp [this, h]
theorem obj_far {w : World} {g : Nat} {o : Obj} (h : w.heap[g]? = some o) {p : Addr} (hp : g ≠ p.block) (u : Value) : (w.setCell p u).heap[g]? = some o := (Below.heap_setCell w p u g hp).trans h
theorem map_ne {W : World} {mb g : Nat} {om : Obj} {cs : Array Value} {t : TypeId} {c : Nat × Nat} (hm : W.heap[mb]? = some om) (ho : MapOb om) (hc : W.heap[g]? = some (.cells cs t c)) : mb ≠ g := by
  rintro rfl
  obtain ⟨es, ck, rfl⟩ := ho
  rw [hm] at hc
  cases hc
theorem blk_store {W w1 : World} {mb g : Nat} {o : Obj} (hg : W.grownBy w1 (some mb)) (hne : mb ≠ g) (h : W.heap[g]? = some o) : w1.heap[g]? = some o :=
  (hg.block g (Array.getElem?_eq_some_iff.1 h).1 (fun e => hne (Option.some.inj e).symm)).trans h
theorem below_store {w W w1 : World} {mb : Nat} (hg : W.grownBy w1 (some mb)) (hb : w.heap.size ≤ mb) (h : Below w.heap.size w W) : Below w.heap.size w w1 :=
  h.grown hg h.size (fun k e => by cases e; exact hb)
theorem cell_map {W : World} {a : Addr} {es : _} {ck : _} (hm : W.heap[a.block]? = some (.map es ck)) : W.cell? a = none := by
  simp [World.cell?, hm]
/-- The look-up's run, as the walk takes it. -/
theorem had_look {W : World} {mb : Nat} {om : Obj} {tk : List Int} {n z : Int} (hb : W.heap[mb]? = some om) (ho : MapObj om tk n) (hz : (Lit.int .u64 z).wf = true) :
    (Instr.lookup 61 (.map (some mb)) (.int .u64 z) false).run Tryd.prog W = .ok (.int .i64 (cntT z tk)) W := by
  obtain ⟨D, h1, h2, h3, _, _⟩ := ho
  obtain ⟨c, hr, hc, _⟩ := (h1 W mb hb).lookup_int look_law Tryd.underlying61 Tryd.underlying3 (look_zero _) (Maps.keyOf_int_mk Tryd.underlying22 hz)
  rw [h2] at hc
  have : c = cntT z tk := by
    injection hc with e
    injection e with _ e
    exact e.symm
  rw [← this]
  exact hr
/-- The store's run. -/
theorem had_store {W : World} {mb : Nat} {om : Obj} {tk : List Int} {n z : Int} (hb : W.heap[mb]? = some om) (ho : MapObj om tk n) (hz : (Lit.int .u64 z).wf = true) (hn : n + 1 ≤ 9223372036854775807) :
    ∃ w1 om1, (Instr.mapUpdate 61 (.map (some mb)) (.int .u64 z) (.int .i64 (wrap64 (cntT z tk + 1)))).run Tryd.prog W = .ok () w1 ∧ w1.heap[mb]? = some om1 ∧ MapObj om1 (tk ++ [z]) (n + 1) ∧ W.grownBy w1 (some mb) := by
  obtain ⟨D, h1, h2, h3, _, h5⟩ := ho
  have hc := cntT_le z tk
  have ew : wrap64 (cntT z tk + 1) = cntT z tk + 1 := by
    simp only [wrap64]
    omega
  obtain ⟨w1, hr, hown, hgrow⟩ := (h1 W mb hb).update look_law Tryd.underlying61 (show tk.length < maxLen by unfold maxLen; omega) (Maps.keyOf_int_mk Tryd.underlying22 hz) (plainElem_int (H := Unit) Tryd.underlying3 (wrap64_wf (cntT z tk + 1)))
  obtain ⟨es, clock, hh, hF, hs, hD⟩ := hown
  refine ⟨w1, .map es clock, hr, hh, ⟨D.put (.int .u64 z) (.lit (.int .i64 (wrap64 (cntT z tk + 1)))), fun w b hb => ⟨es, clock, hb, hF, by simpa using hs, hD⟩, fun k => ?_, by simp; omega, ⟨_, _, rfl⟩, ⟨_, hD⟩⟩, hgrow⟩
  rw [cntT_snoc, ew]
  by_cases hk : k = z
  · subst hk
    rw [if_pos rfl, Maps.atKey_put_same h5 (by trivial)]
  · rw [if_neg hk, Maps.atKey_put_other (by intro e; injection e with _ e; exact hk e), h2]

end Go.Proofs.YthbnedjcaflofaaDoor.PPax
