-- printed for this claim by a program of the claim (wip/tools/pp.py over the kit's print)
import Derived.Test.YtjpafikgbnloaaaDoorPHdtx0
namespace Go.Proofs.YtjpafikgbnloaaaDoor.PHdt
open Go.RowKit Go.Proofs.YtjpafikgbnloaaaDoorW.PrintWords Go.Proofs.YtjpafikgbnloaaaDoorW.PrintLast Go.Proofs.YtjpafikgbnloaaaDoorW.PrintMore
attribute [local go_sem] max2_int min2_int max_two min_two max_three min_three max_four min_four   -- for this text's walks alone
set_option linter.unusedVariables false
set_option linter.unusedSimpArgs false

attribute [local go_sem] isSome_setCell_
/-! ### varint_Back: function 33 -/
def bkF (s : ByteArray) : Nat → Nat → Int → Int
  | 0, _, acc => acc
  | m + 1, i, acc => bkF s m (i + 1) (Go.bits .or .u64 (IntKind.u64.wrap (acc * 256)) (bt s (i : Int)))
def varint_Back.f (a0 : ByteArray) : Option (Int) := if a0.size ≤ 9223372036854775807 then some (bkF a0 a0.size 0 0) else none
theorem bt_data (s : ByteArray) (i : Nat) (h : i < s.size) : ((s.data.toList.getD i 0).toNat : Int) = bt s (i : Int) := by
  have h2 : i < s.data.toList.length := by
    have := h
    simpa using this
  unfold bt
  rw [Int.toNat_natCast, dif_pos h, List.getD_eq_getElem?_getD, List.getElem?_eq_getElem h2]
  rfl
theorem below_bytes (w : World) (e : TypeId) (s : ByteArray) : Below w.heap.size w (Lib.bytesWorld w e s) :=
  ⟨rfl, rfl, rfl, by rw [Lib.bytesWorld_size]; omega, fun k hk => Lib.bytesWorld_at_old w e s k hk⟩
set_option maxHeartbeats 1600000 in
set_option maxRecDepth 100000 in
theorem varint_Back.calls (a0 : ByteArray) (r : Int) (w : World) (h : varint_Back.f a0 = some r) :
    Calls Tryd.prog 33 #[.string a0] w fun e w' => e = .returned (.int .u64 r) ∧ Below w.heap.size w w' := by
  have hmax : a0.size ≤ 9223372036854775807 := by
    unfold varint_Back.f at h
    by_cases c : a0.size ≤ 9223372036854775807
    · exact c
    · rw [if_neg c] at h
      exact absurd h (by simp)
  unfold varint_Back.f at h
  rw [if_pos hmax] at h
  have HF := Aside0.mk (Option.some.inj h)
  have hcv := Lib.run_convert_string_bytes (P := Tryd.prog) w 9 44 5 a0 Tryd.underlying9 Tryd.underlying44 Tryd.underlying5
  have HB0 := Aside0.mk (below_bytes w 5 a0)
  have HC := Aside0.mk (fun j hj => Lib.bytesWorld_cell w 5 a0 j hj)
  clear h
  go_enter Tryd.func33, Tryd.ntmps33
  go_wp2
  clear hcv
  obtain ⟨g, hg⟩ : ∃ g, g = w.heap.size := ⟨_, rfl⟩
  rw [← hg] at HC ⊢
  have HG := Aside0.mk hg
  clear hg
  go_loopw [2, 8] (fun v2 v8 wr => ∃ (k : Nat) (acc : Int), k ≤ a0.size ∧ v2 = .int .u64 acc ∧ v8 = .int .i64 k ∧ Aside0 (bkF a0 (a0.size - k) k acc = r) ∧ Aside0 (∀ j, j < a0.size → wr.cell? ⟨g, j, none⟩ = some (.int .u8 (a0.data.toList.getD j 0).toNat)) ∧ Aside0 (Below w.heap.size w wr)) (fun _ v8 _ => a0.size - (intOf v8).toNat)
  case atStart => exact ⟨0, 0, by omega, rfl, rfl, HF, HC, HB0⟩
  case round =>
    obtain ⟨k, acc, hk, rfl, rfl, HA, HC, HB⟩ := hrel
    by_cases hlt : k < a0.size
    · have hc := HC.out k hlt
      rw [bt_data a0 k hlt] at hc
      have hb := bt_range a0 (k : Int)
      have ha := HA.out
      rw [show a0.size - k = (a0.size - (k + 1)) + 1 by omega, bkF] at ha
      have HA2 := Aside0.mk ha
      clear ha HA
      go_wp2
      go_roundw
      case rel => exact ⟨k + 1, _, by omega, rfl, by go_num, HA2, HC, HB⟩
      case measure => simp [intOf]; omega
    · have ha := HA.out
      rw [show a0.size - k = 0 by omega, bkF] at ha
      subst ha
      have hk2 : a0.size ≤ k := by omega
      clear hlt HA
      go_wp2
      go_ret
      exact ⟨rfl, HB.out⟩

-- NOT PRINTED: function 34 (header_left_take)

-- NOT PRINTED: function 47 (header_parser_id)

/-! ### varint_Get: function 56 -/
def varint_Get.l0 : Nat → ByteArray → Int → Int → Int → Option (Int × ByteArray × Int)
  | 0, _, _, _, _ => none
  | k + 1, x0, x5, x6, x7 => if x7 < x5 then (if 0 ≤ x7 then (if x7 < (x0.size : Int) then (varint_Get.l0 k x0 x5 (Go.bits .or .u64 (IntKind.u64.wrap (x6 * 256)) (IntKind.u64.wrap (bt x0 x7))) (wrap64 (x7 + 1))) else (none)) else (none)) else (if 0 ≤ x5 then (if x5 ≤ (x0.size : Int) then (some (x6, x0.extract (x5 : Int).toNat x0.size, 0)) else (none)) else (none))
def varint_Get.f (k : Nat) (a0 : ByteArray) : Option (Int × ByteArray × Int) := if a0.toList = ([] : List UInt8) then (some (0, (⟨#[]⟩ : ByteArray), 10)) else (if 0 < (a0.size : Int) then (if 0 ≤ ((bt a0 0) / 64) then (if (a0.size : Int) < (shl .i64 1 ((bt a0 0) / 64)) then (some (0, (⟨#[]⟩ : ByteArray), 10)) else (varint_Get.l0 k a0 (shl .i64 1 ((bt a0 0) / 64)) (IntKind.u64.wrap (Go.bits .and .u8 (bt a0 0) 63)) 1)) else (none)) else (none))
theorem varint_Get.mono_l : ∀ k, (∀ y0 y1 y2 y3, LeO (varint_Get.l0 k y0 y1 y2 y3) (varint_Get.l0 (k + 1) y0 y1 y2 y3))
  | 0 => fun _ _ _ _ r h => by simp [varint_Get.l0] at h
  | k + 1 => by
    have ih0 := varint_Get.mono_l k
    · intro y0 y1 y2 y3
      unfold varint_Get.l0
      repeat' first
      | (with_reducible exact ih0 _ _ _ _)
      | (with_reducible exact LeO.refl _)
      | (with_reducible exact LeO.none _)
      | (with_reducible refine LeO.ite ?_ ?_)
      | (with_reducible refine LeO.bind ?_ (fun _ => ?_))
      | exact ih0 _ _ _ _
      | exact LeO.none _
      | refine LeO.ite ?_ ?_
      | refine LeO.bind ?_ (fun _ => ?_)
theorem varint_Get.mono : ∀ a0 k, LeO (varint_Get.f k a0) (varint_Get.f (k + 1) a0) := by
  intro a0 k
  have ih0 := varint_Get.mono_l k
  unfold varint_Get.f
  repeat' first
      | (with_reducible exact ih0 _ _ _ _)
      | (with_reducible exact LeO.refl _)
      | (with_reducible exact LeO.none _)
      | (with_reducible refine LeO.ite ?_ ?_)
      | (with_reducible refine LeO.bind ?_ (fun _ => ?_))
      | exact ih0 _ _ _ _
      | exact LeO.none _
      | refine LeO.ite ?_ ?_
      | refine LeO.bind ?_ (fun _ => ?_)
set_option maxHeartbeats 8000000 in
set_option maxRecDepth 100000 in
theorem varint_Get.calls (k : Nat) (a0 : ByteArray) (r1 : Int) (r2 : ByteArray) (r3 : Int) (w : World) (h : varint_Get.f k a0 = some (r1, r2, r3)) :
    Calls Tryd.prog 56 #[.string a0] w fun e w' => e = .returned (.tuple #[.int .u64 r1, .string r2, .int .i64 r3]) ∧ Drawn0 w w' := by
  have H : (if a0.toList = ([] : List UInt8) then (some (0, (⟨#[]⟩ : ByteArray), 10)) else (if 0 < (a0.size : Int) then (if 0 ≤ ((bt a0 0) / 64) then (if (a0.size : Int) < (shl .i64 1 ((bt a0 0) / 64)) then (some (0, (⟨#[]⟩ : ByteArray), 10)) else (varint_Get.l0 k a0 (shl .i64 1 ((bt a0 0) / 64)) (IntKind.u64.wrap (Go.bits .and .u8 (bt a0 0) 63)) 1)) else (none)) else (none))) = some (r1, r2, r3) := h
  clear h
  by_cases c2 : a0.toList = ([] : List UInt8)
  · rw [if_pos c2] at H
    have c2b0 : (a0.toList == ([] : List UInt8)) = true := beq_iff_eq.mpr c2
    have c2b1 : (a0.toList != ([] : List UInt8)) = false := bne_eq_false_iff_eq.mpr c2
    clear c2
    simp only [Option.some.injEq, Prod.mk.injEq] at H
    obtain ⟨rfl, rfl, rfl⟩ := H
    go_enter Tryd.func56, Tryd.ntmps56
    go_wp2
    repeat (go_quiet (fail); try go_wp2)
    go_ret3
    exact ⟨by first | rfl | (simp; done) | (simp [*]; done), by repeat (first | exact Drawn0.refl _ | apply Drawn0.step)⟩
  · rw [if_neg c2] at H
    have c2b0 : (a0.toList == ([] : List UInt8)) = false := beq_eq_false_iff_ne.mpr c2
    have c2b1 : (a0.toList != ([] : List UInt8)) = true := bne_iff_ne.mpr c2
    by_cases c3 : 0 < (a0.size : Int)
    · rw [if_pos c3] at H
      have c3b0 : decide (0 < (a0.size : Int)) = true := decide_eq_true c3
      have c3b1 : decide (0 < a0.size) = true := decide_eq_true (by omega)
      clear c3
      obtain ⟨ji5, hji5⟩ : ∃ j_ : Int, ((bt a0 0) / 64) = j_ := ⟨_, rfl⟩
      replace H : (if 0 ≤ (ji5) then (if (a0.size : Int) < (shl .i64 1 (ji5)) then (some (0, (⟨#[]⟩ : ByteArray), 10)) else (varint_Get.l0 k a0 (shl .i64 1 (ji5)) (IntKind.u64.wrap (Go.bits .and .u8 (bt a0 0) 63)) 1)) else (none)) = some (r1, r2, r3) := by first | (rw [hji5] at H; exact H) | (simp only [hji5] at H ⊢; exact H)
      by_cases c6 : 0 ≤ (ji5)
      · rw [if_pos c6] at H
        have c6b0 := eq_true c6
        have c6b1 : decide (0 ≤ (ji5)) = true := decide_eq_true c6
        clear c6
        obtain ⟨ji7, hji7⟩ : ∃ j_ : Int, (shl .i64 1 (ji5)) = j_ := ⟨_, rfl⟩
        replace H : (if (a0.size : Int) < (ji7) then (some (0, (⟨#[]⟩ : ByteArray), 10)) else (varint_Get.l0 k a0 ji7 (IntKind.u64.wrap (Go.bits .and .u8 (bt a0 0) 63)) 1)) = some (r1, r2, r3) := by first | (rw [hji7] at H; exact H) | (simp only [hji7] at H ⊢; exact H)
        have hji7_ : (IntKind.i64.wrap (1 * 2 ^ min (ji5).toNat 64)) = ji7 := hji7
        have hji7z : (ji5) ≤ 64 → (IntKind.i64.wrap (1 * 2 ^ (ji5).toNat)) = ji7 := shl_small hji7
        have hji7u : (IntKind.i64.wrap (2 ^ min (ji5).toNat 64)) = ji7 := by have h_ := hji7_; rw [Int.one_mul] at h_; exact h_
        have hji7v : (ji5) ≤ 64 → (IntKind.i64.wrap (2 ^ (ji5).toNat)) = ji7 := fun hle_ => by have h_ := hji7z hle_; rw [Int.one_mul] at h_; exact h_
        have hji7y : (wrap64 (1 * 2 ^ min (ji5).toNat 64)) = ji7 := (i64_w _).symm.trans hji7_
        have hji7x : (ji5) ≤ 64 → (wrap64 (1 * 2 ^ (ji5).toNat)) = ji7 := fun h_ => (i64_w _).symm.trans (hji7z h_)
        by_cases c8 : (a0.size : Int) < (ji7)
        · rw [if_pos c8] at H
          have c8b0 : decide ((a0.size : Int) < (ji7)) = true := decide_eq_true c8
          clear c8
          simp only [Option.some.injEq, Prod.mk.injEq] at H
          obtain ⟨rfl, rfl, rfl⟩ := H
          have p4 : 0 ≤ (0 : Int) := (by omega)
          have q4 : 0 < a0.size := (by have : (0 : Int) < (a0.size : Int) := of_decide_eq_true (by first | (with_reducible assumption) | assumption); omega)
          have hx4 : ∀ h : 0 < a0.size, ((a0[0]'h).toNat : Int) = bt a0 0 := bt_at a0 0
          clear p4
          have qi4 : (0 < (a0.size : Int)) = True := eq_true (of_decide_eq_true (by first | (with_reducible assumption) | assumption))
          replace q4 := eq_true q4
          go_enter Tryd.func56, Tryd.ntmps56
          go_wp2
          repeat (go_quiet (fail); try go_wp2)
          go_ret3
          exact ⟨by first | rfl | (simp; done) | (simp only [← hji5, ← hji7] <;> (first | rfl | simp)) | (simp [*]; done), by repeat (first | exact Drawn0.refl _ | apply Drawn0.step)⟩
        · rw [if_neg c8] at H
          have c8b0 : decide ((a0.size : Int) < (ji7)) = false := decide_eq_false c8
          clear c8
          have H' := Aside0.mk H
          clear H
          have p4 : 0 ≤ (0 : Int) := (by omega)
          have q4 : 0 < a0.size := (by have : (0 : Int) < (a0.size : Int) := of_decide_eq_true (by first | (with_reducible assumption) | assumption); omega)
          have hx4 : ∀ h : 0 < a0.size, ((a0[0]'h).toNat : Int) = bt a0 0 := bt_at a0 0
          clear p4
          have qi4 : (0 < (a0.size : Int)) = True := eq_true (of_decide_eq_true (by first | (with_reducible assumption) | assumption))
          replace q4 := eq_true q4
          have p9 : 0 ≤ (0 : Int) := (by omega)
          have q9 : 0 < a0.size := (by have : (0 : Int) < (a0.size : Int) := of_decide_eq_true (by first | (with_reducible assumption) | assumption); omega)
          have hx9 : ∀ h : 0 < a0.size, ((a0[0]'h).toNat : Int) = bt a0 0 := bt_at a0 0
          clear p9
          have qi9 : (0 < (a0.size : Int)) = True := eq_true (of_decide_eq_true (by first | (with_reducible assumption) | assumption))
          replace q9 := eq_true q9
          go_enter Tryd.func56, Tryd.ntmps56
          go_wp2
          repeat (go_quiet (fail); try go_wp2)
          go_loopg [6, 7] k (fun kq v6 v7 w' => ∃ (x6_1 : Int) (x7_1 : Int), v6 = .int .u64 x6_1 ∧ v7 = .int .i64 x7_1 ∧ Aside0 (varint_Get.l0 kq a0 ji7 x6_1 x7_1 = some (r1, r2, r3)) ∧ Aside0 (kq ≤ k) ∧ Drawn0 w w')
          case atStart => exact ⟨(IntKind.u64.wrap (Go.bits .and .u8 (bt a0 0) 63)), (1), (by first | rfl | (simp; done) | (simp [*]; done)), (by first | rfl | (simp; done) | (simp [*]; done)), H', ⟨Nat.le_refl _⟩, by repeat (first | exact Drawn0.refl _ | apply Drawn0.step)⟩
          case round =>
            clear H'
            try clear c2
            try clear c2b0
            try clear c2b1
            try clear p2
            try clear c3
            try clear c3b0
            try clear c3b1
            try clear p4
            try clear q4
            try clear hx4
            try clear qi4
            try clear c5
            try clear c6
            try clear c6b0
            try clear c6b1
            try clear p6
            try clear c8
            try clear c8b0
            try clear p9
            try clear q9
            try clear hx9
            try clear qi9
            try clear p4
            try clear p9
            try clear q4
            try clear q9
            obtain ⟨x6_1, x7_1, rfl, rfl, HA, HK1, ⟨m1, rfl⟩⟩ := hrel
            cases gk with
            | zero => exact absurd HA.out (by simp [varint_Get.l0])
            | succ k1 =>
              have H := HA.out
              clear HA
              simp only [varint_Get.l0] at H
              by_cases c10 : x7_1 < ji7
              · rw [if_pos c10] at H
                have c10b0 : decide (x7_1 < ji7) = true := decide_eq_true c10
                clear c10
                by_cases c11 : 0 ≤ x7_1
                · rw [if_pos c11] at H
                  have c11b0 : decide (0 ≤ x7_1) = true := decide_eq_true c11
                  clear c11
                  by_cases c12 : x7_1 < (a0.size : Int)
                  · rw [if_pos c12] at H
                    have c12b0 : decide (x7_1 < (a0.size : Int)) = true := decide_eq_true c12
                    clear c12
                    have H' := Aside0.mk H
                    clear H
                    have p13 : 0 ≤ (x7_1 : Int) := of_decide_eq_true (by first | (with_reducible assumption) | assumption)
                    have q13 : x7_1 < (a0.size : Int) := of_decide_eq_true (by first | (with_reducible assumption) | assumption)
                    have hx13 := bt_at a0 x7_1
                    replace p13 := eq_true p13
                    replace q13 := eq_true q13
                    go_wp2
                    repeat (go_quiet (fail); try go_wp2)
                    go_roundg k1
                    case measure => have := HK1.out; omega
                    case rel => exact ⟨(Go.bits .or .u64 (IntKind.u64.wrap (x6_1 * 256)) (IntKind.u64.wrap (bt a0 x7_1))), (wrap64 (x7_1 + 1)), (by first | rfl | (simp; done) | (simp [*]; done)), (by first | rfl | (simp; done) | (simp [*]; done)), H', ⟨by have := HK1.out; omega⟩, by repeat (first | exact Drawn0.refl _ | apply Drawn0.step)⟩
                  · rw [if_neg c12] at H
                    exact absurd H (by simp)
                · rw [if_neg c11] at H
                  exact absurd H (by simp)
              · rw [if_neg c10] at H
                have c10b0 : decide (x7_1 < ji7) = false := decide_eq_false c10
                clear c10
                by_cases c14 : 0 ≤ ji7
                · rw [if_pos c14] at H
                  have c14b0 := eq_true c14
                  have c14b1 : decide (0 ≤ ji7) = true := decide_eq_true c14
                  clear c14
                  by_cases c15 : ji7 ≤ (a0.size : Int)
                  · rw [if_pos c15] at H
                    have c15b0 := eq_true c15
                    have c15b1 : decide (ji7 ≤ (a0.size : Int)) = true := decide_eq_true c15
                    clear c15
                    simp only [Option.some.injEq, Prod.mk.injEq] at H
                    obtain ⟨rfl, rfl, rfl⟩ := H
                    go_wp2
                    repeat (go_quiet (fail); try go_wp2)
                    go_ret3
                    exact ⟨by first | rfl | (simp; done) | (simp only [← hji5, ← hji7] <;> (first | rfl | simp)) | (simp [*]; done), by repeat (first | exact Drawn0.refl _ | apply Drawn0.step)⟩
                  · rw [if_neg c15] at H
                    exact absurd H (by simp)
                · rw [if_neg c14] at H
                  exact absurd H (by simp)
      · rw [if_neg c6] at H
        exact absurd H (by simp)
    · rw [if_neg c3] at H
      exact absurd H (by simp)

-- NOT PRINTED: function 48 (header_left_number)

-- NOT PRINTED: function 32 (header_parsed)

-- skip: (*domino/header.left).take
-- skip: (*domino/header.left).number
-- skip: (*domino/header.parser).id
-- skip: domino/header.parsed
/-! ### header's parser: a block whose first two cells are the bytes left and whether any lacked -/
def tk (s : ByteArray) (b : Bool) (n : Int) : ByteArray × ByteArray × Bool := if b = true ∨ (s.size : Int) < n then (⟨#[]⟩, s, true) else (s.extract 0 n.toNat, s.extract n.toNat s.size, false)
def numF (k : Nat) (s : ByteArray) (b : Bool) : Option (Int × ByteArray × Bool) := (varint_Get.f k s).bind fun r => some (if b = true ∨ r.2.2 ≠ 0 then (0, s, true) else (r.1, r.2.1, false))
theorem pz_ {α : Type} (x y : α) (l : List α) : (∀ a, (x :: y :: l).toArray.setIfInBounds 0 a = (a :: y :: l).toArray) ∧ (∀ a, (x :: y :: l).toArray.setIfInBounds 1 a = (x :: a :: l).toArray) := ⟨fun a => by simp, fun a => by simp⟩
theorem grown_trans_ {w w1 w2 : World} {r : Option Nat} (h : w.grownBy w1 r) (k : w1.grownBy w2 r) : w.grownBy w2 r :=
  ⟨k.os.trans h.os, k.tape.trans h.tape, k.output.trans h.output, Nat.le_trans h.size k.size, fun i hi hn => (k.block i (Nat.lt_of_lt_of_le hi h.size) hn).trans (h.block i hi hn)⟩
theorem grown_refl_ (w : World) (r : Option Nat) : w.grownBy w r := ⟨rfl, rfl, rfl, Nat.le_refl _, fun _ _ _ => rfl⟩
theorem below_grown_ {w0 w w1 : World} {g : Nat} (h : Below w0.heap.size w0 w) (hg : w0.heap.size ≤ g) (k : w.grownBy w1 (some g)) : Below w0.heap.size w0 w1 :=
  ⟨k.os.trans h.os, k.tape.trans h.tape, k.output.trans h.output, Nat.le_trans h.size k.size, fun i hi => (k.block i (Nat.lt_of_lt_of_le hi h.size) (fun e => by injection e with e; omega)).trans (h.block i hi)⟩
theorem tk_bad {s : ByteArray} {b : Bool} {n : Int} (h : (tk s b n).2.2 = false) : b = false ∧ n ≤ s.size ∧ tk s b n = (s.extract 0 n.toNat, s.extract n.toNat s.size, false) := by
  unfold tk at h ⊢
  split
  · rename_i c; rw [if_pos c] at h; exact absurd h (by simp)
  · rename_i c
    have c := not_or.1 c
    exact ⟨by simpa using c.1, by omega, rfl⟩
theorem tk_size (s : ByteArray) (b : Bool) (n : Int) : (tk s b n).2.1.size ≤ s.size ∧ (tk s b n).1.size ≤ s.size := by
  unfold tk
  split
  · exact ⟨Nat.le_refl _, Nat.zero_le _⟩
  · rename_i c
    have c := not_or.1 c
    exact ⟨by simp, by simp; omega⟩
set_option maxHeartbeats 1000000 in
set_option maxRecDepth 100000 in
theorem lf_take (g : Nat) (T : TypeId) (s : ByteArray) (b : Bool) (xs : List Value) (n : Int) (w : World) (hn : 0 ≤ n) (hs : s.size ≤ 9223372036854775807)
    (h : w.heap[g]? = some (.cells (.string s :: .bool b :: xs).toArray T (0, 0))) :
    Calls Tryd.prog 34 #[.pointer (some ⟨g, 0, none⟩), .int .u64 n] w fun e w' => e = .returned (.string (tk s b n).1) ∧
      w'.heap[g]? = some (.cells (.string (tk s b n).2.1 :: .bool (tk s b n).2.2 :: xs).toArray T (0, 0)) ∧ w.grownBy w' (some g) := by
  have c0 : w.cell? ⟨g, 0, none⟩ = some (.string s) := (blk_cell h 0).trans (by simp)
  have c1 : w.cell? ⟨g, 1, none⟩ = some (.bool b) := (blk_cell h 1).trans (by simp)
  have f0 := blk_frozen h 0
  have f1 := blk_frozen h 1
  have HH := Aside0.mk h
  clear h
  cases b with
  | true =>
    have e1 : tk s true n = (⟨#[]⟩, s, true) := if_pos (Or.inl rfl)
    rw [e1]
    clear e1
    go_enter Tryd.func34, Tryd.ntmps34
    go_wp2
    go_ret
    exact ⟨rfl, blk_put HH.out 1 _ ((pz_ _ _ _).2 _), grown_set_ _ _ _ _⟩
  | false =>
    have hw : IntKind.u64.wrap (s.size : Int) = (s.size : Int) := by rw [IntKind.wrap_u64]; omega
    by_cases c : (s.size : Int) < n
    · have e1 : tk s false n = (⟨#[]⟩, s, true) := if_pos (Or.inr c)
      rw [e1]
      have c5 : decide ((s.size : Int) < n) = true := decide_eq_true c
      have c6 : ((s.size : Int) < n) = True := eq_true c
      clear e1 c hw
      go_enter Tryd.func34, Tryd.ntmps34
      go_wp2
      go_ret
      exact ⟨rfl, blk_put HH.out 1 _ ((pz_ _ _ _).2 _), grown_set_ _ _ _ _⟩
    · have e1 : tk s false n = (s.extract 0 n.toNat, s.extract n.toNat s.size, false) := if_neg (by simp only [Bool.false_eq_true, false_or]; exact c)
      rw [e1]
      have c5 : decide ((s.size : Int) < n) = false := decide_eq_false c
      have c6 : ((s.size : Int) < n) = False := eq_false c
      have c7 := eq_true hn
      have c8 : (n ≤ (s.size : Int)) = True := eq_true (by omega)
      have c7b : decide (0 ≤ n) = true := decide_eq_true hn
      have c8b : decide (n ≤ (s.size : Int)) = true := decide_eq_true (by omega)
      clear e1 c hw
      go_enter Tryd.func34, Tryd.ntmps34
      go_wp2
      go_ret
      exact ⟨rfl, blk_put HH.out 0 _ ((pz_ _ _ _).1 _), grown_set_ _ _ _ _⟩
set_option maxHeartbeats 1000000 in
set_option maxRecDepth 100000 in
theorem lf_number (k g : Nat) (T : TypeId) (s : ByteArray) (b : Bool) (xs : List Value) (r1 : Int) (r2 : ByteArray) (r3 : Bool) (w : World) (hf : numF k s b = some (r1, r2, r3))
    (h : w.heap[g]? = some (.cells (.string s :: .bool b :: xs).toArray T (0, 0))) :
    Calls Tryd.prog 48 #[.pointer (some ⟨g, 0, none⟩)] w fun e w' => e = .returned (.int .u64 r1) ∧
      w'.heap[g]? = some (.cells (.string r2 :: .bool r3 :: xs).toArray T (0, 0)) ∧ w.grownBy w' (some g) := by
  obtain ⟨⟨n, rest, er⟩, hg, hf⟩ := Option.bind_eq_some_iff.1 hf
  replace hf := Option.some.inj hf
  have c0 : w.cell? ⟨g, 0, none⟩ = some (.string s) := (blk_cell h 0).trans (by simp)
  have HH := Aside0.mk h
  have HG := Aside0.mk hg
  have HF := Aside0.mk hf
  clear h hg hf
  go_enter Tryd.func48, Tryd.ntmps48
  go_wp2_with fail
  refine (varint_Get.calls _ _ _ _ _ _ HG.out).mono ?_
  rintro e w1 ⟨rfl, hd⟩
  obtain ⟨m, rfl⟩ := hd
  have H1 := Aside0.mk (blk_drewN HH.out m)
  have c0 : (w.drewN m).cell? ⟨g, 0, none⟩ = some (.string s) := (blk_cell H1.out 0).trans (by simp)
  have c1 : (w.drewN m).cell? ⟨g, 1, none⟩ = some (.bool b) := (blk_cell H1.out 1).trans (by simp)
  have f0 := blk_frozen H1.out 0
  have f1 := blk_frozen H1.out 1
  have G1 := Aside0.mk (show w.grownBy (w.drewN m) (some g) from ⟨rfl, rfl, rfl, Nat.le_refl _, fun _ _ _ => rfl⟩)
  clear HH HG
  cases b with
  | true =>
    have hf := HF.out
    rw [if_pos (Or.inl rfl)] at hf
    injection hf with h1 hf
    injection hf with h2 h3
    subst h1 h2 h3
    clear HF
    go_wp2
    go_ret
    exact ⟨rfl, blk_put H1.out 1 _ ((pz_ _ _ _).2 _), grown_trans_ G1.out (grown_set_ _ _ _ _)⟩
  | false =>
    by_cases c : er = 0
    · subst c
      have hf := HF.out
      rw [if_neg (by simp)] at hf
      injection hf with h1 hf
      injection hf with h2 h3
      subst h1 h2 h3
      clear HF
      go_wp2
      go_ret
      exact ⟨rfl, blk_put H1.out 0 _ ((pz_ _ _ _).1 _), grown_trans_ G1.out (grown_set_ _ _ _ _)⟩
    · have hf := HF.out
      rw [if_pos (Or.inr c)] at hf
      injection hf with h1 hf
      injection hf with h2 h3
      subst h1 h2 h3
      have e1 : (er != 0) = true := bne_iff_ne.mpr c
      have e2 : (er == 0) = false := beq_eq_false_iff_ne.mpr c
      clear HF c
      go_wp2
      go_ret
      exact ⟨rfl, blk_put H1.out 1 _ ((pz_ _ _ _).2 _), grown_trans_ G1.out (grown_set_ _ _ _ _)⟩

end Go.Proofs.YtjpafikgbnloaaaDoor.PHdt
