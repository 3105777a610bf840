-- printed for this claim by a program of the claim (wip/tools/pp.py over the kit's print)
import Derived.Test.YtlcfjimgnfcdkaaPAkyx0
import Derived.Test.YtlcfjimgnfcdkaaPAkyx5
namespace Go.Proofs.Ytlcfjimgnfcdkaa.PAky
open Go.RowKit Go.Proofs.YtlcfjimgnfcdkaaW.PrintWords Go.Proofs.YtlcfjimgnfcdkaaW.PrintLast Go.Proofs.YtlcfjimgnfcdkaaW.PrintMore
attribute [local go_sem] max2_int min2_int max_two min_two max_three min_three max_four min_four   -- for this text's walks alone
set_option linter.unusedVariables false
set_option linter.unusedSimpArgs false

attribute [local go_sem] isSome_setCell_
/-! ### dominoref03_May: function 33 -/
def dominoref03_May.l0 : Nat → List (S69) → Int → Option (Bool)
 | 0, _, _ => none
 | k + 1, x0, x3 => if x3 < (x0.length : Int) then (if 0 ≤ x3 then (if ((rd_T69 x0 x3).f1) < ((rd_T69 x0 x3).f0) then (some false) else (if ((rd_T69 x0 x3).f1) ≥ 9223372036854775808 then (some false) else (if x3 > 0 then (if 0 ≤ (wrap64 (x3 - 1)) then (if (wrap64 (x3 - 1)) < (x0.length : Int) then (if ((rd_T69 x0 x3).f0) < (IntKind.u64.wrap (((rd_T69 x0 (wrap64 (x3 - 1))).f1) + 2)) then (some false) else (dominoref03_May.l0 k x0 (wrap64 (x3 + 1)))) else (none)) else (none)) else (dominoref03_May.l0 k x0 (wrap64 (x3 + 1)))))) else (none)) else (some true)
def dominoref03_May.f (k : Nat) (l0 : List (S69)) : Option (Bool) := dominoref03_May.l0 k l0 0
theorem dominoref03_May.mono_l : ∀ k, (∀ y0 y1, LeO (dominoref03_May.l0 k y0 y1) (dominoref03_May.l0 (k + 1) y0 y1))
 | 0 => fun _ _ r h => by simp [dominoref03_May.l0] at h
 | k + 1 => by
  have ih0 := dominoref03_May.mono_l k
  ·intro y0 y1
   unfold dominoref03_May.l0
   repeat' first
   | (with_reducible exact ih0 _ _)
   | (with_reducible exact LeO.refl _)
   | (with_reducible exact LeO.none _)
   | (with_reducible refine LeO.ite ?_ ?_)
   | (with_reducible refine LeO.bind ?_ (fun _ => ?_))
   | exact ih0 _ _
   | exact LeO.none _
   | refine LeO.ite ?_ ?_
   | refine LeO.bind ?_ (fun _ => ?_)
theorem dominoref03_May.mono : ∀ a0 k, LeO (dominoref03_May.f k a0) (dominoref03_May.f (k + 1) a0) := by
 intro a0 k
 have ih0 := dominoref03_May.mono_l k
 unfold dominoref03_May.f
 repeat' first
   | (with_reducible exact ih0 _ _)
   | (with_reducible exact LeO.refl _)
   | (with_reducible exact LeO.none _)
   | (with_reducible refine LeO.ite ?_ ?_)
   | (with_reducible refine LeO.bind ?_ (fun _ => ?_))
   | exact ih0 _ _
   | exact LeO.none _
   | refine LeO.ite ?_ ?_
   | refine LeO.bind ?_ (fun _ => ?_)
set_option maxHeartbeats 8000000 in
set_option maxRecDepth 100000 in
theorem dominoref03_May.calls (k : Nat) (A0 : Option Addr) (c0 : Nat) (l0 : List (S69)) (r : Bool) (w : World) (hr0 : Kd.C k69 w A0 l0.length l0) (hc0 : l0.length ≤ c0) (h : dominoref03_May.f k l0 = some r) :
  Calls Try.prog 33 #[.slice A0 l0.length c0] w fun e w' => e = .returned (.bool r) ∧ Drawn0 w w' := by
 have HR0 := Aside0.mk hr0
 have HC0 := Aside0.mk hc0
 clear hr0 hc0
 have H : (dominoref03_May.l0 k l0 0) = some r := h
 clear h
 have H' := Aside0.mk H
 clear H
 go_enter Try.func33, Try.ntmps33
 go_wp2
 repeat (go_quiet (fail); try go_wp2)
 go_loopg [3] k (fun kq v3 w' => ∃ (x3_1 : Int), v3 = .int .i64 x3_1 ∧ Aside0 (dominoref03_May.l0 kq l0 x3_1 = some r) ∧ Aside0 (kq ≤ k) ∧ Drawn0 w w')
 case atStart => exact ⟨(0), (by first | rfl | (simp; done) | (simp [*]; done)), H', ⟨Nat.le_refl _⟩, by repeat (first | exact Drawn0.refl _ | apply Drawn0.step)⟩
 case round =>
  clear H'
  obtain ⟨x3_1, rfl, HA, HK1, ⟨m1, rfl⟩⟩ := hrel
  cases gk with
  | zero => exact absurd HA.out (by simp [dominoref03_May.l0])
  | succ k1 =>
   have H := HA.out
   clear HA
   simp only [dominoref03_May.l0] at H
   by_cases c2 : x3_1 < (l0.length : Int)
   ·rw [if_pos c2] at H
    have c2b0 : decide (x3_1 < (l0.length : Int)) = true := decide_eq_true c2
    clear c2
    by_cases c3 : 0 ≤ x3_1
    ·rw [if_pos c3] at H
     have c3b0 : decide (0 ≤ x3_1) = true := decide_eq_true c3
     clear c3
     by_cases c4 : ((rd_T69 l0 x3_1).f1) < ((rd_T69 l0 x3_1).f0)
     ·rw [if_pos c4] at H
      have c4b0 : decide (((rd_T69 l0 x3_1).f1) < ((rd_T69 l0 x3_1).f0)) = true := decide_eq_true c4
      clear c4
      obtain rfl := Option.some.inj H
      have p124 : 0 ≤ (x3_1 : Int) := of_decide_eq_true (by first | (with_reducible assumption) | assumption)
      have q124 : x3_1 < (l0.length : Int) := of_decide_eq_true (by first | (with_reducible assumption) | assumption)
      obtain ⟨ad124, e124, hx124_0, hx124_1⟩ := at_T69 HR0.out x3_1 p124 q124
      cases e124
      replace p124 := eq_true p124
      replace q124 := eq_true q124
      have p125 : 0 ≤ (x3_1 : Int) := of_decide_eq_true (by first | (with_reducible assumption) | assumption)
      have q125 : x3_1 < (l0.length : Int) := of_decide_eq_true (by first | (with_reducible assumption) | assumption)
      obtain ⟨ad125, e125, hx125_0, hx125_1⟩ := at_T69 HR0.out x3_1 p125 q125
      obtain rfl : ad124 = ad125 := (by injection e125)
      replace p125 := eq_true p125
      replace q125 := eq_true q125
      go_wp2
      repeat (go_quiet (fail); try go_wp2)
      go_ret
      exact ⟨by first | rfl | (simp; done) | (simp [*]; done), by repeat (first | exact Drawn0.refl _ | apply Drawn0.step)⟩
     ·rw [if_neg c4] at H
      have c4b0 : decide (((rd_T69 l0 x3_1).f1) < ((rd_T69 l0 x3_1).f0)) = false := decide_eq_false c4
      clear c4
      by_cases c5 : ((rd_T69 l0 x3_1).f1) ≥ 9223372036854775808
      ·rw [if_pos c5] at H
       have c5b0 : decide (9223372036854775808 ≤ ((rd_T69 l0 x3_1).f1)) = true := decide_eq_true c5
       clear c5
       obtain rfl := Option.some.inj H
       have p124 : 0 ≤ (x3_1 : Int) := of_decide_eq_true (by first | (with_reducible assumption) | assumption)
       have q124 : x3_1 < (l0.length : Int) := of_decide_eq_true (by first | (with_reducible assumption) | assumption)
       obtain ⟨ad124, e124, hx124_0, hx124_1⟩ := at_T69 HR0.out x3_1 p124 q124
       cases e124
       replace p124 := eq_true p124
       replace q124 := eq_true q124
       have p125 : 0 ≤ (x3_1 : Int) := of_decide_eq_true (by first | (with_reducible assumption) | assumption)
       have q125 : x3_1 < (l0.length : Int) := of_decide_eq_true (by first | (with_reducible assumption) | assumption)
       obtain ⟨ad125, e125, hx125_0, hx125_1⟩ := at_T69 HR0.out x3_1 p125 q125
       obtain rfl : ad124 = ad125 := (by injection e125)
       replace p125 := eq_true p125
       replace q125 := eq_true q125
       have p126 : 0 ≤ (x3_1 : Int) := of_decide_eq_true (by first | (with_reducible assumption) | assumption)
       have q126 : x3_1 < (l0.length : Int) := of_decide_eq_true (by first | (with_reducible assumption) | assumption)
       obtain ⟨ad126, e126, hx126_0, hx126_1⟩ := at_T69 HR0.out x3_1 p126 q126
       obtain rfl : ad124 = ad126 := (by injection e126)
       replace p126 := eq_true p126
       replace q126 := eq_true q126
       go_wp2
       repeat (go_quiet (fail); try go_wp2)
       go_ret
       exact ⟨by first | rfl | (simp; done) | (simp [*]; done), by repeat (first | exact Drawn0.refl _ | apply Drawn0.step)⟩
      ·rw [if_neg c5] at H
       have c5b0 : decide (9223372036854775808 ≤ ((rd_T69 l0 x3_1).f1)) = false := decide_eq_false c5
       clear c5
       by_cases c6 : x3_1 > 0
       ·rw [if_pos c6] at H
        have c6b0 : decide (0 < x3_1) = true := decide_eq_true c6
        clear c6
        obtain ⟨ji7, hji7⟩ : ∃ j_ : Int, (wrap64 (x3_1 - 1)) = j_ := ⟨_, rfl⟩
        replace H : (if 0 ≤ (ji7) then (if (ji7) < (l0.length : Int) then (if ((rd_T69 l0 x3_1).f0) < (IntKind.u64.wrap (((rd_T69 l0 (ji7)).f1) + 2)) then (some false) else (dominoref03_May.l0 k1 l0 (wrap64 (x3_1 + 1)))) else (none)) else (none)) = some r := by first | (rw [hji7] at H; exact H) | (simp only [hji7] at H ⊢; exact H)
        have hji7w : (IntKind.i64.wrap (x3_1 - 1)) = ji7 := (i64_w _).trans hji7
        by_cases c8 : 0 ≤ (ji7)
        ·rw [if_pos c8] at H
         have c8b0 : decide (0 ≤ (ji7)) = true := decide_eq_true c8
         clear c8
         by_cases c9 : (ji7) < (l0.length : Int)
         ·rw [if_pos c9] at H
          have c9b0 : decide ((ji7) < (l0.length : Int)) = true := decide_eq_true c9
          clear c9
          by_cases c10 : ((rd_T69 l0 x3_1).f0) < (IntKind.u64.wrap (((rd_T69 l0 (ji7)).f1) + 2))
          ·rw [if_pos c10] at H
           have c10b0 : decide (((rd_T69 l0 x3_1).f0) < (IntKind.u64.wrap (((rd_T69 l0 (ji7)).f1) + 2))) = true := decide_eq_true c10
           clear c10
           obtain rfl := Option.some.inj H
           have p124 : 0 ≤ (x3_1 : Int) := of_decide_eq_true (by first | (with_reducible assumption) | assumption)
           have q124 : x3_1 < (l0.length : Int) := of_decide_eq_true (by first | (with_reducible assumption) | assumption)
           obtain ⟨ad124, e124, hx124_0, hx124_1⟩ := at_T69 HR0.out x3_1 p124 q124
           cases e124
           replace p124 := eq_true p124
           replace q124 := eq_true q124
           have p125 : 0 ≤ (x3_1 : Int) := of_decide_eq_true (by first | (with_reducible assumption) | assumption)
           have q125 : x3_1 < (l0.length : Int) := of_decide_eq_true (by first | (with_reducible assumption) | assumption)
           obtain ⟨ad125, e125, hx125_0, hx125_1⟩ := at_T69 HR0.out x3_1 p125 q125
           obtain rfl : ad124 = ad125 := (by injection e125)
           replace p125 := eq_true p125
           replace q125 := eq_true q125
           have p126 : 0 ≤ (x3_1 : Int) := of_decide_eq_true (by first | (with_reducible assumption) | assumption)
           have q126 : x3_1 < (l0.length : Int) := of_decide_eq_true (by first | (with_reducible assumption) | assumption)
           obtain ⟨ad126, e126, hx126_0, hx126_1⟩ := at_T69 HR0.out x3_1 p126 q126
           obtain rfl : ad124 = ad126 := (by injection e126)
           replace p126 := eq_true p126
           replace q126 := eq_true q126
           have p127 : 0 ≤ (x3_1 : Int) := of_decide_eq_true (by first | (with_reducible assumption) | assumption)
           have q127 : x3_1 < (l0.length : Int) := of_decide_eq_true (by first | (with_reducible assumption) | assumption)
           obtain ⟨ad127, e127, hx127_0, hx127_1⟩ := at_T69 HR0.out x3_1 p127 q127
           obtain rfl : ad124 = ad127 := (by injection e127)
           replace p127 := eq_true p127
           replace q127 := eq_true q127
           have p128 : 0 ≤ ((ji7) : Int) := of_decide_eq_true (by first | (with_reducible assumption) | assumption)
           have q128 : (ji7) < (l0.length : Int) := of_decide_eq_true (by first | (with_reducible assumption) | assumption)
           obtain ⟨ad128, e128, hx128_0, hx128_1⟩ := at_T69 HR0.out (ji7) p128 q128
           obtain rfl : ad124 = ad128 := (by injection e128)
           replace p128 := eq_true p128
           replace q128 := eq_true q128
           go_wp2
           repeat (go_quiet (fail); try go_wp2)
           go_ret
           exact ⟨by first | rfl | (simp; done) | (simp only [← hji7] <;> (first | rfl | simp)) | (simp [*]; done), by repeat (first | exact Drawn0.refl _ | apply Drawn0.step)⟩
          ·rw [if_neg c10] at H
           have c10b0 : decide (((rd_T69 l0 x3_1).f0) < (IntKind.u64.wrap (((rd_T69 l0 (ji7)).f1) + 2))) = false := decide_eq_false c10
           clear c10
           have H' := Aside0.mk H
           clear H
           have p124 : 0 ≤ (x3_1 : Int) := of_decide_eq_true (by first | (with_reducible assumption) | assumption)
           have q124 : x3_1 < (l0.length : Int) := of_decide_eq_true (by first | (with_reducible assumption) | assumption)
           obtain ⟨ad124, e124, hx124_0, hx124_1⟩ := at_T69 HR0.out x3_1 p124 q124
           cases e124
           replace p124 := eq_true p124
           replace q124 := eq_true q124
           have p125 : 0 ≤ (x3_1 : Int) := of_decide_eq_true (by first | (with_reducible assumption) | assumption)
           have q125 : x3_1 < (l0.length : Int) := of_decide_eq_true (by first | (with_reducible assumption) | assumption)
           obtain ⟨ad125, e125, hx125_0, hx125_1⟩ := at_T69 HR0.out x3_1 p125 q125
           obtain rfl : ad124 = ad125 := (by injection e125)
           replace p125 := eq_true p125
           replace q125 := eq_true q125
           have p126 : 0 ≤ (x3_1 : Int) := of_decide_eq_true (by first | (with_reducible assumption) | assumption)
           have q126 : x3_1 < (l0.length : Int) := of_decide_eq_true (by first | (with_reducible assumption) | assumption)
           obtain ⟨ad126, e126, hx126_0, hx126_1⟩ := at_T69 HR0.out x3_1 p126 q126
           obtain rfl : ad124 = ad126 := (by injection e126)
           replace p126 := eq_true p126
           replace q126 := eq_true q126
           have p127 : 0 ≤ (x3_1 : Int) := of_decide_eq_true (by first | (with_reducible assumption) | assumption)
           have q127 : x3_1 < (l0.length : Int) := of_decide_eq_true (by first | (with_reducible assumption) | assumption)
           obtain ⟨ad127, e127, hx127_0, hx127_1⟩ := at_T69 HR0.out x3_1 p127 q127
           obtain rfl : ad124 = ad127 := (by injection e127)
           replace p127 := eq_true p127
           replace q127 := eq_true q127
           have p128 : 0 ≤ ((ji7) : Int) := of_decide_eq_true (by first | (with_reducible assumption) | assumption)
           have q128 : (ji7) < (l0.length : Int) := of_decide_eq_true (by first | (with_reducible assumption) | assumption)
           obtain ⟨ad128, e128, hx128_0, hx128_1⟩ := at_T69 HR0.out (ji7) p128 q128
           obtain rfl : ad124 = ad128 := (by injection e128)
           replace p128 := eq_true p128
           replace q128 := eq_true q128
           go_wp2
           repeat (go_quiet (fail); try go_wp2)
           go_roundg k1
           case measure => have := HK1.out; omega
           case rel => exact ⟨(wrap64 (x3_1 + 1)), (by first | rfl | (simp; done) | (simp [*]; done)), H', ⟨by have := HK1.out; omega⟩, by repeat (first | exact Drawn0.refl _ | apply Drawn0.step)⟩
         ·rw [if_neg c9] at H
          exact absurd H (by simp)
        ·rw [if_neg c8] at H
         exact absurd H (by simp)
       ·rw [if_neg c6] at H
        have c6b0 : decide (0 < x3_1) = false := decide_eq_false c6
        clear c6
        have H' := Aside0.mk H
        clear H
        have p124 : 0 ≤ (x3_1 : Int) := of_decide_eq_true (by first | (with_reducible assumption) | assumption)
        have q124 : x3_1 < (l0.length : Int) := of_decide_eq_true (by first | (with_reducible assumption) | assumption)
        obtain ⟨ad124, e124, hx124_0, hx124_1⟩ := at_T69 HR0.out x3_1 p124 q124
        cases e124
        replace p124 := eq_true p124
        replace q124 := eq_true q124
        have p125 : 0 ≤ (x3_1 : Int) := of_decide_eq_true (by first | (with_reducible assumption) | assumption)
        have q125 : x3_1 < (l0.length : Int) := of_decide_eq_true (by first | (with_reducible assumption) | assumption)
        obtain ⟨ad125, e125, hx125_0, hx125_1⟩ := at_T69 HR0.out x3_1 p125 q125
        obtain rfl : ad124 = ad125 := (by injection e125)
        replace p125 := eq_true p125
        replace q125 := eq_true q125
        have p126 : 0 ≤ (x3_1 : Int) := of_decide_eq_true (by first | (with_reducible assumption) | assumption)
        have q126 : x3_1 < (l0.length : Int) := of_decide_eq_true (by first | (with_reducible assumption) | assumption)
        obtain ⟨ad126, e126, hx126_0, hx126_1⟩ := at_T69 HR0.out x3_1 p126 q126
        obtain rfl : ad124 = ad126 := (by injection e126)
        replace p126 := eq_true p126
        replace q126 := eq_true q126
        go_wp2
        repeat (go_quiet (fail); try go_wp2)
        go_roundg k1
        case measure => have := HK1.out; omega
        case rel => exact ⟨(wrap64 (x3_1 + 1)), (by first | rfl | (simp; done) | (simp [*]; done)), H', ⟨by have := HK1.out; omega⟩, by repeat (first | exact Drawn0.refl _ | apply Drawn0.step)⟩
    ·rw [if_neg c3] at H
     exact absurd H (by simp)
   ·rw [if_neg c2] at H
    have c2b0 : decide (x3_1 < (l0.length : Int)) = false := decide_eq_false c2
    clear c2
    obtain rfl := Option.some.inj H
    go_wp2
    repeat (go_quiet (fail); try go_wp2)
    go_ret
    exact ⟨by first | rfl | (simp; done) | (simp [*]; done), by repeat (first | exact Drawn0.refl _ | apply Drawn0.step)⟩

/-! ### dominoref06_May: function 22 -/
mutual
def dominoref06_May.l0 : Nat → ByteArray → List Int → Int → Int → Int → Int → Int → Int → Int → Int → Int → Bool → ByteArray → ByteArray → ByteArray → List (S69) → Option (Bool)
 | 0, _, _, _, _, _, _, _, _, _, _, _, _, _, _, _, _ => none
 | k + 1, x3, x4, x5, x130000, x130001, x130002, x130003, x130004, x130005, x130006, x130007, x130008, x130009, x130010, x130011, x130012 => if x5 < (x4.length : Int) then (if 0 ≤ x5 then (if (rd x4 x5) > 4611686018427387903 then (none) else (if (rd x4 x5) = 0 then (dominoref06_May.l0 k x3 x4 (wrap64 (x5 + 1)) x130000 x130001 x130002 x130003 x130004 x130005 x130006 x130007 x130008 x130009 x130010 x130011 x130012) else (if x5 < 7 then ((dominoref06_in.f k x3 (bt (⟨#[105, 111, 109, 99, 113, 112, 101]⟩ : ByteArray) x5)).bind fun t136 => (if t136 = true then (dominoref06_May.l0 k x3 x4 (wrap64 (x5 + 1)) x130000 x130001 x130002 x130003 x130004 x130005 x130006 x130007 x130008 x130009 x130010 x130011 x130012) else (none))) else (none)))) else (none)) else (if x3.toList = ([] : List UInt8) then (none) else (if x130008 = true then (none) else (if x130009.toList = ([] : List UInt8) then (if x130010.toList = ([] : List UInt8) then (if x130011.toList = ([] : List UInt8) then (if (x130012.length : Int) > 0 then ((dominoref06_in.f k x3 115).bind fun t137 => (dominoref06_May.j1 k (!t137) x130000 x130001 x130002 x130003 x130004 x130005 x130006 x130007 x130008 x130009 x130010 x130011 x130012)) else (dominoref06_May.j1 k false x130000 x130001 x130002 x130003 x130004 x130005 x130006 x130007 x130008 x130009 x130010 x130011 x130012)) else (none)) else (none)) else (none))))
def dominoref06_May.j1 : Nat → Bool → Int → Int → Int → Int → Int → Int → Int → Int → Bool → ByteArray → ByteArray → ByteArray → List (S69) → Option (Bool)
 | 0, _, _, _, _, _, _, _, _, _, _, _, _, _, _ => none
 | k + 1, x101, x130000, x130001, x130002, x130003, x130004, x130005, x130006, x130007, x130008, x130009, x130010, x130011, x130012 => if x101 = true then (none) else (if x130000 = 2 then ((dominoref03_May.f k x130012).bind fun t138 => (if t138 = true then (if (x130012.length : Int) ≥ 1 then (if (x130012.length : Int) ≤ 32 then (if 0 ≤ (wrap64 ((x130012.length : Int) - 1)) then (if (wrap64 ((x130012.length : Int) - 1)) < (x130012.length : Int) then (some (decide (((rd_T69 x130012 (wrap64 ((x130012.length : Int) - 1))).f1) ≤ 4611686018427387903))) else (none)) else (none)) else (none)) else (none)) else (none))) else (none))
end
def dominoref06_May.f (k : Nat) (a0_0 : Int) (a0_1 : Int) (a0_2 : Int) (a0_3 : Int) (a0_4 : Int) (a0_5 : Int) (a0_6 : Int) (a0_7 : Int) (a0_8 : Bool) (a0_9 : ByteArray) (a0_10 : ByteArray) (a0_11 : ByteArray) (l0_12 : List (S69)) : Option (Bool) := (dominoref06_shape.f k a0_0).bind fun t130 => (dominoref06_May.l0 k t130 (([a0_1, a0_2, a0_3, a0_4, a0_5, a0_6, a0_7] : List Int)) 0 a0_0 a0_1 a0_2 a0_3 a0_4 a0_5 a0_6 a0_7 a0_8 a0_9 a0_10 a0_11 l0_12)
theorem dominoref06_May.mono_l : ∀ k, (∀ y0 y1 y2 y3 y4 y5 y6 y7 y8 y9 y10 y11 y12 y13 y14 y15, LeO (dominoref06_May.l0 k y0 y1 y2 y3 y4 y5 y6 y7 y8 y9 y10 y11 y12 y13 y14 y15) (dominoref06_May.l0 (k + 1) y0 y1 y2 y3 y4 y5 y6 y7 y8 y9 y10 y11 y12 y13 y14 y15)) ∧ (∀ y0 y1 y2 y3 y4 y5 y6 y7 y8 y9 y10 y11 y12 y13, LeO (dominoref06_May.j1 k y0 y1 y2 y3 y4 y5 y6 y7 y8 y9 y10 y11 y12 y13) (dominoref06_May.j1 (k + 1) y0 y1 y2 y3 y4 y5 y6 y7 y8 y9 y10 y11 y12 y13))
 | 0 => ⟨fun _ _ _ _ _ _ _ _ _ _ _ _ _ _ _ _ r h => by simp [dominoref06_May.l0] at h, fun _ _ _ _ _ _ _ _ _ _ _ _ _ _ r h => by simp [dominoref06_May.j1] at h⟩
 | k + 1 => by
  obtain ⟨ih0, ih1⟩ := dominoref06_May.mono_l k
  refine ⟨?_, ?_⟩
  ·intro y0 y1 y2 y3 y4 y5 y6 y7 y8 y9 y10 y11 y12 y13 y14 y15
   unfold dominoref06_May.l0
   repeat' first
   | (with_reducible exact ih0 _ _ _ _ _ _ _ _ _ _ _ _ _ _ _ _)
   | (with_reducible exact ih1 _ _ _ _ _ _ _ _ _ _ _ _ _ _)
   | (with_reducible exact dominoref03_May.mono _ _)
   | (with_reducible exact dominoref06_in.mono _ _ _)
   | (with_reducible exact dominoref06_shape.mono _ _)
   | (with_reducible exact LeO.refl _)
   | (with_reducible exact LeO.none _)
   | (with_reducible refine LeO.ite ?_ ?_)
   | (with_reducible refine LeO.bind ?_ (fun _ => ?_))
   | exact ih0 _ _ _ _ _ _ _ _ _ _ _ _ _ _ _ _
   | exact ih1 _ _ _ _ _ _ _ _ _ _ _ _ _ _
   | exact dominoref03_May.mono _ _
   | exact dominoref06_in.mono _ _ _
   | exact dominoref06_shape.mono _ _
   | exact LeO.none _
   | refine LeO.ite ?_ ?_
   | refine LeO.bind ?_ (fun _ => ?_)
  ·intro y0 y1 y2 y3 y4 y5 y6 y7 y8 y9 y10 y11 y12 y13
   unfold dominoref06_May.j1
   repeat' first
   | (with_reducible exact ih0 _ _ _ _ _ _ _ _ _ _ _ _ _ _ _ _)
   | (with_reducible exact ih1 _ _ _ _ _ _ _ _ _ _ _ _ _ _)
   | (with_reducible exact dominoref03_May.mono _ _)
   | (with_reducible exact dominoref06_in.mono _ _ _)
   | (with_reducible exact dominoref06_shape.mono _ _)
   | (with_reducible exact LeO.refl _)
   | (with_reducible exact LeO.none _)
   | (with_reducible refine LeO.ite ?_ ?_)
   | (with_reducible refine LeO.bind ?_ (fun _ => ?_))
   | exact ih0 _ _ _ _ _ _ _ _ _ _ _ _ _ _ _ _
   | exact ih1 _ _ _ _ _ _ _ _ _ _ _ _ _ _
   | exact dominoref03_May.mono _ _
   | exact dominoref06_in.mono _ _ _
   | exact dominoref06_shape.mono _ _
   | exact LeO.none _
   | refine LeO.ite ?_ ?_
   | refine LeO.bind ?_ (fun _ => ?_)
theorem dominoref06_May.mono : ∀ a0 a1 a2 a3 a4 a5 a6 a7 a8 a9 a10 a11 a12 k, LeO (dominoref06_May.f k a0 a1 a2 a3 a4 a5 a6 a7 a8 a9 a10 a11 a12) (dominoref06_May.f (k + 1) a0 a1 a2 a3 a4 a5 a6 a7 a8 a9 a10 a11 a12) := by
 intro a0 a1 a2 a3 a4 a5 a6 a7 a8 a9 a10 a11 a12 k
 obtain ⟨ih0, ih1⟩ := dominoref06_May.mono_l k
 unfold dominoref06_May.f
 repeat' first
   | (with_reducible exact ih0 _ _ _ _ _ _ _ _ _ _ _ _ _ _ _ _)
   | (with_reducible exact ih1 _ _ _ _ _ _ _ _ _ _ _ _ _ _)
   | (with_reducible exact dominoref03_May.mono _ _)
   | (with_reducible exact dominoref06_in.mono _ _ _)
   | (with_reducible exact dominoref06_shape.mono _ _)
   | (with_reducible exact LeO.refl _)
   | (with_reducible exact LeO.none _)
   | (with_reducible refine LeO.ite ?_ ?_)
   | (with_reducible refine LeO.bind ?_ (fun _ => ?_))
   | exact ih0 _ _ _ _ _ _ _ _ _ _ _ _ _ _ _ _
   | exact ih1 _ _ _ _ _ _ _ _ _ _ _ _ _ _
   | exact dominoref03_May.mono _ _
   | exact dominoref06_in.mono _ _ _
   | exact dominoref06_shape.mono _ _
   | exact LeO.none _
   | refine LeO.ite ?_ ?_
   | refine LeO.bind ?_ (fun _ => ?_)
set_option maxHeartbeats 8000000 in
set_option maxRecDepth 100000 in
theorem dominoref06_May.calls (k : Nat) (a0_0 : Int) (a0_1 : Int) (a0_2 : Int) (a0_3 : Int) (a0_4 : Int) (a0_5 : Int) (a0_6 : Int) (a0_7 : Int) (a0_8 : Bool) (a0_9 : ByteArray) (a0_10 : ByteArray) (a0_11 : ByteArray) (A0_12 : Option Addr) (c0_12 : Nat) (l0_12 : List (S69)) (r : Bool) (w : World) (hr0_12 : Kd.C k69 w A0_12 l0_12.length l0_12) (hc0_12 : l0_12.length ≤ c0_12) (h : dominoref06_May.f k a0_0 a0_1 a0_2 a0_3 a0_4 a0_5 a0_6 a0_7 a0_8 a0_9 a0_10 a0_11 l0_12 = some r) :
  Calls Try.prog 22 #[.agg #[.int .u64 a0_0, .int .u64 a0_1, .int .u64 a0_2, .int .u64 a0_3, .int .u64 a0_4, .int .u64 a0_5, .int .u64 a0_6, .int .u64 a0_7, .bool a0_8, .string a0_9, .string a0_10, .string a0_11, .slice A0_12 l0_12.length c0_12]] w fun e w' => e = .returned (.bool r) ∧ Below w.heap.size w w' := by
 have hu42 := Try.underlying42
 have HR0_12 := Aside0.mk hr0_12
 have HC0_12 := Aside0.mk hc0_12
 clear hr0_12 hc0_12
 have HB := Aside0.mk (Below.refl w.heap.size w)
 have H : ((dominoref06_shape.f k a0_0).bind fun t130 => (dominoref06_May.l0 k t130 (([a0_1, a0_2, a0_3, a0_4, a0_5, a0_6, a0_7] : List Int)) 0 a0_0 a0_1 a0_2 a0_3 a0_4 a0_5 a0_6 a0_7 a0_8 a0_9 a0_10 a0_11 l0_12)) = some r := h
 clear h
 replace H := Option.bind_eq_some_iff.mp H
 obtain ⟨t130, A20, H⟩ := H
 replace H : (dominoref06_May.l0 k t130 (([a0_1, a0_2, a0_3, a0_4, a0_5, a0_6, a0_7] : List Int)) 0 a0_0 a0_1 a0_2 a0_3 a0_4 a0_5 a0_6 a0_7 a0_8 a0_9 a0_10 a0_11 l0_12) = some r := H
 have A2 := Aside0.mk A20
 clear A20
 obtain ⟨y131, hy131⟩ : ∃ y_ : List Int, y_ = (([a0_1, a0_2, a0_3, a0_4, a0_5, a0_6, a0_7] : List Int)) := ⟨_, rfl⟩
 replace H : (dominoref06_May.l0 k t130 y131 0 a0_0 a0_1 a0_2 a0_3 a0_4 a0_5 a0_6 a0_7 a0_8 a0_9 a0_10 a0_11 l0_12) = some r := by first | (rw [hy131]; with_reducible exact H) | (have H2_ := (Option.bind_some _ _).symm.trans H; rw [hy131]; with_reducible exact H2_) | (have H2_ := (Option.bind_some _ _).symm.trans H; with_reducible exact H2_) | with_reducible exact H | (rw [hy131]; exact H) | exact H
 have Ny131 := Aside0.mk hy131
 clear hy131
 have H' := Aside0.mk H
 clear H
 go_enter Try.func22, Try.ntmps22
 go_wp2_with (first | ((with_reducible refine gate_dst (N := 1) rfl ?_); (try (refine gate_guard (by rfl) ?_; dsimp only)); refine box_event ?hg (N := 1) ?hd (cs := #[.int .u64 a0_0, .int .u64 a0_1, .int .u64 a0_2, .int .u64 a0_3, .int .u64 a0_4, .int .u64 a0_5, .int .u64 a0_6, .int .u64 a0_7, .bool a0_8, .string a0_9, .string a0_10, .string a0_11, .slice A0_12 l0_12.length c0_12]) (t := 42) ?hr ?_; (case hd => rfl); (case hg => rfl); (case hr => first | (go_simp; done) | (go_simp; rfl)); intro gb129 hg w3 hbox hb; have n0_ := Aside0.mk (below_step (by repeat (first | (with_reducible first | exact HB.out | apply below_alloc | apply pw_below_drewN | apply below_drew1) | exact HB.out)) hb); have n1_ := Aside0.mk (hbox); have n2_ := Aside0.mk ((by rw [hg]; exact (below_size (by repeat (first | (with_reducible first | exact HB.out | apply below_alloc | apply pw_below_drewN | apply below_drew1) | exact HB.out))) : w.heap.size ≤ gb129)); have n3_ := Aside0.mk ((by rw [hg]; exact (below_size (by repeat (first | (with_reducible first | exact HB.out | apply below_alloc | apply pw_below_drewN | apply below_drew1) | exact HB.out))) : w.heap.size ≤ gb129)); clear HB; have HB := n0_; have BK129 := n1_; have GW129 := n2_; have GE129 := n3_; clear n0_ n1_ n2_ n3_; clear hb hbox hg; have hcz4_0 : w3.cell? ⟨gb129, 0, none⟩ = some (.int .u64 a0_0) := (blk_cell BK129.out 0).trans rfl; have hcz4_1 : w3.cell? ⟨gb129, 1, none⟩ = some (.int .u64 a0_1) := (blk_cell BK129.out 1).trans rfl; have hcz4_2 : w3.cell? ⟨gb129, 2, none⟩ = some (.int .u64 a0_2) := (blk_cell BK129.out 2).trans rfl; have hcz4_3 : w3.cell? ⟨gb129, 3, none⟩ = some (.int .u64 a0_3) := (blk_cell BK129.out 3).trans rfl; have hcz4_4 : w3.cell? ⟨gb129, 4, none⟩ = some (.int .u64 a0_4) := (blk_cell BK129.out 4).trans rfl; have hcz4_5 : w3.cell? ⟨gb129, 5, none⟩ = some (.int .u64 a0_5) := (blk_cell BK129.out 5).trans rfl; have hcz4_6 : w3.cell? ⟨gb129, 6, none⟩ = some (.int .u64 a0_6) := (blk_cell BK129.out 6).trans rfl; have hcz4_7 : w3.cell? ⟨gb129, 7, none⟩ = some (.int .u64 a0_7) := (blk_cell BK129.out 7).trans rfl; have hcz4_8 : w3.cell? ⟨gb129, 8, none⟩ = some (.bool a0_8) := (blk_cell BK129.out 8).trans rfl; have hcz4_9 : w3.cell? ⟨gb129, 9, none⟩ = some (.string a0_9) := (blk_cell BK129.out 9).trans rfl; have hcz4_10 : w3.cell? ⟨gb129, 10, none⟩ = some (.string a0_10) := (blk_cell BK129.out 10).trans rfl; have hcz4_11 : w3.cell? ⟨gb129, 11, none⟩ = some (.string a0_11) := (blk_cell BK129.out 11).trans rfl; have hcz4_12 : w3.cell? ⟨gb129, 12, none⟩ = some (.slice A0_12 l0_12.length c0_12) := (blk_cell BK129.out 12).trans rfl; have hfz4_0 := blk_frozen BK129.out 0; have hfz4_1 := blk_frozen BK129.out 1; have hfz4_2 := blk_frozen BK129.out 2; have hfz4_3 := blk_frozen BK129.out 3; have hfz4_4 := blk_frozen BK129.out 4; have hfz4_5 := blk_frozen BK129.out 5; have hfz4_6 := blk_frozen BK129.out 6; have hfz4_7 := blk_frozen BK129.out 7; have hfz4_8 := blk_frozen BK129.out 8; have hfz4_9 := blk_frozen BK129.out 9; have hfz4_10 := blk_frozen BK129.out 10; have hfz4_11 := blk_frozen BK129.out 11; have hfz4_12 := blk_frozen BK129.out 12) | ((with_reducible refine gate_callee (f := 31) rfl ?_); refine goesL_ (some 9) rfl rfl Try.func31 (by kernel_rfl) rfl #[.int .u64 a0_0] rfl (by (try simp only [List.map_toArray, List.map_cons, List.map_nil]); first | done | rfl | (simp only [List.length_drop, List.length_take]; rfl)) ?_; (with_reducible refine (dominoref06_shape.calls k a0_0 t130 _ A2.out).mono ?_); rintro e w' ⟨rfl, ⟨nd, rfl⟩⟩; refine ⟨_, rfl, ?_⟩) | ((with_reducible refine gate_dst (N := 24) rfl ?_); (try (refine gate_guard (by rfl) ?_; dsimp only)); refine Kd.R_lit (Kd.int .u64) _ 24 ?hg (N := 24) ?hd (xs := ([a0_1, a0_2, a0_3, a0_4, a0_5, a0_6, a0_7] : List Int)) (inner := [.int .u64 a0_1, .int .u64 a0_2, .int .u64 a0_3, .int .u64 a0_4, .int .u64 a0_5, .int .u64 a0_6, .int .u64 a0_7]) (ok := fun _ => True) (okp := fun _ => True) ?hr ?hp (fun _ hk => hk) trivial (Below.refl _ _) (Nat.le_refl _) (by simp) ?_; (case hd => rfl); (case hg => rfl); (case hr => first | (go_simp; done) | (go_simp; rfl)); (case hp => exact (Reps.one (show Kd.M (Kd.int .u64) _ _ _ a0_1 [.int .u64 a0_1] from rfl) (Reps.one (show Kd.M (Kd.int .u64) _ _ _ a0_2 [.int .u64 a0_2] from rfl) (Reps.one (show Kd.M (Kd.int .u64) _ _ _ a0_3 [.int .u64 a0_3] from rfl) (Reps.one (show Kd.M (Kd.int .u64) _ _ _ a0_4 [.int .u64 a0_4] from rfl) (Reps.one (show Kd.M (Kd.int .u64) _ _ _ a0_5 [.int .u64 a0_5] from rfl) (Reps.one (show Kd.M (Kd.int .u64) _ _ _ a0_6 [.int .u64 a0_6] from rfl) (Reps.one (show Kd.M (Kd.int .u64) _ _ _ a0_7 [.int .u64 a0_7] from rfl) (Reps.none _ _))))))))); intro v132 w5 ho6 hb hg_ hnew_; clear hg_ hnew_; (first | rw [← Ny131.out] at ho6 | (simp only [Int.reduceToNat] at ho6; rw [← Ny131.out] at ho6)); have n0_ := Aside0.mk (Kd.R_lower ho6 (below_size (by repeat (first | (with_reducible first | exact HB.out | apply below_alloc | apply pw_below_drewN | apply below_drew1 | refine below_set ?_ GE129.out) | exact HB.out)))); have n1_ := Aside0.mk (blk_below (g := gb129) (o := .cells #[.int .u64 a0_0, .int .u64 a0_1, .int .u64 a0_2, .int .u64 a0_3, .int .u64 a0_4, .int .u64 a0_5, .int .u64 a0_6, .int .u64 a0_7, .bool a0_8, .string a0_9, .string a0_10, .string a0_11, .slice A0_12 l0_12.length c0_12] 42 (0, 0)) (by (with_reducible repeat (first | refine blk_drewN ?_ _ | refine blk_drew ?_ | refine blk_alloc ?_ _)); exact BK129.out) hb); have n2_ := Aside0.mk (below_step (by repeat (first | (with_reducible first | exact HB.out | apply below_alloc | apply pw_below_drewN | apply below_drew1 | refine below_set ?_ GE129.out) | exact HB.out)) hb); clear BK129; clear HB; have HO133 := n0_; have BK129 := n1_; have HB := n2_; clear n0_ n1_ n2_; clear hb ho6))
 go_loopg [5] k (fun kq v5 w' => ∃ (x5_1 : Int), v5 = .int .i64 x5_1 ∧ Aside0 (dominoref06_May.l0 kq t130 y131 x5_1 a0_0 a0_1 a0_2 a0_3 a0_4 a0_5 a0_6 a0_7 a0_8 a0_9 a0_10 a0_11 l0_12 = some r) ∧ Aside0 (kq ≤ k) ∧ Aside0 (Kd.R (Kd.int .u64) 24 w' w.heap.size (fun _ => True) v132 y131) ∧ Aside0 (w'.heap[gb129]? = some (.cells #[.int .u64 a0_0, .int .u64 a0_1, .int .u64 a0_2, .int .u64 a0_3, .int .u64 a0_4, .int .u64 a0_5, .int .u64 a0_6, .int .u64 a0_7, .bool a0_8, .string a0_9, .string a0_10, .string a0_11, (.slice A0_12 l0_12.length c0_12)] 42 (0, 0))) ∧ Aside0 (Below w.heap.size w w'))
 case atStart => exact ⟨(0), (by first | rfl | (simp; done) | (simp [*]; done)), H', ⟨Nat.le_refl _⟩, ⟨by (with_reducible repeat (first | apply Kd.R_alloc | apply Kd.R_drewN | apply Kd.R_drew)); exact HO133.out⟩, ⟨by (with_reducible repeat (first | refine blk_drewN ?_ _ | refine blk_drew ?_ | refine blk_alloc ?_ _)); exact BK129.out⟩, ⟨by repeat (first | (with_reducible first | exact HB.out | apply below_alloc | apply pw_below_drewN | apply below_drew1 | refine below_set ?_ GE129.out) | exact HB.out)⟩⟩
 case round =>
  clear H'
  try clear c2
  try clear p2
  try clear c3
  try clear hcz4_0
  try clear hcz4_1
  try clear hcz4_10
  try clear hcz4_11
  try clear hcz4_12
  try clear hcz4_2
  try clear hcz4_3
  try clear hcz4_4
  try clear hcz4_5
  try clear hcz4_6
  try clear hcz4_7
  try clear hcz4_8
  try clear hcz4_9
  try clear hfz4_0
  try clear hfz4_1
  try clear hfz4_10
  try clear hfz4_11
  try clear hfz4_12
  try clear hfz4_2
  try clear hfz4_3
  try clear hfz4_4
  try clear hfz4_5
  try clear hfz4_6
  try clear hfz4_7
  try clear hfz4_8
  try clear hfz4_9
  obtain ⟨x5_1, rfl, HA, HK1, HO_4, BK129, HB⟩ := hrel
  cases gk with
  | zero => exact absurd HA.out (by simp [dominoref06_May.l0])
  | succ k1 =>
   have H := HA.out
   clear HA
   simp only [dominoref06_May.l0] at H
   by_cases c7 : x5_1 < (y131.length : Int)
   ·rw [if_pos c7] at H
    have c7b0 : decide (x5_1 < (y131.length : Int)) = true := decide_eq_true c7
    clear c7
    by_cases c8 : 0 ≤ x5_1
    ·rw [if_pos c8] at H
     have c8b0 : decide (0 ≤ x5_1) = true := decide_eq_true c8
     clear c8
     by_cases c9 : (rd y131 x5_1) > 4611686018427387903
     ·rw [if_pos c9] at H
      exact absurd H (by simp)
     ·rw [if_neg c9] at H
      have c9b0 : decide (4611686018427387903 < (rd y131 x5_1)) = false := decide_eq_false c9
      clear c9
      by_cases c10 : (rd y131 x5_1) = 0
      ·rw [if_pos c10] at H
       have c10b0 : ((rd y131 x5_1) == 0) = true := beq_iff_eq.mpr c10
       have c10b1 : ((rd y131 x5_1) != 0) = false := bne_eq_false_iff_eq.mpr c10
       clear c10
       have H' := Aside0.mk H
       clear H
       obtain ⟨Ao11, co11, eo11⟩ := Kd.R_slice HO_4.out
       subst eo11
       have p134 : 0 ≤ (x5_1 : Int) := of_decide_eq_true (by first | (with_reducible assumption) | assumption)
       have q134 : x5_1 < (y131.length : Int) := of_decide_eq_true (by first | (with_reducible assumption) | assumption)
       obtain ⟨ad134, e134, hx134_0⟩ := Kd.at_int (Kd.R_reads' HO_4.out).2.2 x5_1 p134 q134
       cases e134
       replace p134 := eq_true p134
       replace q134 := eq_true q134
       have p135 : 0 ≤ (x5_1 : Int) := of_decide_eq_true (by first | (with_reducible assumption) | assumption)
       have q135 : x5_1 < (y131.length : Int) := of_decide_eq_true (by first | (with_reducible assumption) | assumption)
       obtain ⟨ad135, e135, hx135_0⟩ := Kd.at_int (Kd.R_reads' HO_4.out).2.2 x5_1 p135 q135
       obtain rfl : ad134 = ad135 := (by injection e135)
       replace p135 := eq_true p135
       replace q135 := eq_true q135
       go_wp2
       go_roundg k1
       case measure => have := HK1.out; omega
       case rel => exact ⟨(wrap64 (x5_1 + 1)), (by first | rfl | (simp; done) | (simp [*]; done)), H', ⟨by have := HK1.out; omega⟩, ⟨by (with_reducible repeat (first | apply Kd.R_alloc | apply Kd.R_drewN | apply Kd.R_drew)); exact HO_4.out⟩, ⟨by (with_reducible repeat (first | refine blk_drewN ?_ _ | refine blk_drew ?_ | refine blk_alloc ?_ _)); exact BK129.out⟩, ⟨by repeat (first | (with_reducible first | exact HB.out | apply below_alloc | apply pw_below_drewN | apply below_drew1 | refine below_set ?_ GE129.out) | exact HB.out)⟩⟩
      ·rw [if_neg c10] at H
       have c10b0 : ((rd y131 x5_1) == 0) = false := beq_eq_false_iff_ne.mpr c10
       have c10b1 : ((rd y131 x5_1) != 0) = true := bne_iff_ne.mpr c10
       by_cases c12 : x5_1 < 7
       ·rw [if_pos c12] at H
        have c12b0 : decide (x5_1 < 7) = true := decide_eq_true c12
        clear c12
        replace H := Option.bind_eq_some_iff.mp H
        obtain ⟨t136, A140, H⟩ := H
        replace H : (if t136 = true then (dominoref06_May.l0 k1 t130 y131 (wrap64 (x5_1 + 1)) a0_0 a0_1 a0_2 a0_3 a0_4 a0_5 a0_6 a0_7 a0_8 a0_9 a0_10 a0_11 l0_12) else (none)) = some r := H
        have A14 := Aside0.mk A140
        clear A140
        by_cases c15 : t136 = true
        ·subst c15
         have H1 : (dominoref06_May.l0 k1 t130 y131 (wrap64 (x5_1 + 1)) a0_0 a0_1 a0_2 a0_3 a0_4 a0_5 a0_6 a0_7 a0_8 a0_9 a0_10 a0_11 l0_12) = some r := by rw [if_pos rfl] at H; exact H
         clear H
         have H := H1
         clear H1
         have H' := Aside0.mk H
         clear H
         obtain ⟨Ao16, co16, eo16⟩ := Kd.R_slice HO_4.out
         subst eo16
         have p134 : 0 ≤ (x5_1 : Int) := of_decide_eq_true (by first | (with_reducible assumption) | assumption)
         have q134 : x5_1 < (y131.length : Int) := of_decide_eq_true (by first | (with_reducible assumption) | assumption)
         obtain ⟨ad134, e134, hx134_0⟩ := Kd.at_int (Kd.R_reads' HO_4.out).2.2 x5_1 p134 q134
         cases e134
         replace p134 := eq_true p134
         replace q134 := eq_true q134
         have p135 : 0 ≤ (x5_1 : Int) := of_decide_eq_true (by first | (with_reducible assumption) | assumption)
         have q135 : x5_1 < (y131.length : Int) := of_decide_eq_true (by first | (with_reducible assumption) | assumption)
         obtain ⟨ad135, e135, hx135_0⟩ := Kd.at_int (Kd.R_reads' HO_4.out).2.2 x5_1 p135 q135
         obtain rfl : ad134 = ad135 := (by injection e135)
         replace p135 := eq_true p135
         replace q135 := eq_true q135
         have p13 : 0 ≤ (x5_1 : Int) := of_decide_eq_true (by first | (with_reducible assumption) | assumption)
         have q13 : x5_1 < (7 : Int) := of_decide_eq_true (by first | (with_reducible assumption) | assumption)
         have hx13 := bt_at (⟨#[105, 111, 109, 99, 113, 112, 101]⟩ : ByteArray) x5_1
         replace p13 := eq_true p13
         replace q13 := eq_true q13
         go_wp2_with (first | (go_at_call 32; (with_reducible refine (dominoref06_in.calls k1 t130 (bt (⟨#[105, 111, 109, 99, 113, 112, 101]⟩ : ByteArray) x5_1) true _ A14.out).mono ?_); rintro e w' ⟨rfl, ⟨nd, rfl⟩⟩))
         go_roundg k1
         case measure => have := HK1.out; omega
         case rel => exact ⟨(wrap64 (x5_1 + 1)), (by first | rfl | (simp; done) | (simp [*]; done)), H', ⟨by have := HK1.out; omega⟩, ⟨by (with_reducible repeat (first | apply Kd.R_alloc | apply Kd.R_drewN | apply Kd.R_drew)); exact HO_4.out⟩, ⟨by (with_reducible repeat (first | refine blk_drewN ?_ _ | refine blk_drew ?_ | refine blk_alloc ?_ _)); exact BK129.out⟩, ⟨by repeat (first | (with_reducible first | exact HB.out | apply below_alloc | apply pw_below_drewN | apply below_drew1 | refine below_set ?_ GE129.out) | exact HB.out)⟩⟩
        ·replace c15 := Bool.eq_false_iff.mpr c15
         subst c15
         have H1 : (none) = some r := by rw [if_neg (show ¬ (false = true) by decide)] at H; exact H
         clear H
         have H := H1
         clear H1
         exact absurd H (by simp)
       ·rw [if_neg c12] at H
        exact absurd H (by simp)
    ·rw [if_neg c8] at H
     exact absurd H (by simp)
   ·rw [if_neg c7] at H
    have c7b0 : decide (x5_1 < (y131.length : Int)) = false := decide_eq_false c7
    clear c7
    have HC17 := Aside0.mk H
    clear H
    obtain ⟨Ao18, co18, eo18⟩ := Kd.R_slice HO_4.out
    subst eo18
    go_upto_region 8 with (fail)
    go_cut [101] (fun v101 wc => ∃ (kq : Nat) (x101_16 : Bool), v101 = .bool x101_16 ∧ Aside0 (dominoref06_May.j1 kq x101_16 a0_0 a0_1 a0_2 a0_3 a0_4 a0_5 a0_6 a0_7 a0_8 a0_9 a0_10 a0_11 l0_12 = some r) ∧ Aside0 (kq ≤ k1) ∧ Aside0 (wc.heap[gb129]? = some (.cells #[.int .u64 a0_0, .int .u64 a0_1, .int .u64 a0_2, .int .u64 a0_3, .int .u64 a0_4, .int .u64 a0_5, .int .u64 a0_6, .int .u64 a0_7, .bool a0_8, .string a0_9, .string a0_10, .string a0_11, (.slice A0_12 l0_12.length c0_12)] 42 (0, 0))) ∧ Aside0 (Below w.heap.size w wc))
    case first =>
     have H := HC17.out
     clear HC17
     by_cases c19 : t130.toList = ([] : List UInt8)
     ·rw [if_pos c19] at H
      exact absurd H (by simp)
     ·rw [if_neg c19] at H
      have c19b0 : (t130.toList == ([] : List UInt8)) = false := beq_eq_false_iff_ne.mpr c19
      have c19b1 : (t130.toList != ([] : List UInt8)) = true := bne_iff_ne.mpr c19
      (first | rw [c19b0] | (simp only [i64_w, i32_w]; rw [c19b0]) | skip)
      by_cases c20 : a0_8 = true
      ·subst c20
       have H1 : (none) = some r := by rw [if_pos rfl] at H; exact H
       clear H
       have H := H1
       clear H1
       exact absurd H (by simp)
      ·replace c20 := Bool.eq_false_iff.mpr c20
       subst c20
       have H1 : (if a0_9.toList = ([] : List UInt8) then (if a0_10.toList = ([] : List UInt8) then (if a0_11.toList = ([] : List UInt8) then (if (l0_12.length : Int) > 0 then ((dominoref06_in.f k1 t130 115).bind fun t137 => (dominoref06_May.j1 k1 (!t137) a0_0 a0_1 a0_2 a0_3 a0_4 a0_5 a0_6 a0_7 false a0_9 a0_10 a0_11 l0_12)) else (dominoref06_May.j1 k1 false a0_0 a0_1 a0_2 a0_3 a0_4 a0_5 a0_6 a0_7 false a0_9 a0_10 a0_11 l0_12)) else (none)) else (none)) else (none)) = some r := by rw [if_neg (show ¬ (false = true) by decide)] at H; exact H
       clear H
       have H := H1
       clear H1
       by_cases c21 : a0_9.toList = ([] : List UInt8)
       ·rw [if_pos c21] at H
        have c21b0 : (a0_9.toList == ([] : List UInt8)) = true := beq_iff_eq.mpr c21
        have c21b1 : (a0_9.toList != ([] : List UInt8)) = false := bne_eq_false_iff_eq.mpr c21
        clear c21
        by_cases c22 : a0_10.toList = ([] : List UInt8)
        ·rw [if_pos c22] at H
         have c22b0 : (a0_10.toList == ([] : List UInt8)) = true := beq_iff_eq.mpr c22
         have c22b1 : (a0_10.toList != ([] : List UInt8)) = false := bne_eq_false_iff_eq.mpr c22
         clear c22
         by_cases c23 : a0_11.toList = ([] : List UInt8)
         ·rw [if_pos c23] at H
          have c23b0 : (a0_11.toList == ([] : List UInt8)) = true := beq_iff_eq.mpr c23
          have c23b1 : (a0_11.toList != ([] : List UInt8)) = false := bne_eq_false_iff_eq.mpr c23
          clear c23
          by_cases c24 : (l0_12.length : Int) > 0
          ·rw [if_pos c24] at H
           have c24b0 : decide (0 < (l0_12.length : Int)) = true := decide_eq_true c24
           have c24b1 : decide (0 < l0_12.length) = true := decide_eq_true (by omega)
           clear c24
           replace H := Option.bind_eq_some_iff.mp H
           obtain ⟨t137, A250, H⟩ := H
           replace H : (dominoref06_May.j1 k1 (!t137) a0_0 a0_1 a0_2 a0_3 a0_4 a0_5 a0_6 a0_7 false a0_9 a0_10 a0_11 l0_12) = some r := H
           have A25 := Aside0.mk A250
           clear A250
           have H' := Aside0.mk H
           clear H
           have hcz26_0 : wr.cell? ⟨gb129, 0, none⟩ = some (.int .u64 a0_0) := (blk_cell BK129.out 0).trans rfl
           have hcz26_1 : wr.cell? ⟨gb129, 1, none⟩ = some (.int .u64 a0_1) := (blk_cell BK129.out 1).trans rfl
           have hcz26_2 : wr.cell? ⟨gb129, 2, none⟩ = some (.int .u64 a0_2) := (blk_cell BK129.out 2).trans rfl
           have hcz26_3 : wr.cell? ⟨gb129, 3, none⟩ = some (.int .u64 a0_3) := (blk_cell BK129.out 3).trans rfl
           have hcz26_4 : wr.cell? ⟨gb129, 4, none⟩ = some (.int .u64 a0_4) := (blk_cell BK129.out 4).trans rfl
           have hcz26_5 : wr.cell? ⟨gb129, 5, none⟩ = some (.int .u64 a0_5) := (blk_cell BK129.out 5).trans rfl
           have hcz26_6 : wr.cell? ⟨gb129, 6, none⟩ = some (.int .u64 a0_6) := (blk_cell BK129.out 6).trans rfl
           have hcz26_7 : wr.cell? ⟨gb129, 7, none⟩ = some (.int .u64 a0_7) := (blk_cell BK129.out 7).trans rfl
           have hcz26_8 : wr.cell? ⟨gb129, 8, none⟩ = some (.bool false) := (blk_cell BK129.out 8).trans rfl
           have hcz26_9 : wr.cell? ⟨gb129, 9, none⟩ = some (.string a0_9) := (blk_cell BK129.out 9).trans rfl
           have hcz26_10 : wr.cell? ⟨gb129, 10, none⟩ = some (.string a0_10) := (blk_cell BK129.out 10).trans rfl
           have hcz26_11 : wr.cell? ⟨gb129, 11, none⟩ = some (.string a0_11) := (blk_cell BK129.out 11).trans rfl
           have hcz26_12 : wr.cell? ⟨gb129, 12, none⟩ = some (.slice A0_12 l0_12.length c0_12) := (blk_cell BK129.out 12).trans rfl
           have hfz26_0 := blk_frozen BK129.out 0
           have hfz26_1 := blk_frozen BK129.out 1
           have hfz26_2 := blk_frozen BK129.out 2
           have hfz26_3 := blk_frozen BK129.out 3
           have hfz26_4 := blk_frozen BK129.out 4
           have hfz26_5 := blk_frozen BK129.out 5
           have hfz26_6 := blk_frozen BK129.out 6
           have hfz26_7 := blk_frozen BK129.out 7
           have hfz26_8 := blk_frozen BK129.out 8
           have hfz26_9 := blk_frozen BK129.out 9
           have hfz26_10 := blk_frozen BK129.out 10
           have hfz26_11 := blk_frozen BK129.out 11
           have hfz26_12 := blk_frozen BK129.out 12
           go_wp2_with (first | (go_at_call 32; (with_reducible refine (dominoref06_in.calls k1 t130 115 t137 _ A25.out).mono ?_); rintro e w' ⟨rfl, ⟨nd, rfl⟩⟩))
           go_meet
           case rel => exact ⟨_, (!t137), (by first | rfl | (simp; done) | (simp [*]; done)), H', ⟨by have := HK1.out; first | omega | exact Nat.le_refl _⟩, ⟨by (with_reducible repeat (first | refine blk_drewN ?_ _ | refine blk_drew ?_ | refine blk_alloc ?_ _)); exact BK129.out⟩, ⟨by repeat (first | (with_reducible first | exact HB.out | apply below_alloc | apply pw_below_drewN | apply below_drew1 | refine below_set ?_ GE129.out) | exact HB.out)⟩⟩
          ·rw [if_neg c24] at H
           have c24b0 : decide (0 < (l0_12.length : Int)) = false := decide_eq_false c24
           have c24b1 : decide (0 < l0_12.length) = false := decide_eq_false (by omega)
           clear c24
           have H' := Aside0.mk H
           clear H
           have hcz27_0 : wr.cell? ⟨gb129, 0, none⟩ = some (.int .u64 a0_0) := (blk_cell BK129.out 0).trans rfl
           have hcz27_1 : wr.cell? ⟨gb129, 1, none⟩ = some (.int .u64 a0_1) := (blk_cell BK129.out 1).trans rfl
           have hcz27_2 : wr.cell? ⟨gb129, 2, none⟩ = some (.int .u64 a0_2) := (blk_cell BK129.out 2).trans rfl
           have hcz27_3 : wr.cell? ⟨gb129, 3, none⟩ = some (.int .u64 a0_3) := (blk_cell BK129.out 3).trans rfl
           have hcz27_4 : wr.cell? ⟨gb129, 4, none⟩ = some (.int .u64 a0_4) := (blk_cell BK129.out 4).trans rfl
           have hcz27_5 : wr.cell? ⟨gb129, 5, none⟩ = some (.int .u64 a0_5) := (blk_cell BK129.out 5).trans rfl
           have hcz27_6 : wr.cell? ⟨gb129, 6, none⟩ = some (.int .u64 a0_6) := (blk_cell BK129.out 6).trans rfl
           have hcz27_7 : wr.cell? ⟨gb129, 7, none⟩ = some (.int .u64 a0_7) := (blk_cell BK129.out 7).trans rfl
           have hcz27_8 : wr.cell? ⟨gb129, 8, none⟩ = some (.bool false) := (blk_cell BK129.out 8).trans rfl
           have hcz27_9 : wr.cell? ⟨gb129, 9, none⟩ = some (.string a0_9) := (blk_cell BK129.out 9).trans rfl
           have hcz27_10 : wr.cell? ⟨gb129, 10, none⟩ = some (.string a0_10) := (blk_cell BK129.out 10).trans rfl
           have hcz27_11 : wr.cell? ⟨gb129, 11, none⟩ = some (.string a0_11) := (blk_cell BK129.out 11).trans rfl
           have hcz27_12 : wr.cell? ⟨gb129, 12, none⟩ = some (.slice A0_12 l0_12.length c0_12) := (blk_cell BK129.out 12).trans rfl
           have hfz27_0 := blk_frozen BK129.out 0
           have hfz27_1 := blk_frozen BK129.out 1
           have hfz27_2 := blk_frozen BK129.out 2
           have hfz27_3 := blk_frozen BK129.out 3
           have hfz27_4 := blk_frozen BK129.out 4
           have hfz27_5 := blk_frozen BK129.out 5
           have hfz27_6 := blk_frozen BK129.out 6
           have hfz27_7 := blk_frozen BK129.out 7
           have hfz27_8 := blk_frozen BK129.out 8
           have hfz27_9 := blk_frozen BK129.out 9
           have hfz27_10 := blk_frozen BK129.out 10
           have hfz27_11 := blk_frozen BK129.out 11
           have hfz27_12 := blk_frozen BK129.out 12
           go_wp2
           go_meet
           case rel => exact ⟨_, (false), (by first | rfl | (simp; done) | (simp [*]; done)), H', ⟨by have := HK1.out; first | omega | exact Nat.le_refl _⟩, ⟨by (with_reducible repeat (first | refine blk_drewN ?_ _ | refine blk_drew ?_ | refine blk_alloc ?_ _)); exact BK129.out⟩, ⟨by repeat (first | (with_reducible first | exact HB.out | apply below_alloc | apply pw_below_drewN | apply below_drew1 | refine below_set ?_ GE129.out) | exact HB.out)⟩⟩
         ·rw [if_neg c23] at H
          exact absurd H (by simp)
        ·rw [if_neg c22] at H
         exact absurd H (by simp)
       ·rw [if_neg c21] at H
        exact absurd H (by simp)
    case rest =>
     clear HC17
     try clear c1
     try clear p1
     try clear q1
     try clear hx1
     try clear c2
     try clear p2
     try clear c3
     try clear p6
     try clear c7
     try clear c7b0
     try clear c8
     try clear c8b0
     try clear c9
     try clear c9b0
     try clear c10
     try clear c10b0
     try clear c10b1
     try clear c12
     try clear c12b0
     try clear p13
     try clear q13
     try clear hx13
     try clear c15
     try clear c19
     try clear c19b0
     try clear c19b1
     try clear c20
     try clear c21
     try clear c21b0
     try clear c21b1
     try clear c22
     try clear c22b0
     try clear c22b1
     try clear c23
     try clear c23b0
     try clear c23b1
     try clear c24
     try clear c24b0
     try clear c24b1
     try clear hcz26_0
     try clear hcz26_1
     try clear hcz26_10
     try clear hcz26_11
     try clear hcz26_12
     try clear hcz26_2
     try clear hcz26_3
     try clear hcz26_4
     try clear hcz26_5
     try clear hcz26_6
     try clear hcz26_7
     try clear hcz26_8
     try clear hcz26_9
     try clear hcz27_0
     try clear hcz27_1
     try clear hcz27_10
     try clear hcz27_11
     try clear hcz27_12
     try clear hcz27_2
     try clear hcz27_3
     try clear hcz27_4
     try clear hcz27_5
     try clear hcz27_6
     try clear hcz27_7
     try clear hcz27_8
     try clear hcz27_9
     try clear hcz4_0
     try clear hcz4_1
     try clear hcz4_10
     try clear hcz4_11
     try clear hcz4_12
     try clear hcz4_2
     try clear hcz4_3
     try clear hcz4_4
     try clear hcz4_5
     try clear hcz4_6
     try clear hcz4_7
     try clear hcz4_8
     try clear hcz4_9
     try clear hfz26_0
     try clear hfz26_1
     try clear hfz26_10
     try clear hfz26_11
     try clear hfz26_12
     try clear hfz26_2
     try clear hfz26_3
     try clear hfz26_4
     try clear hfz26_5
     try clear hfz26_6
     try clear hfz26_7
     try clear hfz26_8
     try clear hfz26_9
     try clear hfz27_0
     try clear hfz27_1
     try clear hfz27_10
     try clear hfz27_11
     try clear hfz27_12
     try clear hfz27_2
     try clear hfz27_3
     try clear hfz27_4
     try clear hfz27_5
     try clear hfz27_6
     try clear hfz27_7
     try clear hfz27_8
     try clear hfz27_9
     try clear hfz4_0
     try clear hfz4_1
     try clear hfz4_10
     try clear hfz4_11
     try clear hfz4_12
     try clear hfz4_2
     try clear hfz4_3
     try clear hfz4_4
     try clear hfz4_5
     try clear hfz4_6
     try clear hfz4_7
     try clear hfz4_8
     try clear hfz4_9
     try clear hx134_0
     try clear hx135_0
     try clear p13
     try clear p134
     try clear p135
     try clear p2
     try clear q13
     try clear q134
     try clear q135
     obtain ⟨kq, x101_16, rfl, HA, HJ16, BK129, HB⟩ := hcut
     cases kq with
     | zero => exact absurd HA.out (by simp [dominoref06_May.j1])
     | succ kj16 =>
      have H := HA.out
      clear HA
      simp only [dominoref06_May.j1] at H
      by_cases c28 : x101_16 = true
      ·subst c28
       have H1 : (none) = some r := by rw [if_pos rfl] at H; exact H
       clear H
       have H := H1
       clear H1
       exact absurd H (by simp)
      ·replace c28 := Bool.eq_false_iff.mpr c28
       subst c28
       have H1 : (if a0_0 = 2 then ((dominoref03_May.f kj16 l0_12).bind fun t138 => (if t138 = true then (if (l0_12.length : Int) ≥ 1 then (if (l0_12.length : Int) ≤ 32 then (if 0 ≤ (wrap64 ((l0_12.length : Int) - 1)) then (if (wrap64 ((l0_12.length : Int) - 1)) < (l0_12.length : Int) then (some (decide (((rd_T69 l0_12 (wrap64 ((l0_12.length : Int) - 1))).f1) ≤ 4611686018427387903))) else (none)) else (none)) else (none)) else (none)) else (none))) else (none)) = some r := by rw [if_neg (show ¬ (false = true) by decide)] at H; exact H
       clear H
       have H := H1
       clear H1
       by_cases c29 : a0_0 = 2
       ·rw [if_pos c29] at H
        have c29b0 : (a0_0 == 2) = true := beq_iff_eq.mpr c29
        have c29b1 : (a0_0 != 2) = false := bne_eq_false_iff_eq.mpr c29
        clear c29
        replace H := Option.bind_eq_some_iff.mp H
        obtain ⟨t138, A300, H⟩ := H
        replace H : (if t138 = true then (if (l0_12.length : Int) ≥ 1 then (if (l0_12.length : Int) ≤ 32 then (if 0 ≤ (wrap64 ((l0_12.length : Int) - 1)) then (if (wrap64 ((l0_12.length : Int) - 1)) < (l0_12.length : Int) then (some (decide (((rd_T69 l0_12 (wrap64 ((l0_12.length : Int) - 1))).f1) ≤ 4611686018427387903))) else (none)) else (none)) else (none)) else (none)) else (none)) = some r := H
        have A30 := Aside0.mk A300
        clear A300
        by_cases c31 : t138 = true
        ·subst c31
         have H1 : (if (l0_12.length : Int) ≥ 1 then (if (l0_12.length : Int) ≤ 32 then (if 0 ≤ (wrap64 ((l0_12.length : Int) - 1)) then (if (wrap64 ((l0_12.length : Int) - 1)) < (l0_12.length : Int) then (some (decide (((rd_T69 l0_12 (wrap64 ((l0_12.length : Int) - 1))).f1) ≤ 4611686018427387903))) else (none)) else (none)) else (none)) else (none)) = some r := by rw [if_pos rfl] at H; exact H
         clear H
         have H := H1
         clear H1
         by_cases c32 : (l0_12.length : Int) ≥ 1
         ·rw [if_pos c32] at H
          have c32b0 : decide (1 ≤ (l0_12.length : Int)) = true := decide_eq_true c32
          have c32b1 : decide (1 ≤ l0_12.length) = true := decide_eq_true (by omega)
          clear c32
          by_cases c33 : (l0_12.length : Int) ≤ 32
          ·rw [if_pos c33] at H
           have c33b0 : decide ((l0_12.length : Int) ≤ 32) = true := decide_eq_true c33
           have c33b1 : decide (l0_12.length ≤ 32) = true := decide_eq_true (by omega)
           clear c33
           obtain ⟨ji34, hji34⟩ : ∃ j_ : Int, (wrap64 ((l0_12.length : Int) - 1)) = j_ := ⟨_, rfl⟩
           replace H : (if 0 ≤ (ji34) then (if (ji34) < (l0_12.length : Int) then (some (decide (((rd_T69 l0_12 (ji34)).f1) ≤ 4611686018427387903))) else (none)) else (none)) = some r := by first | (rw [hji34] at H; exact H) | (simp only [hji34] at H ⊢; exact H)
           (try rw [hji34] at A30)
           have hji34w : (IntKind.i64.wrap ((l0_12.length : Int) - 1)) = ji34 := (i64_w _).trans hji34
           by_cases c35 : 0 ≤ (ji34)
           ·rw [if_pos c35] at H
            have c35b0 : decide (0 ≤ (ji34)) = true := decide_eq_true c35
            clear c35
            by_cases c36 : (ji34) < (l0_12.length : Int)
            ·rw [if_pos c36] at H
             have c36b0 : decide ((ji34) < (l0_12.length : Int)) = true := decide_eq_true c36
             clear c36
             obtain rfl := Option.some.inj H
             have hcz37_0 : wc.cell? ⟨gb129, 0, none⟩ = some (.int .u64 a0_0) := (blk_cell BK129.out 0).trans rfl
             have hcz37_1 : wc.cell? ⟨gb129, 1, none⟩ = some (.int .u64 a0_1) := (blk_cell BK129.out 1).trans rfl
             have hcz37_2 : wc.cell? ⟨gb129, 2, none⟩ = some (.int .u64 a0_2) := (blk_cell BK129.out 2).trans rfl
             have hcz37_3 : wc.cell? ⟨gb129, 3, none⟩ = some (.int .u64 a0_3) := (blk_cell BK129.out 3).trans rfl
             have hcz37_4 : wc.cell? ⟨gb129, 4, none⟩ = some (.int .u64 a0_4) := (blk_cell BK129.out 4).trans rfl
             have hcz37_5 : wc.cell? ⟨gb129, 5, none⟩ = some (.int .u64 a0_5) := (blk_cell BK129.out 5).trans rfl
             have hcz37_6 : wc.cell? ⟨gb129, 6, none⟩ = some (.int .u64 a0_6) := (blk_cell BK129.out 6).trans rfl
             have hcz37_7 : wc.cell? ⟨gb129, 7, none⟩ = some (.int .u64 a0_7) := (blk_cell BK129.out 7).trans rfl
             have hcz37_8 : wc.cell? ⟨gb129, 8, none⟩ = some (.bool a0_8) := (blk_cell BK129.out 8).trans rfl
             have hcz37_9 : wc.cell? ⟨gb129, 9, none⟩ = some (.string a0_9) := (blk_cell BK129.out 9).trans rfl
             have hcz37_10 : wc.cell? ⟨gb129, 10, none⟩ = some (.string a0_10) := (blk_cell BK129.out 10).trans rfl
             have hcz37_11 : wc.cell? ⟨gb129, 11, none⟩ = some (.string a0_11) := (blk_cell BK129.out 11).trans rfl
             have hcz37_12 : wc.cell? ⟨gb129, 12, none⟩ = some (.slice A0_12 l0_12.length c0_12) := (blk_cell BK129.out 12).trans rfl
             have hfz37_0 := blk_frozen BK129.out 0
             have hfz37_1 := blk_frozen BK129.out 1
             have hfz37_2 := blk_frozen BK129.out 2
             have hfz37_3 := blk_frozen BK129.out 3
             have hfz37_4 := blk_frozen BK129.out 4
             have hfz37_5 := blk_frozen BK129.out 5
             have hfz37_6 := blk_frozen BK129.out 6
             have hfz37_7 := blk_frozen BK129.out 7
             have hfz37_8 := blk_frozen BK129.out 8
             have hfz37_9 := blk_frozen BK129.out 9
             have hfz37_10 := blk_frozen BK129.out 10
             have hfz37_11 := blk_frozen BK129.out 11
             have hfz37_12 := blk_frozen BK129.out 12
             go_wp2_with (first | ((with_reducible refine gate_callee (f := 33) rfl ?_); refine goesL_ (some 111) rfl rfl Try.func33 (by kernel_rfl) rfl #[.slice A0_12 l0_12.length c0_12] rfl (by (try simp only [List.map_toArray, List.map_cons, List.map_nil]); first | done | rfl | (simp only [List.length_drop, List.length_take]; rfl)) ?_; (with_reducible refine (dominoref03_May.calls kj16 _ _ l0_12 true _ ?side1 ?side2 A30.out).mono ?_); (case side1 => repeat (first | exact (Kd.C_below HR0_12.out HB.out) | (with_reducible refine Kd.C_alloc ?_ _) | (with_reducible refine Kd.C_drewN ?_ _) | (with_reducible refine Kd.C_drew ?_))); (case side2 => exact HC0_12.out); rintro e w' ⟨rfl, ⟨nd, rfl⟩⟩; refine ⟨_, rfl, ?_⟩; have p139 : 0 ≤ ((ji34) : Int) := of_decide_eq_true (by first | (with_reducible assumption) | assumption); have q139 : (ji34) < (l0_12.length : Int) := of_decide_eq_true (by first | (with_reducible assumption) | assumption); obtain ⟨ad139, e139, hx139_0, hx139_1⟩ := at_T69 HR0_12.out (ji34) p139 q139; cases e139; replace hx139_0 := (HB.out.cell (World.block_lt_of_cell? w _ hx139_0)).trans hx139_0; replace hx139_1 := (HB.out.cell (World.block_lt_of_cell? w _ hx139_1)).trans hx139_1; replace p139 := eq_true p139; replace q139 := eq_true q139))
             go_ret
             exact ⟨by first | rfl | (simp [errW_none, errW_some] <;> rfl) | (simp only [← hji34]; first | rfl | (simp [errW_none, errW_some] <;> rfl)) | (simp [*, errW_none, errW_some] <;> rfl), by repeat (first | (with_reducible first | exact HB.out | apply below_alloc | apply pw_below_drewN | apply below_drew1 | refine below_set ?_ GE129.out) | exact HB.out)⟩
            ·rw [if_neg c36] at H
             exact absurd H (by simp)
           ·rw [if_neg c35] at H
            exact absurd H (by simp)
          ·rw [if_neg c33] at H
           exact absurd H (by simp)
         ·rw [if_neg c32] at H
          exact absurd H (by simp)
        ·replace c31 := Bool.eq_false_iff.mpr c31
         subst c31
         have H1 : (none) = some r := by rw [if_neg (show ¬ (false = true) by decide)] at H; exact H
         clear H
         have H := H1
         clear H1
         exact absurd H (by simp)
       ·rw [if_neg c29] at H
        exact absurd H (by simp)

end Go.Proofs.Ytlcfjimgnfcdkaa.PAky
