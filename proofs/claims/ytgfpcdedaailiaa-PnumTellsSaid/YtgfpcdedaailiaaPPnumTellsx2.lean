-- printed for this claim by a program of the claim (wip/tools/pp.py over the kit's print)
import Derived.Test.YtgfpcdedaailiaaPPnumTellsx0
import Derived.Test.YtgfpcdedaailiaaPPnumTellsx1
namespace Go.Proofs.Ytgfpcdedaailiaa.PPnumTells
open Go.RowKit Go.Proofs.YtgfpcdedaailiaaW.PrintWords Go.Proofs.YtgfpcdedaailiaaW.PrintLast Go.Proofs.YtgfpcdedaailiaaW.PrintMore
attribute [local go_sem] max2_int min2_int max_two min_two max_three min_three max_four min_four   -- for this text's walks alone
set_option linter.unusedVariables false
set_option linter.unusedSimpArgs false

attribute [local go_sem] isSome_setCell_
/-! ### dominoref02_Bytes: function 13 -/
mutual
def dominoref02_Bytes.j0 : Nat → Int → Int → Bool → Int → Bool → Option (Int)
  | 0, _, _, _, _, _ => none
  | k + 1, x0, x1, x2, x7, x16 => if x16 = true then (dominoref02_Bytes.j1 k x0 x1 x2 (IntKind.u64.wrap (x0 - x1))) else (dominoref02_Bytes.j1 k x0 x1 x2 x7)
def dominoref02_Bytes.j1 : Nat → Int → Int → Bool → Int → Option (Int)
  | 0, _, _, _, _ => none
  | k + 1, x0, x1, x2, x7 => if x2 = true then (dominoref02_Bytes.j2 k x7 (decide (x1 ≥ x0))) else (dominoref02_Bytes.j2 k x7 false)
def dominoref02_Bytes.j2 : Nat → Int → Bool → Option (Int)
  | 0, _, _ => none
  | k + 1, x7, x25 => if x25 = true then (dominoref02_Bytes.j3 k 1) else (dominoref02_Bytes.j3 k x7)
def dominoref02_Bytes.j3 : Nat → Int → Option (Int)
  | 0, _ => none
  | k + 1, x7 => dominoref02_Bytes.l0 k x7 1
def dominoref02_Bytes.l0 : Nat → Int → Int → Option (Int)
  | 0, _, _ => none
  | k + 1, x7, x8 => if x8 < 4 then ((dominoref02_window.f k x8).bind fun t119 => (if t119 > (IntKind.u64.wrap (2 * x7)) then (some x8) else (dominoref02_Bytes.l0 k x7 (wrap64 (x8 + 1))))) else (some 4)
end
def dominoref02_Bytes.f (k : Nat) (a0 : Int) (a1 : Int) (a2 : Bool) : Option (Int) := if a2 = true then (dominoref02_Bytes.j0 k a0 a1 a2 (IntKind.u64.wrap (a0 + 1)) (decide (a1 < a0))) else (dominoref02_Bytes.j0 k a0 a1 a2 (IntKind.u64.wrap (a0 + 1)) false)
theorem dominoref02_Bytes.mono_l : ∀ k, (∀ y0 y1 y2 y3 y4, LeO (dominoref02_Bytes.j0 k y0 y1 y2 y3 y4) (dominoref02_Bytes.j0 (k + 1) y0 y1 y2 y3 y4)) ∧ (∀ y0 y1 y2 y3, LeO (dominoref02_Bytes.j1 k y0 y1 y2 y3) (dominoref02_Bytes.j1 (k + 1) y0 y1 y2 y3)) ∧ (∀ y0 y1, LeO (dominoref02_Bytes.j2 k y0 y1) (dominoref02_Bytes.j2 (k + 1) y0 y1)) ∧ (∀ y0, LeO (dominoref02_Bytes.j3 k y0) (dominoref02_Bytes.j3 (k + 1) y0)) ∧ (∀ y0 y1, LeO (dominoref02_Bytes.l0 k y0 y1) (dominoref02_Bytes.l0 (k + 1) y0 y1))
  | 0 => ⟨fun _ _ _ _ _ r h => by simp [dominoref02_Bytes.j0] at h, fun _ _ _ _ r h => by simp [dominoref02_Bytes.j1] at h, fun _ _ r h => by simp [dominoref02_Bytes.j2] at h, fun _ r h => by simp [dominoref02_Bytes.j3] at h, fun _ _ r h => by simp [dominoref02_Bytes.l0] at h⟩
  | k + 1 => by
    obtain ⟨ih0, ih1, ih2, ih3, ih4⟩ := dominoref02_Bytes.mono_l k
    refine ⟨?_, ?_, ?_, ?_, ?_⟩
    · intro y0 y1 y2 y3 y4
      unfold dominoref02_Bytes.j0
      repeat' first
      | (with_reducible exact ih0 _ _ _ _ _)
      | (with_reducible exact ih1 _ _ _ _)
      | (with_reducible exact ih2 _ _)
      | (with_reducible exact ih3 _)
      | (with_reducible exact ih4 _ _)
      | (with_reducible exact dominoref02_window.mono _ _)
      | (with_reducible exact LeO.refl _)
      | (with_reducible exact LeO.none _)
      | (with_reducible refine LeO.ite ?_ ?_)
      | (with_reducible refine LeO.bind ?_ (fun _ => ?_))
      | exact ih0 _ _ _ _ _
      | exact ih1 _ _ _ _
      | exact ih2 _ _
      | exact ih3 _
      | exact ih4 _ _
      | exact dominoref02_window.mono _ _
      | exact LeO.none _
      | refine LeO.ite ?_ ?_
      | refine LeO.bind ?_ (fun _ => ?_)
    · intro y0 y1 y2 y3
      unfold dominoref02_Bytes.j1
      repeat' first
      | (with_reducible exact ih0 _ _ _ _ _)
      | (with_reducible exact ih1 _ _ _ _)
      | (with_reducible exact ih2 _ _)
      | (with_reducible exact ih3 _)
      | (with_reducible exact ih4 _ _)
      | (with_reducible exact dominoref02_window.mono _ _)
      | (with_reducible exact LeO.refl _)
      | (with_reducible exact LeO.none _)
      | (with_reducible refine LeO.ite ?_ ?_)
      | (with_reducible refine LeO.bind ?_ (fun _ => ?_))
      | exact ih0 _ _ _ _ _
      | exact ih1 _ _ _ _
      | exact ih2 _ _
      | exact ih3 _
      | exact ih4 _ _
      | exact dominoref02_window.mono _ _
      | exact LeO.none _
      | refine LeO.ite ?_ ?_
      | refine LeO.bind ?_ (fun _ => ?_)
    · intro y0 y1
      unfold dominoref02_Bytes.j2
      repeat' first
      | (with_reducible exact ih0 _ _ _ _ _)
      | (with_reducible exact ih1 _ _ _ _)
      | (with_reducible exact ih2 _ _)
      | (with_reducible exact ih3 _)
      | (with_reducible exact ih4 _ _)
      | (with_reducible exact dominoref02_window.mono _ _)
      | (with_reducible exact LeO.refl _)
      | (with_reducible exact LeO.none _)
      | (with_reducible refine LeO.ite ?_ ?_)
      | (with_reducible refine LeO.bind ?_ (fun _ => ?_))
      | exact ih0 _ _ _ _ _
      | exact ih1 _ _ _ _
      | exact ih2 _ _
      | exact ih3 _
      | exact ih4 _ _
      | exact dominoref02_window.mono _ _
      | exact LeO.none _
      | refine LeO.ite ?_ ?_
      | refine LeO.bind ?_ (fun _ => ?_)
    · intro y0
      unfold dominoref02_Bytes.j3
      repeat' first
      | (with_reducible exact ih0 _ _ _ _ _)
      | (with_reducible exact ih1 _ _ _ _)
      | (with_reducible exact ih2 _ _)
      | (with_reducible exact ih3 _)
      | (with_reducible exact ih4 _ _)
      | (with_reducible exact dominoref02_window.mono _ _)
      | (with_reducible exact LeO.refl _)
      | (with_reducible exact LeO.none _)
      | (with_reducible refine LeO.ite ?_ ?_)
      | (with_reducible refine LeO.bind ?_ (fun _ => ?_))
      | exact ih0 _ _ _ _ _
      | exact ih1 _ _ _ _
      | exact ih2 _ _
      | exact ih3 _
      | exact ih4 _ _
      | exact dominoref02_window.mono _ _
      | exact LeO.none _
      | refine LeO.ite ?_ ?_
      | refine LeO.bind ?_ (fun _ => ?_)
    · intro y0 y1
      unfold dominoref02_Bytes.l0
      repeat' first
      | (with_reducible exact ih0 _ _ _ _ _)
      | (with_reducible exact ih1 _ _ _ _)
      | (with_reducible exact ih2 _ _)
      | (with_reducible exact ih3 _)
      | (with_reducible exact ih4 _ _)
      | (with_reducible exact dominoref02_window.mono _ _)
      | (with_reducible exact LeO.refl _)
      | (with_reducible exact LeO.none _)
      | (with_reducible refine LeO.ite ?_ ?_)
      | (with_reducible refine LeO.bind ?_ (fun _ => ?_))
      | exact ih0 _ _ _ _ _
      | exact ih1 _ _ _ _
      | exact ih2 _ _
      | exact ih3 _
      | exact ih4 _ _
      | exact dominoref02_window.mono _ _
      | exact LeO.none _
      | refine LeO.ite ?_ ?_
      | refine LeO.bind ?_ (fun _ => ?_)
theorem dominoref02_Bytes.mono : ∀ a0 a1 a2 k, LeO (dominoref02_Bytes.f k a0 a1 a2) (dominoref02_Bytes.f (k + 1) a0 a1 a2) := by
  intro a0 a1 a2 k
  obtain ⟨ih0, ih1, ih2, ih3, ih4⟩ := dominoref02_Bytes.mono_l k
  unfold dominoref02_Bytes.f
  repeat' first
      | (with_reducible exact ih0 _ _ _ _ _)
      | (with_reducible exact ih1 _ _ _ _)
      | (with_reducible exact ih2 _ _)
      | (with_reducible exact ih3 _)
      | (with_reducible exact ih4 _ _)
      | (with_reducible exact dominoref02_window.mono _ _)
      | (with_reducible exact LeO.refl _)
      | (with_reducible exact LeO.none _)
      | (with_reducible refine LeO.ite ?_ ?_)
      | (with_reducible refine LeO.bind ?_ (fun _ => ?_))
      | exact ih0 _ _ _ _ _
      | exact ih1 _ _ _ _
      | exact ih2 _ _
      | exact ih3 _
      | exact ih4 _ _
      | exact dominoref02_window.mono _ _
      | exact LeO.none _
      | refine LeO.ite ?_ ?_
      | refine LeO.bind ?_ (fun _ => ?_)
set_option maxHeartbeats 8000000 in
set_option maxRecDepth 100000 in
theorem dominoref02_Bytes.calls (k : Nat) (a0 : Int) (a1 : Int) (a2 : Bool) (r : Int) (w : World) (h : dominoref02_Bytes.f k a0 a1 a2 = some r) :
    Calls Try.prog 13 #[.int .u64 a0, .int .u64 a1, .bool a2] w fun e w' => e = .returned (.int .i64 r) ∧ Below w.heap.size w w' := by
  have HB := Aside0.mk (Below.refl w.heap.size w)
  have H : (if a2 = true then (dominoref02_Bytes.j0 k a0 a1 a2 (IntKind.u64.wrap (a0 + 1)) (decide (a1 < a0))) else (dominoref02_Bytes.j0 k a0 a1 a2 (IntKind.u64.wrap (a0 + 1)) false)) = some r := h
  clear h
  have HC4 := Aside0.mk H
  clear H
  go_enter Try.func13, Try.ntmps13
  go_upto_region 2 with (fail)
  go_cut [16] (fun v16 wc => ∃ (kq : Nat) (x16_3 : Bool), v16 = .bool x16_3 ∧ Aside0 (dominoref02_Bytes.j0 kq a0 a1 a2 (IntKind.u64.wrap (a0 + 1)) x16_3 = some r) ∧ Aside0 (kq ≤ k) ∧ Aside0 (Below w.heap.size w wc))
  case first =>
    have H := HC4.out
    clear HC4
    by_cases c5 : a2 = true
    · subst c5
      have H1 : (dominoref02_Bytes.j0 k a0 a1 true (IntKind.u64.wrap (a0 + 1)) (decide (a1 < a0))) = some r := by rw [if_pos rfl] at H; exact H
      clear H
      have H := H1
      clear H1
      have H' := Aside0.mk H
      clear H
      go_wp2
      go_meet
      case rel => exact ⟨_, (decide (a1 < a0)), (by first | rfl | (simp; done) | (simp [*]; done)), H', ⟨by first | omega | exact Nat.le_refl _⟩, ⟨by repeat (first | (with_reducible first | exact HB.out | apply below_alloc | apply pw_below_drewN | apply below_drew1) | exact HB.out)⟩⟩
    · replace c5 := Bool.eq_false_iff.mpr c5
      subst c5
      have H1 : (dominoref02_Bytes.j0 k a0 a1 false (IntKind.u64.wrap (a0 + 1)) false) = some r := by rw [if_neg (show ¬ (false = true) by decide)] at H; exact H
      clear H
      have H := H1
      clear H1
      have H' := Aside0.mk H
      clear H
      go_wp2
      go_meet
      case rel => exact ⟨_, (false), (by first | rfl | (simp; done) | (simp [*]; done)), H', ⟨by first | omega | exact Nat.le_refl _⟩, ⟨by repeat (first | (with_reducible first | exact HB.out | apply below_alloc | apply pw_below_drewN | apply below_drew1) | exact HB.out)⟩⟩
  case rest =>
    clear HC4
    try clear c1
    try clear p2
    try clear c5
    obtain ⟨kq, x16_3, rfl, HA, HJ3, HB⟩ := hcut
    cases kq with
    | zero => exact absurd HA.out (by simp [dominoref02_Bytes.j0])
    | succ kj3 =>
      have H := HA.out
      clear HA
      simp only [dominoref02_Bytes.j0] at H
      have HC6 := Aside0.mk H
      clear H
      go_upto_if 16 with (fail)
      go_cut [7] (fun v7 wc => ∃ (kq : Nat) (x7_5 : Int), v7 = .int .u64 x7_5 ∧ Aside0 (dominoref02_Bytes.j1 kq a0 a1 a2 x7_5 = some r) ∧ Aside0 (kq ≤ kj3) ∧ Aside0 (Below w.heap.size w wc))
      case first =>
        have H := HC6.out
        clear HC6
        by_cases c7 : x16_3 = true
        · subst c7
          have H1 : (dominoref02_Bytes.j1 kj3 a0 a1 a2 (IntKind.u64.wrap (a0 - a1))) = some r := by rw [if_pos rfl] at H; exact H
          clear H
          have H := H1
          clear H1
          have H' := Aside0.mk H
          clear H
          go_wp2
          go_meet
          case rel => exact ⟨_, (IntKind.u64.wrap (a0 - a1)), (by first | rfl | (simp; done) | (simp [*]; done)), H', ⟨by have := HJ3.out; first | omega | exact Nat.le_refl _⟩, ⟨by repeat (first | (with_reducible first | exact HB.out | apply below_alloc | apply pw_below_drewN | apply below_drew1) | exact HB.out)⟩⟩
        · replace c7 := Bool.eq_false_iff.mpr c7
          subst c7
          have H1 : (dominoref02_Bytes.j1 kj3 a0 a1 a2 (IntKind.u64.wrap (a0 + 1))) = some r := by rw [if_neg (show ¬ (false = true) by decide)] at H; exact H
          clear H
          have H := H1
          clear H1
          have H' := Aside0.mk H
          clear H
          go_wp2
          go_meet
          case rel => exact ⟨_, ((IntKind.u64.wrap (a0 + 1))), (by first | rfl | (simp; done) | (simp [*]; done)), H', ⟨by have := HJ3.out; first | omega | exact Nat.le_refl _⟩, ⟨by repeat (first | (with_reducible first | exact HB.out | apply below_alloc | apply pw_below_drewN | apply below_drew1) | exact HB.out)⟩⟩
      case rest =>
        clear HC6
        try clear c1
        try clear p2
        try clear c5
        try clear c7
        try clear p2
        obtain ⟨kq, x7_5, rfl, HA, HJ5, HB⟩ := hcut
        cases kq with
        | zero => exact absurd HA.out (by simp [dominoref02_Bytes.j1])
        | succ kj5 =>
          have H := HA.out
          clear HA
          simp only [dominoref02_Bytes.j1] at H
          have HC8 := Aside0.mk H
          clear H
          go_upto_region 4 with (fail)
          go_cut [25] (fun v25 wc => ∃ (kq : Nat) (x25_7 : Bool), v25 = .bool x25_7 ∧ Aside0 (dominoref02_Bytes.j2 kq x7_5 x25_7 = some r) ∧ Aside0 (kq ≤ kj5) ∧ Aside0 (Below w.heap.size w wc))
          case first =>
            have H := HC8.out
            clear HC8
            by_cases c9 : a2 = true
            · subst c9
              have H1 : (dominoref02_Bytes.j2 kj5 x7_5 (decide (a1 ≥ a0))) = some r := by rw [if_pos rfl] at H; exact H
              clear H
              have H := H1
              clear H1
              have H' := Aside0.mk H
              clear H
              go_wp2
              go_meet
              case rel => exact ⟨_, (decide (a1 ≥ a0)), (by first | rfl | (simp; done) | (simp [*]; done)), H', ⟨by have := HJ3.out; have := HJ5.out; first | omega | exact Nat.le_refl _⟩, ⟨by repeat (first | (with_reducible first | exact HB.out | apply below_alloc | apply pw_below_drewN | apply below_drew1) | exact HB.out)⟩⟩
            · replace c9 := Bool.eq_false_iff.mpr c9
              subst c9
              have H1 : (dominoref02_Bytes.j2 kj5 x7_5 false) = some r := by rw [if_neg (show ¬ (false = true) by decide)] at H; exact H
              clear H
              have H := H1
              clear H1
              have H' := Aside0.mk H
              clear H
              go_wp2
              go_meet
              case rel => exact ⟨_, (false), (by first | rfl | (simp; done) | (simp [*]; done)), H', ⟨by have := HJ3.out; have := HJ5.out; first | omega | exact Nat.le_refl _⟩, ⟨by repeat (first | (with_reducible first | exact HB.out | apply below_alloc | apply pw_below_drewN | apply below_drew1) | exact HB.out)⟩⟩
          case rest =>
            clear HC8
            try clear c1
            try clear p2
            try clear c5
            try clear c7
            try clear c9
            try clear p2
            obtain ⟨kq, x25_7, rfl, HA, HJ7, HB⟩ := hcut
            cases kq with
            | zero => exact absurd HA.out (by simp [dominoref02_Bytes.j2])
            | succ kj7 =>
              have H := HA.out
              clear HA
              simp only [dominoref02_Bytes.j2] at H
              have HC10 := Aside0.mk H
              clear H
              go_upto_if 25 with (fail)
              go_cut [7] (fun v7 wc => ∃ (kq : Nat) (x7_9 : Int), v7 = .int .u64 x7_9 ∧ Aside0 (dominoref02_Bytes.j3 kq x7_9 = some r) ∧ Aside0 (kq ≤ kj7) ∧ Aside0 (Below w.heap.size w wc))
              case first =>
                have H := HC10.out
                clear HC10
                by_cases c11 : x25_7 = true
                · subst c11
                  have H1 : (dominoref02_Bytes.j3 kj7 1) = some r := by rw [if_pos rfl] at H; exact H
                  clear H
                  have H := H1
                  clear H1
                  have H' := Aside0.mk H
                  clear H
                  go_wp2
                  go_meet
                  case rel => exact ⟨_, (1), (by first | rfl | (simp; done) | (simp [*]; done)), H', ⟨by have := HJ3.out; have := HJ5.out; have := HJ7.out; first | omega | exact Nat.le_refl _⟩, ⟨by repeat (first | (with_reducible first | exact HB.out | apply below_alloc | apply pw_below_drewN | apply below_drew1) | exact HB.out)⟩⟩
                · replace c11 := Bool.eq_false_iff.mpr c11
                  subst c11
                  have H1 : (dominoref02_Bytes.j3 kj7 x7_5) = some r := by rw [if_neg (show ¬ (false = true) by decide)] at H; exact H
                  clear H
                  have H := H1
                  clear H1
                  have H' := Aside0.mk H
                  clear H
                  go_wp2
                  go_meet
                  case rel => exact ⟨_, (x7_5), (by first | rfl | (simp; done) | (simp [*]; done)), H', ⟨by have := HJ3.out; have := HJ5.out; have := HJ7.out; first | omega | exact Nat.le_refl _⟩, ⟨by repeat (first | (with_reducible first | exact HB.out | apply below_alloc | apply pw_below_drewN | apply below_drew1) | exact HB.out)⟩⟩
              case rest =>
                clear HC10
                try clear c1
                try clear p2
                try clear c5
                try clear c7
                try clear c9
                try clear c11
                try clear p2
                obtain ⟨kq, x7_9, rfl, HA, HJ9, HB⟩ := hcut
                cases kq with
                | zero => exact absurd HA.out (by simp [dominoref02_Bytes.j3])
                | succ kj9 =>
                  have H := HA.out
                  clear HA
                  simp only [dominoref02_Bytes.j3] at H
                  have H' := Aside0.mk H
                  clear H
                  go_wp2
                  go_loopg [8] kj9 (fun kq v8 w' => ∃ (x8_5 : Int), v8 = .int .i64 x8_5 ∧ Aside0 (dominoref02_Bytes.l0 kq x7_9 x8_5 = some r) ∧ Aside0 (kq ≤ kj9) ∧ Aside0 (Below w.heap.size w w'))
                  case atStart => exact ⟨(1), (by first | rfl | (simp; done) | (simp [*]; done)), H', ⟨Nat.le_refl _⟩, ⟨by repeat (first | (with_reducible first | exact HB.out | apply below_alloc | apply pw_below_drewN | apply below_drew1) | exact HB.out)⟩⟩
                  case round =>
                    clear H'
                    try clear c1
                    try clear p2
                    try clear c5
                    try clear c7
                    try clear c9
                    try clear c11
                    try clear p2
                    obtain ⟨x8_5, rfl, HA, HK5, HB⟩ := hrel
                    cases gk with
                    | zero => exact absurd HA.out (by simp [dominoref02_Bytes.l0])
                    | succ k5 =>
                      have H := HA.out
                      clear HA
                      simp only [dominoref02_Bytes.l0] at H
                      by_cases c12 : x8_5 < 4
                      · rw [if_pos c12] at H
                        have c12b0 : decide (x8_5 < 4) = true := decide_eq_true c12
                        clear c12
                        replace H := Option.bind_eq_some_iff.mp H
                        obtain ⟨t119, A130, H⟩ := H
                        replace H : (if t119 > (IntKind.u64.wrap (2 * x7_9)) then (some x8_5) else (dominoref02_Bytes.l0 k5 x7_9 (wrap64 (x8_5 + 1)))) = some r := H
                        have A13 := Aside0.mk A130
                        clear A130
                        by_cases c14 : t119 > (IntKind.u64.wrap (2 * x7_9))
                        · rw [if_pos c14] at H
                          have c14b0 : decide ((IntKind.u64.wrap (2 * x7_9)) < t119) = true := decide_eq_true c14
                          clear c14
                          obtain rfl := Option.some.inj H
                          go_wp2_with (first | ((with_reducible refine gate_callee (f := 20) rfl ?_); refine goesL_ (some 31) rfl rfl Try.func20 (by kernel_rfl) rfl #[.int .i64 x8_5] rfl (by (try simp only [List.map_toArray, List.map_cons, List.map_nil]); first | done | rfl | (simp only [List.length_drop, List.length_take]; rfl)) ?_; (with_reducible refine (dominoref02_window.calls k5 x8_5 t119 _ A13.out).mono ?_); rintro e w15 ⟨rfl, hb⟩; refine ⟨_, rfl, ?_⟩; have n0_ := Aside0.mk (below_step (by repeat (first | (with_reducible first | exact HB.out | apply below_alloc | apply pw_below_drewN | apply below_drew1) | exact HB.out)) hb); clear HB; have HB := n0_; clear n0_; (try clear hb); (try clear hb2); (try clear hk); (try clear hi)))
                          go_ret
                          exact ⟨by first | rfl | (simp [errW_none, errW_some] <;> rfl) | (simp [*, errW_none, errW_some] <;> rfl), by repeat (first | (with_reducible first | exact HB.out | apply below_alloc | apply pw_below_drewN | apply below_drew1) | exact HB.out)⟩
                        · rw [if_neg c14] at H
                          have c14b0 : decide ((IntKind.u64.wrap (2 * x7_9)) < t119) = false := decide_eq_false c14
                          clear c14
                          have H' := Aside0.mk H
                          clear H
                          go_wp2_with (first | ((with_reducible refine gate_callee (f := 20) rfl ?_); refine goesL_ (some 31) rfl rfl Try.func20 (by kernel_rfl) rfl #[.int .i64 x8_5] rfl (by (try simp only [List.map_toArray, List.map_cons, List.map_nil]); first | done | rfl | (simp only [List.length_drop, List.length_take]; rfl)) ?_; (with_reducible refine (dominoref02_window.calls k5 x8_5 t119 _ A13.out).mono ?_); rintro e w16 ⟨rfl, hb⟩; refine ⟨_, rfl, ?_⟩; have n0_ := Aside0.mk (below_step (by repeat (first | (with_reducible first | exact HB.out | apply below_alloc | apply pw_below_drewN | apply below_drew1) | exact HB.out)) hb); clear HB; have HB := n0_; clear n0_; (try clear hb); (try clear hb2); (try clear hk); (try clear hi)))
                          go_roundg k5
                          case measure => have := HJ3.out; have := HJ5.out; have := HJ7.out; have := HJ9.out; have := HK5.out; omega
                          case rel => exact ⟨(wrap64 (x8_5 + 1)), (by first | rfl | (simp; done) | (simp [*]; done)), H', ⟨by have := HJ3.out; have := HJ5.out; have := HJ7.out; have := HJ9.out; have := HK5.out; omega⟩, ⟨by repeat (first | (with_reducible first | exact HB.out | apply below_alloc | apply pw_below_drewN | apply below_drew1) | exact HB.out)⟩⟩
                      · rw [if_neg c12] at H
                        have c12b0 : decide (x8_5 < 4) = false := decide_eq_false c12
                        clear c12
                        obtain rfl := Option.some.inj H
                        go_wp2
                        go_ret
                        exact ⟨by first | rfl | (simp [errW_none, errW_some] <;> rfl) | (simp [*, errW_none, errW_some] <;> rfl), by repeat (first | (with_reducible first | exact HB.out | apply below_alloc | apply pw_below_drewN | apply below_drew1) | exact HB.out)⟩

/-! ### dominoref02_Cut: function 15 -/
def dominoref02_Cut.f (k : Nat) (a0 : Int) (a1 : Int) : Option (Int) := (dominoref02_window.f k a1).bind fun t120 => (if t120 = 0 then (none) else (some (Int.tmod a0 t120)))
theorem dominoref02_Cut.mono : ∀ a0 a1 k, LeO (dominoref02_Cut.f k a0 a1) (dominoref02_Cut.f (k + 1) a0 a1) := by
  intro a0 a1 k
  unfold dominoref02_Cut.f
  repeat' first
      | (with_reducible exact dominoref02_window.mono _ _)
      | (with_reducible exact LeO.refl _)
      | (with_reducible exact LeO.none _)
      | (with_reducible refine LeO.ite ?_ ?_)
      | (with_reducible refine LeO.bind ?_ (fun _ => ?_))
      | exact dominoref02_window.mono _ _
      | exact LeO.none _
      | refine LeO.ite ?_ ?_
      | refine LeO.bind ?_ (fun _ => ?_)
set_option maxHeartbeats 8000000 in
set_option maxRecDepth 100000 in
theorem dominoref02_Cut.calls (k : Nat) (a0 : Int) (a1 : Int) (r : Int) (w : World) (h : dominoref02_Cut.f k a0 a1 = some r) :
    Calls Try.prog 15 #[.int .u64 a0, .int .i64 a1] w fun e w' => e = .returned (.int .u64 r) ∧ Below w.heap.size w w' := by
  have HB := Aside0.mk (Below.refl w.heap.size w)
  have H : ((dominoref02_window.f k a1).bind fun t120 => (if t120 = 0 then (none) else (some (Int.tmod a0 t120)))) = some r := h
  clear h
  replace H := Option.bind_eq_some_iff.mp H
  obtain ⟨t120, A30, H⟩ := H
  replace H : (if t120 = 0 then (none) else (some (Int.tmod a0 t120))) = some r := H
  have A3 := Aside0.mk A30
  clear A30
  by_cases c4 : t120 = 0
  · rw [if_pos c4] at H
    exact absurd H (by simp)
  · rw [if_neg c4] at H
    have c4b0 : (t120 == 0) = false := beq_eq_false_iff_ne.mpr c4
    have c4b1 : (t120 != 0) = true := bne_iff_ne.mpr c4
    obtain rfl := Option.some.inj H
    go_enter Try.func15, Try.ntmps15
    go_wp2_with (first | ((with_reducible refine gate_callee (f := 20) rfl ?_); refine goesL_ (some 7) rfl rfl Try.func20 (by kernel_rfl) rfl #[.int .i64 a1] rfl (by (try simp only [List.map_toArray, List.map_cons, List.map_nil]); first | done | rfl | (simp only [List.length_drop, List.length_take]; rfl)) ?_; (with_reducible refine (dominoref02_window.calls k a1 t120 _ A3.out).mono ?_); rintro e w5 ⟨rfl, hb⟩; refine ⟨_, rfl, ?_⟩; have n0_ := Aside0.mk (below_step (by repeat (first | (with_reducible first | exact HB.out | apply below_alloc | apply pw_below_drewN | apply below_drew1) | exact HB.out)) hb); clear HB; have HB := n0_; clear n0_; (try clear hb); (try clear hb2); (try clear hk); (try clear hi)))
    go_ret
    exact ⟨by first | rfl | (simp [errW_none, errW_some] <;> rfl) | (simp [*, errW_none, errW_some] <;> rfl), by repeat (first | (with_reducible first | exact HB.out | apply below_alloc | apply pw_below_drewN | apply below_drew1) | exact HB.out)⟩

/-! ### dominoref02_Expand: function 17 -/
mutual
def dominoref02_Expand.j0 : Nat → Int → Int → Int → Option (Int)
  | 0, _, _, _ => none
  | k + 1, x2, x9, x10 => if x9 = 0 then (none) else (if (IntKind.u64.wrap ((IntKind.u64.wrap ((IntKind.u64.wrap (x10 - (Int.tmod x10 x9))) + (Int.tmod x2 x9))) + (IntKind.u64.wrap (Int.tdiv x9 2)))) ≤ x10 then (dominoref02_Expand.j1 k x9 x10 (IntKind.u64.wrap ((IntKind.u64.wrap (x10 - (Int.tmod x10 x9))) + (Int.tmod x2 x9))) (decide ((IntKind.u64.wrap ((IntKind.u64.wrap (x10 - (Int.tmod x10 x9))) + (Int.tmod x2 x9))) < (IntKind.u64.wrap (4611686018427387904 - x9))))) else (dominoref02_Expand.j1 k x9 x10 (IntKind.u64.wrap ((IntKind.u64.wrap (x10 - (Int.tmod x10 x9))) + (Int.tmod x2 x9))) false))
def dominoref02_Expand.j1 : Nat → Int → Int → Int → Bool → Option (Int)
  | 0, _, _, _, _ => none
  | k + 1, x9, x10, x11, x26 => if x26 = true then (some (IntKind.u64.wrap (x11 + x9))) else (if x11 > (IntKind.u64.wrap (x10 + (IntKind.u64.wrap (Int.tdiv x9 2)))) then (if x11 ≥ x9 then (some (IntKind.u64.wrap (x11 - x9))) else (some x11)) else (some x11))
end
def dominoref02_Expand.f (k : Nat) (a0 : Int) (a1 : Bool) (a2 : Int) (a3 : Int) : Option (Int) := (dominoref02_window.f k a3).bind fun t121 => (if a1 = true then (dominoref02_Expand.j0 k a2 t121 (IntKind.u64.wrap (a0 + 1))) else (dominoref02_Expand.j0 k a2 t121 0))
theorem dominoref02_Expand.mono_l : ∀ k, (∀ y0 y1 y2, LeO (dominoref02_Expand.j0 k y0 y1 y2) (dominoref02_Expand.j0 (k + 1) y0 y1 y2)) ∧ (∀ y0 y1 y2 y3, LeO (dominoref02_Expand.j1 k y0 y1 y2 y3) (dominoref02_Expand.j1 (k + 1) y0 y1 y2 y3))
  | 0 => ⟨fun _ _ _ r h => by simp [dominoref02_Expand.j0] at h, fun _ _ _ _ r h => by simp [dominoref02_Expand.j1] at h⟩
  | k + 1 => by
    obtain ⟨ih0, ih1⟩ := dominoref02_Expand.mono_l k
    refine ⟨?_, ?_⟩
    · intro y0 y1 y2
      unfold dominoref02_Expand.j0
      repeat' first
      | (with_reducible exact ih0 _ _ _)
      | (with_reducible exact ih1 _ _ _ _)
      | (with_reducible exact dominoref02_window.mono _ _)
      | (with_reducible exact LeO.refl _)
      | (with_reducible exact LeO.none _)
      | (with_reducible refine LeO.ite ?_ ?_)
      | (with_reducible refine LeO.bind ?_ (fun _ => ?_))
      | exact ih0 _ _ _
      | exact ih1 _ _ _ _
      | exact dominoref02_window.mono _ _
      | exact LeO.none _
      | refine LeO.ite ?_ ?_
      | refine LeO.bind ?_ (fun _ => ?_)
    · intro y0 y1 y2 y3
      unfold dominoref02_Expand.j1
      repeat' first
      | (with_reducible exact ih0 _ _ _)
      | (with_reducible exact ih1 _ _ _ _)
      | (with_reducible exact dominoref02_window.mono _ _)
      | (with_reducible exact LeO.refl _)
      | (with_reducible exact LeO.none _)
      | (with_reducible refine LeO.ite ?_ ?_)
      | (with_reducible refine LeO.bind ?_ (fun _ => ?_))
      | exact ih0 _ _ _
      | exact ih1 _ _ _ _
      | exact dominoref02_window.mono _ _
      | exact LeO.none _
      | refine LeO.ite ?_ ?_
      | refine LeO.bind ?_ (fun _ => ?_)
theorem dominoref02_Expand.mono : ∀ a0 a1 a2 a3 k, LeO (dominoref02_Expand.f k a0 a1 a2 a3) (dominoref02_Expand.f (k + 1) a0 a1 a2 a3) := by
  intro a0 a1 a2 a3 k
  obtain ⟨ih0, ih1⟩ := dominoref02_Expand.mono_l k
  unfold dominoref02_Expand.f
  repeat' first
      | (with_reducible exact ih0 _ _ _)
      | (with_reducible exact ih1 _ _ _ _)
      | (with_reducible exact dominoref02_window.mono _ _)
      | (with_reducible exact LeO.refl _)
      | (with_reducible exact LeO.none _)
      | (with_reducible refine LeO.ite ?_ ?_)
      | (with_reducible refine LeO.bind ?_ (fun _ => ?_))
      | exact ih0 _ _ _
      | exact ih1 _ _ _ _
      | exact dominoref02_window.mono _ _
      | exact LeO.none _
      | refine LeO.ite ?_ ?_
      | refine LeO.bind ?_ (fun _ => ?_)
set_option maxHeartbeats 8000000 in
set_option maxRecDepth 100000 in
theorem dominoref02_Expand.calls (k : Nat) (a0 : Int) (a1 : Bool) (a2 : Int) (a3 : Int) (r : Int) (w : World) (h : dominoref02_Expand.f k a0 a1 a2 a3 = some r) :
    Calls Try.prog 17 #[.int .u64 a0, .bool a1, .int .u64 a2, .int .i64 a3] w fun e w' => e = .returned (.int .u64 r) ∧ Below w.heap.size w w' := by
  have HB := Aside0.mk (Below.refl w.heap.size w)
  have H : ((dominoref02_window.f k a3).bind fun t121 => (if a1 = true then (dominoref02_Expand.j0 k a2 t121 (IntKind.u64.wrap (a0 + 1))) else (dominoref02_Expand.j0 k a2 t121 0))) = some r := h
  clear h
  replace H := Option.bind_eq_some_iff.mp H
  obtain ⟨t121, A50, H⟩ := H
  replace H : (if a1 = true then (dominoref02_Expand.j0 k a2 t121 (IntKind.u64.wrap (a0 + 1))) else (dominoref02_Expand.j0 k a2 t121 0)) = some r := H
  have A5 := Aside0.mk A50
  clear A50
  have HC6 := Aside0.mk H
  clear H
  go_enter Try.func17, Try.ntmps17
  go_upto_if 14 with (first | (go_at_call 20; (with_reducible refine (dominoref02_window.calls k a3 t121 _ A5.out).mono ?_); rintro e w7 ⟨rfl, hb⟩; have n0_ := Aside0.mk (below_step (by repeat (first | (with_reducible first | exact HB.out | apply below_alloc | apply pw_below_drewN | apply below_drew1) | exact HB.out)) hb); clear HB; have HB := n0_; clear n0_; (try clear hb); (try clear hb2); (try clear hk); (try clear hi)))
  repeat (go_quiet (first | (go_at_call 20; (with_reducible refine (dominoref02_window.calls k a3 t121 _ A5.out).mono ?_); rintro e w7 ⟨rfl, hb⟩; have n0_ := Aside0.mk (below_step (by repeat (first | (with_reducible first | exact HB.out | apply below_alloc | apply pw_below_drewN | apply below_drew1) | exact HB.out)) hb); clear HB; have HB := n0_; clear n0_; (try clear hb); (try clear hb2); (try clear hk); (try clear hi))); go_upto_if 14 with (first | (go_at_call 20; (with_reducible refine (dominoref02_window.calls k a3 t121 _ A5.out).mono ?_); rintro e w7 ⟨rfl, hb⟩; have n0_ := Aside0.mk (below_step (by repeat (first | (with_reducible first | exact HB.out | apply below_alloc | apply pw_below_drewN | apply below_drew1) | exact HB.out)) hb); clear HB; have HB := n0_; clear n0_; (try clear hb); (try clear hb2); (try clear hk); (try clear hi))))
  (try simp only [Act.put, List.setIfInBounds_toArray, List.set_cons_zero, List.set_cons_succ])
  go_cut [10] (fun v10 wc => ∃ (kq : Nat) (x10_5 : Int), v10 = .int .u64 x10_5 ∧ Aside0 (dominoref02_Expand.j0 kq a2 t121 x10_5 = some r) ∧ Aside0 (kq ≤ k) ∧ Aside0 (Below w.heap.size w wc))
  case first =>
    have H := HC6.out
    clear HC6
    by_cases c8 : a1 = true
    · subst c8
      have H1 : (dominoref02_Expand.j0 k a2 t121 (IntKind.u64.wrap (a0 + 1))) = some r := by rw [if_pos rfl] at H; exact H
      clear H
      have H := H1
      clear H1
      have H' := Aside0.mk H
      clear H
      go_wp2
      repeat (go_quiet (fail); try go_wp2)
      go_meet
      case rel => exact ⟨_, (IntKind.u64.wrap (a0 + 1)), (by first | rfl | (simp; done) | (simp [*]; done)), H', ⟨by first | omega | exact Nat.le_refl _⟩, ⟨by repeat (first | (with_reducible first | exact HB.out | apply below_alloc | apply pw_below_drewN | apply below_drew1) | exact HB.out)⟩⟩
    · replace c8 := Bool.eq_false_iff.mpr c8
      subst c8
      have H1 : (dominoref02_Expand.j0 k a2 t121 0) = some r := by rw [if_neg (show ¬ (false = true) by decide)] at H; exact H
      clear H
      have H := H1
      clear H1
      have H' := Aside0.mk H
      clear H
      go_wp2
      repeat (go_quiet (fail); try go_wp2)
      go_meet
      case rel => exact ⟨_, (0), (by first | rfl | (simp; done) | (simp [*]; done)), H', ⟨by first | omega | exact Nat.le_refl _⟩, ⟨by repeat (first | (with_reducible first | exact HB.out | apply below_alloc | apply pw_below_drewN | apply below_drew1) | exact HB.out)⟩⟩
  case rest =>
    clear HC6
    try clear c1
    try clear p2
    try clear c8
    obtain ⟨kq, x10_5, rfl, HA, HJ5, HB⟩ := hcut
    cases kq with
    | zero => exact absurd HA.out (by simp [dominoref02_Expand.j0])
    | succ kj5 =>
      have H := HA.out
      clear HA
      simp only [dominoref02_Expand.j0] at H
      by_cases c9 : t121 = 0
      · rw [if_pos c9] at H
        exact absurd H (by simp)
      · rw [if_neg c9] at H
        have c9b0 : (t121 == 0) = false := beq_eq_false_iff_ne.mpr c9
        have c9b1 : (t121 != 0) = true := bne_iff_ne.mpr c9
        have HC10 := Aside0.mk H
        clear H
        go_upto_region 6 with (fail)
        repeat (go_quiet (fail); go_upto_region 6 with (fail))
        go_cut [26] (fun v26 wc => ∃ (kq : Nat) (x26_9 : Bool), v26 = .bool x26_9 ∧ Aside0 (dominoref02_Expand.j1 kq t121 x10_5 (IntKind.u64.wrap ((IntKind.u64.wrap (x10_5 - (Int.tmod x10_5 t121))) + (Int.tmod a2 t121))) x26_9 = some r) ∧ Aside0 (kq ≤ kj5) ∧ Aside0 (Below w.heap.size w wc))
        case first =>
          have H := HC10.out
          clear HC10
          by_cases c11 : (IntKind.u64.wrap ((IntKind.u64.wrap ((IntKind.u64.wrap (x10_5 - (Int.tmod x10_5 t121))) + (Int.tmod a2 t121))) + (IntKind.u64.wrap (Int.tdiv t121 2)))) ≤ x10_5
          · rw [if_pos c11] at H
            have c11b0 : decide ((IntKind.u64.wrap ((IntKind.u64.wrap ((IntKind.u64.wrap (x10_5 - (Int.tmod x10_5 t121))) + (Int.tmod a2 t121))) + (IntKind.u64.wrap (Int.tdiv t121 2)))) ≤ x10_5) = true := decide_eq_true c11
            clear c11
            (first | rw [c11b0] | (simp only [i64_w, i32_w]; rw [c11b0]) | skip)
            have H' := Aside0.mk H
            clear H
            go_wp2
            repeat (go_quiet (fail); try go_wp2)
            go_meet
            case rel => exact ⟨_, (decide ((IntKind.u64.wrap ((IntKind.u64.wrap (x10_5 - (Int.tmod x10_5 t121))) + (Int.tmod a2 t121))) < (IntKind.u64.wrap (4611686018427387904 - t121)))), (by first | rfl | (simp; done) | (simp [*]; done)), H', ⟨by have := HJ5.out; first | omega | exact Nat.le_refl _⟩, ⟨by repeat (first | (with_reducible first | exact HB.out | apply below_alloc | apply pw_below_drewN | apply below_drew1) | exact HB.out)⟩⟩
          · rw [if_neg c11] at H
            have c11b0 : decide ((IntKind.u64.wrap ((IntKind.u64.wrap ((IntKind.u64.wrap (x10_5 - (Int.tmod x10_5 t121))) + (Int.tmod a2 t121))) + (IntKind.u64.wrap (Int.tdiv t121 2)))) ≤ x10_5) = false := decide_eq_false c11
            clear c11
            (first | rw [c11b0] | (simp only [i64_w, i32_w]; rw [c11b0]) | skip)
            have H' := Aside0.mk H
            clear H
            go_wp2
            repeat (go_quiet (fail); try go_wp2)
            go_meet
            case rel => exact ⟨_, (false), (by first | rfl | (simp; done) | (simp [*]; done)), H', ⟨by have := HJ5.out; first | omega | exact Nat.le_refl _⟩, ⟨by repeat (first | (with_reducible first | exact HB.out | apply below_alloc | apply pw_below_drewN | apply below_drew1) | exact HB.out)⟩⟩
        case rest =>
          clear HC10
          try clear c1
          try clear p2
          try clear c8
          try clear c9
          try clear c9b0
          try clear c9b1
          try clear c11
          try clear c11b0
          try clear p2
          obtain ⟨kq, x26_9, rfl, HA, HJ9, HB⟩ := hcut
          cases kq with
          | zero => exact absurd HA.out (by simp [dominoref02_Expand.j1])
          | succ kj9 =>
            have H := HA.out
            clear HA
            simp only [dominoref02_Expand.j1] at H
            by_cases c12 : x26_9 = true
            · subst c12
              have H1 : (some (IntKind.u64.wrap ((IntKind.u64.wrap ((IntKind.u64.wrap (x10_5 - (Int.tmod x10_5 t121))) + (Int.tmod a2 t121))) + t121))) = some r := by rw [if_pos rfl] at H; exact H
              clear H
              have H := H1
              clear H1
              obtain rfl := Option.some.inj H
              go_wp2
              repeat (go_quiet (fail); try go_wp2)
              go_ret
              exact ⟨by first | rfl | (simp [errW_none, errW_some] <;> rfl) | (simp [*, errW_none, errW_some] <;> rfl), by repeat (first | (with_reducible first | exact HB.out | apply below_alloc | apply pw_below_drewN | apply below_drew1) | exact HB.out)⟩
            · replace c12 := Bool.eq_false_iff.mpr c12
              subst c12
              have H1 : (if (IntKind.u64.wrap ((IntKind.u64.wrap (x10_5 - (Int.tmod x10_5 t121))) + (Int.tmod a2 t121))) > (IntKind.u64.wrap (x10_5 + (IntKind.u64.wrap (Int.tdiv t121 2)))) then (if (IntKind.u64.wrap ((IntKind.u64.wrap (x10_5 - (Int.tmod x10_5 t121))) + (Int.tmod a2 t121))) ≥ t121 then (some (IntKind.u64.wrap ((IntKind.u64.wrap ((IntKind.u64.wrap (x10_5 - (Int.tmod x10_5 t121))) + (Int.tmod a2 t121))) - t121))) else (some (IntKind.u64.wrap ((IntKind.u64.wrap (x10_5 - (Int.tmod x10_5 t121))) + (Int.tmod a2 t121))))) else (some (IntKind.u64.wrap ((IntKind.u64.wrap (x10_5 - (Int.tmod x10_5 t121))) + (Int.tmod a2 t121))))) = some r := by rw [if_neg (show ¬ (false = true) by decide)] at H; exact H
              clear H
              have H := H1
              clear H1
              by_cases c13 : (IntKind.u64.wrap ((IntKind.u64.wrap (x10_5 - (Int.tmod x10_5 t121))) + (Int.tmod a2 t121))) > (IntKind.u64.wrap (x10_5 + (IntKind.u64.wrap (Int.tdiv t121 2))))
              · rw [if_pos c13] at H
                have c13b0 : decide ((IntKind.u64.wrap (x10_5 + (IntKind.u64.wrap (Int.tdiv t121 2)))) < (IntKind.u64.wrap ((IntKind.u64.wrap (x10_5 - (Int.tmod x10_5 t121))) + (Int.tmod a2 t121)))) = true := decide_eq_true c13
                clear c13
                by_cases c14 : (IntKind.u64.wrap ((IntKind.u64.wrap (x10_5 - (Int.tmod x10_5 t121))) + (Int.tmod a2 t121))) ≥ t121
                · rw [if_pos c14] at H
                  have c14b0 : decide (t121 ≤ (IntKind.u64.wrap ((IntKind.u64.wrap (x10_5 - (Int.tmod x10_5 t121))) + (Int.tmod a2 t121)))) = true := decide_eq_true c14
                  clear c14
                  obtain rfl := Option.some.inj H
                  go_wp2
                  repeat (go_quiet (fail); try go_wp2)
                  go_ret
                  exact ⟨by first | rfl | (simp [errW_none, errW_some] <;> rfl) | (simp [*, errW_none, errW_some] <;> rfl), by repeat (first | (with_reducible first | exact HB.out | apply below_alloc | apply pw_below_drewN | apply below_drew1) | exact HB.out)⟩
                · rw [if_neg c14] at H
                  have c14b0 : decide (t121 ≤ (IntKind.u64.wrap ((IntKind.u64.wrap (x10_5 - (Int.tmod x10_5 t121))) + (Int.tmod a2 t121)))) = false := decide_eq_false c14
                  clear c14
                  obtain rfl := Option.some.inj H
                  go_wp2
                  repeat (go_quiet (fail); try go_wp2)
                  go_ret
                  exact ⟨by first | rfl | (simp [errW_none, errW_some] <;> rfl) | (simp [*, errW_none, errW_some] <;> rfl), by repeat (first | (with_reducible first | exact HB.out | apply below_alloc | apply pw_below_drewN | apply below_drew1) | exact HB.out)⟩
              · rw [if_neg c13] at H
                have c13b0 : decide ((IntKind.u64.wrap (x10_5 + (IntKind.u64.wrap (Int.tdiv t121 2)))) < (IntKind.u64.wrap ((IntKind.u64.wrap (x10_5 - (Int.tmod x10_5 t121))) + (Int.tmod a2 t121)))) = false := decide_eq_false c13
                clear c13
                obtain rfl := Option.some.inj H
                go_wp2
                repeat (go_quiet (fail); try go_wp2)
                go_ret
                exact ⟨by first | rfl | (simp [errW_none, errW_some] <;> rfl) | (simp [*, errW_none, errW_some] <;> rfl), by repeat (first | (with_reducible first | exact HB.out | apply below_alloc | apply pw_below_drewN | apply below_drew1) | exact HB.out)⟩

/-! ### dominolaw02_PnumTells: function 3 -/
def dominolaw02_PnumTells.j0 : Nat → Int → Int → Int → Bool → Int → Bool → Option (Bool)
  | 0, _, _, _, _, _, _ => none
  | k + 1, x0, x1, x2, x3, x4, x22 => if x22 = true then ((dominolaw02_shown.f k).bind fun t125 => (some t125)) else ((pnum_Bytes.f k x0 x1 x3).bind fun t126 => ((dominoref02_Bytes.f k x0 x1 x3).bind fun t127 => (if t126 = t127 then ((pnum_Cut.f x0 x4).bind fun t128 => ((dominoref02_Cut.f k x0 x4).bind fun t129 => (if t128 = t129 then ((pnum_Expand.f k x1 x3 x2 x4).bind fun t130 => ((dominoref02_Expand.f k x1 x3 x2 x4).bind fun t131 => (some (t130 == t131)))) else (some false)))) else (some false))))
def dominolaw02_PnumTells.f (k : Nat) (a0 : Int) (a1 : Int) (a2 : Int) (a3 : Bool) (a4 : Int) : Option (Bool) := (dominolaw02_good.f a0).bind fun t122 => (if t122 = true then ((dominolaw02_good.f a1).bind fun t123 => (if t123 = true then ((dominolaw02_shown.f k).bind fun t124 => (dominolaw02_PnumTells.j0 k a0 a1 a2 a3 a4 (!t124))) else (dominolaw02_PnumTells.j0 k a0 a1 a2 a3 a4 true))) else (dominolaw02_PnumTells.j0 k a0 a1 a2 a3 a4 true))
theorem dominolaw02_PnumTells.mono_l : ∀ k, (∀ y0 y1 y2 y3 y4 y5, LeO (dominolaw02_PnumTells.j0 k y0 y1 y2 y3 y4 y5) (dominolaw02_PnumTells.j0 (k + 1) y0 y1 y2 y3 y4 y5))
  | 0 => fun _ _ _ _ _ _ r h => by simp [dominolaw02_PnumTells.j0] at h
  | k + 1 => by
    have ih0 := dominolaw02_PnumTells.mono_l k
    · intro y0 y1 y2 y3 y4 y5
      unfold dominolaw02_PnumTells.j0
      repeat' first
      | (with_reducible exact ih0 _ _ _ _ _ _)
      | (with_reducible exact dominolaw02_shown.mono _)
      | (with_reducible exact dominoref02_Bytes.mono _ _ _ _)
      | (with_reducible exact dominoref02_Cut.mono _ _ _)
      | (with_reducible exact dominoref02_Expand.mono _ _ _ _ _)
      | (with_reducible exact pnum_Bytes.mono _ _ _ _)
      | (with_reducible exact pnum_Expand.mono _ _ _ _ _)
      | (with_reducible exact LeO.refl _)
      | (with_reducible exact LeO.none _)
      | (with_reducible refine LeO.ite ?_ ?_)
      | (with_reducible refine LeO.bind ?_ (fun _ => ?_))
      | exact ih0 _ _ _ _ _ _
      | exact dominolaw02_shown.mono _
      | exact dominoref02_Bytes.mono _ _ _ _
      | exact dominoref02_Cut.mono _ _ _
      | exact dominoref02_Expand.mono _ _ _ _ _
      | exact pnum_Bytes.mono _ _ _ _
      | exact pnum_Expand.mono _ _ _ _ _
      | exact LeO.none _
      | refine LeO.ite ?_ ?_
      | refine LeO.bind ?_ (fun _ => ?_)
theorem dominolaw02_PnumTells.mono : ∀ a0 a1 a2 a3 a4 k, LeO (dominolaw02_PnumTells.f k a0 a1 a2 a3 a4) (dominolaw02_PnumTells.f (k + 1) a0 a1 a2 a3 a4) := by
  intro a0 a1 a2 a3 a4 k
  have ih0 := dominolaw02_PnumTells.mono_l k
  unfold dominolaw02_PnumTells.f
  repeat' first
      | (with_reducible exact ih0 _ _ _ _ _ _)
      | (with_reducible exact dominolaw02_shown.mono _)
      | (with_reducible exact dominoref02_Bytes.mono _ _ _ _)
      | (with_reducible exact dominoref02_Cut.mono _ _ _)
      | (with_reducible exact dominoref02_Expand.mono _ _ _ _ _)
      | (with_reducible exact pnum_Bytes.mono _ _ _ _)
      | (with_reducible exact pnum_Expand.mono _ _ _ _ _)
      | (with_reducible exact LeO.refl _)
      | (with_reducible exact LeO.none _)
      | (with_reducible refine LeO.ite ?_ ?_)
      | (with_reducible refine LeO.bind ?_ (fun _ => ?_))
      | exact ih0 _ _ _ _ _ _
      | exact dominolaw02_shown.mono _
      | exact dominoref02_Bytes.mono _ _ _ _
      | exact dominoref02_Cut.mono _ _ _
      | exact dominoref02_Expand.mono _ _ _ _ _
      | exact pnum_Bytes.mono _ _ _ _
      | exact pnum_Expand.mono _ _ _ _ _
      | exact LeO.none _
      | refine LeO.ite ?_ ?_
      | refine LeO.bind ?_ (fun _ => ?_)
set_option maxHeartbeats 8000000 in
set_option maxRecDepth 100000 in
theorem dominolaw02_PnumTells.calls (k : Nat) (a0 : Int) (a1 : Int) (a2 : Int) (a3 : Bool) (a4 : Int) (r : Bool) (w : World) (h : dominolaw02_PnumTells.f k a0 a1 a2 a3 a4 = some r) :
    Calls Try.prog 3 #[.int .u64 a0, .int .u64 a1, .int .u64 a2, .bool a3, .int .i64 a4] w fun e w' => e = .returned (.bool r) ∧ Below w.heap.size w w' := by
  have HB := Aside0.mk (Below.refl w.heap.size w)
  have H : ((dominolaw02_good.f a0).bind fun t122 => (if t122 = true then ((dominolaw02_good.f a1).bind fun t123 => (if t123 = true then ((dominolaw02_shown.f k).bind fun t124 => (dominolaw02_PnumTells.j0 k a0 a1 a2 a3 a4 (!t124))) else (dominolaw02_PnumTells.j0 k a0 a1 a2 a3 a4 true))) else (dominolaw02_PnumTells.j0 k a0 a1 a2 a3 a4 true))) = some r := h
  clear h
  have HC6 := Aside0.mk H
  clear H
  go_enter Try.func3, Try.ntmps3
  go_upto_region 1 with (fail)
  go_cut [22] (fun v22 wc => ∃ (kq : Nat) (x22_5 : Bool), v22 = .bool x22_5 ∧ Aside0 (dominolaw02_PnumTells.j0 kq a0 a1 a2 a3 a4 x22_5 = some r) ∧ Aside0 (kq ≤ k) ∧ Aside0 (Below w.heap.size w wc))
  case first =>
    have H := HC6.out
    clear HC6
    replace H := Option.bind_eq_some_iff.mp H
    obtain ⟨t122, A70, H⟩ := H
    replace H : (if t122 = true then ((dominolaw02_good.f a1).bind fun t123 => (if t123 = true then ((dominolaw02_shown.f k).bind fun t124 => (dominolaw02_PnumTells.j0 k a0 a1 a2 a3 a4 (!t124))) else (dominolaw02_PnumTells.j0 k a0 a1 a2 a3 a4 true))) else (dominolaw02_PnumTells.j0 k a0 a1 a2 a3 a4 true)) = some r := H
    have A7 := Aside0.mk A70
    clear A70
    by_cases c8 : t122 = true
    · subst c8
      have H1 : ((dominolaw02_good.f a1).bind fun t123 => (if t123 = true then ((dominolaw02_shown.f k).bind fun t124 => (dominolaw02_PnumTells.j0 k a0 a1 a2 a3 a4 (!t124))) else (dominolaw02_PnumTells.j0 k a0 a1 a2 a3 a4 true))) = some r := by rw [if_pos rfl] at H; exact H
      clear H
      have H := H1
      clear H1
      replace H := Option.bind_eq_some_iff.mp H
      obtain ⟨t123, A90, H⟩ := H
      replace H : (if t123 = true then ((dominolaw02_shown.f k).bind fun t124 => (dominolaw02_PnumTells.j0 k a0 a1 a2 a3 a4 (!t124))) else (dominolaw02_PnumTells.j0 k a0 a1 a2 a3 a4 true)) = some r := H
      have A9 := Aside0.mk A90
      clear A90
      by_cases c10 : t123 = true
      · subst c10
        have H1 : ((dominolaw02_shown.f k).bind fun t124 => (dominolaw02_PnumTells.j0 k a0 a1 a2 a3 a4 (!t124))) = some r := by rw [if_pos rfl] at H; exact H
        clear H
        have H := H1
        clear H1
        replace H := Option.bind_eq_some_iff.mp H
        obtain ⟨t124, A110, H⟩ := H
        replace H : (dominolaw02_PnumTells.j0 k a0 a1 a2 a3 a4 (!t124)) = some r := H
        have A11 := Aside0.mk A110
        clear A110
        have H' := Aside0.mk H
        clear H
        go_wp2_with (first | ((with_reducible refine gate_callee (f := 10) rfl ?_); refine goesL_ (some 12) rfl rfl Try.func10 (by kernel_rfl) rfl #[.int .u64 a0] rfl (by (try simp only [List.map_toArray, List.map_cons, List.map_nil]); first | done | rfl | (simp only [List.length_drop, List.length_take]; rfl)) ?_; (with_reducible refine (dominolaw02_good.calls a0 true _ A7.out).mono ?_); rintro e w' ⟨rfl, ⟨nd, rfl⟩⟩; refine ⟨_, rfl, ?_⟩) | (go_at_call 10; (with_reducible refine (dominolaw02_good.calls a1 true _ A9.out).mono ?_); rintro e w' ⟨rfl, ⟨nd, rfl⟩⟩) | (go_at_call 11; (with_reducible refine (dominolaw02_shown.calls k  t124 _ A11.out).mono ?_); rintro e w12 ⟨rfl, hb⟩; have n0_ := Aside0.mk (below_step (by repeat (first | (with_reducible first | exact HB.out | apply below_alloc | apply pw_below_drewN | apply below_drew1) | exact HB.out)) hb); clear HB; have HB := n0_; clear n0_; (try clear hb); (try clear hb2); (try clear hk); (try clear hi)))
        go_meet
        case rel => exact ⟨_, (!t124), (by first | rfl | (simp; done) | (simp [*]; done)), H', ⟨by first | omega | exact Nat.le_refl _⟩, ⟨by repeat (first | (with_reducible first | exact HB.out | apply below_alloc | apply pw_below_drewN | apply below_drew1) | exact HB.out)⟩⟩
      · replace c10 := Bool.eq_false_iff.mpr c10
        subst c10
        have H1 : (dominolaw02_PnumTells.j0 k a0 a1 a2 a3 a4 true) = some r := by rw [if_neg (show ¬ (false = true) by decide)] at H; exact H
        clear H
        have H := H1
        clear H1
        have H' := Aside0.mk H
        clear H
        go_wp2_with (first | ((with_reducible refine gate_callee (f := 10) rfl ?_); refine goesL_ (some 12) rfl rfl Try.func10 (by kernel_rfl) rfl #[.int .u64 a0] rfl (by (try simp only [List.map_toArray, List.map_cons, List.map_nil]); first | done | rfl | (simp only [List.length_drop, List.length_take]; rfl)) ?_; (with_reducible refine (dominolaw02_good.calls a0 true _ A7.out).mono ?_); rintro e w' ⟨rfl, ⟨nd, rfl⟩⟩; refine ⟨_, rfl, ?_⟩) | (go_at_call 10; (with_reducible refine (dominolaw02_good.calls a1 false _ A9.out).mono ?_); rintro e w' ⟨rfl, ⟨nd, rfl⟩⟩))
        go_meet
        case rel => exact ⟨_, (true), (by first | rfl | (simp; done) | (simp [*]; done)), H', ⟨by first | omega | exact Nat.le_refl _⟩, ⟨by repeat (first | (with_reducible first | exact HB.out | apply below_alloc | apply pw_below_drewN | apply below_drew1) | exact HB.out)⟩⟩
    · replace c8 := Bool.eq_false_iff.mpr c8
      subst c8
      have H1 : (dominolaw02_PnumTells.j0 k a0 a1 a2 a3 a4 true) = some r := by rw [if_neg (show ¬ (false = true) by decide)] at H; exact H
      clear H
      have H := H1
      clear H1
      have H' := Aside0.mk H
      clear H
      go_wp2_with (first | ((with_reducible refine gate_callee (f := 10) rfl ?_); refine goesL_ (some 12) rfl rfl Try.func10 (by kernel_rfl) rfl #[.int .u64 a0] rfl (by (try simp only [List.map_toArray, List.map_cons, List.map_nil]); first | done | rfl | (simp only [List.length_drop, List.length_take]; rfl)) ?_; (with_reducible refine (dominolaw02_good.calls a0 false _ A7.out).mono ?_); rintro e w' ⟨rfl, ⟨nd, rfl⟩⟩; refine ⟨_, rfl, ?_⟩))
      go_meet
      case rel => exact ⟨_, (true), (by first | rfl | (simp; done) | (simp [*]; done)), H', ⟨by first | omega | exact Nat.le_refl _⟩, ⟨by repeat (first | (with_reducible first | exact HB.out | apply below_alloc | apply pw_below_drewN | apply below_drew1) | exact HB.out)⟩⟩
  case rest =>
    clear HC6
    try clear c1
    try clear p2
    try clear c3
    try clear c8
    try clear c10
    obtain ⟨kq, x22_5, rfl, HA, HJ5, HB⟩ := hcut
    cases kq with
    | zero => exact absurd HA.out (by simp [dominolaw02_PnumTells.j0])
    | succ kj5 =>
      have H := HA.out
      clear HA
      simp only [dominolaw02_PnumTells.j0] at H
      by_cases c13 : x22_5 = true
      · subst c13
        have H1 : ((dominolaw02_shown.f kj5).bind fun t125 => (some t125)) = some r := by rw [if_pos rfl] at H; exact H
        clear H
        have H := H1
        clear H1
        replace H := Option.bind_eq_some_iff.mp H
        obtain ⟨t125, A140, H⟩ := H
        replace H : (some t125) = some r := H
        have A14 := Aside0.mk A140
        clear A140
        obtain rfl := Option.some.inj H
        go_wp2_with (first | ((with_reducible refine gate_callee (f := 11) rfl ?_); refine goesL_ (some 23) rfl rfl Try.func11 (by kernel_rfl) rfl #[] rfl (by (try simp only [List.map_toArray, List.map_cons, List.map_nil]); first | done | rfl | (simp only [List.length_drop, List.length_take]; rfl)) ?_; (with_reducible refine (dominolaw02_shown.calls kj5  t125 _ A14.out).mono ?_); rintro e w15 ⟨rfl, hb⟩; refine ⟨_, rfl, ?_⟩; have n0_ := Aside0.mk (below_step (by repeat (first | (with_reducible first | exact HB.out | apply below_alloc | apply pw_below_drewN | apply below_drew1) | exact HB.out)) hb); clear HB; have HB := n0_; clear n0_; (try clear hb); (try clear hb2); (try clear hk); (try clear hi)))
        go_ret
        exact ⟨by first | rfl | (simp [errW_none, errW_some] <;> rfl) | (simp [*, errW_none, errW_some] <;> rfl), by repeat (first | (with_reducible first | exact HB.out | apply below_alloc | apply pw_below_drewN | apply below_drew1) | exact HB.out)⟩
      · replace c13 := Bool.eq_false_iff.mpr c13
        subst c13
        have H1 : ((pnum_Bytes.f kj5 a0 a1 a3).bind fun t126 => ((dominoref02_Bytes.f kj5 a0 a1 a3).bind fun t127 => (if t126 = t127 then ((pnum_Cut.f a0 a4).bind fun t128 => ((dominoref02_Cut.f kj5 a0 a4).bind fun t129 => (if t128 = t129 then ((pnum_Expand.f kj5 a1 a3 a2 a4).bind fun t130 => ((dominoref02_Expand.f kj5 a1 a3 a2 a4).bind fun t131 => (some (t130 == t131)))) else (some false)))) else (some false)))) = some r := by rw [if_neg (show ¬ (false = true) by decide)] at H; exact H
        clear H
        have H := H1
        clear H1
        replace H := Option.bind_eq_some_iff.mp H
        obtain ⟨t126, A160, H⟩ := H
        replace H : ((dominoref02_Bytes.f kj5 a0 a1 a3).bind fun t127 => (if t126 = t127 then ((pnum_Cut.f a0 a4).bind fun t128 => ((dominoref02_Cut.f kj5 a0 a4).bind fun t129 => (if t128 = t129 then ((pnum_Expand.f kj5 a1 a3 a2 a4).bind fun t130 => ((dominoref02_Expand.f kj5 a1 a3 a2 a4).bind fun t131 => (some (t130 == t131)))) else (some false)))) else (some false))) = some r := H
        have A16 := Aside0.mk A160
        clear A160
        replace H := Option.bind_eq_some_iff.mp H
        obtain ⟨t127, A170, H⟩ := H
        replace H : (if t126 = t127 then ((pnum_Cut.f a0 a4).bind fun t128 => ((dominoref02_Cut.f kj5 a0 a4).bind fun t129 => (if t128 = t129 then ((pnum_Expand.f kj5 a1 a3 a2 a4).bind fun t130 => ((dominoref02_Expand.f kj5 a1 a3 a2 a4).bind fun t131 => (some (t130 == t131)))) else (some false)))) else (some false)) = some r := H
        have A17 := Aside0.mk A170
        clear A170
        by_cases c18 : t126 = t127
        · rw [if_pos c18] at H
          have c18b0 : (t126 == t127) = true := beq_iff_eq.mpr c18
          have c18b1 : (t126 != t127) = false := bne_eq_false_iff_eq.mpr c18
          clear c18
          replace H := Option.bind_eq_some_iff.mp H
          obtain ⟨t128, A190, H⟩ := H
          replace H : ((dominoref02_Cut.f kj5 a0 a4).bind fun t129 => (if t128 = t129 then ((pnum_Expand.f kj5 a1 a3 a2 a4).bind fun t130 => ((dominoref02_Expand.f kj5 a1 a3 a2 a4).bind fun t131 => (some (t130 == t131)))) else (some false))) = some r := H
          have A19 := Aside0.mk A190
          clear A190
          replace H := Option.bind_eq_some_iff.mp H
          obtain ⟨t129, A200, H⟩ := H
          replace H : (if t128 = t129 then ((pnum_Expand.f kj5 a1 a3 a2 a4).bind fun t130 => ((dominoref02_Expand.f kj5 a1 a3 a2 a4).bind fun t131 => (some (t130 == t131)))) else (some false)) = some r := H
          have A20 := Aside0.mk A200
          clear A200
          by_cases c21 : t128 = t129
          · rw [if_pos c21] at H
            have c21b0 : (t128 == t129) = true := beq_iff_eq.mpr c21
            have c21b1 : (t128 != t129) = false := bne_eq_false_iff_eq.mpr c21
            clear c21
            replace H := Option.bind_eq_some_iff.mp H
            obtain ⟨t130, A220, H⟩ := H
            replace H : ((dominoref02_Expand.f kj5 a1 a3 a2 a4).bind fun t131 => (some (t130 == t131))) = some r := H
            have A22 := Aside0.mk A220
            clear A220
            replace H := Option.bind_eq_some_iff.mp H
            obtain ⟨t131, A230, H⟩ := H
            replace H : (some (t130 == t131)) = some r := H
            have A23 := Aside0.mk A230
            clear A230
            obtain rfl := Option.some.inj H
            go_wp2_with (first | ((with_reducible refine gate_callee (f := 12) rfl ?_); refine goesL_ (some 27) rfl rfl Try.func12 (by kernel_rfl) rfl #[.int .u64 a0, .int .u64 a1, .bool a3] rfl (by (try simp only [List.map_toArray, List.map_cons, List.map_nil]); first | done | rfl | (simp only [List.length_drop, List.length_take]; rfl)) ?_; (with_reducible refine (pnum_Bytes.calls kj5 a0 a1 a3 t126 _ A16.out).mono ?_); rintro e w24 ⟨rfl, hb⟩; refine ⟨_, rfl, ?_⟩; have n0_ := Aside0.mk (below_step (by repeat (first | (with_reducible first | exact HB.out | apply below_alloc | apply pw_below_drewN | apply below_drew1) | exact HB.out)) hb); clear HB; have HB := n0_; clear n0_; (try clear hb); (try clear hb2); (try clear hk); (try clear hi)) | ((with_reducible refine gate_callee (f := 13) rfl ?_); refine goesL_ (some 31) rfl rfl Try.func13 (by kernel_rfl) rfl #[.int .u64 a0, .int .u64 a1, .bool a3] rfl (by (try simp only [List.map_toArray, List.map_cons, List.map_nil]); first | done | rfl | (simp only [List.length_drop, List.length_take]; rfl)) ?_; (with_reducible refine (dominoref02_Bytes.calls kj5 a0 a1 a3 t127 _ A17.out).mono ?_); rintro e w25 ⟨rfl, hb⟩; refine ⟨_, rfl, ?_⟩; have n0_ := Aside0.mk (below_step (by repeat (first | (with_reducible first | exact HB.out | apply below_alloc | apply pw_below_drewN | apply below_drew1) | exact HB.out)) hb); clear HB; have HB := n0_; clear n0_; (try clear hb); (try clear hb2); (try clear hk); (try clear hi)) | (go_at_call 14; (with_reducible refine (pnum_Cut.calls a0 a4 t128 _ A19.out).mono ?_); rintro e w26 ⟨rfl, hb⟩; have n0_ := Aside0.mk (below_step (by repeat (first | (with_reducible first | exact HB.out | apply below_alloc | apply pw_below_drewN | apply below_drew1) | exact HB.out)) hb); clear HB; have HB := n0_; clear n0_; (try clear hb); (try clear hb2); (try clear hk); (try clear hi)) | (go_at_call 15; (with_reducible refine (dominoref02_Cut.calls kj5 a0 a4 t129 _ A20.out).mono ?_); rintro e w27 ⟨rfl, hb⟩; have n0_ := Aside0.mk (below_step (by repeat (first | (with_reducible first | exact HB.out | apply below_alloc | apply pw_below_drewN | apply below_drew1) | exact HB.out)) hb); clear HB; have HB := n0_; clear n0_; (try clear hb); (try clear hb2); (try clear hk); (try clear hi)) | (go_at_call 16; (with_reducible refine (pnum_Expand.calls kj5 a1 a3 a2 a4 t130 _ A22.out).mono ?_); rintro e w28 ⟨rfl, hb⟩; have n0_ := Aside0.mk (below_step (by repeat (first | (with_reducible first | exact HB.out | apply below_alloc | apply pw_below_drewN | apply below_drew1) | exact HB.out)) hb); clear HB; have HB := n0_; clear n0_; (try clear hb); (try clear hb2); (try clear hk); (try clear hi)) | (go_at_call 17; (with_reducible refine (dominoref02_Expand.calls kj5 a1 a3 a2 a4 t131 _ A23.out).mono ?_); rintro e w29 ⟨rfl, hb⟩; have n0_ := Aside0.mk (below_step (by repeat (first | (with_reducible first | exact HB.out | apply below_alloc | apply pw_below_drewN | apply below_drew1) | exact HB.out)) hb); clear HB; have HB := n0_; clear n0_; (try clear hb); (try clear hb2); (try clear hk); (try clear hi)))
            go_ret
            exact ⟨by first | rfl | (simp [errW_none, errW_some] <;> rfl) | (simp [*, errW_none, errW_some] <;> rfl), by repeat (first | (with_reducible first | exact HB.out | apply below_alloc | apply pw_below_drewN | apply below_drew1) | exact HB.out)⟩
          · rw [if_neg c21] at H
            have c21b0 : (t128 == t129) = false := beq_eq_false_iff_ne.mpr c21
            have c21b1 : (t128 != t129) = true := bne_iff_ne.mpr c21
            obtain rfl := Option.some.inj H
            go_wp2_with (first | ((with_reducible refine gate_callee (f := 12) rfl ?_); refine goesL_ (some 27) rfl rfl Try.func12 (by kernel_rfl) rfl #[.int .u64 a0, .int .u64 a1, .bool a3] rfl (by (try simp only [List.map_toArray, List.map_cons, List.map_nil]); first | done | rfl | (simp only [List.length_drop, List.length_take]; rfl)) ?_; (with_reducible refine (pnum_Bytes.calls kj5 a0 a1 a3 t126 _ A16.out).mono ?_); rintro e w30 ⟨rfl, hb⟩; refine ⟨_, rfl, ?_⟩; have n0_ := Aside0.mk (below_step (by repeat (first | (with_reducible first | exact HB.out | apply below_alloc | apply pw_below_drewN | apply below_drew1) | exact HB.out)) hb); clear HB; have HB := n0_; clear n0_; (try clear hb); (try clear hb2); (try clear hk); (try clear hi)) | ((with_reducible refine gate_callee (f := 13) rfl ?_); refine goesL_ (some 31) rfl rfl Try.func13 (by kernel_rfl) rfl #[.int .u64 a0, .int .u64 a1, .bool a3] rfl (by (try simp only [List.map_toArray, List.map_cons, List.map_nil]); first | done | rfl | (simp only [List.length_drop, List.length_take]; rfl)) ?_; (with_reducible refine (dominoref02_Bytes.calls kj5 a0 a1 a3 t127 _ A17.out).mono ?_); rintro e w31 ⟨rfl, hb⟩; refine ⟨_, rfl, ?_⟩; have n0_ := Aside0.mk (below_step (by repeat (first | (with_reducible first | exact HB.out | apply below_alloc | apply pw_below_drewN | apply below_drew1) | exact HB.out)) hb); clear HB; have HB := n0_; clear n0_; (try clear hb); (try clear hb2); (try clear hk); (try clear hi)) | (go_at_call 14; (with_reducible refine (pnum_Cut.calls a0 a4 t128 _ A19.out).mono ?_); rintro e w32 ⟨rfl, hb⟩; have n0_ := Aside0.mk (below_step (by repeat (first | (with_reducible first | exact HB.out | apply below_alloc | apply pw_below_drewN | apply below_drew1) | exact HB.out)) hb); clear HB; have HB := n0_; clear n0_; (try clear hb); (try clear hb2); (try clear hk); (try clear hi)) | (go_at_call 15; (with_reducible refine (dominoref02_Cut.calls kj5 a0 a4 t129 _ A20.out).mono ?_); rintro e w33 ⟨rfl, hb⟩; have n0_ := Aside0.mk (below_step (by repeat (first | (with_reducible first | exact HB.out | apply below_alloc | apply pw_below_drewN | apply below_drew1) | exact HB.out)) hb); clear HB; have HB := n0_; clear n0_; (try clear hb); (try clear hb2); (try clear hk); (try clear hi)))
            go_ret
            exact ⟨by first | rfl | (simp [errW_none, errW_some] <;> rfl) | (simp [*, errW_none, errW_some] <;> rfl), by repeat (first | (with_reducible first | exact HB.out | apply below_alloc | apply pw_below_drewN | apply below_drew1) | exact HB.out)⟩
        · rw [if_neg c18] at H
          have c18b0 : (t126 == t127) = false := beq_eq_false_iff_ne.mpr c18
          have c18b1 : (t126 != t127) = true := bne_iff_ne.mpr c18
          obtain rfl := Option.some.inj H
          go_wp2_with (first | ((with_reducible refine gate_callee (f := 12) rfl ?_); refine goesL_ (some 27) rfl rfl Try.func12 (by kernel_rfl) rfl #[.int .u64 a0, .int .u64 a1, .bool a3] rfl (by (try simp only [List.map_toArray, List.map_cons, List.map_nil]); first | done | rfl | (simp only [List.length_drop, List.length_take]; rfl)) ?_; (with_reducible refine (pnum_Bytes.calls kj5 a0 a1 a3 t126 _ A16.out).mono ?_); rintro e w34 ⟨rfl, hb⟩; refine ⟨_, rfl, ?_⟩; have n0_ := Aside0.mk (below_step (by repeat (first | (with_reducible first | exact HB.out | apply below_alloc | apply pw_below_drewN | apply below_drew1) | exact HB.out)) hb); clear HB; have HB := n0_; clear n0_; (try clear hb); (try clear hb2); (try clear hk); (try clear hi)) | ((with_reducible refine gate_callee (f := 13) rfl ?_); refine goesL_ (some 31) rfl rfl Try.func13 (by kernel_rfl) rfl #[.int .u64 a0, .int .u64 a1, .bool a3] rfl (by (try simp only [List.map_toArray, List.map_cons, List.map_nil]); first | done | rfl | (simp only [List.length_drop, List.length_take]; rfl)) ?_; (with_reducible refine (dominoref02_Bytes.calls kj5 a0 a1 a3 t127 _ A17.out).mono ?_); rintro e w35 ⟨rfl, hb⟩; refine ⟨_, rfl, ?_⟩; have n0_ := Aside0.mk (below_step (by repeat (first | (with_reducible first | exact HB.out | apply below_alloc | apply pw_below_drewN | apply below_drew1) | exact HB.out)) hb); clear HB; have HB := n0_; clear n0_; (try clear hb); (try clear hb2); (try clear hk); (try clear hi)))
          go_ret
          exact ⟨by first | rfl | (simp [errW_none, errW_some] <;> rfl) | (simp [*, errW_none, errW_some] <;> rfl), by repeat (first | (with_reducible first | exact HB.out | apply below_alloc | apply pw_below_drewN | apply below_drew1) | exact HB.out)⟩

/-- THE ONE PURE STATEMENT of dominolaw02_PnumTells: yours. -/
def dominolaw02_PnumTells.Pure : Prop := ∀ (a0 : Int) (a1 : Int) (a2 : Int) (a3 : Bool) (a4 : Int), (Lit.int .u64 a0).wf = true → (Lit.int .u64 a1).wf = true → (Lit.int .u64 a2).wf = true → (Lit.int .i64 a4).wf = true → ∃ k, dominolaw02_PnumTells.f k a0 a1 a2 a3 a4 = some true
theorem dominolaw02_PnumTells.walk (P : dominolaw02_PnumTells.Pure) (a0 : Int) (a1 : Int) (a2 : Int) (a3 : Bool) (a4 : Int) (w : World) (w0 : (Lit.int .u64 a0).wf = true) (w1 : (Lit.int .u64 a1).wf = true) (w2 : (Lit.int .u64 a2).wf = true) (w4 : (Lit.int .i64 a4).wf = true) :
    Calls Try.prog 3 #[.int .u64 a0, .int .u64 a1, .int .u64 a2, .bool a3, .int .i64 a4] w fun e w' => e = .returned (.bool true) ∧ Below w.heap.size w w' := by
  obtain ⟨k, h⟩ := P a0 a1 a2 a3 a4 w0 w1 w2 w4
  refine (dominolaw02_PnumTells.calls k a0 a1 a2 a3 a4 true w h).mono ?_
  rintro e w' ⟨rfl, hd⟩
  exact ⟨rfl, hd⟩

end Go.Proofs.Ytgfpcdedaailiaa.PPnumTells
