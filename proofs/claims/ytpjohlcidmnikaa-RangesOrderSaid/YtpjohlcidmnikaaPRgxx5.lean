-- printed for this claim by a program of the claim (wip/tools/pp.py over the kit's print)
import Derived.Test.YtpjohlcidmnikaaPRgxx0
import Derived.Test.YtpjohlcidmnikaaPRgxx2
import Derived.Test.YtpjohlcidmnikaaPRgxx3
namespace Go.Proofs.Ytpjohlcidmnikaa.PRgx
open Go.RowKit Go.Proofs.YtpjohlcidmnikaaW.PrintWords Go.Proofs.YtpjohlcidmnikaaW.PrintLast Go.Proofs.YtpjohlcidmnikaaW.PrintMore
attribute [local go_sem] max2_int min2_int max_two min_two max_three min_three max_four min_four   -- for this text's walks alone
set_option linter.unusedVariables false
set_option linter.unusedSimpArgs false

attribute [local go_sem] isSome_setCell_
attribute [local go_sem high] eqA42
/-! ### dominoref03_Same: function 16 -/
def dominoref03_Same.l0 : Nat → List (S42) → List (S42) → Int → Option (Bool)
  | 0, _, _, _ => none
  | k + 1, x0, x1, x5 => if x5 < (x0.length : Int) then (if 0 ≤ x5 then (if x5 < (x1.length : Int) then (if (!(((rd_T42 x0 x5).f0) == ((rd_T42 x1 x5).f0)) || (!(((rd_T42 x0 x5).f1) == ((rd_T42 x1 x5).f1)))) = true then (some false) else (dominoref03_Same.l0 k x0 x1 (wrap64 (x5 + 1)))) else (none)) else (none)) else (some true)
def dominoref03_Same.f (k : Nat) (l0 : List (S42)) (l1 : List (S42)) : Option (Bool) := if (l0.length : Int) = (l1.length : Int) then (dominoref03_Same.l0 k l0 l1 0) else (some false)
theorem dominoref03_Same.mono_l : ∀ k, (∀ y0 y1 y2, LeO (dominoref03_Same.l0 k y0 y1 y2) (dominoref03_Same.l0 (k + 1) y0 y1 y2))
  | 0 => fun _ _ _ r h => by simp [dominoref03_Same.l0] at h
  | k + 1 => by
    have ih0 := dominoref03_Same.mono_l k
    · intro y0 y1 y2
      unfold dominoref03_Same.l0
      repeat' first
      | (with_reducible exact ih0 _ _ _)
      | (with_reducible exact LeO.refl _)
      | (with_reducible exact LeO.none _)
      | (with_reducible refine LeO.ite ?_ ?_)
      | (with_reducible refine LeO.bind ?_ (fun _ => ?_))
      | exact ih0 _ _ _
      | exact LeO.none _
      | refine LeO.ite ?_ ?_
      | refine LeO.bind ?_ (fun _ => ?_)
theorem dominoref03_Same.mono : ∀ a0 a1 k, LeO (dominoref03_Same.f k a0 a1) (dominoref03_Same.f (k + 1) a0 a1) := by
  intro a0 a1 k
  have ih0 := dominoref03_Same.mono_l k
  unfold dominoref03_Same.f
  repeat' first
      | (with_reducible exact ih0 _ _ _)
      | (with_reducible exact LeO.refl _)
      | (with_reducible exact LeO.none _)
      | (with_reducible refine LeO.ite ?_ ?_)
      | (with_reducible refine LeO.bind ?_ (fun _ => ?_))
      | exact ih0 _ _ _
      | exact LeO.none _
      | refine LeO.ite ?_ ?_
      | refine LeO.bind ?_ (fun _ => ?_)
set_option maxHeartbeats 8000000 in
set_option maxRecDepth 100000 in
theorem dominoref03_Same.calls (k : Nat) (A0 : Option Addr) (c0 : Nat) (l0 : List (S42)) (A1 : Option Addr) (c1 : Nat) (l1 : List (S42)) (r : Bool) (w : World) (hr0 : Kd.C k42 w A0 l0.length l0) (hc0 : l0.length ≤ c0) (hr1 : Kd.C k42 w A1 l1.length l1) (hc1 : l1.length ≤ c1) (h : dominoref03_Same.f k l0 l1 = some r) :
    Calls Try.prog 16 #[.slice A0 l0.length c0, .slice A1 l1.length c1] w fun e w' => e = .returned (.bool r) ∧ Drawn0 w w' := by
  have hu42 := Try.underlying42
  have HR0 := Aside0.mk hr0
  have HC0 := Aside0.mk hc0
  clear hr0 hc0
  have HR1 := Aside0.mk hr1
  have HC1 := Aside0.mk hc1
  clear hr1 hc1
  have H : (if (l0.length : Int) = (l1.length : Int) then (dominoref03_Same.l0 k l0 l1 0) else (some false)) = some r := h
  clear h
  by_cases c3 : (l0.length : Int) = (l1.length : Int)
  · rw [if_pos c3] at H
    have c3b0 : ((l0.length : Int) == (l1.length : Int)) = true := beq_iff_eq.mpr c3
    have c3b1 : ((l0.length : Int) != (l1.length : Int)) = false := bne_eq_false_iff_eq.mpr c3
    have c3b2 : (l0.length == l1.length) = true := by first | simpa using c3 | (simp at c3 ⊢; omega)
    clear c3
    have H' := Aside0.mk H
    clear H
    go_enter Try.func16, Try.ntmps16
    go_wp2
    repeat (go_quiet (fail); try go_wp2)
    go_loopg [5] k (fun kq v5 w' => ∃ (x5_1 : Int), v5 = .int .i64 x5_1 ∧ Aside0 (dominoref03_Same.l0 kq l0 l1 x5_1 = some r) ∧ Aside0 (kq ≤ k) ∧ Drawn0 w w')
    case atStart => exact ⟨(0), (by first | rfl | (simp; done) | (simp [*]; done)), H', ⟨Nat.le_refl _⟩, by repeat (first | exact Drawn0.refl _ | apply Drawn0.step)⟩
    case round =>
      clear H'
      try clear c1
      try clear p2
      try clear c3
      try clear c3b0
      try clear c3b1
      try clear c3b2
      obtain ⟨x5_1, rfl, HA, HK1, ⟨m1, rfl⟩⟩ := hrel
      cases gk with
      | zero => exact absurd HA.out (by simp [dominoref03_Same.l0])
      | succ k1 =>
        have H := HA.out
        clear HA
        simp only [dominoref03_Same.l0] at H
        by_cases c4 : x5_1 < (l0.length : Int)
        · rw [if_pos c4] at H
          have c4b0 : decide (x5_1 < (l0.length : Int)) = true := decide_eq_true c4
          clear c4
          by_cases c5 : 0 ≤ x5_1
          · rw [if_pos c5] at H
            have c5b0 : decide (0 ≤ x5_1) = true := decide_eq_true c5
            clear c5
            by_cases c6 : x5_1 < (l1.length : Int)
            · rw [if_pos c6] at H
              have c6b0 : decide (x5_1 < (l1.length : Int)) = true := decide_eq_true c6
              clear c6
              by_cases c7 : (!(((rd_T42 l0 x5_1).f0) == ((rd_T42 l1 x5_1).f0)) || (!(((rd_T42 l0 x5_1).f1) == ((rd_T42 l1 x5_1).f1)))) = true
              · rw [if_pos c7] at H
                have c7b0 : (!(((rd_T42 l0 x5_1).f0) == ((rd_T42 l1 x5_1).f0)) || (!(((rd_T42 l0 x5_1).f1) == ((rd_T42 l1 x5_1).f1)))) = true := c7
                clear c7
                obtain rfl := Option.some.inj H
                have p148 : 0 ≤ (x5_1 : Int) := of_decide_eq_true (by first | (with_reducible assumption) | assumption)
                have q148 : x5_1 < (l0.length : Int) := of_decide_eq_true (by first | (with_reducible assumption) | assumption)
                obtain ⟨ad148, e148, hx148_0, hx148_1⟩ := at_T42 HR0.out x5_1 p148 q148
                cases e148
                replace p148 := eq_true p148
                replace q148 := eq_true q148
                have p149 : 0 ≤ (x5_1 : Int) := of_decide_eq_true (by first | (with_reducible assumption) | assumption)
                have q149 : x5_1 < (l1.length : Int) := of_decide_eq_true (by first | (with_reducible assumption) | assumption)
                obtain ⟨ad149, e149, hx149_0, hx149_1⟩ := at_T42 HR1.out x5_1 p149 q149
                cases e149
                replace p149 := eq_true p149
                replace q149 := eq_true q149
                go_wp2
                repeat (go_quiet (fail); try go_wp2)
                go_ret
                exact ⟨by first | rfl | (have hq_ := of_eq_true c7q; simp [errW_none, errW_some, hq_, bne]; done) | (have hq_ := of_eq_true c7q; simp [errW_none, errW_some, hq_, bne]; rfl) | (simp; done) | (simp [*]; done), by repeat (first | exact Drawn0.refl _ | apply Drawn0.step)⟩
              · rw [if_neg c7] at H
                have c7b0 : (!(((rd_T42 l0 x5_1).f0) == ((rd_T42 l1 x5_1).f0)) || (!(((rd_T42 l0 x5_1).f1) == ((rd_T42 l1 x5_1).f1)))) = false := by simpa using c7
                have c7q := c7b0
                simp only [Bool.not_false, Bool.not_true, Bool.true_and, Bool.and_eq_true, Bool.or_eq_false_iff, Bool.not_eq_eq_eq_not, beq_iff_eq] at c7q
                replace c7q := eq_true c7q
                clear c7
                have H' := Aside0.mk H
                clear H
                have p148 : 0 ≤ (x5_1 : Int) := of_decide_eq_true (by first | (with_reducible assumption) | assumption)
                have q148 : x5_1 < (l0.length : Int) := of_decide_eq_true (by first | (with_reducible assumption) | assumption)
                obtain ⟨ad148, e148, hx148_0, hx148_1⟩ := at_T42 HR0.out x5_1 p148 q148
                cases e148
                replace p148 := eq_true p148
                replace q148 := eq_true q148
                have p149 : 0 ≤ (x5_1 : Int) := of_decide_eq_true (by first | (with_reducible assumption) | assumption)
                have q149 : x5_1 < (l1.length : Int) := of_decide_eq_true (by first | (with_reducible assumption) | assumption)
                obtain ⟨ad149, e149, hx149_0, hx149_1⟩ := at_T42 HR1.out x5_1 p149 q149
                cases e149
                replace p149 := eq_true p149
                replace q149 := eq_true q149
                go_wp2
                repeat (go_quiet (fail); try go_wp2)
                go_roundg k1
                case measure => have := HK1.out; omega
                case rel => exact ⟨(wrap64 (x5_1 + 1)), (by first | rfl | (simp; done) | (simp [*]; done)), H', ⟨by have := HK1.out; omega⟩, by repeat (first | exact Drawn0.refl _ | apply Drawn0.step)⟩
            · rw [if_neg c6] at H
              exact absurd H (by simp)
          · rw [if_neg c5] at H
            exact absurd H (by simp)
        · rw [if_neg c4] at H
          have c4b0 : decide (x5_1 < (l0.length : Int)) = false := decide_eq_false c4
          clear c4
          obtain rfl := Option.some.inj H
          go_wp2
          repeat (go_quiet (fail); try go_wp2)
          go_ret
          exact ⟨by first | rfl | (have hq_ := of_eq_true c7q; simp [errW_none, errW_some, hq_, bne]; done) | (have hq_ := of_eq_true c7q; simp [errW_none, errW_some, hq_, bne]; rfl) | (have hq_ := of_eq_true c7q; simp [errW_none, errW_some, hq_, bne]; done) | (have hq_ := of_eq_true c7q; simp [errW_none, errW_some, hq_, bne]; rfl) | (simp; done) | (simp [*]; done), by repeat (first | exact Drawn0.refl _ | apply Drawn0.step)⟩
  · rw [if_neg c3] at H
    have c3b0 : ((l0.length : Int) == (l1.length : Int)) = false := beq_eq_false_iff_ne.mpr c3
    have c3b1 : ((l0.length : Int) != (l1.length : Int)) = true := bne_iff_ne.mpr c3
    have c3b2 : (l0.length == l1.length) = false := by first | simpa using c3 | (simp at c3 ⊢; omega)
    obtain rfl := Option.some.inj H
    go_enter Try.func16, Try.ntmps16
    go_wp2
    repeat (go_quiet (fail); try go_wp2)
    go_ret
    exact ⟨by first | rfl | (have hq_ := of_eq_true c7q; simp [errW_none, errW_some, hq_, bne]; done) | (have hq_ := of_eq_true c7q; simp [errW_none, errW_some, hq_, bne]; rfl) | (have hq_ := of_eq_true c7q; simp [errW_none, errW_some, hq_, bne]; done) | (have hq_ := of_eq_true c7q; simp [errW_none, errW_some, hq_, bne]; rfl) | (simp; done) | (simp [*]; done), by repeat (first | exact Drawn0.refl _ | apply Drawn0.step)⟩

/-! ### ranges_Add: function 17 -/
def ranges_Add.f (k : Nat) (l0 : List S34) (a1_0 a1_1 : Int) : Option (List S34) := (ranges_edges.f k l0 1).bind fun e1 => (ranges_edges.f k [⟨a1_0, a1_1⟩] 1).bind fun e2 => if e1.length + e2.length ≤ 549755813888 then some (sweepF wantPos (e1 ++ e2)) else none
theorem ranges_Add.mono : ∀ l0 a1_0 a1_1 k, LeO (ranges_Add.f k l0 a1_0 a1_1) (ranges_Add.f (k + 1) l0 a1_0 a1_1) := fun l0 a1_0 a1_1 k => LeO.bind (ranges_edges.mono l0 1 k) fun _ => LeO.bind (ranges_edges.mono _ 1 k) fun _ => LeO.refl _
set_option maxHeartbeats 400000 in
theorem ranges_Add_w (x : Int) (W : World) : Calls Try.prog 34 #[.int .i64 x] W fun e w' => e = .returned (.bool (wantPos x)) ∧ w' = W := by
  obtain ⟨b, hb⟩ : ∃ b, wantPos x = b := ⟨_, rfl⟩
  rw [hb]
  have hb2 : decide (0 < x) = b := hb
  clear hb
  go_enter Try.func34, Try.ntmps34
  go_wp2
  go_ret
  exact ⟨by first | rfl | rw [hb2] | simp [hb2], rfl⟩
theorem ranges_Add_e : ∀ args w, (callFunc 34 args).run Try.prog w = .ok (.enter 34 args) w := enters_of Try.func34 (by kernel_rfl) rfl
set_option maxHeartbeats 4000000 in
set_option maxRecDepth 100000 in
theorem ranges_Add.calls (k : Nat) (A0 : Option Addr) (c0 : Nat) (l0 : List S34) (a1_0 a1_1 : Int) (r : List S34) (w : World) (hr0 : Kd.C k34 w A0 l0.length l0) (hc0 : l0.length ≤ c0) (h : ranges_Add.f k l0 a1_0 a1_1 = some r) :
    Calls Try.prog 17 #[.slice A0 l0.length c0, .agg #[.int .u64 a1_0, .int .u64 a1_1]] w fun e w' => ∃ v0_ : Value, e = .returned (v0_) ∧ Kd.R k34 34 w' w.heap.size (fun _ => True) v0_ r ∧ Below w.heap.size w w' := by
  obtain ⟨e1, h1, h2⟩ := Option.bind_eq_some_iff.1 h
  obtain ⟨e2, h4, h3⟩ := Option.bind_eq_some_iff.1 h2
  by_cases c : e1.length + e2.length ≤ 549755813888
  · rw [if_pos c] at h3
    obtain rfl := Option.some.inj h3
    have H1 := Aside0.mk h1
    have H2 := Aside0.mk h4
    have HR := Aside0.mk hr0
    have HC := Aside0.mk hc0
    clear h h1 h2 h4 h3 hr0 hc0
    have HBx : Aside0 (Below w.heap.size w (w.alloc (.cells #[.int .u64 a1_0, .int .u64 a1_1] 34)).drew) := ⟨below_drew1 (below_alloc (Below.refl _ _) _)⟩
    have HSx : RS w.heap.size a1_0 a1_1 (w.alloc (.cells #[.int .u64 a1_0, .int .u64 a1_1] 34)).drew := RS.new w a1_0 a1_1 34
    have HSY := Aside0.mk HSx
    clear HSx
    go_enter Try.func17, Try.ntmps17
    go_wp2_with fail
    refine start_ (n := 8) (S := RS w.heap.size a1_0 a1_1) (ds := []) #[false, false, false, false, false, false, false, false] (by kernel_rfl) rfl rfl HSY.out (fun hHeld => ?_)
    generalize (w.alloc (.cells #[.int .u64 a1_0, .int .u64 a1_1] 34)).drew = w1 at hHeld HBx HSY ⊢
    clear HSY
    refine pure_ (i := 0) (N := some 5) (v := ?_) (a' := ?_) #[true, false, false, false, false, false, false, false] rfl rfl (by kernel_rfl) (fun _ _ _ h => h) (Or.inl ⟨by rfl, ?_⟩) ?_ ?_
    rotate_left
    · intro w'
      go_simp
      with_reducible rfl
    rotate_left
    · simp only [Act.put, List.setIfInBounds_toArray, List.set_cons_zero, List.set_cons_succ, i64_w, i32_w]
      rfl
    refine take_ (i := 2) (N := some 7) (v := ?_) (a' := ?_) #[true, false, true, false, false, false, false, false] rfl rfl (by kernel_rfl) (fun _ _ _ h => h) (Or.inl ⟨by rfl, ?_⟩) hHeld ?_ ?_
    rotate_left
    · rintro w' ⟨s0, s1⟩
      go_simp
      with_reducible rfl
    rotate_left
    · simp only [Act.put, List.setIfInBounds_toArray, List.set_cons_zero, List.set_cons_succ, i64_w, i32_w]
      rfl
    refine two_ (i := 1) (j := 3) (Ni := some 6) (Nj := some 8) #[true, true, true, false, false, false, false, false] #[true, false, true, true, false, false, false, false] rfl rfl rfl rfl (by kernel_rfl) (by decide) (by decide) (fun K hK => ?_) (fun K hK => ?_)
    · skip
      refine goes_ (N := some 6) Try.func33 (by kernel_rfl) rfl #[.slice A0 l0.length c0, .int .i64 1] (by rfl) rfl rfl (by (try simp only [List.map_toArray, List.map_cons, List.map_nil]); first | done | rfl) ?_
      refine (ranges_edges.calls k A0 c0 l0 1 e1 _ (Kd.C_below HR.out HBx.out) HC.out H1.out).mono ?_
      rintro e w2 ⟨v, rfl, ho, hb⟩
      obtain ⟨B1, d1, rfl, hl1, hC1⟩ := Kd.R_reads ho
      refine ⟨_, rfl, ?_⟩
      have HB2 := Aside0.mk (below_step HBx.out hb)
      have HS2 := hHeld.below hb
      have HC1 : Aside0 (Kd.C k63 (w2.alloc (.cells #[.int .u64 a1_0, .int .u64 a1_1] 34)) B1 e1.length e1) := ⟨Kd.C_below hC1 (below_alloc (Below.refl _ _) _)⟩
      clear ho hC1 hl1 hb hHeld
      refine hK.out _ _ (HS2) (fun hHeld => ?_)
      clear hK K
      refine norm_ (a' := ?_) ?_ ?_
      rotate_left
      · show Act.put _ (some 6) _ = _
        simp only [Act.put, List.setIfInBounds_toArray, List.set_cons_zero, List.set_cons_succ, i64_w, i32_w]
        rfl
      clear HS2
      refine one_ (i := 3) (N := some 8) #[true, true, true, true, false, false, false, false] rfl rfl (by kernel_rfl) (by decide) (fun K hK => ?_)
      refine value_ (w1 := ?_) (v := ?_) (by rfl) rfl ?_ ?_
      rotate_left 2
      · go_simp
        constructor
        · rfl
        · rfl
      refine hK.out _ _ (hHeld.alloc _) (fun hHeld => ?_)
      clear hK K
      refine norm_ (a' := ?_) ?_ ?_
      rotate_left
      · show Act.put _ (some 8) _ = _
        simp only [Act.put, List.setIfInBounds_toArray, List.set_cons_zero, List.set_cons_succ, i64_w, i32_w]
        rfl
      have HO : Aside0 (Kd.C k34 (w2.alloc (.cells #[.int .u64 a1_0, .int .u64 a1_1] 34)) (some ⟨w2.heap.size, 0, none⟩) 1 [(⟨a1_0, a1_1⟩ : S34)]) := ⟨one_range (heap_alloc_new w2 _)⟩
      have HB3 := Aside0.mk (below_alloc HB2.out (.cells #[.int .u64 a1_0, .int .u64 a1_1] 34))
      refine one_ (i := 4) (N := some 9) #[true, true, true, true, true, false, false, false] rfl rfl (by kernel_rfl) (by decide) (fun K hK => ?_)
      refine goes_ (N := some 9) Try.func33 (by kernel_rfl) rfl #[.slice (some ⟨w2.heap.size, 0, none⟩) 1 1, .int .i64 1] (by rfl) rfl rfl (by (try simp only [List.map_toArray, List.map_cons, List.map_nil]); first | done | rfl) ?_
      refine (ranges_edges.calls k _ 1 [(⟨a1_0, a1_1⟩ : S34)] 1 e2 _ HO.out (Nat.le_refl _) H2.out).mono ?_
      rintro e w8 ⟨v, rfl, ho, hb⟩
      obtain ⟨B2, d2, rfl, hl2, hC3⟩ := Kd.R_reads ho
      refine ⟨_, rfl, ?_⟩
      have HC4 := Aside0.mk (Kd.C_below HC1.out hb)
      have HC5 := Aside0.mk hC3
      have HB8 := Aside0.mk (below_step HB3.out hb)
      have HS8 := hHeld.below hb
      clear ho hC3 hl2 hb hHeld
      refine hK.out _ _ (HS8) (fun hHeld => ?_)
      clear hK K
      refine norm_ (a' := ?_) ?_ ?_
      rotate_left
      · show Act.put _ (some 9) _ = _
        simp only [Act.put, List.setIfInBounds_toArray, List.set_cons_zero, List.set_cons_succ, i64_w, i32_w]
        rfl
      clear HS8
      refine one_ (i := 5) (N := some 10) #[true, true, true, true, true, true, false, false] rfl rfl (by kernel_rfl) (by decide) (fun K hK => ?_)
      refine value_ (w1 := ?_) (v := ?_) (by rfl) rfl ?_ ?_
      rotate_left 2
      · go_simp
        constructor
        · rfl
        · rfl
      refine hK.out _ _ (hHeld.alloc _) (fun hHeld => ?_)
      clear hK K
      refine norm_ (a' := ?_) ?_ ?_
      rotate_left
      · show Act.put _ (some 10) _ = _
        simp only [Act.put, List.setIfInBounds_toArray, List.set_cons_zero, List.set_cons_succ, i64_w, i32_w]
        rfl
      have hb2 : Below w8.heap.size w8 (w8.alloc (.cells #[.slice B1 e1.length d1, .slice B2 e2.length d2] 52)) := below_alloc (Below.refl _ _) _
      have HS := Aside0.mk (swept2 34 wantPos ranges_Add_e ranges_Add_w w8.heap.size B1 B2 d1 d2 e1 e2 (w8.alloc (.cells #[.slice B1 e1.length d1, .slice B2 e2.length d2] 52)) ((blk_cell (heap_alloc_new w8 _) 0).trans rfl) ((blk_cell (heap_alloc_new w8 _) 1).trans rfl) (Kd.C_below HC4.out hb2) (Kd.C_below HC5.out hb2) c)
      have HB9 := Aside0.mk (below_alloc HB8.out (.cells #[.slice B1 e1.length d1, .slice B2 e2.length d2] 52))
      clear hb2
      refine one_ (i := 6) (N := some 11) #[true, true, true, true, true, true, true, false] rfl rfl (by kernel_rfl) (by decide) (fun K hK => ?_)
      refine goes_ (N := some 11) Try.func31 (by kernel_rfl) rfl #[.func (.func 34) #[] #[], .slice (some ⟨w8.heap.size, 0, none⟩) 2 2] (by rfl) rfl rfl (by (try simp only [List.map_toArray, List.map_cons, List.map_nil]); first | done | rfl) ?_
      refine HS.out.mono ?_
      rintro e w9 ⟨v, rfl, ho, hb⟩
      refine ⟨_, rfl, ?_⟩
      have HO9 := Aside0.mk ho
      have HBZ := Aside0.mk (below_step HB9.out hb)
      have HS9 := hHeld.below hb
      clear ho hb hHeld
      refine hK.out _ _ (HS9) (fun hHeld => ?_)
      clear hK K
      refine norm_ (a' := ?_) ?_ ?_
      rotate_left
      · show Act.put _ (some 11) _ = _
        simp only [Act.put, List.setIfInBounds_toArray, List.set_cons_zero, List.set_cons_succ, i64_w, i32_w]
        rfl
      clear HS9
      refine pure_ (i := 7) (N := some 4) (v := ?_) (a' := ?_) #[true, true, true, true, true, true, true, true] rfl rfl (by kernel_rfl) (fun _ _ _ h => h) (Or.inl ⟨by rfl, ?_⟩) ?_ ?_
      rotate_left
      · intro w'
        go_simp
        with_reducible rfl
      rotate_left
      · simp only [Act.put, List.setIfInBounds_toArray, List.set_cons_zero, List.set_cons_succ, i64_w, i32_w]
        rfl
      refine done_ (by kernel_rfl) ?_
      go_wp2
      go_ret
      exact ⟨_, rfl, Kd.R_lower HO9.out HB9.out.size, HBZ.out⟩
    · skip
      refine value_ (w1 := ?_) (v := ?_) (by rfl) rfl ?_ ?_
      rotate_left 2
      · go_simp
        constructor
        · rfl
        · rfl
      refine hK.out _ _ (hHeld.alloc _) (fun hHeld => ?_)
      clear hK K
      refine norm_ (a' := ?_) ?_ ?_
      rotate_left
      · show Act.put _ (some 8) _ = _
        simp only [Act.put, List.setIfInBounds_toArray, List.set_cons_zero, List.set_cons_succ, i64_w, i32_w]
        rfl
      have HO0 : Aside0 (Kd.C k34 (w1.alloc (.cells #[.int .u64 a1_0, .int .u64 a1_1] 34)) (some ⟨w1.heap.size, 0, none⟩) 1 [(⟨a1_0, a1_1⟩ : S34)]) := ⟨one_range (heap_alloc_new w1 _)⟩
      have HB2 := Aside0.mk (below_alloc HBx.out (.cells #[.int .u64 a1_0, .int .u64 a1_1] 34))
      refine one_ (i := 1) (N := some 6) #[true, true, true, true, false, false, false, false] rfl rfl (by kernel_rfl) (by decide) (fun K hK => ?_)
      refine goes_ (N := some 6) Try.func33 (by kernel_rfl) rfl #[.slice A0 l0.length c0, .int .i64 1] (by rfl) rfl rfl (by (try simp only [List.map_toArray, List.map_cons, List.map_nil]); first | done | rfl) ?_
      refine (ranges_edges.calls k A0 c0 l0 1 e1 _ (Kd.C_below HR.out HB2.out) HC.out H1.out).mono ?_
      rintro e w2 ⟨v, rfl, ho, hb⟩
      obtain ⟨B1, d1, rfl, hl1, hC1⟩ := Kd.R_reads ho
      refine ⟨_, rfl, ?_⟩
      have HB3 := Aside0.mk (below_step HB2.out hb)
      have HS2 := hHeld.below hb
      have HC1 := Aside0.mk hC1
      have HO := Aside0.mk (Kd.C_below HO0.out hb)
      clear ho hC1 hl1 hb hHeld
      refine hK.out _ _ (HS2) (fun hHeld => ?_)
      clear hK K
      refine norm_ (a' := ?_) ?_ ?_
      rotate_left
      · show Act.put _ (some 6) _ = _
        simp only [Act.put, List.setIfInBounds_toArray, List.set_cons_zero, List.set_cons_succ, i64_w, i32_w]
        rfl
      clear HS2
      refine one_ (i := 4) (N := some 9) #[true, true, true, true, true, false, false, false] rfl rfl (by kernel_rfl) (by decide) (fun K hK => ?_)
      refine goes_ (N := some 9) Try.func33 (by kernel_rfl) rfl #[.slice (some ⟨w1.heap.size, 0, none⟩) 1 1, .int .i64 1] (by rfl) rfl rfl (by (try simp only [List.map_toArray, List.map_cons, List.map_nil]); first | done | rfl) ?_
      refine (ranges_edges.calls k _ 1 [(⟨a1_0, a1_1⟩ : S34)] 1 e2 _ HO.out (Nat.le_refl _) H2.out).mono ?_
      rintro e w8 ⟨v, rfl, ho, hb⟩
      obtain ⟨B2, d2, rfl, hl2, hC3⟩ := Kd.R_reads ho
      refine ⟨_, rfl, ?_⟩
      have HC4 := Aside0.mk (Kd.C_below HC1.out hb)
      have HC5 := Aside0.mk hC3
      have HB8 := Aside0.mk (below_step HB3.out hb)
      have HS8 := hHeld.below hb
      clear ho hC3 hl2 hb hHeld
      refine hK.out _ _ (HS8) (fun hHeld => ?_)
      clear hK K
      refine norm_ (a' := ?_) ?_ ?_
      rotate_left
      · show Act.put _ (some 9) _ = _
        simp only [Act.put, List.setIfInBounds_toArray, List.set_cons_zero, List.set_cons_succ, i64_w, i32_w]
        rfl
      clear HS8
      refine one_ (i := 5) (N := some 10) #[true, true, true, true, true, true, false, false] rfl rfl (by kernel_rfl) (by decide) (fun K hK => ?_)
      refine value_ (w1 := ?_) (v := ?_) (by rfl) rfl ?_ ?_
      rotate_left 2
      · go_simp
        constructor
        · rfl
        · rfl
      refine hK.out _ _ (hHeld.alloc _) (fun hHeld => ?_)
      clear hK K
      refine norm_ (a' := ?_) ?_ ?_
      rotate_left
      · show Act.put _ (some 10) _ = _
        simp only [Act.put, List.setIfInBounds_toArray, List.set_cons_zero, List.set_cons_succ, i64_w, i32_w]
        rfl
      have hb2 : Below w8.heap.size w8 (w8.alloc (.cells #[.slice B1 e1.length d1, .slice B2 e2.length d2] 52)) := below_alloc (Below.refl _ _) _
      have HS := Aside0.mk (swept2 34 wantPos ranges_Add_e ranges_Add_w w8.heap.size B1 B2 d1 d2 e1 e2 (w8.alloc (.cells #[.slice B1 e1.length d1, .slice B2 e2.length d2] 52)) ((blk_cell (heap_alloc_new w8 _) 0).trans rfl) ((blk_cell (heap_alloc_new w8 _) 1).trans rfl) (Kd.C_below HC4.out hb2) (Kd.C_below HC5.out hb2) c)
      have HB9 := Aside0.mk (below_alloc HB8.out (.cells #[.slice B1 e1.length d1, .slice B2 e2.length d2] 52))
      clear hb2
      refine one_ (i := 6) (N := some 11) #[true, true, true, true, true, true, true, false] rfl rfl (by kernel_rfl) (by decide) (fun K hK => ?_)
      refine goes_ (N := some 11) Try.func31 (by kernel_rfl) rfl #[.func (.func 34) #[] #[], .slice (some ⟨w8.heap.size, 0, none⟩) 2 2] (by rfl) rfl rfl (by (try simp only [List.map_toArray, List.map_cons, List.map_nil]); first | done | rfl) ?_
      refine HS.out.mono ?_
      rintro e w9 ⟨v, rfl, ho, hb⟩
      refine ⟨_, rfl, ?_⟩
      have HO9 := Aside0.mk ho
      have HBZ := Aside0.mk (below_step HB9.out hb)
      have HS9 := hHeld.below hb
      clear ho hb hHeld
      refine hK.out _ _ (HS9) (fun hHeld => ?_)
      clear hK K
      refine norm_ (a' := ?_) ?_ ?_
      rotate_left
      · show Act.put _ (some 11) _ = _
        simp only [Act.put, List.setIfInBounds_toArray, List.set_cons_zero, List.set_cons_succ, i64_w, i32_w]
        rfl
      clear HS9
      refine pure_ (i := 7) (N := some 4) (v := ?_) (a' := ?_) #[true, true, true, true, true, true, true, true] rfl rfl (by kernel_rfl) (fun _ _ _ h => h) (Or.inl ⟨by rfl, ?_⟩) ?_ ?_
      rotate_left
      · intro w'
        go_simp
        with_reducible rfl
      rotate_left
      · simp only [Act.put, List.setIfInBounds_toArray, List.set_cons_zero, List.set_cons_succ, i64_w, i32_w]
        rfl
      refine done_ (by kernel_rfl) ?_
      go_wp2
      go_ret
      exact ⟨_, rfl, Kd.R_lower HO9.out HB9.out.size, HBZ.out⟩
  · rw [if_neg c] at h3
    exact absurd h3 (by simp)

/-! ### ranges_Cut: function 18 -/
def ranges_Cut.f (k : Nat) (l0 : List S34) (a1_0 a1_1 : Int) : Option (List S34) := (ranges_edges.f k l0 1).bind fun e1 => (ranges_edges.f k [⟨a1_0, a1_1⟩] (-1)).bind fun e2 => if e1.length + e2.length ≤ 549755813888 then some (sweepF (wantIs 1) (e1 ++ e2)) else none
theorem ranges_Cut.mono : ∀ l0 a1_0 a1_1 k, LeO (ranges_Cut.f k l0 a1_0 a1_1) (ranges_Cut.f (k + 1) l0 a1_0 a1_1) := fun l0 a1_0 a1_1 k => LeO.bind (ranges_edges.mono l0 1 k) fun _ => LeO.bind (ranges_edges.mono _ (-1) k) fun _ => LeO.refl _
set_option maxHeartbeats 400000 in
theorem ranges_Cut_w (x : Int) (W : World) : Calls Try.prog 35 #[.int .i64 x] W fun e w' => e = .returned (.bool ((wantIs 1) x)) ∧ w' = W := by
  obtain ⟨b, hb⟩ : ∃ b, (wantIs 1) x = b := ⟨_, rfl⟩
  rw [hb]
  have hb2 : (x == 1) = b := hb
  clear hb
  go_enter Try.func35, Try.ntmps35
  go_wp2
  go_ret
  exact ⟨by first | rfl | rw [hb2] | simp [hb2], rfl⟩
theorem ranges_Cut_e : ∀ args w, (callFunc 35 args).run Try.prog w = .ok (.enter 35 args) w := enters_of Try.func35 (by kernel_rfl) rfl
set_option maxHeartbeats 4000000 in
set_option maxRecDepth 100000 in
theorem ranges_Cut.calls (k : Nat) (A0 : Option Addr) (c0 : Nat) (l0 : List S34) (a1_0 a1_1 : Int) (r : List S34) (w : World) (hr0 : Kd.C k34 w A0 l0.length l0) (hc0 : l0.length ≤ c0) (h : ranges_Cut.f k l0 a1_0 a1_1 = some r) :
    Calls Try.prog 18 #[.slice A0 l0.length c0, .agg #[.int .u64 a1_0, .int .u64 a1_1]] w fun e w' => ∃ v0_ : Value, e = .returned (v0_) ∧ Kd.R k34 34 w' w.heap.size (fun _ => True) v0_ r ∧ Below w.heap.size w w' := by
  obtain ⟨e1, h1, h2⟩ := Option.bind_eq_some_iff.1 h
  obtain ⟨e2, h4, h3⟩ := Option.bind_eq_some_iff.1 h2
  by_cases c : e1.length + e2.length ≤ 549755813888
  · rw [if_pos c] at h3
    obtain rfl := Option.some.inj h3
    have H1 := Aside0.mk h1
    have H2 := Aside0.mk h4
    have HR := Aside0.mk hr0
    have HC := Aside0.mk hc0
    clear h h1 h2 h4 h3 hr0 hc0
    have HBx : Aside0 (Below w.heap.size w (w.alloc (.cells #[.int .u64 a1_0, .int .u64 a1_1] 34)).drew) := ⟨below_drew1 (below_alloc (Below.refl _ _) _)⟩
    have HSx : RS w.heap.size a1_0 a1_1 (w.alloc (.cells #[.int .u64 a1_0, .int .u64 a1_1] 34)).drew := RS.new w a1_0 a1_1 34
    have HSY := Aside0.mk HSx
    clear HSx
    go_enter Try.func18, Try.ntmps18
    go_wp2_with fail
    refine start_ (n := 8) (S := RS w.heap.size a1_0 a1_1) (ds := []) #[false, false, false, false, false, false, false, false] (by kernel_rfl) rfl rfl HSY.out (fun hHeld => ?_)
    generalize (w.alloc (.cells #[.int .u64 a1_0, .int .u64 a1_1] 34)).drew = w1 at hHeld HBx HSY ⊢
    clear HSY
    refine pure_ (i := 0) (N := some 5) (v := ?_) (a' := ?_) #[true, false, false, false, false, false, false, false] rfl rfl (by kernel_rfl) (fun _ _ _ h => h) (Or.inl ⟨by rfl, ?_⟩) ?_ ?_
    rotate_left
    · intro w'
      go_simp
      with_reducible rfl
    rotate_left
    · simp only [Act.put, List.setIfInBounds_toArray, List.set_cons_zero, List.set_cons_succ, i64_w, i32_w]
      rfl
    refine take_ (i := 2) (N := some 7) (v := ?_) (a' := ?_) #[true, false, true, false, false, false, false, false] rfl rfl (by kernel_rfl) (fun _ _ _ h => h) (Or.inl ⟨by rfl, ?_⟩) hHeld ?_ ?_
    rotate_left
    · rintro w' ⟨s0, s1⟩
      go_simp
      with_reducible rfl
    rotate_left
    · simp only [Act.put, List.setIfInBounds_toArray, List.set_cons_zero, List.set_cons_succ, i64_w, i32_w]
      rfl
    refine two_ (i := 1) (j := 3) (Ni := some 6) (Nj := some 8) #[true, true, true, false, false, false, false, false] #[true, false, true, true, false, false, false, false] rfl rfl rfl rfl (by kernel_rfl) (by decide) (by decide) (fun K hK => ?_) (fun K hK => ?_)
    · skip
      refine goes_ (N := some 6) Try.func33 (by kernel_rfl) rfl #[.slice A0 l0.length c0, .int .i64 1] (by rfl) rfl rfl (by (try simp only [List.map_toArray, List.map_cons, List.map_nil]); first | done | rfl) ?_
      refine (ranges_edges.calls k A0 c0 l0 1 e1 _ (Kd.C_below HR.out HBx.out) HC.out H1.out).mono ?_
      rintro e w2 ⟨v, rfl, ho, hb⟩
      obtain ⟨B1, d1, rfl, hl1, hC1⟩ := Kd.R_reads ho
      refine ⟨_, rfl, ?_⟩
      have HB2 := Aside0.mk (below_step HBx.out hb)
      have HS2 := hHeld.below hb
      have HC1 : Aside0 (Kd.C k63 (w2.alloc (.cells #[.int .u64 a1_0, .int .u64 a1_1] 34)) B1 e1.length e1) := ⟨Kd.C_below hC1 (below_alloc (Below.refl _ _) _)⟩
      clear ho hC1 hl1 hb hHeld
      refine hK.out _ _ (HS2) (fun hHeld => ?_)
      clear hK K
      refine norm_ (a' := ?_) ?_ ?_
      rotate_left
      · show Act.put _ (some 6) _ = _
        simp only [Act.put, List.setIfInBounds_toArray, List.set_cons_zero, List.set_cons_succ, i64_w, i32_w]
        rfl
      clear HS2
      refine one_ (i := 3) (N := some 8) #[true, true, true, true, false, false, false, false] rfl rfl (by kernel_rfl) (by decide) (fun K hK => ?_)
      refine value_ (w1 := ?_) (v := ?_) (by rfl) rfl ?_ ?_
      rotate_left 2
      · go_simp
        constructor
        · rfl
        · rfl
      refine hK.out _ _ (hHeld.alloc _) (fun hHeld => ?_)
      clear hK K
      refine norm_ (a' := ?_) ?_ ?_
      rotate_left
      · show Act.put _ (some 8) _ = _
        simp only [Act.put, List.setIfInBounds_toArray, List.set_cons_zero, List.set_cons_succ, i64_w, i32_w]
        rfl
      have HO : Aside0 (Kd.C k34 (w2.alloc (.cells #[.int .u64 a1_0, .int .u64 a1_1] 34)) (some ⟨w2.heap.size, 0, none⟩) 1 [(⟨a1_0, a1_1⟩ : S34)]) := ⟨one_range (heap_alloc_new w2 _)⟩
      have HB3 := Aside0.mk (below_alloc HB2.out (.cells #[.int .u64 a1_0, .int .u64 a1_1] 34))
      refine one_ (i := 4) (N := some 9) #[true, true, true, true, true, false, false, false] rfl rfl (by kernel_rfl) (by decide) (fun K hK => ?_)
      refine goes_ (N := some 9) Try.func33 (by kernel_rfl) rfl #[.slice (some ⟨w2.heap.size, 0, none⟩) 1 1, .int .i64 (-1)] (by rfl) rfl rfl (by (try simp only [List.map_toArray, List.map_cons, List.map_nil]); first | done | rfl) ?_
      refine (ranges_edges.calls k _ 1 [(⟨a1_0, a1_1⟩ : S34)] (-1) e2 _ HO.out (Nat.le_refl _) H2.out).mono ?_
      rintro e w8 ⟨v, rfl, ho, hb⟩
      obtain ⟨B2, d2, rfl, hl2, hC3⟩ := Kd.R_reads ho
      refine ⟨_, rfl, ?_⟩
      have HC4 := Aside0.mk (Kd.C_below HC1.out hb)
      have HC5 := Aside0.mk hC3
      have HB8 := Aside0.mk (below_step HB3.out hb)
      have HS8 := hHeld.below hb
      clear ho hC3 hl2 hb hHeld
      refine hK.out _ _ (HS8) (fun hHeld => ?_)
      clear hK K
      refine norm_ (a' := ?_) ?_ ?_
      rotate_left
      · show Act.put _ (some 9) _ = _
        simp only [Act.put, List.setIfInBounds_toArray, List.set_cons_zero, List.set_cons_succ, i64_w, i32_w]
        rfl
      clear HS8
      refine one_ (i := 5) (N := some 10) #[true, true, true, true, true, true, false, false] rfl rfl (by kernel_rfl) (by decide) (fun K hK => ?_)
      refine value_ (w1 := ?_) (v := ?_) (by rfl) rfl ?_ ?_
      rotate_left 2
      · go_simp
        constructor
        · rfl
        · rfl
      refine hK.out _ _ (hHeld.alloc _) (fun hHeld => ?_)
      clear hK K
      refine norm_ (a' := ?_) ?_ ?_
      rotate_left
      · show Act.put _ (some 10) _ = _
        simp only [Act.put, List.setIfInBounds_toArray, List.set_cons_zero, List.set_cons_succ, i64_w, i32_w]
        rfl
      have hb2 : Below w8.heap.size w8 (w8.alloc (.cells #[.slice B1 e1.length d1, .slice B2 e2.length d2] 52)) := below_alloc (Below.refl _ _) _
      have HS := Aside0.mk (swept2 35 (wantIs 1) ranges_Cut_e ranges_Cut_w w8.heap.size B1 B2 d1 d2 e1 e2 (w8.alloc (.cells #[.slice B1 e1.length d1, .slice B2 e2.length d2] 52)) ((blk_cell (heap_alloc_new w8 _) 0).trans rfl) ((blk_cell (heap_alloc_new w8 _) 1).trans rfl) (Kd.C_below HC4.out hb2) (Kd.C_below HC5.out hb2) c)
      have HB9 := Aside0.mk (below_alloc HB8.out (.cells #[.slice B1 e1.length d1, .slice B2 e2.length d2] 52))
      clear hb2
      refine one_ (i := 6) (N := some 11) #[true, true, true, true, true, true, true, false] rfl rfl (by kernel_rfl) (by decide) (fun K hK => ?_)
      refine goes_ (N := some 11) Try.func31 (by kernel_rfl) rfl #[.func (.func 35) #[] #[], .slice (some ⟨w8.heap.size, 0, none⟩) 2 2] (by rfl) rfl rfl (by (try simp only [List.map_toArray, List.map_cons, List.map_nil]); first | done | rfl) ?_
      refine HS.out.mono ?_
      rintro e w9 ⟨v, rfl, ho, hb⟩
      refine ⟨_, rfl, ?_⟩
      have HO9 := Aside0.mk ho
      have HBZ := Aside0.mk (below_step HB9.out hb)
      have HS9 := hHeld.below hb
      clear ho hb hHeld
      refine hK.out _ _ (HS9) (fun hHeld => ?_)
      clear hK K
      refine norm_ (a' := ?_) ?_ ?_
      rotate_left
      · show Act.put _ (some 11) _ = _
        simp only [Act.put, List.setIfInBounds_toArray, List.set_cons_zero, List.set_cons_succ, i64_w, i32_w]
        rfl
      clear HS9
      refine pure_ (i := 7) (N := some 4) (v := ?_) (a' := ?_) #[true, true, true, true, true, true, true, true] rfl rfl (by kernel_rfl) (fun _ _ _ h => h) (Or.inl ⟨by rfl, ?_⟩) ?_ ?_
      rotate_left
      · intro w'
        go_simp
        with_reducible rfl
      rotate_left
      · simp only [Act.put, List.setIfInBounds_toArray, List.set_cons_zero, List.set_cons_succ, i64_w, i32_w]
        rfl
      refine done_ (by kernel_rfl) ?_
      go_wp2
      go_ret
      exact ⟨_, rfl, Kd.R_lower HO9.out HB9.out.size, HBZ.out⟩
    · skip
      refine value_ (w1 := ?_) (v := ?_) (by rfl) rfl ?_ ?_
      rotate_left 2
      · go_simp
        constructor
        · rfl
        · rfl
      refine hK.out _ _ (hHeld.alloc _) (fun hHeld => ?_)
      clear hK K
      refine norm_ (a' := ?_) ?_ ?_
      rotate_left
      · show Act.put _ (some 8) _ = _
        simp only [Act.put, List.setIfInBounds_toArray, List.set_cons_zero, List.set_cons_succ, i64_w, i32_w]
        rfl
      have HO0 : Aside0 (Kd.C k34 (w1.alloc (.cells #[.int .u64 a1_0, .int .u64 a1_1] 34)) (some ⟨w1.heap.size, 0, none⟩) 1 [(⟨a1_0, a1_1⟩ : S34)]) := ⟨one_range (heap_alloc_new w1 _)⟩
      have HB2 := Aside0.mk (below_alloc HBx.out (.cells #[.int .u64 a1_0, .int .u64 a1_1] 34))
      refine one_ (i := 1) (N := some 6) #[true, true, true, true, false, false, false, false] rfl rfl (by kernel_rfl) (by decide) (fun K hK => ?_)
      refine goes_ (N := some 6) Try.func33 (by kernel_rfl) rfl #[.slice A0 l0.length c0, .int .i64 1] (by rfl) rfl rfl (by (try simp only [List.map_toArray, List.map_cons, List.map_nil]); first | done | rfl) ?_
      refine (ranges_edges.calls k A0 c0 l0 1 e1 _ (Kd.C_below HR.out HB2.out) HC.out H1.out).mono ?_
      rintro e w2 ⟨v, rfl, ho, hb⟩
      obtain ⟨B1, d1, rfl, hl1, hC1⟩ := Kd.R_reads ho
      refine ⟨_, rfl, ?_⟩
      have HB3 := Aside0.mk (below_step HB2.out hb)
      have HS2 := hHeld.below hb
      have HC1 := Aside0.mk hC1
      have HO := Aside0.mk (Kd.C_below HO0.out hb)
      clear ho hC1 hl1 hb hHeld
      refine hK.out _ _ (HS2) (fun hHeld => ?_)
      clear hK K
      refine norm_ (a' := ?_) ?_ ?_
      rotate_left
      · show Act.put _ (some 6) _ = _
        simp only [Act.put, List.setIfInBounds_toArray, List.set_cons_zero, List.set_cons_succ, i64_w, i32_w]
        rfl
      clear HS2
      refine one_ (i := 4) (N := some 9) #[true, true, true, true, true, false, false, false] rfl rfl (by kernel_rfl) (by decide) (fun K hK => ?_)
      refine goes_ (N := some 9) Try.func33 (by kernel_rfl) rfl #[.slice (some ⟨w1.heap.size, 0, none⟩) 1 1, .int .i64 (-1)] (by rfl) rfl rfl (by (try simp only [List.map_toArray, List.map_cons, List.map_nil]); first | done | rfl) ?_
      refine (ranges_edges.calls k _ 1 [(⟨a1_0, a1_1⟩ : S34)] (-1) e2 _ HO.out (Nat.le_refl _) H2.out).mono ?_
      rintro e w8 ⟨v, rfl, ho, hb⟩
      obtain ⟨B2, d2, rfl, hl2, hC3⟩ := Kd.R_reads ho
      refine ⟨_, rfl, ?_⟩
      have HC4 := Aside0.mk (Kd.C_below HC1.out hb)
      have HC5 := Aside0.mk hC3
      have HB8 := Aside0.mk (below_step HB3.out hb)
      have HS8 := hHeld.below hb
      clear ho hC3 hl2 hb hHeld
      refine hK.out _ _ (HS8) (fun hHeld => ?_)
      clear hK K
      refine norm_ (a' := ?_) ?_ ?_
      rotate_left
      · show Act.put _ (some 9) _ = _
        simp only [Act.put, List.setIfInBounds_toArray, List.set_cons_zero, List.set_cons_succ, i64_w, i32_w]
        rfl
      clear HS8
      refine one_ (i := 5) (N := some 10) #[true, true, true, true, true, true, false, false] rfl rfl (by kernel_rfl) (by decide) (fun K hK => ?_)
      refine value_ (w1 := ?_) (v := ?_) (by rfl) rfl ?_ ?_
      rotate_left 2
      · go_simp
        constructor
        · rfl
        · rfl
      refine hK.out _ _ (hHeld.alloc _) (fun hHeld => ?_)
      clear hK K
      refine norm_ (a' := ?_) ?_ ?_
      rotate_left
      · show Act.put _ (some 10) _ = _
        simp only [Act.put, List.setIfInBounds_toArray, List.set_cons_zero, List.set_cons_succ, i64_w, i32_w]
        rfl
      have hb2 : Below w8.heap.size w8 (w8.alloc (.cells #[.slice B1 e1.length d1, .slice B2 e2.length d2] 52)) := below_alloc (Below.refl _ _) _
      have HS := Aside0.mk (swept2 35 (wantIs 1) ranges_Cut_e ranges_Cut_w w8.heap.size B1 B2 d1 d2 e1 e2 (w8.alloc (.cells #[.slice B1 e1.length d1, .slice B2 e2.length d2] 52)) ((blk_cell (heap_alloc_new w8 _) 0).trans rfl) ((blk_cell (heap_alloc_new w8 _) 1).trans rfl) (Kd.C_below HC4.out hb2) (Kd.C_below HC5.out hb2) c)
      have HB9 := Aside0.mk (below_alloc HB8.out (.cells #[.slice B1 e1.length d1, .slice B2 e2.length d2] 52))
      clear hb2
      refine one_ (i := 6) (N := some 11) #[true, true, true, true, true, true, true, false] rfl rfl (by kernel_rfl) (by decide) (fun K hK => ?_)
      refine goes_ (N := some 11) Try.func31 (by kernel_rfl) rfl #[.func (.func 35) #[] #[], .slice (some ⟨w8.heap.size, 0, none⟩) 2 2] (by rfl) rfl rfl (by (try simp only [List.map_toArray, List.map_cons, List.map_nil]); first | done | rfl) ?_
      refine HS.out.mono ?_
      rintro e w9 ⟨v, rfl, ho, hb⟩
      refine ⟨_, rfl, ?_⟩
      have HO9 := Aside0.mk ho
      have HBZ := Aside0.mk (below_step HB9.out hb)
      have HS9 := hHeld.below hb
      clear ho hb hHeld
      refine hK.out _ _ (HS9) (fun hHeld => ?_)
      clear hK K
      refine norm_ (a' := ?_) ?_ ?_
      rotate_left
      · show Act.put _ (some 11) _ = _
        simp only [Act.put, List.setIfInBounds_toArray, List.set_cons_zero, List.set_cons_succ, i64_w, i32_w]
        rfl
      clear HS9
      refine pure_ (i := 7) (N := some 4) (v := ?_) (a' := ?_) #[true, true, true, true, true, true, true, true] rfl rfl (by kernel_rfl) (fun _ _ _ h => h) (Or.inl ⟨by rfl, ?_⟩) ?_ ?_
      rotate_left
      · intro w'
        go_simp
        with_reducible rfl
      rotate_left
      · simp only [Act.put, List.setIfInBounds_toArray, List.set_cons_zero, List.set_cons_succ, i64_w, i32_w]
        rfl
      refine done_ (by kernel_rfl) ?_
      go_wp2
      go_ret
      exact ⟨_, rfl, Kd.R_lower HO9.out HB9.out.size, HBZ.out⟩
  · rw [if_neg c] at h3
    exact absurd h3 (by simp)

/-! ### ranges_Gaps: function 20 -/
def ranges_Gaps.f (k : Nat) (l0 : List S34) (a1_0 a1_1 : Int) : Option (List S34) := (ranges_edges.f k [⟨a1_0, a1_1⟩] 1).bind fun e1 => (ranges_edges.f k l0 (-1)).bind fun e2 => if e1.length + e2.length ≤ 549755813888 then some (sweepF (wantIs 1) (e1 ++ e2)) else none
theorem ranges_Gaps.mono : ∀ l0 a1_0 a1_1 k, LeO (ranges_Gaps.f k l0 a1_0 a1_1) (ranges_Gaps.f (k + 1) l0 a1_0 a1_1) := fun l0 a1_0 a1_1 k => LeO.bind (ranges_edges.mono _ 1 k) fun _ => LeO.bind (ranges_edges.mono l0 (-1) k) fun _ => LeO.refl _
set_option maxHeartbeats 400000 in
theorem ranges_Gaps_w (x : Int) (W : World) : Calls Try.prog 38 #[.int .i64 x] W fun e w' => e = .returned (.bool ((wantIs 1) x)) ∧ w' = W := by
  obtain ⟨b, hb⟩ : ∃ b, (wantIs 1) x = b := ⟨_, rfl⟩
  rw [hb]
  have hb2 : (x == 1) = b := hb
  clear hb
  go_enter Try.func38, Try.ntmps38
  go_wp2
  go_ret
  exact ⟨by first | rfl | rw [hb2] | simp [hb2], rfl⟩
theorem ranges_Gaps_e : ∀ args w, (callFunc 38 args).run Try.prog w = .ok (.enter 38 args) w := enters_of Try.func38 (by kernel_rfl) rfl
set_option maxHeartbeats 2000000 in
set_option maxRecDepth 100000 in
theorem ranges_Gaps.calls (k : Nat) (A0 : Option Addr) (c0 : Nat) (l0 : List S34) (a1_0 a1_1 : Int) (r : List S34) (w : World) (hr0 : Kd.C k34 w A0 l0.length l0) (hc0 : l0.length ≤ c0) (h : ranges_Gaps.f k l0 a1_0 a1_1 = some r) :
    Calls Try.prog 20 #[.slice A0 l0.length c0, .agg #[.int .u64 a1_0, .int .u64 a1_1]] w fun e w' => ∃ v0_ : Value, e = .returned (v0_) ∧ Kd.R k34 34 w' w.heap.size (fun _ => True) v0_ r ∧ Below w.heap.size w w' := by
  obtain ⟨e1, h1, h2⟩ := Option.bind_eq_some_iff.1 h
  obtain ⟨e2, h4, h3⟩ := Option.bind_eq_some_iff.1 h2
  by_cases c : e1.length + e2.length ≤ 549755813888
  · rw [if_pos c] at h3
    obtain rfl := Option.some.inj h3
    have H1 := Aside0.mk h1
    have H2 := Aside0.mk h4
    have HR := Aside0.mk hr0
    have HC := Aside0.mk hc0
    clear h h1 h2 h4 h3 hr0 hc0
    have HB0 : Aside0 (Below w.heap.size w ((w.alloc (.cells #[.int .u64 a1_0, .int .u64 a1_1] 34)).alloc (.cells #[.int .u64 a1_0, .int .u64 a1_1] 34))) := ⟨below_alloc (below_alloc (Below.refl _ _) _) _⟩
    have HO : Aside0 (Kd.C k34 ((w.alloc (.cells #[.int .u64 a1_0, .int .u64 a1_1] 34)).alloc (.cells #[.int .u64 a1_0, .int .u64 a1_1] 34)) (some ⟨w.heap.size + 1, 0, none⟩) 1 [(⟨a1_0, a1_1⟩ : S34)]) := ⟨one_range (by have h := heap_alloc_new (w.alloc (.cells #[.int .u64 a1_0, .int .u64 a1_1] 34)) (.cells #[.int .u64 a1_0, .int .u64 a1_1] 34); rw [World.size_alloc] at h; exact h)⟩
    go_enter Try.func20, Try.ntmps20
    go_wp2_with fail
    refine (ranges_edges.calls k _ 1 [(⟨a1_0, a1_1⟩ : S34)] 1 e1 _ HO.out (Nat.le_refl _) H1.out).mono ?_
    rintro e w1 ⟨v, rfl, ho, hb⟩
    obtain ⟨B1, d1, rfl, hl1, hC1⟩ := Kd.R_reads ho
    have HC2 := Aside0.mk hC1
    have HB := Aside0.mk (below_step HB0.out hb)
    clear ho hb hC1 hl1
    go_wp2_with fail
    refine (ranges_edges.calls k A0 c0 l0 (-1) e2 _ (Kd.C_below HR.out HB.out) HC.out H2.out).mono ?_
    rintro e w2 ⟨v, rfl, ho, hb⟩
    obtain ⟨B2, d2, rfl, hl2, hC3⟩ := Kd.R_reads ho
    have hb2 : Below w2.heap.size w2 (w2.alloc (.cells #[.slice B1 e1.length d1, .slice B2 e2.length d2] 52)) := below_alloc (Below.refl _ _) _
    have HS := Aside0.mk (swept2 38 (wantIs 1) ranges_Gaps_e ranges_Gaps_w w2.heap.size B1 B2 d1 d2 e1 e2 (w2.alloc (.cells #[.slice B1 e1.length d1, .slice B2 e2.length d2] 52)) ((blk_cell (heap_alloc_new w2 _) 0).trans rfl) ((blk_cell (heap_alloc_new w2 _) 1).trans rfl) (Kd.C_below (Kd.C_below HC2.out hb) hb2) (Kd.C_below hC3 hb2) c)
    have HB2 := Aside0.mk (below_alloc (below_step HB.out hb) (.cells #[.slice B1 e1.length d1, .slice B2 e2.length d2] 52))
    clear ho hb hC3 hl2 hb2
    go_wp2_with fail
    refine HS.out.mono ?_
    rintro e w3 ⟨v, rfl, ho, hb⟩
    go_wp2
    go_ret
    exact ⟨_, rfl, Kd.R_lower ho HB2.out.size, below_step HB2.out hb⟩
  · rw [if_neg c] at h3
    exact absurd h3 (by simp)

end Go.Proofs.Ytpjohlcidmnikaa.PRgx
