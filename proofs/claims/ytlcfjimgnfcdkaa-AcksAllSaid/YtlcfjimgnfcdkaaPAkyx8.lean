-- printed for this claim by a program of the claim (wip/tools/pp.py over the kit's print)
import Derived.Test.YtlcfjimgnfcdkaaPAkyx0
import Derived.Test.YtlcfjimgnfcdkaaPAkyx7
namespace Go.Proofs.Ytlcfjimgnfcdkaa.PAky
open Go.RowKit Go.Proofs.YtlcfjimgnfcdkaaW.PrintWords Go.Proofs.YtlcfjimgnfcdkaaW.PrintLast Go.Proofs.YtlcfjimgnfcdkaaW.PrintMore
attribute [local go_sem] max2_int min2_int max_two min_two max_three min_three max_four min_four   -- for this text's walks alone
set_option linter.unusedVariables false
set_option linter.unusedSimpArgs false

attribute [local go_sem] isSome_setCell_
/-! ### dominoref06_ack: function 24 -/
def dominoref06_ack.l0 : Nat → ByteArray → Int → Int → Int → Int → Int → Int → Int → Int → Int → Bool → ByteArray → ByteArray → ByteArray → List (S69) → Option (ByteArray)
 | 0, _, _, _, _, _, _, _, _, _, _, _, _, _, _, _ => none
 | k + 1, x4, x5, x162000, x162001, x162002, x162003, x162004, x162005, x162006, x162007, x162008, x162009, x162010, x162011, x162012 => if x5 ≥ 0 then (if 0 ≤ (wrap64 (x5 + 1)) then (if (wrap64 (x5 + 1)) < (x162012.length : Int) then (if 0 ≤ x5 then (if x5 < (x162012.length : Int) then ((dominoref06_v.f k (IntKind.u64.wrap ((IntKind.u64.wrap (((rd_T69 x162012 (wrap64 (x5 + 1))).f0) - ((rd_T69 x162012 x5).f1))) - 2))).bind fun t171 => (if x4.size + t171.size ≤ 9223372036854775807 then ((dominoref06_v.f k (IntKind.u64.wrap (((rd_T69 x162012 x5).f1) - ((rd_T69 x162012 x5).f0)))).bind fun t174 => (if (x4 ++ t171).size + t174.size ≤ 9223372036854775807 then (dominoref06_ack.l0 k ((x4 ++ t171) ++ t174) (wrap64 (x5 - 1)) x162000 x162001 x162002 x162003 x162004 x162005 x162006 x162007 x162008 x162009 x162010 x162011 x162012) else (none))) else (none))) else (none)) else (none)) else (none)) else (none)) else (some x4)
def dominoref06_ack.f (k : Nat) (a0_0 : Int) (a0_1 : Int) (a0_2 : Int) (a0_3 : Int) (a0_4 : Int) (a0_5 : Int) (a0_6 : Int) (a0_7 : Int) (a0_8 : Bool) (a0_9 : ByteArray) (a0_10 : ByteArray) (a0_11 : ByteArray) (l0_12 : List (S69)) : Option (ByteArray) := if 0 ≤ (wrap64 ((l0_12.length : Int) - 1)) then (if (wrap64 ((l0_12.length : Int) - 1)) < (l0_12.length : Int) then ((dominoref06_v.f k ((rd_T69 l0_12 (wrap64 ((l0_12.length : Int) - 1))).f1)).bind fun t163 => ((dominoref06_v.f k a0_7).bind fun t164 => (if t163.size + t164.size ≤ 9223372036854775807 then ((dominoref06_v.f k (IntKind.u64.wrap (wrap64 ((l0_12.length : Int) - 1)))).bind fun t165 => (if (t163 ++ t164).size + t165.size ≤ 9223372036854775807 then ((dominoref06_v.f k (IntKind.u64.wrap (((rd_T69 l0_12 (wrap64 ((l0_12.length : Int) - 1))).f1) - ((rd_T69 l0_12 (wrap64 ((l0_12.length : Int) - 1))).f0)))).bind fun t168 => (if ((t163 ++ t164) ++ t165).size + t168.size ≤ 9223372036854775807 then (dominoref06_ack.l0 k (((t163 ++ t164) ++ t165) ++ t168) (wrap64 ((wrap64 ((l0_12.length : Int) - 1)) - 1)) a0_0 a0_1 a0_2 a0_3 a0_4 a0_5 a0_6 a0_7 a0_8 a0_9 a0_10 a0_11 l0_12) else (none))) else (none))) else (none)))) else (none)) else (none)
theorem dominoref06_ack.mono_l : ∀ k, (∀ y0 y1 y2 y3 y4 y5 y6 y7 y8 y9 y10 y11 y12 y13 y14, LeO (dominoref06_ack.l0 k y0 y1 y2 y3 y4 y5 y6 y7 y8 y9 y10 y11 y12 y13 y14) (dominoref06_ack.l0 (k + 1) y0 y1 y2 y3 y4 y5 y6 y7 y8 y9 y10 y11 y12 y13 y14))
 | 0 => fun _ _ _ _ _ _ _ _ _ _ _ _ _ _ _ r h => by simp [dominoref06_ack.l0] at h
 | k + 1 => by
  have ih0 := dominoref06_ack.mono_l k
  ·intro y0 y1 y2 y3 y4 y5 y6 y7 y8 y9 y10 y11 y12 y13 y14
   unfold dominoref06_ack.l0
   repeat' first
   | (with_reducible exact ih0 _ _ _ _ _ _ _ _ _ _ _ _ _ _ _)
   | (with_reducible exact dominoref06_v.mono _ _)
   | (with_reducible exact LeO.refl _)
   | (with_reducible exact LeO.none _)
   | (with_reducible refine LeO.ite ?_ ?_)
   | (with_reducible refine LeO.bind ?_ (fun _ => ?_))
   | exact ih0 _ _ _ _ _ _ _ _ _ _ _ _ _ _ _
   | exact dominoref06_v.mono _ _
   | exact LeO.none _
   | refine LeO.ite ?_ ?_
   | refine LeO.bind ?_ (fun _ => ?_)
theorem dominoref06_ack.mono : ∀ a0 a1 a2 a3 a4 a5 a6 a7 a8 a9 a10 a11 a12 k, LeO (dominoref06_ack.f k a0 a1 a2 a3 a4 a5 a6 a7 a8 a9 a10 a11 a12) (dominoref06_ack.f (k + 1) a0 a1 a2 a3 a4 a5 a6 a7 a8 a9 a10 a11 a12) := by
 intro a0 a1 a2 a3 a4 a5 a6 a7 a8 a9 a10 a11 a12 k
 have ih0 := dominoref06_ack.mono_l k
 unfold dominoref06_ack.f
 repeat' first
   | (with_reducible exact ih0 _ _ _ _ _ _ _ _ _ _ _ _ _ _ _)
   | (with_reducible exact dominoref06_v.mono _ _)
   | (with_reducible exact LeO.refl _)
   | (with_reducible exact LeO.none _)
   | (with_reducible refine LeO.ite ?_ ?_)
   | (with_reducible refine LeO.bind ?_ (fun _ => ?_))
   | exact ih0 _ _ _ _ _ _ _ _ _ _ _ _ _ _ _
   | exact dominoref06_v.mono _ _
   | exact LeO.none _
   | refine LeO.ite ?_ ?_
   | refine LeO.bind ?_ (fun _ => ?_)
def dominoref06_ack.T2 : Bool × List (List Nat × List Nat) := (true, [([], []), ([0], [0]), ([], []), ([1, 2], [1, 2]), ([3], [3]), ([4], [4]), ([5], [5]), ([], []), ([7], [7]), ([8, 6], [8]), ([6, 9], [6, 9]), ([], []), ([11], [11]), ([12, 9], [12]), ([10, 13], [10, 13]), ([], []), ([15], [15]), ([], []), ([16, 17], [16, 17]), ([18], [18]), ([19], [19]), ([], []), ([21], [21]), ([], []), ([22, 23], [22, 23]), ([24], [24]), ([25], [25]), ([20, 26], [20, 26]), ([27, 13], [27]), ([14, 28], [14, 28]), ([29, 28, 0, 1, 2, 3, 4, 5, 6, 7, 8, 9, 10, 11, 12, 13, 14, 15, 16, 17, 18, 19, 20, 21, 22, 23, 24, 25, 26, 27, 28, 29], [29])])
def dominoref06_ack.B2 : List Nat := [0, 1, 0, 7, 15, 31, 63, 0, 128, 511, 1023, 0, 2048, 7167, 16383, 0, 32768, 0, 229376, 491520, 1015808, 0, 2097152, 0, 14680064, 31457280, 65011712, 134184960, 268418047, 536870911, 1073741823]
theorem dominoref06_ack.tab2 : rtab .any (opsOf Try.f24 2) = dominoref06_ack.T2 := by kernel_rfl
theorem dominoref06_ack.bits2 : waitsOk dominoref06_ack.T2.2 dominoref06_ack.B2 = true := by kernel_rfl
def dominoref06_ack.T6 : Bool × List (List Nat × List Nat) := (true, [([], []), ([], []), ([1], [1]), ([], []), ([3], [3]), ([2, 4], [2, 4]), ([5], [5]), ([6], [6]), ([], []), ([8], [8]), ([], []), ([9, 10], [9, 10]), ([11], [11]), ([12], [12]), ([7, 13], [7, 13]), ([14], [14]), ([15], [15]), ([0, 16], [0, 16]), ([], []), ([18], [18]), ([], []), ([19, 20], [19, 20]), ([21], [21]), ([22], [22]), ([], []), ([24], [24]), ([], []), ([25, 26], [25, 26]), ([27], [27]), ([28], [28]), ([23, 29], [23, 29]), ([30, 16], [30]), ([17, 31], [17, 31]), ([32, 31, 0, 1, 2, 3, 4, 5, 6, 7, 8, 9, 10, 11, 12, 13, 14, 15, 16, 17, 18, 19, 20, 21, 22, 23, 24, 25, 26, 27, 28, 29, 30, 31, 32], [0, 32])])
def dominoref06_ack.B6 : List Nat := [0, 0, 2, 0, 8, 30, 62, 126, 0, 256, 0, 1792, 3840, 7936, 16382, 32766, 65534, 131071, 0, 262144, 0, 1835008, 3932160, 8126464, 0, 16777216, 0, 117440512, 251658240, 520093696, 1073479680, 2147352574, 4294967295, 8589934591]
theorem dominoref06_ack.tab6 : rtab .any (opsOf Try.f24 6) = dominoref06_ack.T6 := by kernel_rfl
theorem dominoref06_ack.bits6 : waitsOk dominoref06_ack.T6.2 dominoref06_ack.B6 = true := by kernel_rfl
set_option maxHeartbeats 8000000 in
set_option maxRecDepth 100000 in
theorem dominoref06_ack.calls (k : Nat) (a0_0 : Int) (a0_1 : Int) (a0_2 : Int) (a0_3 : Int) (a0_4 : Int) (a0_5 : Int) (a0_6 : Int) (a0_7 : Int) (a0_8 : Bool) (a0_9 : ByteArray) (a0_10 : ByteArray) (a0_11 : ByteArray) (A0_12 : Option Addr) (c0_12 : Nat) (l0_12 : List (S69)) (r : ByteArray) (w : World) (hr0_12 : Kd.C k69 w A0_12 l0_12.length l0_12) (hc0_12 : l0_12.length ≤ c0_12) (h : dominoref06_ack.f k a0_0 a0_1 a0_2 a0_3 a0_4 a0_5 a0_6 a0_7 a0_8 a0_9 a0_10 a0_11 l0_12 = some r) :
  Calls Try.prog 24 #[.agg #[.int .u64 a0_0, .int .u64 a0_1, .int .u64 a0_2, .int .u64 a0_3, .int .u64 a0_4, .int .u64 a0_5, .int .u64 a0_6, .int .u64 a0_7, .bool a0_8, .string a0_9, .string a0_10, .string a0_11, .slice A0_12 l0_12.length c0_12]] w fun e w' => e = .returned (.string r) ∧ Below w.heap.size w w' := by
 have hu42 := Try.underlying42
 have HR0_12 := Aside0.mk hr0_12
 have HC0_12 := Aside0.mk hc0_12
 clear hr0_12 hc0_12
 have HB := Aside0.mk (Below.refl w.heap.size w)
 have H : (if 0 ≤ (wrap64 ((l0_12.length : Int) - 1)) then (if (wrap64 ((l0_12.length : Int) - 1)) < (l0_12.length : Int) then ((dominoref06_v.f k ((rd_T69 l0_12 (wrap64 ((l0_12.length : Int) - 1))).f1)).bind fun t163 => ((dominoref06_v.f k a0_7).bind fun t164 => (if t163.size + t164.size ≤ 9223372036854775807 then ((dominoref06_v.f k (IntKind.u64.wrap (wrap64 ((l0_12.length : Int) - 1)))).bind fun t165 => (if (t163 ++ t164).size + t165.size ≤ 9223372036854775807 then ((dominoref06_v.f k (IntKind.u64.wrap (((rd_T69 l0_12 (wrap64 ((l0_12.length : Int) - 1))).f1) - ((rd_T69 l0_12 (wrap64 ((l0_12.length : Int) - 1))).f0)))).bind fun t168 => (if ((t163 ++ t164) ++ t165).size + t168.size ≤ 9223372036854775807 then (dominoref06_ack.l0 k (((t163 ++ t164) ++ t165) ++ t168) (wrap64 ((wrap64 ((l0_12.length : Int) - 1)) - 1)) a0_0 a0_1 a0_2 a0_3 a0_4 a0_5 a0_6 a0_7 a0_8 a0_9 a0_10 a0_11 l0_12) else (none))) else (none))) else (none)))) else (none)) else (none)) = some r := h
 clear h
 obtain ⟨ji2, hji2⟩ : ∃ j_ : Int, (wrap64 ((l0_12.length : Int) - 1)) = j_ := ⟨_, rfl⟩
 replace H : (if 0 ≤ (ji2) then (if (ji2) < (l0_12.length : Int) then ((dominoref06_v.f k ((rd_T69 l0_12 (ji2)).f1)).bind fun t163 => ((dominoref06_v.f k a0_7).bind fun t164 => (if t163.size + t164.size ≤ 9223372036854775807 then ((dominoref06_v.f k (IntKind.u64.wrap (ji2))).bind fun t165 => (if (t163 ++ t164).size + t165.size ≤ 9223372036854775807 then ((dominoref06_v.f k (IntKind.u64.wrap (((rd_T69 l0_12 (ji2)).f1) - ((rd_T69 l0_12 (ji2)).f0)))).bind fun t168 => (if ((t163 ++ t164) ++ t165).size + t168.size ≤ 9223372036854775807 then (dominoref06_ack.l0 k (((t163 ++ t164) ++ t165) ++ t168) (wrap64 ((ji2) - 1)) a0_0 a0_1 a0_2 a0_3 a0_4 a0_5 a0_6 a0_7 a0_8 a0_9 a0_10 a0_11 l0_12) else (none))) else (none))) else (none)))) else (none)) else (none)) = some r := by first | (rw [hji2] at H; exact H) | (simp only [hji2] at H ⊢; exact H)
 have hji2w : (IntKind.i64.wrap ((l0_12.length : Int) - 1)) = ji2 := (i64_w _).trans hji2
 by_cases c3 : 0 ≤ (ji2)
 ·rw [if_pos c3] at H
  have c3b0 : decide (0 ≤ (ji2)) = true := decide_eq_true c3
  clear c3
  by_cases c4 : (ji2) < (l0_12.length : Int)
  ·rw [if_pos c4] at H
   have c4b0 : decide ((ji2) < (l0_12.length : Int)) = true := decide_eq_true c4
   clear c4
   replace H := Option.bind_eq_some_iff.mp H
   obtain ⟨t163, A50, H⟩ := H
   replace H : ((dominoref06_v.f k a0_7).bind fun t164 => (if t163.size + t164.size ≤ 9223372036854775807 then ((dominoref06_v.f k (IntKind.u64.wrap (ji2))).bind fun t165 => (if (t163 ++ t164).size + t165.size ≤ 9223372036854775807 then ((dominoref06_v.f k (IntKind.u64.wrap (((rd_T69 l0_12 (ji2)).f1) - ((rd_T69 l0_12 (ji2)).f0)))).bind fun t168 => (if ((t163 ++ t164) ++ t165).size + t168.size ≤ 9223372036854775807 then (dominoref06_ack.l0 k (((t163 ++ t164) ++ t165) ++ t168) (wrap64 ((ji2) - 1)) a0_0 a0_1 a0_2 a0_3 a0_4 a0_5 a0_6 a0_7 a0_8 a0_9 a0_10 a0_11 l0_12) else (none))) else (none))) else (none))) = some r := H
   have A5 := Aside0.mk A50
   clear A50
   replace H := Option.bind_eq_some_iff.mp H
   obtain ⟨t164, A60, H⟩ := H
   replace H : (if t163.size + t164.size ≤ 9223372036854775807 then ((dominoref06_v.f k (IntKind.u64.wrap (ji2))).bind fun t165 => (if (t163 ++ t164).size + t165.size ≤ 9223372036854775807 then ((dominoref06_v.f k (IntKind.u64.wrap (((rd_T69 l0_12 (ji2)).f1) - ((rd_T69 l0_12 (ji2)).f0)))).bind fun t168 => (if ((t163 ++ t164) ++ t165).size + t168.size ≤ 9223372036854775807 then (dominoref06_ack.l0 k (((t163 ++ t164) ++ t165) ++ t168) (wrap64 ((ji2) - 1)) a0_0 a0_1 a0_2 a0_3 a0_4 a0_5 a0_6 a0_7 a0_8 a0_9 a0_10 a0_11 l0_12) else (none))) else (none))) else (none)) = some r := H
   have A6 := Aside0.mk A60
   clear A60
   by_cases c7 : t163.size + t164.size ≤ 9223372036854775807
   ·rw [if_pos c7] at H
    have c7b0 := eq_true c7
    have c7b1 : decide (t163.size + t164.size ≤ 9223372036854775807) = true := decide_eq_true c7
    try have c7b2 : (9223372036854775807 < t163.size + t164.size) = False := eq_false (Nat.not_lt.2 c7)
    replace H := Option.bind_eq_some_iff.mp H
    obtain ⟨t165, A80, H⟩ := H
    replace H : (if (t163 ++ t164).size + t165.size ≤ 9223372036854775807 then ((dominoref06_v.f k (IntKind.u64.wrap (((rd_T69 l0_12 (ji2)).f1) - ((rd_T69 l0_12 (ji2)).f0)))).bind fun t168 => (if ((t163 ++ t164) ++ t165).size + t168.size ≤ 9223372036854775807 then (dominoref06_ack.l0 k (((t163 ++ t164) ++ t165) ++ t168) (wrap64 ((ji2) - 1)) a0_0 a0_1 a0_2 a0_3 a0_4 a0_5 a0_6 a0_7 a0_8 a0_9 a0_10 a0_11 l0_12) else (none))) else (none)) = some r := H
    have A8 := Aside0.mk A80
    clear A80
    by_cases c9 : (t163 ++ t164).size + t165.size ≤ 9223372036854775807
    ·rw [if_pos c9] at H
     have c9b0 := eq_true c9
     have c9b1 : decide ((t163 ++ t164).size + t165.size ≤ 9223372036854775807) = true := decide_eq_true c9
     try have c9b2 : (9223372036854775807 < (t163 ++ t164).size + t165.size) = False := eq_false (Nat.not_lt.2 c9)
     (try (have c9b3 := c9; simp [ByteArray.size_append] at c9b3; have c9b4 := eq_false (Nat.not_lt.2 c9b3); have c9b5 := eq_true c9b3; clear c9b3))
     replace H := Option.bind_eq_some_iff.mp H
     obtain ⟨t168, A100, H⟩ := H
     replace H : (if ((t163 ++ t164) ++ t165).size + t168.size ≤ 9223372036854775807 then (dominoref06_ack.l0 k (((t163 ++ t164) ++ t165) ++ t168) (wrap64 ((ji2) - 1)) a0_0 a0_1 a0_2 a0_3 a0_4 a0_5 a0_6 a0_7 a0_8 a0_9 a0_10 a0_11 l0_12) else (none)) = some r := H
     have A10 := Aside0.mk A100
     clear A100
     by_cases c11 : ((t163 ++ t164) ++ t165).size + t168.size ≤ 9223372036854775807
     ·rw [if_pos c11] at H
      have c11b0 := eq_true c11
      have c11b1 : decide (((t163 ++ t164) ++ t165).size + t168.size ≤ 9223372036854775807) = true := decide_eq_true c11
      try have c11b2 : (9223372036854775807 < ((t163 ++ t164) ++ t165).size + t168.size) = False := eq_false (Nat.not_lt.2 c11)
      (try (have c11b3 := c11; simp [ByteArray.size_append] at c11b3; have c11b4 := eq_false (Nat.not_lt.2 c11b3); have c11b5 := eq_true c11b3; clear c11b3))
      have H' := Aside0.mk H
      clear H
      go_enter Try.func24, Try.ntmps24
      try go_wp2_with (first | ((with_reducible refine gate_dst (N := 1) rfl ?_); refine box_event ?hg (N := 1) ?hd (cs := #[.int .u64 a0_0, .int .u64 a0_1, .int .u64 a0_2, .int .u64 a0_3, .int .u64 a0_4, .int .u64 a0_5, .int .u64 a0_6, .int .u64 a0_7, .bool a0_8, .string a0_9, .string a0_10, .string a0_11, .slice A0_12 l0_12.length c0_12]) (t := 42) ?hr ?_; (case hd => rfl); (case hg => rfl); (case hr => first | (go_simp; done) | (go_simp; rfl)); intro gb161 hg w12 hbox hb; have n0_ := Aside0.mk (below_step (by repeat (first | (with_reducible first | exact HB.out | apply below_alloc | apply pw_below_drewN | apply below_drew1) | exact HB.out)) hb); have n1_ := Aside0.mk (hbox); have n2_ := Aside0.mk ((by rw [hg]; exact (below_size (by repeat (first | (with_reducible first | exact HB.out | apply below_alloc | apply pw_below_drewN | apply below_drew1) | exact HB.out))) : w.heap.size ≤ gb161)); have n3_ := Aside0.mk ((by rw [hg]; exact (below_size (by repeat (first | (with_reducible first | exact HB.out | apply below_alloc | apply pw_below_drewN | apply below_drew1) | exact HB.out))) : w.heap.size ≤ gb161)); clear HB; have HB := n0_; have BK161 := n1_; have GW161 := n2_; have GE161 := n3_; clear n0_ n1_ n2_ n3_; clear hb hbox hg; have hcz13_0 : w12.cell? ⟨gb161, 0, none⟩ = some (.int .u64 a0_0) := (blk_cell BK161.out 0).trans rfl; have hcz13_1 : w12.cell? ⟨gb161, 1, none⟩ = some (.int .u64 a0_1) := (blk_cell BK161.out 1).trans rfl; have hcz13_2 : w12.cell? ⟨gb161, 2, none⟩ = some (.int .u64 a0_2) := (blk_cell BK161.out 2).trans rfl; have hcz13_3 : w12.cell? ⟨gb161, 3, none⟩ = some (.int .u64 a0_3) := (blk_cell BK161.out 3).trans rfl; have hcz13_4 : w12.cell? ⟨gb161, 4, none⟩ = some (.int .u64 a0_4) := (blk_cell BK161.out 4).trans rfl; have hcz13_5 : w12.cell? ⟨gb161, 5, none⟩ = some (.int .u64 a0_5) := (blk_cell BK161.out 5).trans rfl; have hcz13_6 : w12.cell? ⟨gb161, 6, none⟩ = some (.int .u64 a0_6) := (blk_cell BK161.out 6).trans rfl; have hcz13_7 : w12.cell? ⟨gb161, 7, none⟩ = some (.int .u64 a0_7) := (blk_cell BK161.out 7).trans rfl; have hcz13_8 : w12.cell? ⟨gb161, 8, none⟩ = some (.bool a0_8) := (blk_cell BK161.out 8).trans rfl; have hcz13_9 : w12.cell? ⟨gb161, 9, none⟩ = some (.string a0_9) := (blk_cell BK161.out 9).trans rfl; have hcz13_10 : w12.cell? ⟨gb161, 10, none⟩ = some (.string a0_10) := (blk_cell BK161.out 10).trans rfl; have hcz13_11 : w12.cell? ⟨gb161, 11, none⟩ = some (.string a0_11) := (blk_cell BK161.out 11).trans rfl; have hcz13_12 : w12.cell? ⟨gb161, 12, none⟩ = some (.slice A0_12 l0_12.length c0_12) := (blk_cell BK161.out 12).trans rfl; have hfz13_0 := blk_frozen BK161.out 0; have hfz13_1 := blk_frozen BK161.out 1; have hfz13_2 := blk_frozen BK161.out 2; have hfz13_3 := blk_frozen BK161.out 3; have hfz13_4 := blk_frozen BK161.out 4; have hfz13_5 := blk_frozen BK161.out 5; have hfz13_6 := blk_frozen BK161.out 6; have hfz13_7 := blk_frozen BK161.out 7; have hfz13_8 := blk_frozen BK161.out 8; have hfz13_9 := blk_frozen BK161.out 9; have hfz13_10 := blk_frozen BK161.out 10; have hfz13_11 := blk_frozen BK161.out 11; have hfz13_12 := blk_frozen BK161.out 12))
      have n0_ := Aside0.mk (blk_drew BK161.out)
      have n1_ := Aside0.mk (below_drew1 HB.out)
      clear BK161
      clear HB
      have BK161 := n0_
      have HB := n1_
      clear n0_ n1_
      have p162 : 0 ≤ ((ji2) : Int) := of_decide_eq_true (by first | (with_reducible assumption) | assumption)
      have q162 : (ji2) < (l0_12.length : Int) := of_decide_eq_true (by first | (with_reducible assumption) | assumption)
      obtain ⟨ad162, e162, hx162_0, hx162_1⟩ := at_T69 HR0_12.out (ji2) p162 q162
      have hw162_1 := hx162_1
      have hw162_0 := hx162_0
      cases e162
      replace hx162_0 := (HB.out.cell (World.block_lt_of_cell? w _ hx162_0)).trans hx162_0
      replace hx162_1 := (HB.out.cell (World.block_lt_of_cell? w _ hx162_1)).trans hx162_1
      replace p162 := eq_true p162
      replace q162 := eq_true q162
      have p166 : 0 ≤ ((ji2) : Int) := of_decide_eq_true (by first | (with_reducible assumption) | assumption)
      have q166 : (ji2) < (l0_12.length : Int) := of_decide_eq_true (by first | (with_reducible assumption) | assumption)
      obtain ⟨ad166, e166, hx166_0, hx166_1⟩ := at_T69 HR0_12.out (ji2) p166 q166
      have hw166_1 := hx166_1
      have hw166_0 := hx166_0
      obtain rfl : ad162 = ad166 := (by injection e166)
      replace hx166_0 := (HB.out.cell (World.block_lt_of_cell? w _ hx166_0)).trans hx166_0
      replace hx166_1 := (HB.out.cell (World.block_lt_of_cell? w _ hx166_1)).trans hx166_1
      replace p166 := eq_true p166
      replace q166 := eq_true q166
      have p167 : 0 ≤ ((ji2) : Int) := of_decide_eq_true (by first | (with_reducible assumption) | assumption)
      have q167 : (ji2) < (l0_12.length : Int) := of_decide_eq_true (by first | (with_reducible assumption) | assumption)
      obtain ⟨ad167, e167, hx167_0, hx167_1⟩ := at_T69 HR0_12.out (ji2) p167 q167
      have hw167_1 := hx167_1
      have hw167_0 := hx167_0
      obtain rfl : ad162 = ad167 := (by injection e167)
      replace hx167_0 := (HB.out.cell (World.block_lt_of_cell? w _ hx167_0)).trans hx167_0
      replace hx167_1 := (HB.out.cell (World.block_lt_of_cell? w _ hx167_1)).trans hx167_1
      replace p167 := eq_true p167
      replace q167 := eq_true q167
      refine start_ (n := 31) (S := fun w' => w'.cell? ⟨gb161, 0, none⟩ = some (.int .u64 a0_0) ∧ w'.cell? ⟨gb161, 1, none⟩ = some (.int .u64 a0_1) ∧ w'.cell? ⟨gb161, 2, none⟩ = some (.int .u64 a0_2) ∧ w'.cell? ⟨gb161, 3, none⟩ = some (.int .u64 a0_3) ∧ w'.cell? ⟨gb161, 4, none⟩ = some (.int .u64 a0_4) ∧ w'.cell? ⟨gb161, 5, none⟩ = some (.int .u64 a0_5) ∧ w'.cell? ⟨gb161, 6, none⟩ = some (.int .u64 a0_6) ∧ w'.cell? ⟨gb161, 7, none⟩ = some (.int .u64 a0_7) ∧ w'.cell? ⟨gb161, 8, none⟩ = some (.bool a0_8) ∧ w'.cell? ⟨gb161, 9, none⟩ = some (.string a0_9) ∧ w'.cell? ⟨gb161, 10, none⟩ = some (.string a0_10) ∧ w'.cell? ⟨gb161, 11, none⟩ = some (.string a0_11) ∧ w'.cell? ⟨gb161, 12, none⟩ = some (.slice (some ad162) l0_12.length c0_12) ∧ w'.cell? (ad162.add (((ji2)).toNat * 2)) = some (.int .u64 ((rd_T69 l0_12 (ji2)).f0)) ∧ w'.cell? ⟨(ad162.add (((ji2)).toNat * 2)).block, (ad162.add (((ji2)).toNat * 2)).off + 1, none⟩ = some (.int .u64 ((rd_T69 l0_12 (ji2)).f1)) ∧ w'.cell? (ad162.add (((ji2)).toNat * 2)) = some (.int .u64 ((rd_T69 l0_12 (ji2)).f0)) ∧ w'.cell? ⟨(ad162.add (((ji2)).toNat * 2)).block, (ad162.add (((ji2)).toNat * 2)).off + 1, none⟩ = some (.int .u64 ((rd_T69 l0_12 (ji2)).f1)) ∧ w'.cell? (ad162.add (((ji2)).toNat * 2)) = some (.int .u64 ((rd_T69 l0_12 (ji2)).f0)) ∧ w'.cell? ⟨(ad162.add (((ji2)).toNat * 2)).block, (ad162.add (((ji2)).toNat * 2)).off + 1, none⟩ = some (.int .u64 ((rd_T69 l0_12 (ji2)).f1))) (ds := []) #[false,false,false,false,false,false,false,false,false,false,false,false,false,false,false,false,false,false,false,false,false,false,false,false,false,false,false,false,false,false,false] (by kernel_rfl) rfl rfl ⟨(blk_cell BK161.out 0).trans rfl, (blk_cell BK161.out 1).trans rfl, (blk_cell BK161.out 2).trans rfl, (blk_cell BK161.out 3).trans rfl, (blk_cell BK161.out 4).trans rfl, (blk_cell BK161.out 5).trans rfl, (blk_cell BK161.out 6).trans rfl, (blk_cell BK161.out 7).trans rfl, (blk_cell BK161.out 8).trans rfl, (blk_cell BK161.out 9).trans rfl, (blk_cell BK161.out 10).trans rfl, (blk_cell BK161.out 11).trans rfl, (blk_cell BK161.out 12).trans rfl, (up_ HB.out hw162_0), (up_ HB.out hw162_1), (up_ HB.out hw166_0), (up_ HB.out hw166_1), (up_ HB.out hw167_0), (up_ HB.out hw167_1)⟩ (fun hHeld => ?_); refine with_tabW dominoref06_ack.tab2 dominoref06_ack.bits2 (fun HT_ HW_ => ?_)
      generalize w12.drew = w14 at BK161 HB hx162_0 hx162_1 hx166_0 hx166_1 hx167_0 hx167_1 hHeld ⊢
      refine pure_ (i := 0) (N := some 10) (v := ?_) (a' := ?_) #[true,false,false,false,false,false,false,false,false,false,false,false,false,false,false,false,false,false,false,false,false,false,false,false,false,false,false,false,false,false,false] rfl rfl (any_of HT_.out (by kernel_rfl)) (fun _ _ _ h => h) (Or.inl ⟨by rfl, ?_⟩) ?_ ?_
      rotate_left;(intro w';go_simp;with_reducible rfl);rotate_left;(simp only [Act.put, List.setIfInBounds_toArray, List.set_cons_zero, List.set_cons_succ, i64_w, i32_w];rfl)
      refine pure_ (i := 2) (N := some 12) (v := ?_) (a' := ?_) #[true,false,true,false,false,false,false,false,false,false,false,false,false,false,false,false,false,false,false,false,false,false,false,false,false,false,false,false,false,false,false] rfl rfl (any_of HT_.out (by kernel_rfl)) (fun _ _ _ h => h) (Or.inl ⟨by rfl, ?_⟩) ?_ ?_
      rotate_left;(intro w';go_simp;with_reducible rfl);rotate_left;(simp only [Act.put, List.setIfInBounds_toArray, List.set_cons_zero, List.set_cons_succ, i64_w, i32_w];rfl)
      refine pure_ (i := 7) (N := some 17) (v := ?_) (a' := ?_) #[true,false,true,false,false,false,false,true,false,false,false,false,false,false,false,false,false,false,false,false,false,false,false,false,false,false,false,false,false,false,false] rfl rfl (any_of HT_.out (by kernel_rfl)) (fun _ _ _ h => h) (Or.inl ⟨by rfl, ?_⟩) ?_ ?_
      rotate_left;(intro w';go_simp;with_reducible rfl);rotate_left;(simp only [Act.put, List.setIfInBounds_toArray, List.set_cons_zero, List.set_cons_succ, i64_w, i32_w];rfl)
      refine pure_ (i := 11) (N := some 21) (v := ?_) (a' := ?_) #[true,false,true,false,false,false,false,true,false,false,false,true,false,false,false,false,false,false,false,false,false,false,false,false,false,false,false,false,false,false,false] rfl rfl (any_of HT_.out (by kernel_rfl)) (fun _ _ _ h => h) (Or.inl ⟨by rfl, ?_⟩) ?_ ?_
      rotate_left;(intro w';go_simp;with_reducible rfl);rotate_left;(simp only [Act.put, List.setIfInBounds_toArray, List.set_cons_zero, List.set_cons_succ, i64_w, i32_w];rfl)
      refine pure_ (i := 12) (N := some 22) (v := ?_) (a' := ?_) #[true,false,true,false,false,false,false,true,false,false,false,true,true,false,false,false,false,false,false,false,false,false,false,false,false,false,false,false,false,false,false] rfl rfl (any_of HT_.out (by kernel_rfl)) (fun _ _ _ h => h) (Or.inl ⟨by rfl, ?_⟩) ?_ ?_
      rotate_left;(intro w';go_simp;with_reducible rfl);rotate_left;(simp only [Act.put, List.setIfInBounds_toArray, List.set_cons_zero, List.set_cons_succ, i64_w, i32_w];rfl)
      refine pure_ (i := 15) (N := some 25) (v := ?_) (a' := ?_) #[true,false,true,false,false,false,false,true,false,false,false,true,true,false,false,true,false,false,false,false,false,false,false,false,false,false,false,false,false,false,false] rfl rfl (any_of HT_.out (by kernel_rfl)) (fun _ _ _ h => h) (Or.inl ⟨by rfl, ?_⟩) ?_ ?_
      rotate_left;(intro w';go_simp;with_reducible rfl);rotate_left;(simp only [Act.put, List.setIfInBounds_toArray, List.set_cons_zero, List.set_cons_succ, i64_w, i32_w];rfl)
      refine pure_ (i := 17) (N := some 27) (v := ?_) (a' := ?_) #[true,false,true,false,false,false,false,true,false,false,false,true,true,false,false,true,false,true,false,false,false,false,false,false,false,false,false,false,false,false,false] rfl rfl (any_of HT_.out (by kernel_rfl)) (fun _ _ _ h => h) (Or.inl ⟨by rfl, ?_⟩) ?_ ?_
      rotate_left;(intro w';go_simp;with_reducible rfl);rotate_left;(simp only [Act.put, List.setIfInBounds_toArray, List.set_cons_zero, List.set_cons_succ, i64_w, i32_w];rfl)
      refine pure_ (i := 21) (N := some 31) (v := ?_) (a' := ?_) #[true,false,true,false,false,false,false,true,false,false,false,true,true,false,false,true,false,true,false,false,false,true,false,false,false,false,false,false,false,false,false] rfl rfl (any_of HT_.out (by kernel_rfl)) (fun _ _ _ h => h) (Or.inl ⟨by rfl, ?_⟩) ?_ ?_
      rotate_left;(intro w';go_simp;with_reducible rfl);rotate_left;(simp only [Act.put, List.setIfInBounds_toArray, List.set_cons_zero, List.set_cons_succ, i64_w, i32_w];rfl)
      refine pure_ (i := 23) (N := some 33) (v := ?_) (a' := ?_) #[true,false,true,false,false,false,false,true,false,false,false,true,true,false,false,true,false,true,false,false,false,true,false,true,false,false,false,false,false,false,false] rfl rfl (any_of HT_.out (by kernel_rfl)) (fun _ _ _ h => h) (Or.inl ⟨by rfl, ?_⟩) ?_ ?_
      rotate_left;(intro w';go_simp;with_reducible rfl);rotate_left;(simp only [Act.put, List.setIfInBounds_toArray, List.set_cons_zero, List.set_cons_succ, i64_w, i32_w];rfl)
      refine take_ (i := 1) (N := some 11) (v := ?_) (a' := ?_) #[true,true,true,false,false,false,false,true,false,false,false,true,true,false,false,true,false,true,false,false,false,true,false,true,false,false,false,false,false,false,false] rfl rfl (take_ofW HT_.out HW_.out (by kernel_rfl)) (fun _ _ _ h => h) (Or.inl ⟨by rfl, ?_⟩) hHeld ?_ ?_
      rotate_left
      ·rintro w' ⟨s0, s1, s2, s3, s4, s5, s6, s7, s8, s9, s10, s11, s12, s13, s14, s15, s16, s17, s18⟩
       go_simp
       with_reducible rfl
      rotate_left
      ·simp only [Act.put, List.setIfInBounds_toArray, List.set_cons_zero, List.set_cons_succ, i64_w, i32_w]
       rfl
      refine pure_ (i := 3) (N := some 13) (v := ?_) (a' := ?_) #[true,true,true,true,false,false,false,true,false,false,false,true,true,false,false,true,false,true,false,false,false,true,false,true,false,false,false,false,false,false,false] rfl rfl (any_of HT_.out (by kernel_rfl)) (fun _ _ _ h => h) (Or.inl ⟨by rfl, ?_⟩) ?_ ?_
      rotate_left;(intro w';go_simp;with_reducible rfl);rotate_left;(simp only [Act.put, List.setIfInBounds_toArray, List.set_cons_zero, List.set_cons_succ, i64_w, i32_w];rfl)
      refine pure_ (i := 4) (N := some 14) (v := ?_) (a' := ?_) #[true,true,true,true,true,false,false,true,false,false,false,true,true,false,false,true,false,true,false,false,false,true,false,true,false,false,false,false,false,false,false] rfl rfl (any_of HT_.out (by kernel_rfl)) (fun _ _ _ h => h) (Or.inl ⟨by rfl, ?_⟩) ?_ ?_
      rotate_left;(intro w';go_simp;with_reducible rfl);rotate_left;(simp only [Act.put, List.setIfInBounds_toArray, List.set_cons_zero, List.set_cons_succ, i64_w, i32_w];rfl)
      refine take_ (i := 5) (N := some 15) (v := ?_) (a' := ?_) #[true,true,true,true,true,true,false,true,false,false,false,true,true,false,false,true,false,true,false,false,false,true,false,true,false,false,false,false,false,false,false] rfl rfl (take_ofW HT_.out HW_.out (by kernel_rfl)) (fun _ _ _ h => h) (Or.inl ⟨by rfl, ?_⟩) hHeld ?_ ?_
      rotate_left
      ·rintro w' ⟨s0, s1, s2, s3, s4, s5, s6, s7, s8, s9, s10, s11, s12, s13, s14, s15, s16, s17, s18⟩
       go_simp
       with_reducible rfl
      rotate_left
      ·simp only [Act.put, List.setIfInBounds_toArray, List.set_cons_zero, List.set_cons_succ, i64_w, i32_w]
       rfl
      refine take_ (i := 8) (N := some 18) (v := ?_) (a' := ?_) #[true,true,true,true,true,true,false,true,true,false,false,true,true,false,false,true,false,true,false,false,false,true,false,true,false,false,false,false,false,false,false] rfl rfl (take_ofW HT_.out HW_.out (by kernel_rfl)) (fun _ _ _ h => h) (Or.inl ⟨by rfl, ?_⟩) hHeld ?_ ?_
      rotate_left
      ·rintro w' ⟨s0, s1, s2, s3, s4, s5, s6, s7, s8, s9, s10, s11, s12, s13, s14, s15, s16, s17, s18⟩
       go_simp
       with_reducible rfl
      rotate_left
      ·simp only [Act.put, List.setIfInBounds_toArray, List.set_cons_zero, List.set_cons_succ, i64_w, i32_w]
       rfl
      refine take_ (i := 16) (N := some 26) (v := ?_) (a' := ?_) #[true,true,true,true,true,true,false,true,true,false,false,true,true,false,false,true,true,true,false,false,false,true,false,true,false,false,false,false,false,false,false] rfl rfl (take_ofW HT_.out HW_.out (by kernel_rfl)) (fun _ _ _ h => h) (Or.inl ⟨by rfl, ?_⟩) hHeld ?_ ?_
      rotate_left
      ·rintro w' ⟨s0, s1, s2, s3, s4, s5, s6, s7, s8, s9, s10, s11, s12, s13, s14, s15, s16, s17, s18⟩
       go_simp
       with_reducible rfl
      rotate_left
      ·simp only [Act.put, List.setIfInBounds_toArray, List.set_cons_zero, List.set_cons_succ, i64_w, i32_w]
       rfl
      refine pure_ (i := 18) (N := some 28) (v := ?_) (a' := ?_) #[true,true,true,true,true,true,false,true,true,false,false,true,true,false,false,true,true,true,true,false,false,true,false,true,false,false,false,false,false,false,false] rfl rfl (any_of HT_.out (by kernel_rfl)) (fun _ _ _ h => h) (Or.inl ⟨by rfl, ?_⟩) ?_ ?_
      rotate_left;(intro w';go_simp;with_reducible rfl);rotate_left;(simp only [Act.put, List.setIfInBounds_toArray, List.set_cons_zero, List.set_cons_succ, i64_w, i32_w];rfl)
      refine pure_ (i := 19) (N := some 29) (v := ?_) (a' := ?_) #[true,true,true,true,true,true,false,true,true,false,false,true,true,false,false,true,true,true,true,true,false,true,false,true,false,false,false,false,false,false,false] rfl rfl (any_of HT_.out (by kernel_rfl)) (fun _ _ _ h => h) (Or.inl ⟨by rfl, ?_⟩) ?_ ?_
      rotate_left;(intro w';go_simp;with_reducible rfl);rotate_left;(simp only [Act.put, List.setIfInBounds_toArray, List.set_cons_zero, List.set_cons_succ, i64_w, i32_w];rfl)
      refine take_ (i := 20) (N := some 30) (v := ?_) (a' := ?_) #[true,true,true,true,true,true,false,true,true,false,false,true,true,false,false,true,true,true,true,true,true,true,false,true,false,false,false,false,false,false,false] rfl rfl (take_ofW HT_.out HW_.out (by kernel_rfl)) (fun _ _ _ h => h) (Or.inl ⟨by rfl, ?_⟩) hHeld ?_ ?_
      rotate_left
      ·rintro w' ⟨s0, s1, s2, s3, s4, s5, s6, s7, s8, s9, s10, s11, s12, s13, s14, s15, s16, s17, s18⟩
       go_simp
       with_reducible rfl
      rotate_left
      ·simp only [Act.put, List.setIfInBounds_toArray, List.set_cons_zero, List.set_cons_succ, i64_w, i32_w]
       rfl
      refine take_ (i := 22) (N := some 32) (v := ?_) (a' := ?_) #[true,true,true,true,true,true,false,true,true,false,false,true,true,false,false,true,true,true,true,true,true,true,true,true,false,false,false,false,false,false,false] rfl rfl (take_ofW HT_.out HW_.out (by kernel_rfl)) (fun _ _ _ h => h) (Or.inl ⟨by rfl, ?_⟩) hHeld ?_ ?_
      rotate_left
      ·rintro w' ⟨s0, s1, s2, s3, s4, s5, s6, s7, s8, s9, s10, s11, s12, s13, s14, s15, s16, s17, s18⟩
       go_simp
       with_reducible rfl
      rotate_left
      ·simp only [Act.put, List.setIfInBounds_toArray, List.set_cons_zero, List.set_cons_succ, i64_w, i32_w]
       rfl
      refine pure_ (i := 24) (N := some 34) (v := ?_) (a' := ?_) #[true,true,true,true,true,true,false,true,true,false,false,true,true,false,false,true,true,true,true,true,true,true,true,true,true,false,false,false,false,false,false] rfl rfl (any_of HT_.out (by kernel_rfl)) (fun _ _ _ h => h) (Or.inl ⟨by rfl, ?_⟩) ?_ ?_
      rotate_left;(intro w';go_simp;with_reducible rfl);rotate_left;(simp only [Act.put, List.setIfInBounds_toArray, List.set_cons_zero, List.set_cons_succ, i64_w, i32_w];rfl)
      refine pure_ (i := 25) (N := some 35) (v := ?_) (a' := ?_) #[true,true,true,true,true,true,false,true,true,false,false,true,true,false,false,true,true,true,true,true,true,true,true,true,true,true,false,false,false,false,false] rfl rfl (any_of HT_.out (by kernel_rfl)) (fun _ _ _ h => h) (Or.inl ⟨by rfl, ?_⟩) ?_ ?_
      rotate_left;(intro w';go_simp;with_reducible rfl);rotate_left;(simp only [Act.put, List.setIfInBounds_toArray, List.set_cons_zero, List.set_cons_succ, i64_w, i32_w];rfl)
      refine take_ (i := 26) (N := some 36) (v := ?_) (a' := ?_) #[true,true,true,true,true,true,false,true,true,false,false,true,true,false,false,true,true,true,true,true,true,true,true,true,true,true,true,false,false,false,false] rfl rfl (take_ofW HT_.out HW_.out (by kernel_rfl)) (fun _ _ _ h => h) (Or.inl ⟨by rfl, ?_⟩) hHeld ?_ ?_
      rotate_left
      ·rintro w' ⟨s0, s1, s2, s3, s4, s5, s6, s7, s8, s9, s10, s11, s12, s13, s14, s15, s16, s17, s18⟩
       go_simp
       with_reducible rfl
      rotate_left
      ·simp only [Act.put, List.setIfInBounds_toArray, List.set_cons_zero, List.set_cons_succ, i64_w, i32_w]
       rfl
      refine pure_ (i := 27) (N := some 37) (v := ?_) (a' := ?_) #[true,true,true,true,true,true,false,true,true,false,false,true,true,false,false,true,true,true,true,true,true,true,true,true,true,true,true,true,false,false,false] rfl rfl (any_of HT_.out (by kernel_rfl)) (fun _ _ _ h => h) (Or.inl ⟨by rfl, ?_⟩) ?_ ?_
      rotate_left;(intro w';go_simp;with_reducible rfl);rotate_left;(simp only [Act.put, List.setIfInBounds_toArray, List.set_cons_zero, List.set_cons_succ, i64_w, i32_w];rfl)
      refine one_ (i := 6) (N := some 16) #[true,true,true,true,true,true,true,true,true,false,false,true,true,false,false,true,true,true,true,true,true,true,true,true,true,true,true,true,false,false,false] rfl rfl (one_of HT_.out (by kernel_rfl)) (by decide) (fun K hK => ?_)
      refine goes_ Try.func23 (by kernel_rfl) rfl #[.int .u64 ((rd_T69 l0_12 (ji2)).f1)] (by rfl) rfl rfl (by (try simp only [List.map_toArray, List.map_cons, List.map_nil]); first | done | (simp only [hji2]; rfl) | rfl | (simp only [List.length_drop, List.length_take]; rfl)) ?_
      with_reducible refine (dominoref06_v.calls k ((rd_T69 l0_12 (ji2)).f1) t163 _ A5.out).mono ?_
      rintro e w15 ⟨rfl, hb⟩
      refine ⟨_, rfl, ?_⟩
      have n0_ := Aside0.mk (blk_below (g := gb161) (o := .cells #[.int .u64 a0_0, .int .u64 a0_1, .int .u64 a0_2, .int .u64 a0_3, .int .u64 a0_4, .int .u64 a0_5, .int .u64 a0_6, .int .u64 a0_7, .bool a0_8, .string a0_9, .string a0_10, .string a0_11, .slice (some ad162) l0_12.length c0_12] 42 (0, 0)) (by (with_reducible repeat (first | refine blk_drewN ?_ _ | refine blk_drew ?_ | refine blk_alloc ?_ _)); exact BK161.out) hb)
      have n1_ := Aside0.mk (below_step (by repeat (first | (with_reducible first | exact HB.out | apply below_alloc | apply pw_below_drewN | apply below_drew1 | refine below_set ?_ GE161.out) | exact HB.out)) hb)
      clear BK161
      clear HB
      have BK161 := n0_
      have HB := n1_
      clear n0_ n1_
      (try clear hb)
      (try clear hb2)
      (try clear hk)
      (try clear hi)
      refine hK.out _ _ ⟨(blk_cell BK161.out 0).trans rfl, (blk_cell BK161.out 1).trans rfl, (blk_cell BK161.out 2).trans rfl, (blk_cell BK161.out 3).trans rfl, (blk_cell BK161.out 4).trans rfl, (blk_cell BK161.out 5).trans rfl, (blk_cell BK161.out 6).trans rfl, (blk_cell BK161.out 7).trans rfl, (blk_cell BK161.out 8).trans rfl, (blk_cell BK161.out 9).trans rfl, (blk_cell BK161.out 10).trans rfl, (blk_cell BK161.out 11).trans rfl, (blk_cell BK161.out 12).trans rfl, (up_ HB.out hw162_0), (up_ HB.out hw162_1), (up_ HB.out hw166_0), (up_ HB.out hw166_1), (up_ HB.out hw167_0), (up_ HB.out hw167_1)⟩ (fun hHeld => ?_)
      clear hK K
      refine norm_ (a' := ?_) ?_ ?_
      rotate_left
      ·show Act.put _ (some 16) _ = _
       simp only [Act.put, List.setIfInBounds_toArray, List.set_cons_zero, List.set_cons_succ, i64_w, i32_w]
       rfl
      refine one_ (i := 9) (N := some 19) #[true,true,true,true,true,true,true,true,true,true,false,true,true,false,false,true,true,true,true,true,true,true,true,true,true,true,true,true,false,false,false] rfl rfl (one_of HT_.out (by kernel_rfl)) (by decide) (fun K hK => ?_)
      refine goes_ Try.func23 (by kernel_rfl) rfl #[.int .u64 a0_7] (by rfl) rfl rfl (by (try simp only [List.map_toArray, List.map_cons, List.map_nil]); first | done | rfl | (simp only [List.length_drop, List.length_take]; rfl)) ?_
      with_reducible refine (dominoref06_v.calls k a0_7 t164 _ A6.out).mono ?_
      rintro e w16 ⟨rfl, hb⟩
      refine ⟨_, rfl, ?_⟩
      have n0_ := Aside0.mk (blk_below (g := gb161) (o := .cells #[.int .u64 a0_0, .int .u64 a0_1, .int .u64 a0_2, .int .u64 a0_3, .int .u64 a0_4, .int .u64 a0_5, .int .u64 a0_6, .int .u64 a0_7, .bool a0_8, .string a0_9, .string a0_10, .string a0_11, .slice (some ad162) l0_12.length c0_12] 42 (0, 0)) (by (with_reducible repeat (first | refine blk_drewN ?_ _ | refine blk_drew ?_ | refine blk_alloc ?_ _)); exact BK161.out) hb)
      have n1_ := Aside0.mk (below_step (by repeat (first | (with_reducible first | exact HB.out | apply below_alloc | apply pw_below_drewN | apply below_drew1 | refine below_set ?_ GE161.out) | exact HB.out)) hb)
      clear BK161
      clear HB
      have BK161 := n0_
      have HB := n1_
      clear n0_ n1_
      (try clear hb)
      (try clear hb2)
      (try clear hk)
      (try clear hi)
      refine hK.out _ _ ⟨(blk_cell BK161.out 0).trans rfl, (blk_cell BK161.out 1).trans rfl, (blk_cell BK161.out 2).trans rfl, (blk_cell BK161.out 3).trans rfl, (blk_cell BK161.out 4).trans rfl, (blk_cell BK161.out 5).trans rfl, (blk_cell BK161.out 6).trans rfl, (blk_cell BK161.out 7).trans rfl, (blk_cell BK161.out 8).trans rfl, (blk_cell BK161.out 9).trans rfl, (blk_cell BK161.out 10).trans rfl, (blk_cell BK161.out 11).trans rfl, (blk_cell BK161.out 12).trans rfl, (up_ HB.out hw162_0), (up_ HB.out hw162_1), (up_ HB.out hw166_0), (up_ HB.out hw166_1), (up_ HB.out hw167_0), (up_ HB.out hw167_1)⟩ (fun hHeld => ?_)
      clear hK K
      refine norm_ (a' := ?_) ?_ ?_
      rotate_left
      ·show Act.put _ (some 19) _ = _
       simp only [Act.put, List.setIfInBounds_toArray, List.set_cons_zero, List.set_cons_succ, i64_w, i32_w]
       rfl
      refine pure_ (i := 10) (N := some 20) (v := ?_) (a' := ?_) #[true,true,true,true,true,true,true,true,true,true,true,true,true,false,false,true,true,true,true,true,true,true,true,true,true,true,true,true,false,false,false] rfl rfl (any_of HT_.out (by kernel_rfl)) (fun _ _ _ h => h) (Or.inl ⟨by rfl, ?_⟩) ?_ ?_
      rotate_left;(intro w';go_simp;with_reducible rfl);rotate_left;(simp only [Act.put, List.setIfInBounds_toArray, List.set_cons_zero, List.set_cons_succ, i64_w, i32_w];rfl)
      refine one_ (i := 13) (N := some 23) #[true,true,true,true,true,true,true,true,true,true,true,true,true,true,false,true,true,true,true,true,true,true,true,true,true,true,true,true,false,false,false] rfl rfl (one_of HT_.out (by kernel_rfl)) (by decide) (fun K hK => ?_)
      refine goes_ Try.func23 (by kernel_rfl) rfl #[.int .u64 (IntKind.u64.wrap (ji2))] (by rfl) rfl rfl (by (try simp only [List.map_toArray, List.map_cons, List.map_nil]); first | done | (simp only [hji2]; rfl) | rfl | (simp only [List.length_drop, List.length_take]; rfl)) ?_
      with_reducible refine (dominoref06_v.calls k (IntKind.u64.wrap (ji2)) t165 _ A8.out).mono ?_
      rintro e w17 ⟨rfl, hb⟩
      refine ⟨_, rfl, ?_⟩
      have n0_ := Aside0.mk (blk_below (g := gb161) (o := .cells #[.int .u64 a0_0, .int .u64 a0_1, .int .u64 a0_2, .int .u64 a0_3, .int .u64 a0_4, .int .u64 a0_5, .int .u64 a0_6, .int .u64 a0_7, .bool a0_8, .string a0_9, .string a0_10, .string a0_11, .slice (some ad162) l0_12.length c0_12] 42 (0, 0)) (by (with_reducible repeat (first | refine blk_drewN ?_ _ | refine blk_drew ?_ | refine blk_alloc ?_ _)); exact BK161.out) hb)
      have n1_ := Aside0.mk (below_step (by repeat (first | (with_reducible first | exact HB.out | apply below_alloc | apply pw_below_drewN | apply below_drew1 | refine below_set ?_ GE161.out) | exact HB.out)) hb)
      clear BK161
      clear HB
      have BK161 := n0_
      have HB := n1_
      clear n0_ n1_
      (try clear hb)
      (try clear hb2)
      (try clear hk)
      (try clear hi)
      refine hK.out _ _ ⟨(blk_cell BK161.out 0).trans rfl, (blk_cell BK161.out 1).trans rfl, (blk_cell BK161.out 2).trans rfl, (blk_cell BK161.out 3).trans rfl, (blk_cell BK161.out 4).trans rfl, (blk_cell BK161.out 5).trans rfl, (blk_cell BK161.out 6).trans rfl, (blk_cell BK161.out 7).trans rfl, (blk_cell BK161.out 8).trans rfl, (blk_cell BK161.out 9).trans rfl, (blk_cell BK161.out 10).trans rfl, (blk_cell BK161.out 11).trans rfl, (blk_cell BK161.out 12).trans rfl, (up_ HB.out hw162_0), (up_ HB.out hw162_1), (up_ HB.out hw166_0), (up_ HB.out hw166_1), (up_ HB.out hw167_0), (up_ HB.out hw167_1)⟩ (fun hHeld => ?_)
      clear hK K
      refine norm_ (a' := ?_) ?_ ?_
      rotate_left
      ·show Act.put _ (some 23) _ = _
       simp only [Act.put, List.setIfInBounds_toArray, List.set_cons_zero, List.set_cons_succ, i64_w, i32_w]
       rfl
      refine pure_ (i := 14) (N := some 24) (v := ?_) (a' := ?_) #[true,true,true,true,true,true,true,true,true,true,true,true,true,true,true,true,true,true,true,true,true,true,true,true,true,true,true,true,false,false,false] rfl rfl (any_of HT_.out (by kernel_rfl)) (fun _ _ _ h => h) (Or.inl ⟨by rfl, ?_⟩) ?_ ?_
      rotate_left;(intro w';go_simp;with_reducible rfl);rotate_left;(simp only [Act.put, List.setIfInBounds_toArray, List.set_cons_zero, List.set_cons_succ, i64_w, i32_w];rfl)
      refine one_ (i := 28) (N := some 38) #[true,true,true,true,true,true,true,true,true,true,true,true,true,true,true,true,true,true,true,true,true,true,true,true,true,true,true,true,true,false,false] rfl rfl (one_of HT_.out (by kernel_rfl)) (by decide) (fun K hK => ?_)
      refine goes_ Try.func23 (by kernel_rfl) rfl #[.int .u64 (IntKind.u64.wrap (((rd_T69 l0_12 (ji2)).f1) - ((rd_T69 l0_12 (ji2)).f0)))] (by rfl) rfl rfl (by (try simp only [List.map_toArray, List.map_cons, List.map_nil]); first | done | (simp only [hji2]; rfl) | rfl | (simp only [List.length_drop, List.length_take]; rfl)) ?_
      with_reducible refine (dominoref06_v.calls k (IntKind.u64.wrap (((rd_T69 l0_12 (ji2)).f1) - ((rd_T69 l0_12 (ji2)).f0))) t168 _ A10.out).mono ?_
      rintro e w18 ⟨rfl, hb⟩
      refine ⟨_, rfl, ?_⟩
      have n0_ := Aside0.mk (blk_below (g := gb161) (o := .cells #[.int .u64 a0_0, .int .u64 a0_1, .int .u64 a0_2, .int .u64 a0_3, .int .u64 a0_4, .int .u64 a0_5, .int .u64 a0_6, .int .u64 a0_7, .bool a0_8, .string a0_9, .string a0_10, .string a0_11, .slice (some ad162) l0_12.length c0_12] 42 (0, 0)) (by (with_reducible repeat (first | refine blk_drewN ?_ _ | refine blk_drew ?_ | refine blk_alloc ?_ _)); exact BK161.out) hb)
      have n1_ := Aside0.mk (below_step (by repeat (first | (with_reducible first | exact HB.out | apply below_alloc | apply pw_below_drewN | apply below_drew1 | refine below_set ?_ GE161.out) | exact HB.out)) hb)
      clear BK161
      clear HB
      have BK161 := n0_
      have HB := n1_
      clear n0_ n1_
      (try clear hb)
      (try clear hb2)
      (try clear hk)
      (try clear hi)
      refine hK.out _ _ ⟨(blk_cell BK161.out 0).trans rfl, (blk_cell BK161.out 1).trans rfl, (blk_cell BK161.out 2).trans rfl, (blk_cell BK161.out 3).trans rfl, (blk_cell BK161.out 4).trans rfl, (blk_cell BK161.out 5).trans rfl, (blk_cell BK161.out 6).trans rfl, (blk_cell BK161.out 7).trans rfl, (blk_cell BK161.out 8).trans rfl, (blk_cell BK161.out 9).trans rfl, (blk_cell BK161.out 10).trans rfl, (blk_cell BK161.out 11).trans rfl, (blk_cell BK161.out 12).trans rfl, (up_ HB.out hw162_0), (up_ HB.out hw162_1), (up_ HB.out hw166_0), (up_ HB.out hw166_1), (up_ HB.out hw167_0), (up_ HB.out hw167_1)⟩ (fun hHeld => ?_)
      clear hK K
      refine norm_ (a' := ?_) ?_ ?_
      rotate_left
      ·show Act.put _ (some 38) _ = _
       simp only [Act.put, List.setIfInBounds_toArray, List.set_cons_zero, List.set_cons_succ, i64_w, i32_w]
       rfl
      refine pure_ (i := 29) (N := some 39) (v := ?_) (a' := ?_) #[true,true,true,true,true,true,true,true,true,true,true,true,true,true,true,true,true,true,true,true,true,true,true,true,true,true,true,true,true,true,false] rfl rfl (any_of HT_.out (by kernel_rfl)) (fun _ _ _ h => h) (Or.inl ⟨by rfl, ?_⟩) ?_ ?_
      rotate_left;(intro w';go_simp;with_reducible rfl);rotate_left;(simp only [Act.put, List.setIfInBounds_toArray, List.set_cons_zero, List.set_cons_succ, i64_w, i32_w];rfl)
      refine pure_ (i := 30) (N := some 4) (v := ?_) (a' := ?_) #[true,true,true,true,true,true,true,true,true,true,true,true,true,true,true,true,true,true,true,true,true,true,true,true,true,true,true,true,true,true,true] rfl rfl (any_of HT_.out (by kernel_rfl)) (fun _ _ _ h => h) (Or.inl ⟨by rfl, ?_⟩) ?_ ?_
      rotate_left;(intro w';go_simp;with_reducible rfl);rotate_left;(simp only [Act.put, List.setIfInBounds_toArray, List.set_cons_zero, List.set_cons_succ, i64_w, i32_w];rfl)
      refine done_ (done_of HT_.out (by kernel_rfl)) ?_
      try go_wp2
      go_loopg [4, 5] k (fun kq v4 v5 w' => ∃ (x4_1 : ByteArray) (x5_1 : Int), v4 = .string x4_1 ∧ v5 = .int .i64 x5_1 ∧ Aside0 (dominoref06_ack.l0 kq x4_1 x5_1 a0_0 a0_1 a0_2 a0_3 a0_4 a0_5 a0_6 a0_7 a0_8 a0_9 a0_10 a0_11 l0_12 = some r) ∧ Aside0 (kq ≤ k) ∧ Aside0 (w'.heap[gb161]? = some (.cells #[.int .u64 a0_0, .int .u64 a0_1, .int .u64 a0_2, .int .u64 a0_3, .int .u64 a0_4, .int .u64 a0_5, .int .u64 a0_6, .int .u64 a0_7, .bool a0_8, .string a0_9, .string a0_10, .string a0_11, (.slice (some ad162) l0_12.length c0_12)] 42 (0, 0))) ∧ Aside0 (Below w.heap.size w w'))
      case atStart => exact ⟨(((t163 ++ t164) ++ t165) ++ t168), (wrap64 ((ji2) - 1)), (by first | rfl | (simp; done) | (simp [*]; done)), (by first | rfl | (simp; done) | (simp only [← hji2] <;> (first | rfl | simp)) | (simp [*]; done)), H', ⟨Nat.le_refl _⟩, ⟨by (with_reducible repeat (first | refine blk_drewN ?_ _ | refine blk_drew ?_ | refine blk_alloc ?_ _)); exact BK161.out⟩, ⟨by repeat (first | (with_reducible first | exact HB.out | apply below_alloc | apply pw_below_drewN | apply below_drew1 | refine below_set ?_ GE161.out) | exact HB.out)⟩⟩
      case round =>
       clear H'
       try clear c1
       try clear p1
       try clear q1
       try clear hx1
       try clear c2
       try clear p2
       try clear c3
       try clear c3b0
       try clear c4
       try clear c4b0
       try clear p6
       try clear c7
       try clear c7b0
       try clear c7b1
       try clear c7b2
       try clear c9
       try clear c9b0
       try clear c9b1
       try clear c9b2
       try clear c11
       try clear c11b0
       try clear c11b1
       try clear c11b2
       try clear p16
       try clear q16
       try clear hx16
       try clear hcz13_0
       try clear hcz13_1
       try clear hcz13_10
       try clear hcz13_11
       try clear hcz13_12
       try clear hcz13_2
       try clear hcz13_3
       try clear hcz13_4
       try clear hcz13_5
       try clear hcz13_6
       try clear hcz13_7
       try clear hcz13_8
       try clear hcz13_9
       try clear hfz13_0
       try clear hfz13_1
       try clear hfz13_10
       try clear hfz13_11
       try clear hfz13_12
       try clear hfz13_2
       try clear hfz13_3
       try clear hfz13_4
       try clear hfz13_5
       try clear hfz13_6
       try clear hfz13_7
       try clear hfz13_8
       try clear hfz13_9
       try clear hx162_0
       try clear hx162_1
       try clear hx166_0
       try clear hx166_1
       try clear hx167_0
       try clear hx167_1
       try clear p162
       try clear p166
       try clear p167
       try clear q162
       try clear q166
       try clear q167
       obtain ⟨x4_1, x5_1, rfl, rfl, HA, HK1, BK161, HB⟩ := hrel
       cases gk with
       | zero => exact absurd HA.out (by simp [dominoref06_ack.l0])
       | succ k1 =>
        have H := HA.out
        clear HA
        simp only [dominoref06_ack.l0] at H
        by_cases c19 : x5_1 ≥ 0
        ·rw [if_pos c19] at H
         have c19b0 : decide (0 ≤ x5_1) = true := decide_eq_true c19
         clear c19
         obtain ⟨ji20, hji20⟩ : ∃ j_ : Int, (wrap64 (x5_1 + 1)) = j_ := ⟨_, rfl⟩
         replace H : (if 0 ≤ (ji20) then (if (ji20) < (l0_12.length : Int) then (if 0 ≤ x5_1 then (if x5_1 < (l0_12.length : Int) then ((dominoref06_v.f k1 (IntKind.u64.wrap ((IntKind.u64.wrap (((rd_T69 l0_12 (ji20)).f0) - ((rd_T69 l0_12 x5_1).f1))) - 2))).bind fun t171 => (if x4_1.size + t171.size ≤ 9223372036854775807 then ((dominoref06_v.f k1 (IntKind.u64.wrap (((rd_T69 l0_12 x5_1).f1) - ((rd_T69 l0_12 x5_1).f0)))).bind fun t174 => (if (x4_1 ++ t171).size + t174.size ≤ 9223372036854775807 then (dominoref06_ack.l0 k1 ((x4_1 ++ t171) ++ t174) (wrap64 (x5_1 - 1)) a0_0 a0_1 a0_2 a0_3 a0_4 a0_5 a0_6 a0_7 a0_8 a0_9 a0_10 a0_11 l0_12) else (none))) else (none))) else (none)) else (none)) else (none)) else (none)) = some r := by first | (rw [hji20] at H; exact H) | (simp only [hji20] at H ⊢; exact H)
         have hji20w : (IntKind.i64.wrap (x5_1 + 1)) = ji20 := (i64_w _).trans hji20
         by_cases c21 : 0 ≤ (ji20)
         ·rw [if_pos c21] at H
          have c21b0 : decide (0 ≤ (ji20)) = true := decide_eq_true c21
          clear c21
          by_cases c22 : (ji20) < (l0_12.length : Int)
          ·rw [if_pos c22] at H
           have c22b0 : decide ((ji20) < (l0_12.length : Int)) = true := decide_eq_true c22
           clear c22
           by_cases c23 : 0 ≤ x5_1
           ·rw [if_pos c23] at H
            have c23b0 : decide (0 ≤ x5_1) = true := decide_eq_true c23
            clear c23
            by_cases c24 : x5_1 < (l0_12.length : Int)
            ·rw [if_pos c24] at H
             have c24b0 : decide (x5_1 < (l0_12.length : Int)) = true := decide_eq_true c24
             clear c24
             replace H := Option.bind_eq_some_iff.mp H
             obtain ⟨t171, A250, H⟩ := H
             replace H : (if x4_1.size + t171.size ≤ 9223372036854775807 then ((dominoref06_v.f k1 (IntKind.u64.wrap (((rd_T69 l0_12 x5_1).f1) - ((rd_T69 l0_12 x5_1).f0)))).bind fun t174 => (if (x4_1 ++ t171).size + t174.size ≤ 9223372036854775807 then (dominoref06_ack.l0 k1 ((x4_1 ++ t171) ++ t174) (wrap64 (x5_1 - 1)) a0_0 a0_1 a0_2 a0_3 a0_4 a0_5 a0_6 a0_7 a0_8 a0_9 a0_10 a0_11 l0_12) else (none))) else (none)) = some r := H
             have A25 := Aside0.mk A250
             clear A250
             by_cases c26 : x4_1.size + t171.size ≤ 9223372036854775807
             ·rw [if_pos c26] at H
              have c26b0 := eq_true c26
              have c26b1 : decide (x4_1.size + t171.size ≤ 9223372036854775807) = true := decide_eq_true c26
              try have c26b2 : (9223372036854775807 < x4_1.size + t171.size) = False := eq_false (Nat.not_lt.2 c26)
              replace H := Option.bind_eq_some_iff.mp H
              obtain ⟨t174, A270, H⟩ := H
              replace H : (if (x4_1 ++ t171).size + t174.size ≤ 9223372036854775807 then (dominoref06_ack.l0 k1 ((x4_1 ++ t171) ++ t174) (wrap64 (x5_1 - 1)) a0_0 a0_1 a0_2 a0_3 a0_4 a0_5 a0_6 a0_7 a0_8 a0_9 a0_10 a0_11 l0_12) else (none)) = some r := H
              have A27 := Aside0.mk A270
              clear A270
              by_cases c28 : (x4_1 ++ t171).size + t174.size ≤ 9223372036854775807
              ·rw [if_pos c28] at H
               have c28b0 := eq_true c28
               have c28b1 : decide ((x4_1 ++ t171).size + t174.size ≤ 9223372036854775807) = true := decide_eq_true c28
               try have c28b2 : (9223372036854775807 < (x4_1 ++ t171).size + t174.size) = False := eq_false (Nat.not_lt.2 c28)
               (try (have c28b3 := c28; simp [ByteArray.size_append] at c28b3; have c28b4 := eq_false (Nat.not_lt.2 c28b3); have c28b5 := eq_true c28b3; clear c28b3))
               have H' := Aside0.mk H
               clear H
               try go_wp2
               have n0_ := Aside0.mk (blk_drew BK161.out)
               have n1_ := Aside0.mk (below_drew1 HB.out)
               clear BK161
               clear HB
               have BK161 := n0_
               have HB := n1_
               clear n0_ n1_
               have p169 : 0 ≤ ((ji20) : Int) := of_decide_eq_true (by first | (with_reducible assumption) | assumption)
               have q169 : (ji20) < (l0_12.length : Int) := of_decide_eq_true (by first | (with_reducible assumption) | assumption)
               obtain ⟨ad169, e169, hx169_0, hx169_1⟩ := at_T69 HR0_12.out (ji20) p169 q169
               have hw169_1 := hx169_1
               have hw169_0 := hx169_0
               obtain rfl : ad162 = ad169 := (by injection e169)
               replace hx169_0 := (HB.out.cell (World.block_lt_of_cell? w _ hx169_0)).trans hx169_0
               replace hx169_1 := (HB.out.cell (World.block_lt_of_cell? w _ hx169_1)).trans hx169_1
               replace p169 := eq_true p169
               replace q169 := eq_true q169
               have p170 : 0 ≤ (x5_1 : Int) := of_decide_eq_true (by first | (with_reducible assumption) | assumption)
               have q170 : x5_1 < (l0_12.length : Int) := of_decide_eq_true (by first | (with_reducible assumption) | assumption)
               obtain ⟨ad170, e170, hx170_0, hx170_1⟩ := at_T69 HR0_12.out x5_1 p170 q170
               have hw170_1 := hx170_1
               have hw170_0 := hx170_0
               obtain rfl : ad162 = ad170 := (by injection e170)
               replace hx170_0 := (HB.out.cell (World.block_lt_of_cell? w _ hx170_0)).trans hx170_0
               replace hx170_1 := (HB.out.cell (World.block_lt_of_cell? w _ hx170_1)).trans hx170_1
               replace p170 := eq_true p170
               replace q170 := eq_true q170
               have p172 : 0 ≤ (x5_1 : Int) := of_decide_eq_true (by first | (with_reducible assumption) | assumption)
               have q172 : x5_1 < (l0_12.length : Int) := of_decide_eq_true (by first | (with_reducible assumption) | assumption)
               obtain ⟨ad172, e172, hx172_0, hx172_1⟩ := at_T69 HR0_12.out x5_1 p172 q172
               have hw172_1 := hx172_1
               have hw172_0 := hx172_0
               obtain rfl : ad162 = ad172 := (by injection e172)
               replace hx172_0 := (HB.out.cell (World.block_lt_of_cell? w _ hx172_0)).trans hx172_0
               replace hx172_1 := (HB.out.cell (World.block_lt_of_cell? w _ hx172_1)).trans hx172_1
               replace p172 := eq_true p172
               replace q172 := eq_true q172
               have p173 : 0 ≤ (x5_1 : Int) := of_decide_eq_true (by first | (with_reducible assumption) | assumption)
               have q173 : x5_1 < (l0_12.length : Int) := of_decide_eq_true (by first | (with_reducible assumption) | assumption)
               obtain ⟨ad173, e173, hx173_0, hx173_1⟩ := at_T69 HR0_12.out x5_1 p173 q173
               have hw173_1 := hx173_1
               have hw173_0 := hx173_0
               obtain rfl : ad162 = ad173 := (by injection e173)
               replace hx173_0 := (HB.out.cell (World.block_lt_of_cell? w _ hx173_0)).trans hx173_0
               replace hx173_1 := (HB.out.cell (World.block_lt_of_cell? w _ hx173_1)).trans hx173_1
               replace p173 := eq_true p173
               replace q173 := eq_true q173
               refine start_ (n := 34) (S := fun w' => w'.cell? ⟨gb161, 0, none⟩ = some (.int .u64 a0_0) ∧ w'.cell? ⟨gb161, 1, none⟩ = some (.int .u64 a0_1) ∧ w'.cell? ⟨gb161, 2, none⟩ = some (.int .u64 a0_2) ∧ w'.cell? ⟨gb161, 3, none⟩ = some (.int .u64 a0_3) ∧ w'.cell? ⟨gb161, 4, none⟩ = some (.int .u64 a0_4) ∧ w'.cell? ⟨gb161, 5, none⟩ = some (.int .u64 a0_5) ∧ w'.cell? ⟨gb161, 6, none⟩ = some (.int .u64 a0_6) ∧ w'.cell? ⟨gb161, 7, none⟩ = some (.int .u64 a0_7) ∧ w'.cell? ⟨gb161, 8, none⟩ = some (.bool a0_8) ∧ w'.cell? ⟨gb161, 9, none⟩ = some (.string a0_9) ∧ w'.cell? ⟨gb161, 10, none⟩ = some (.string a0_10) ∧ w'.cell? ⟨gb161, 11, none⟩ = some (.string a0_11) ∧ w'.cell? ⟨gb161, 12, none⟩ = some (.slice (some ad162) l0_12.length c0_12) ∧ w'.cell? (ad162.add (((ji20)).toNat * 2)) = some (.int .u64 ((rd_T69 l0_12 (ji20)).f0)) ∧ w'.cell? ⟨(ad162.add (((ji20)).toNat * 2)).block, (ad162.add (((ji20)).toNat * 2)).off + 1, none⟩ = some (.int .u64 ((rd_T69 l0_12 (ji20)).f1)) ∧ w'.cell? (ad162.add ((x5_1).toNat * 2)) = some (.int .u64 ((rd_T69 l0_12 x5_1).f0)) ∧ w'.cell? ⟨(ad162.add ((x5_1).toNat * 2)).block, (ad162.add ((x5_1).toNat * 2)).off + 1, none⟩ = some (.int .u64 ((rd_T69 l0_12 x5_1).f1)) ∧ w'.cell? (ad162.add ((x5_1).toNat * 2)) = some (.int .u64 ((rd_T69 l0_12 x5_1).f0)) ∧ w'.cell? ⟨(ad162.add ((x5_1).toNat * 2)).block, (ad162.add ((x5_1).toNat * 2)).off + 1, none⟩ = some (.int .u64 ((rd_T69 l0_12 x5_1).f1)) ∧ w'.cell? (ad162.add ((x5_1).toNat * 2)) = some (.int .u64 ((rd_T69 l0_12 x5_1).f0)) ∧ w'.cell? ⟨(ad162.add ((x5_1).toNat * 2)).block, (ad162.add ((x5_1).toNat * 2)).off + 1, none⟩ = some (.int .u64 ((rd_T69 l0_12 x5_1).f1))) (ds := []) #[false,false,false,false,false,false,false,false,false,false,false,false,false,false,false,false,false,false,false,false,false,false,false,false,false,false,false,false,false,false,false,false,false,false] (by kernel_rfl) rfl rfl ⟨(blk_cell BK161.out 0).trans rfl, (blk_cell BK161.out 1).trans rfl, (blk_cell BK161.out 2).trans rfl, (blk_cell BK161.out 3).trans rfl, (blk_cell BK161.out 4).trans rfl, (blk_cell BK161.out 5).trans rfl, (blk_cell BK161.out 6).trans rfl, (blk_cell BK161.out 7).trans rfl, (blk_cell BK161.out 8).trans rfl, (blk_cell BK161.out 9).trans rfl, (blk_cell BK161.out 10).trans rfl, (blk_cell BK161.out 11).trans rfl, (blk_cell BK161.out 12).trans rfl, (up_ HB.out hw169_0), (up_ HB.out hw169_1), (up_ HB.out hw170_0), (up_ HB.out hw170_1), (up_ HB.out hw172_0), (up_ HB.out hw172_1), (up_ HB.out hw173_0), (up_ HB.out hw173_1)⟩ (fun hHeld => ?_); refine with_tabW dominoref06_ack.tab6 dominoref06_ack.bits6 (fun HT_ HW_ => ?_)
               generalize wr.drew = w29 at BK161 HB hx169_0 hx169_1 hx170_0 hx170_1 hx172_0 hx172_1 hx173_0 hx173_1 hHeld ⊢
               refine pure_ (i := 0) (N := some 46) (v := ?_) (a' := ?_) #[true,false,false,false,false,false,false,false,false,false,false,false,false,false,false,false,false,false,false,false,false,false,false,false,false,false,false,false,false,false,false,false,false,false] rfl rfl (any_of HT_.out (by kernel_rfl)) (fun _ _ _ h => h) (Or.inl ⟨by rfl, ?_⟩) ?_ ?_
               rotate_left;(intro w';go_simp;with_reducible rfl);rotate_left;(simp only [Act.put, List.setIfInBounds_toArray, List.set_cons_zero, List.set_cons_succ, i64_w, i32_w];rfl)
               refine pure_ (i := 1) (N := some 47) (v := ?_) (a' := ?_) #[true,true,false,false,false,false,false,false,false,false,false,false,false,false,false,false,false,false,false,false,false,false,false,false,false,false,false,false,false,false,false,false,false,false] rfl rfl (any_of HT_.out (by kernel_rfl)) (fun _ _ _ h => h) (Or.inl ⟨by rfl, ?_⟩) ?_ ?_
               rotate_left;(intro w';go_simp;with_reducible rfl);rotate_left;(simp only [Act.put, List.setIfInBounds_toArray, List.set_cons_zero, List.set_cons_succ, i64_w, i32_w];rfl)
               refine pure_ (i := 3) (N := some 49) (v := ?_) (a' := ?_) #[true,true,false,true,false,false,false,false,false,false,false,false,false,false,false,false,false,false,false,false,false,false,false,false,false,false,false,false,false,false,false,false,false,false] rfl rfl (any_of HT_.out (by kernel_rfl)) (fun _ _ _ h => h) (Or.inl ⟨by rfl, ?_⟩) ?_ ?_
               rotate_left;(intro w';go_simp;with_reducible rfl);rotate_left;(simp only [Act.put, List.setIfInBounds_toArray, List.set_cons_zero, List.set_cons_succ, i64_w, i32_w];rfl)
               refine pure_ (i := 4) (N := some 50) (v := ?_) (a' := ?_) #[true,true,false,true,true,false,false,false,false,false,false,false,false,false,false,false,false,false,false,false,false,false,false,false,false,false,false,false,false,false,false,false,false,false] rfl rfl (any_of HT_.out (by kernel_rfl)) (fun _ _ _ h => h) (Or.inl ⟨by rfl, ?_⟩) ?_ ?_
               rotate_left;(intro w';go_simp;with_reducible rfl);rotate_left;(simp only [Act.put, List.setIfInBounds_toArray, List.set_cons_zero, List.set_cons_succ, i64_w, i32_w];rfl)
               refine pure_ (i := 8) (N := some 54) (v := ?_) (a' := ?_) #[true,true,false,true,true,false,false,false,true,false,false,false,false,false,false,false,false,false,false,false,false,false,false,false,false,false,false,false,false,false,false,false,false,false] rfl rfl (any_of HT_.out (by kernel_rfl)) (fun _ _ _ h => h) (Or.inl ⟨by rfl, ?_⟩) ?_ ?_
               rotate_left;(intro w';go_simp;with_reducible rfl);rotate_left;(simp only [Act.put, List.setIfInBounds_toArray, List.set_cons_zero, List.set_cons_succ, i64_w, i32_w];rfl)
               refine pure_ (i := 10) (N := some 56) (v := ?_) (a' := ?_) #[true,true,false,true,true,false,false,false,true,false,true,false,false,false,false,false,false,false,false,false,false,false,false,false,false,false,false,false,false,false,false,false,false,false] rfl rfl (any_of HT_.out (by kernel_rfl)) (fun _ _ _ h => h) (Or.inl ⟨by rfl, ?_⟩) ?_ ?_
               rotate_left;(intro w';go_simp;with_reducible rfl);rotate_left;(simp only [Act.put, List.setIfInBounds_toArray, List.set_cons_zero, List.set_cons_succ, i64_w, i32_w];rfl)
               refine pure_ (i := 18) (N := some 64) (v := ?_) (a' := ?_) #[true,true,false,true,true,false,false,false,true,false,true,false,false,false,false,false,false,false,true,false,false,false,false,false,false,false,false,false,false,false,false,false,false,false] rfl rfl (any_of HT_.out (by kernel_rfl)) (fun _ _ _ h => h) (Or.inl ⟨by rfl, ?_⟩) ?_ ?_
               rotate_left;(intro w';go_simp;with_reducible rfl);rotate_left;(simp only [Act.put, List.setIfInBounds_toArray, List.set_cons_zero, List.set_cons_succ, i64_w, i32_w];rfl)
               refine pure_ (i := 20) (N := some 66) (v := ?_) (a' := ?_) #[true,true,false,true,true,false,false,false,true,false,true,false,false,false,false,false,false,false,true,false,true,false,false,false,false,false,false,false,false,false,false,false,false,false] rfl rfl (any_of HT_.out (by kernel_rfl)) (fun _ _ _ h => h) (Or.inl ⟨by rfl, ?_⟩) ?_ ?_
               rotate_left;(intro w';go_simp;with_reducible rfl);rotate_left;(simp only [Act.put, List.setIfInBounds_toArray, List.set_cons_zero, List.set_cons_succ, i64_w, i32_w];rfl)
               refine pure_ (i := 24) (N := some 70) (v := ?_) (a' := ?_) #[true,true,false,true,true,false,false,false,true,false,true,false,false,false,false,false,false,false,true,false,true,false,false,false,true,false,false,false,false,false,false,false,false,false] rfl rfl (any_of HT_.out (by kernel_rfl)) (fun _ _ _ h => h) (Or.inl ⟨by rfl, ?_⟩) ?_ ?_
               rotate_left;(intro w';go_simp;with_reducible rfl);rotate_left;(simp only [Act.put, List.setIfInBounds_toArray, List.set_cons_zero, List.set_cons_succ, i64_w, i32_w];rfl)
               refine pure_ (i := 26) (N := some 72) (v := ?_) (a' := ?_) #[true,true,false,true,true,false,false,false,true,false,true,false,false,false,false,false,false,false,true,false,true,false,false,false,true,false,true,false,false,false,false,false,false,false] rfl rfl (any_of HT_.out (by kernel_rfl)) (fun _ _ _ h => h) (Or.inl ⟨by rfl, ?_⟩) ?_ ?_
               rotate_left;(intro w';go_simp;with_reducible rfl);rotate_left;(simp only [Act.put, List.setIfInBounds_toArray, List.set_cons_zero, List.set_cons_succ, i64_w, i32_w];rfl)
               refine take_ (i := 2) (N := some 48) (v := ?_) (a' := ?_) #[true,true,true,true,true,false,false,false,true,false,true,false,false,false,false,false,false,false,true,false,true,false,false,false,true,false,true,false,false,false,false,false,false,false] rfl rfl (take_ofW HT_.out HW_.out (by kernel_rfl)) (fun _ _ _ h => h) (Or.inl ⟨by rfl, ?_⟩) hHeld ?_ ?_
               rotate_left
               ·rintro w' ⟨s0, s1, s2, s3, s4, s5, s6, s7, s8, s9, s10, s11, s12, s13, s14, s15, s16, s17, s18, s19, s20⟩
                go_simp
                with_reducible rfl
               rotate_left
               ·simp only [Act.put, List.setIfInBounds_toArray, List.set_cons_zero, List.set_cons_succ, i64_w, i32_w]
                rfl
               refine pure_ (i := 5) (N := some 51) (v := ?_) (a' := ?_) #[true,true,true,true,true,true,false,false,true,false,true,false,false,false,false,false,false,false,true,false,true,false,false,false,true,false,true,false,false,false,false,false,false,false] rfl rfl (any_of HT_.out (by kernel_rfl)) (fun _ _ _ h => h) (Or.inl ⟨by rfl, ?_⟩) ?_ ?_
               rotate_left;(intro w';go_simp;with_reducible rfl);rotate_left;(simp only [Act.put, List.setIfInBounds_toArray, List.set_cons_zero, List.set_cons_succ, i64_w, i32_w];rfl)
               refine pure_ (i := 6) (N := some 52) (v := ?_) (a' := ?_) #[true,true,true,true,true,true,true,false,true,false,true,false,false,false,false,false,false,false,true,false,true,false,false,false,true,false,true,false,false,false,false,false,false,false] rfl rfl (any_of HT_.out (by kernel_rfl)) (fun _ _ _ h => h) (Or.inl ⟨by rfl, ?_⟩) ?_ ?_
               rotate_left;(intro w';go_simp;with_reducible rfl);rotate_left;(simp only [Act.put, List.setIfInBounds_toArray, List.set_cons_zero, List.set_cons_succ, i64_w, i32_w];rfl)
               refine take_ (i := 7) (N := some 53) (v := ?_) (a' := ?_) #[true,true,true,true,true,true,true,true,true,false,true,false,false,false,false,false,false,false,true,false,true,false,false,false,true,false,true,false,false,false,false,false,false,false] rfl rfl (take_ofW HT_.out HW_.out (by kernel_rfl)) (fun _ _ _ h => h) (Or.inl ⟨by rfl, ?_⟩) hHeld ?_ ?_
               rotate_left
               ·rintro w' ⟨s0, s1, s2, s3, s4, s5, s6, s7, s8, s9, s10, s11, s12, s13, s14, s15, s16, s17, s18, s19, s20⟩
                go_simp
                with_reducible rfl
               rotate_left
               ·simp only [Act.put, List.setIfInBounds_toArray, List.set_cons_zero, List.set_cons_succ, i64_w, i32_w]
                rfl
               refine take_ (i := 9) (N := some 55) (v := ?_) (a' := ?_) #[true,true,true,true,true,true,true,true,true,true,true,false,false,false,false,false,false,false,true,false,true,false,false,false,true,false,true,false,false,false,false,false,false,false] rfl rfl (take_ofW HT_.out HW_.out (by kernel_rfl)) (fun _ _ _ h => h) (Or.inl ⟨by rfl, ?_⟩) hHeld ?_ ?_
               rotate_left
               ·rintro w' ⟨s0, s1, s2, s3, s4, s5, s6, s7, s8, s9, s10, s11, s12, s13, s14, s15, s16, s17, s18, s19, s20⟩
                go_simp
                with_reducible rfl
               rotate_left
               ·simp only [Act.put, List.setIfInBounds_toArray, List.set_cons_zero, List.set_cons_succ, i64_w, i32_w]
                rfl
               refine pure_ (i := 11) (N := some 57) (v := ?_) (a' := ?_) #[true,true,true,true,true,true,true,true,true,true,true,true,false,false,false,false,false,false,true,false,true,false,false,false,true,false,true,false,false,false,false,false,false,false] rfl rfl (any_of HT_.out (by kernel_rfl)) (fun _ _ _ h => h) (Or.inl ⟨by rfl, ?_⟩) ?_ ?_
               rotate_left;(intro w';go_simp;with_reducible rfl);rotate_left;(simp only [Act.put, List.setIfInBounds_toArray, List.set_cons_zero, List.set_cons_succ, i64_w, i32_w];rfl)
               refine pure_ (i := 12) (N := some 58) (v := ?_) (a' := ?_) #[true,true,true,true,true,true,true,true,true,true,true,true,true,false,false,false,false,false,true,false,true,false,false,false,true,false,true,false,false,false,false,false,false,false] rfl rfl (any_of HT_.out (by kernel_rfl)) (fun _ _ _ h => h) (Or.inl ⟨by rfl, ?_⟩) ?_ ?_
               rotate_left;(intro w';go_simp;with_reducible rfl);rotate_left;(simp only [Act.put, List.setIfInBounds_toArray, List.set_cons_zero, List.set_cons_succ, i64_w, i32_w];rfl)
               refine take_ (i := 13) (N := some 59) (v := ?_) (a' := ?_) #[true,true,true,true,true,true,true,true,true,true,true,true,true,true,false,false,false,false,true,false,true,false,false,false,true,false,true,false,false,false,false,false,false,false] rfl rfl (take_ofW HT_.out HW_.out (by kernel_rfl)) (fun _ _ _ h => h) (Or.inl ⟨by rfl, ?_⟩) hHeld ?_ ?_
               rotate_left
               ·rintro w' ⟨s0, s1, s2, s3, s4, s5, s6, s7, s8, s9, s10, s11, s12, s13, s14, s15, s16, s17, s18, s19, s20⟩
                go_simp
                with_reducible rfl
               rotate_left
               ·simp only [Act.put, List.setIfInBounds_toArray, List.set_cons_zero, List.set_cons_succ, i64_w, i32_w]
                rfl
               refine pure_ (i := 14) (N := some 60) (v := ?_) (a' := ?_) #[true,true,true,true,true,true,true,true,true,true,true,true,true,true,true,false,false,false,true,false,true,false,false,false,true,false,true,false,false,false,false,false,false,false] rfl rfl (any_of HT_.out (by kernel_rfl)) (fun _ _ _ h => h) (Or.inl ⟨by rfl, ?_⟩) ?_ ?_
               rotate_left;(intro w';go_simp;with_reducible rfl);rotate_left;(simp only [Act.put, List.setIfInBounds_toArray, List.set_cons_zero, List.set_cons_succ, i64_w, i32_w];rfl)
               refine pure_ (i := 15) (N := some 61) (v := ?_) (a' := ?_) #[true,true,true,true,true,true,true,true,true,true,true,true,true,true,true,true,false,false,true,false,true,false,false,false,true,false,true,false,false,false,false,false,false,false] rfl rfl (any_of HT_.out (by kernel_rfl)) (fun _ _ _ h => h) (Or.inl ⟨by rfl, ?_⟩) ?_ ?_
               rotate_left;(intro w';go_simp;with_reducible rfl);rotate_left;(simp only [Act.put, List.setIfInBounds_toArray, List.set_cons_zero, List.set_cons_succ, i64_w, i32_w];rfl)
               refine take_ (i := 19) (N := some 65) (v := ?_) (a' := ?_) #[true,true,true,true,true,true,true,true,true,true,true,true,true,true,true,true,false,false,true,true,true,false,false,false,true,false,true,false,false,false,false,false,false,false] rfl rfl (take_ofW HT_.out HW_.out (by kernel_rfl)) (fun _ _ _ h => h) (Or.inl ⟨by rfl, ?_⟩) hHeld ?_ ?_
               rotate_left
               ·rintro w' ⟨s0, s1, s2, s3, s4, s5, s6, s7, s8, s9, s10, s11, s12, s13, s14, s15, s16, s17, s18, s19, s20⟩
                go_simp
                with_reducible rfl
               rotate_left
               ·simp only [Act.put, List.setIfInBounds_toArray, List.set_cons_zero, List.set_cons_succ, i64_w, i32_w]
                rfl
               refine pure_ (i := 21) (N := some 67) (v := ?_) (a' := ?_) #[true,true,true,true,true,true,true,true,true,true,true,true,true,true,true,true,false,false,true,true,true,true,false,false,true,false,true,false,false,false,false,false,false,false] rfl rfl (any_of HT_.out (by kernel_rfl)) (fun _ _ _ h => h) (Or.inl ⟨by rfl, ?_⟩) ?_ ?_
               rotate_left;(intro w';go_simp;with_reducible rfl);rotate_left;(simp only [Act.put, List.setIfInBounds_toArray, List.set_cons_zero, List.set_cons_succ, i64_w, i32_w];rfl)
               refine pure_ (i := 22) (N := some 68) (v := ?_) (a' := ?_) #[true,true,true,true,true,true,true,true,true,true,true,true,true,true,true,true,false,false,true,true,true,true,true,false,true,false,true,false,false,false,false,false,false,false] rfl rfl (any_of HT_.out (by kernel_rfl)) (fun _ _ _ h => h) (Or.inl ⟨by rfl, ?_⟩) ?_ ?_
               rotate_left;(intro w';go_simp;with_reducible rfl);rotate_left;(simp only [Act.put, List.setIfInBounds_toArray, List.set_cons_zero, List.set_cons_succ, i64_w, i32_w];rfl)
               refine take_ (i := 23) (N := some 69) (v := ?_) (a' := ?_) #[true,true,true,true,true,true,true,true,true,true,true,true,true,true,true,true,false,false,true,true,true,true,true,true,true,false,true,false,false,false,false,false,false,false] rfl rfl (take_ofW HT_.out HW_.out (by kernel_rfl)) (fun _ _ _ h => h) (Or.inl ⟨by rfl, ?_⟩) hHeld ?_ ?_
               rotate_left
               ·rintro w' ⟨s0, s1, s2, s3, s4, s5, s6, s7, s8, s9, s10, s11, s12, s13, s14, s15, s16, s17, s18, s19, s20⟩
                go_simp
                with_reducible rfl
               rotate_left
               ·simp only [Act.put, List.setIfInBounds_toArray, List.set_cons_zero, List.set_cons_succ, i64_w, i32_w]
                rfl
               refine take_ (i := 25) (N := some 71) (v := ?_) (a' := ?_) #[true,true,true,true,true,true,true,true,true,true,true,true,true,true,true,true,false,false,true,true,true,true,true,true,true,true,true,false,false,false,false,false,false,false] rfl rfl (take_ofW HT_.out HW_.out (by kernel_rfl)) (fun _ _ _ h => h) (Or.inl ⟨by rfl, ?_⟩) hHeld ?_ ?_
               rotate_left
               ·rintro w' ⟨s0, s1, s2, s3, s4, s5, s6, s7, s8, s9, s10, s11, s12, s13, s14, s15, s16, s17, s18, s19, s20⟩
                go_simp
                with_reducible rfl
               rotate_left
               ·simp only [Act.put, List.setIfInBounds_toArray, List.set_cons_zero, List.set_cons_succ, i64_w, i32_w]
                rfl
               refine pure_ (i := 27) (N := some 73) (v := ?_) (a' := ?_) #[true,true,true,true,true,true,true,true,true,true,true,true,true,true,true,true,false,false,true,true,true,true,true,true,true,true,true,true,false,false,false,false,false,false] rfl rfl (any_of HT_.out (by kernel_rfl)) (fun _ _ _ h => h) (Or.inl ⟨by rfl, ?_⟩) ?_ ?_
               rotate_left;(intro w';go_simp;with_reducible rfl);rotate_left;(simp only [Act.put, List.setIfInBounds_toArray, List.set_cons_zero, List.set_cons_succ, i64_w, i32_w];rfl)
               refine pure_ (i := 28) (N := some 74) (v := ?_) (a' := ?_) #[true,true,true,true,true,true,true,true,true,true,true,true,true,true,true,true,false,false,true,true,true,true,true,true,true,true,true,true,true,false,false,false,false,false] rfl rfl (any_of HT_.out (by kernel_rfl)) (fun _ _ _ h => h) (Or.inl ⟨by rfl, ?_⟩) ?_ ?_
               rotate_left;(intro w';go_simp;with_reducible rfl);rotate_left;(simp only [Act.put, List.setIfInBounds_toArray, List.set_cons_zero, List.set_cons_succ, i64_w, i32_w];rfl)
               refine take_ (i := 29) (N := some 75) (v := ?_) (a' := ?_) #[true,true,true,true,true,true,true,true,true,true,true,true,true,true,true,true,false,false,true,true,true,true,true,true,true,true,true,true,true,true,false,false,false,false] rfl rfl (take_ofW HT_.out HW_.out (by kernel_rfl)) (fun _ _ _ h => h) (Or.inl ⟨by rfl, ?_⟩) hHeld ?_ ?_
               rotate_left
               ·rintro w' ⟨s0, s1, s2, s3, s4, s5, s6, s7, s8, s9, s10, s11, s12, s13, s14, s15, s16, s17, s18, s19, s20⟩
                go_simp
                with_reducible rfl
               rotate_left
               ·simp only [Act.put, List.setIfInBounds_toArray, List.set_cons_zero, List.set_cons_succ, i64_w, i32_w]
                rfl
               refine pure_ (i := 30) (N := some 76) (v := ?_) (a' := ?_) #[true,true,true,true,true,true,true,true,true,true,true,true,true,true,true,true,false,false,true,true,true,true,true,true,true,true,true,true,true,true,true,false,false,false] rfl rfl (any_of HT_.out (by kernel_rfl)) (fun _ _ _ h => h) (Or.inl ⟨by rfl, ?_⟩) ?_ ?_
               rotate_left;(intro w';go_simp;with_reducible rfl);rotate_left;(simp only [Act.put, List.setIfInBounds_toArray, List.set_cons_zero, List.set_cons_succ, i64_w, i32_w];rfl)
               refine one_ (i := 16) (N := some 62) #[true,true,true,true,true,true,true,true,true,true,true,true,true,true,true,true,true,false,true,true,true,true,true,true,true,true,true,true,true,true,true,false,false,false] rfl rfl (one_of HT_.out (by kernel_rfl)) (by decide) (fun K hK => ?_)
               refine goes_ Try.func23 (by kernel_rfl) rfl #[.int .u64 (IntKind.u64.wrap ((IntKind.u64.wrap (((rd_T69 l0_12 (ji20)).f0) - ((rd_T69 l0_12 x5_1).f1))) - 2))] (by rfl) rfl rfl (by (try simp only [List.map_toArray, List.map_cons, List.map_nil]); first | done | (simp only [hji20]; rfl) | rfl | (simp only [List.length_drop, List.length_take]; rfl)) ?_
               with_reducible refine (dominoref06_v.calls k1 (IntKind.u64.wrap ((IntKind.u64.wrap (((rd_T69 l0_12 (ji20)).f0) - ((rd_T69 l0_12 x5_1).f1))) - 2)) t171 _ A25.out).mono ?_
               rintro e w30 ⟨rfl, hb⟩
               refine ⟨_, rfl, ?_⟩
               have n0_ := Aside0.mk (blk_below (g := gb161) (o := .cells #[.int .u64 a0_0, .int .u64 a0_1, .int .u64 a0_2, .int .u64 a0_3, .int .u64 a0_4, .int .u64 a0_5, .int .u64 a0_6, .int .u64 a0_7, .bool a0_8, .string a0_9, .string a0_10, .string a0_11, .slice (some ad162) l0_12.length c0_12] 42 (0, 0)) (by (with_reducible repeat (first | refine blk_drewN ?_ _ | refine blk_drew ?_ | refine blk_alloc ?_ _)); exact BK161.out) hb)
               have n1_ := Aside0.mk (below_step (by repeat (first | (with_reducible first | exact HB.out | apply below_alloc | apply pw_below_drewN | apply below_drew1 | refine below_set ?_ GE161.out) | exact HB.out)) hb)
               clear BK161
               clear HB
               have BK161 := n0_
               have HB := n1_
               clear n0_ n1_
               (try clear hb)
               (try clear hb2)
               (try clear hk)
               (try clear hi)
               refine hK.out _ _ ⟨(blk_cell BK161.out 0).trans rfl, (blk_cell BK161.out 1).trans rfl, (blk_cell BK161.out 2).trans rfl, (blk_cell BK161.out 3).trans rfl, (blk_cell BK161.out 4).trans rfl, (blk_cell BK161.out 5).trans rfl, (blk_cell BK161.out 6).trans rfl, (blk_cell BK161.out 7).trans rfl, (blk_cell BK161.out 8).trans rfl, (blk_cell BK161.out 9).trans rfl, (blk_cell BK161.out 10).trans rfl, (blk_cell BK161.out 11).trans rfl, (blk_cell BK161.out 12).trans rfl, (up_ HB.out hw169_0), (up_ HB.out hw169_1), (up_ HB.out hw170_0), (up_ HB.out hw170_1), (up_ HB.out hw172_0), (up_ HB.out hw172_1), (up_ HB.out hw173_0), (up_ HB.out hw173_1)⟩ (fun hHeld => ?_)
               clear hK K
               refine norm_ (a' := ?_) ?_ ?_
               rotate_left
               ·show Act.put _ (some 62) _ = _
                simp only [Act.put, List.setIfInBounds_toArray, List.set_cons_zero, List.set_cons_succ, i64_w, i32_w]
                rfl
               refine pure_ (i := 17) (N := some 63) (v := ?_) (a' := ?_) #[true,true,true,true,true,true,true,true,true,true,true,true,true,true,true,true,true,true,true,true,true,true,true,true,true,true,true,true,true,true,true,false,false,false] rfl rfl (any_of HT_.out (by kernel_rfl)) (fun _ _ _ h => h) (Or.inl ⟨by rfl, ?_⟩) ?_ ?_
               rotate_left;(intro w';go_simp;with_reducible rfl);rotate_left;(simp only [Act.put, List.setIfInBounds_toArray, List.set_cons_zero, List.set_cons_succ, i64_w, i32_w];rfl)
               refine one_ (i := 31) (N := some 77) #[true,true,true,true,true,true,true,true,true,true,true,true,true,true,true,true,true,true,true,true,true,true,true,true,true,true,true,true,true,true,true,true,false,false] rfl rfl (one_of HT_.out (by kernel_rfl)) (by decide) (fun K hK => ?_)
               refine goes_ Try.func23 (by kernel_rfl) rfl #[.int .u64 (IntKind.u64.wrap (((rd_T69 l0_12 x5_1).f1) - ((rd_T69 l0_12 x5_1).f0)))] (by rfl) rfl rfl (by (try simp only [List.map_toArray, List.map_cons, List.map_nil]); first | done | rfl | (simp only [List.length_drop, List.length_take]; rfl)) ?_
               with_reducible refine (dominoref06_v.calls k1 (IntKind.u64.wrap (((rd_T69 l0_12 x5_1).f1) - ((rd_T69 l0_12 x5_1).f0))) t174 _ A27.out).mono ?_
               rintro e w31 ⟨rfl, hb⟩
               refine ⟨_, rfl, ?_⟩
               have n0_ := Aside0.mk (blk_below (g := gb161) (o := .cells #[.int .u64 a0_0, .int .u64 a0_1, .int .u64 a0_2, .int .u64 a0_3, .int .u64 a0_4, .int .u64 a0_5, .int .u64 a0_6, .int .u64 a0_7, .bool a0_8, .string a0_9, .string a0_10, .string a0_11, .slice (some ad162) l0_12.length c0_12] 42 (0, 0)) (by (with_reducible repeat (first | refine blk_drewN ?_ _ | refine blk_drew ?_ | refine blk_alloc ?_ _)); exact BK161.out) hb)
               have n1_ := Aside0.mk (below_step (by repeat (first | (with_reducible first | exact HB.out | apply below_alloc | apply pw_below_drewN | apply below_drew1 | refine below_set ?_ GE161.out) | exact HB.out)) hb)
               clear BK161
               clear HB
               have BK161 := n0_
               have HB := n1_
               clear n0_ n1_
               (try clear hb)
               (try clear hb2)
               (try clear hk)
               (try clear hi)
               refine hK.out _ _ ⟨(blk_cell BK161.out 0).trans rfl, (blk_cell BK161.out 1).trans rfl, (blk_cell BK161.out 2).trans rfl, (blk_cell BK161.out 3).trans rfl, (blk_cell BK161.out 4).trans rfl, (blk_cell BK161.out 5).trans rfl, (blk_cell BK161.out 6).trans rfl, (blk_cell BK161.out 7).trans rfl, (blk_cell BK161.out 8).trans rfl, (blk_cell BK161.out 9).trans rfl, (blk_cell BK161.out 10).trans rfl, (blk_cell BK161.out 11).trans rfl, (blk_cell BK161.out 12).trans rfl, (up_ HB.out hw169_0), (up_ HB.out hw169_1), (up_ HB.out hw170_0), (up_ HB.out hw170_1), (up_ HB.out hw172_0), (up_ HB.out hw172_1), (up_ HB.out hw173_0), (up_ HB.out hw173_1)⟩ (fun hHeld => ?_)
               clear hK K
               refine norm_ (a' := ?_) ?_ ?_
               rotate_left
               ·show Act.put _ (some 77) _ = _
                simp only [Act.put, List.setIfInBounds_toArray, List.set_cons_zero, List.set_cons_succ, i64_w, i32_w]
                rfl
               refine pure_ (i := 32) (N := some 78) (v := ?_) (a' := ?_) #[true,true,true,true,true,true,true,true,true,true,true,true,true,true,true,true,true,true,true,true,true,true,true,true,true,true,true,true,true,true,true,true,true,false] rfl rfl (any_of HT_.out (by kernel_rfl)) (fun _ _ _ h => h) (Or.inl ⟨by rfl, ?_⟩) ?_ ?_
               rotate_left;(intro w';go_simp;with_reducible rfl);rotate_left;(simp only [Act.put, List.setIfInBounds_toArray, List.set_cons_zero, List.set_cons_succ, i64_w, i32_w];rfl)
               refine pure_ (i := 33) (N := some 4) (v := ?_) (a' := ?_) #[true,true,true,true,true,true,true,true,true,true,true,true,true,true,true,true,true,true,true,true,true,true,true,true,true,true,true,true,true,true,true,true,true,true] rfl rfl (any_of HT_.out (by kernel_rfl)) (fun _ _ _ h => h) (Or.inl ⟨by rfl, ?_⟩) ?_ ?_
               rotate_left;(intro w';go_simp;with_reducible rfl);rotate_left;(simp only [Act.put, List.setIfInBounds_toArray, List.set_cons_zero, List.set_cons_succ, i64_w, i32_w];rfl)
               refine done_ (done_of HT_.out (by kernel_rfl)) ?_
               try go_wp2
               go_roundg k1
               case measure => have := HK1.out; omega
               case rel => exact ⟨((x4_1 ++ t171) ++ t174), (wrap64 (x5_1 - 1)), (by first | rfl | (simp; done) | (simp [*]; done)), (by first | rfl | (simp; done) | (simp [*]; done)), H', ⟨by have := HK1.out; omega⟩, ⟨by (with_reducible repeat (first | refine blk_drewN ?_ _ | refine blk_drew ?_ | refine blk_alloc ?_ _)); exact BK161.out⟩, ⟨by repeat (first | (with_reducible first | exact HB.out | apply below_alloc | apply pw_below_drewN | apply below_drew1 | refine below_set ?_ GE161.out) | exact HB.out)⟩⟩
              ·rw [if_neg c28] at H
               exact absurd H (by simp)
             ·rw [if_neg c26] at H
              exact absurd H (by simp)
            ·rw [if_neg c24] at H
             exact absurd H (by simp)
           ·rw [if_neg c23] at H
            exact absurd H (by simp)
          ·rw [if_neg c22] at H
           exact absurd H (by simp)
         ·rw [if_neg c21] at H
          exact absurd H (by simp)
        ·rw [if_neg c19] at H
         have c19b0 : decide (0 ≤ x5_1) = false := decide_eq_false c19
         clear c19
         obtain rfl := Option.some.inj H
         go_wp2
         go_ret
         exact ⟨by first | rfl | (simp [errW_none, errW_some] <;> rfl) | (simp only [← hji2]; first | rfl | (simp [errW_none, errW_some] <;> rfl)) | (simp [*, errW_none, errW_some] <;> rfl), by repeat (first | (with_reducible first | exact HB.out | apply below_alloc | apply pw_below_drewN | apply below_drew1 | refine below_set ?_ GE161.out) | exact HB.out)⟩
     ·rw [if_neg c11] at H
      exact absurd H (by simp)
    ·rw [if_neg c9] at H
     exact absurd H (by simp)
   ·rw [if_neg c7] at H
    exact absurd H (by simp)
  ·rw [if_neg c4] at H
   exact absurd H (by simp)
 ·rw [if_neg c3] at H
  exact absurd H (by simp)

end Go.Proofs.Ytlcfjimgnfcdkaa.PAky
