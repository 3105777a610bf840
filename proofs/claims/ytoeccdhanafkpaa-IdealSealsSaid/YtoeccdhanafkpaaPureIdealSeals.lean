/- The law IdealSeals of the claim in plain Lean: the two boxes hold the same, so the same is found in them. -/
import Derived.Test.YtoeccdhanafkpaaPIdealSealsx6
import Derived.Lib.Bytes
namespace Go.Proofs.Ytoeccdhanafkpaa.Pure
open Go.RowKit Go.Proofs.Ytoeccdhanafkpaa.PIdealSeals Go.Proofs.YtoeccdhanafkpaaW.PrintWords Go.Proofs.YtoeccdhanafkpaaW.PrintLast
theorem u64b {n : Int} (h : (Lit.int .u64 n).wf = true) : 0 ≤ n ∧ n < 18446744073709551616 := by
  simp [Lit.wf, IntKind.min, IntKind.max, IntKind.signed, IntKind.bits] at h
  omega
theorem wU (n : Int) : IntKind.u64.wrap n = n % 18446744073709551616 := IntKind.wrap_u64 n
theorem wUb (n : Int) : 0 ≤ IntKind.u64.wrap n ∧ IntKind.u64.wrap n < 18446744073709551616 := by rw [wU]; omega
theorem wUi {n : Int} (h0 : 0 ≤ n) (h1 : n < 18446744073709551616) : IntKind.u64.wrap n = n := by rw [wU]; omega
theorem nn {n : Int} (h0 : 0 ≤ n) : ∃ m : Nat, n = m := ⟨n.toNat, by omega⟩
theorem xs_nat (a s : Nat) (ha : a < 18446744073709551616) : Go.bits .xor .u64 (a : Int) ((a : Int) / (s : Int)) = ((a ^^^ a / s : Nat) : Int) := xorShift_u64 a s ha
theorem xs_lt (a s : Nat) (ha : a < 18446744073709551616) : a ^^^ a / s < 18446744073709551616 :=
  Nat.xor_lt_two_pow (n := 64) (by omega) (Nat.lt_of_le_of_lt (Nat.div_le_self _ _) (by omega))
theorem xs_inj (i s a b : Nat) (hi : 0 < i) (hs : s = 2 ^ i) (h : a ^^^ a / s = b ^^^ b / s) : a = b := by
  rw [hs] at h
  rw [← Nat.shiftRight_eq_div_pow, ← Nat.shiftRight_eq_div_pow] at h
  have e : a ^^^ b = (a ^^^ b) >>> i := by
    rw [Nat.shiftRight_xor_distrib]
    apply Nat.eq_of_testBit_eq
    intro j
    have hj := congrArg (fun n => n.testBit j) h
    simp only [Nat.testBit_xor] at hj ⊢
    revert hj
    cases a.testBit j <;> cases b.testBit j <;> cases (a >>> i).testBit j <;> cases (b >>> i).testBit j <;> simp
  have z : a ^^^ b = 0 := by
    rcases Nat.eq_zero_or_pos (a ^^^ b) with z | z
    · exact z
    · exfalso
      rw [Nat.shiftRight_eq_div_pow] at e
      have := Nat.div_lt_self z (Nat.one_lt_two_pow (by omega : i ≠ 0))
      omega
  exact Nat.eq_of_testBit_eq fun j => by
    have hj := congrArg (fun n => n.testBit j) z
    simp only [Nat.testBit_xor, Nat.zero_testBit] at hj
    revert hj
    cases a.testBit j <;> cases b.testBit j <;> simp
def mx64 (z : Int) : Int := mixD (mixC (mixB (mixA z)))
theorem mix_some (z : Int) : ideal_mix.f z = some (mx64 z) := rfl
theorem mixA_b (z : Int) : 0 ≤ mixA z ∧ mixA z < 18446744073709551616 := wUb _
theorem mixB_b (z : Int) : 0 ≤ mixB z ∧ mixB z < 18446744073709551616 := wUb _
theorem mixC_b (z : Int) : 0 ≤ mixC z ∧ mixC z < 18446744073709551616 := wUb _
theorem mixD_b (z : Int) (h0 : 0 ≤ z) (h1 : z < 18446744073709551616) : 0 ≤ mixD z ∧ mixD z < 18446744073709551616 := by
  obtain ⟨a, rfl⟩ := nn h0
  have ha : a < 18446744073709551616 := by omega
  unfold mixD
  have e := xs_nat a 2147483648 ha
  have l := xs_lt a 2147483648 ha
  rw [show ((2147483648 : Nat) : Int) = 2147483648 from rfl] at e
  rw [e]
  omega
theorem mx64_b (z : Int) : 0 ≤ mx64 z ∧ mx64 z < 18446744073709551616 := mixD_b _ (mixC_b _).1 (mixC_b _).2
theorem odd1 (a b : Int) (a0 : 0 ≤ a) (a1 : a < 18446744073709551616) (b0 : 0 ≤ b) (b1 : b < 18446744073709551616)
    (m i q : Int) (hq : m * i = 1 + 18446744073709551616 * q) (h : (a * m) % 18446744073709551616 = (b * m) % 18446744073709551616) : a = b := by
  have e : (a - b) * m % 18446744073709551616 = 0 := by rw [Int.sub_mul]; omega
  have d : (18446744073709551616 : Int) ∣ (a - b) * m := Int.dvd_of_emod_eq_zero e
  have d2 : (18446744073709551616 : Int) ∣ (a - b) * m * i := (Int.dvd_trans d (Int.dvd_mul_right _ i))
  rw [Int.mul_assoc, hq, Int.mul_add, Int.mul_one] at d2
  have d3 : (18446744073709551616 : Int) ∣ (a - b) * (18446744073709551616 * q) := ⟨(a - b) * q, by rw [Int.mul_left_comm]⟩
  have d4 := (Int.dvd_add_left d3).1 d2
  omega
theorem mixA_inj (a b : Int) (a0 : 0 ≤ a) (a1 : a < 18446744073709551616) (b0 : 0 ≤ b) (b1 : b < 18446744073709551616) (h : mixA a = mixA b) : a = b := by
  unfold mixA at h
  rw [wU, wU] at h
  omega
theorem mixB_inj (a b : Int) (a0 : 0 ≤ a) (a1 : a < 18446744073709551616) (b0 : 0 ≤ b) (b1 : b < 18446744073709551616) (h : mixB a = mixB b) : a = b := by
  obtain ⟨x, rfl⟩ := nn a0
  obtain ⟨y, rfl⟩ := nn b0
  have hx : x < 18446744073709551616 := by omega
  have hy : y < 18446744073709551616 := by omega
  unfold mixB at h
  have ex := xs_nat x 1073741824 hx
  have ey := xs_nat y 1073741824 hy
  rw [show ((1073741824 : Nat) : Int) = 1073741824 from rfl] at ex ey
  rw [ex, ey, wU, wU] at h
  have lx := xs_lt x 1073741824 hx
  have ly := xs_lt y 1073741824 hy
  have := odd1 _ _ (Int.natCast_nonneg _) (Int.ofNat_lt.2 lx) (Int.natCast_nonneg _) (Int.ofNat_lt.2 ly) 13787848793156543929 10871156337175269513 8125545580553827436 (by decide +kernel) h
  have e := xs_inj 30 1073741824 x y (by decide) (by decide +kernel) (Int.ofNat_inj.1 this)
  rw [e]
theorem mixC_inj (a b : Int) (a0 : 0 ≤ a) (a1 : a < 18446744073709551616) (b0 : 0 ≤ b) (b1 : b < 18446744073709551616) (h : mixC a = mixC b) : a = b := by
  obtain ⟨x, rfl⟩ := nn a0
  obtain ⟨y, rfl⟩ := nn b0
  have hx : x < 18446744073709551616 := by omega
  have hy : y < 18446744073709551616 := by omega
  unfold mixC at h
  have ex := xs_nat x 134217728 hx
  have ey := xs_nat y 134217728 hy
  rw [show ((134217728 : Nat) : Int) = 134217728 from rfl] at ex ey
  rw [ex, ey, wU, wU] at h
  have lx := xs_lt x 134217728 hx
  have ly := xs_lt y 134217728 hy
  have := odd1 _ _ (Int.natCast_nonneg _) (Int.ofNat_lt.2 lx) (Int.natCast_nonneg _) (Int.ofNat_lt.2 ly) 10723151780598845931 3573116690164977347 2077064247507883091 (by decide +kernel) h
  have e := xs_inj 27 134217728 x y (by decide) (by decide +kernel) (Int.ofNat_inj.1 this)
  rw [e]
theorem mixD_inj (a b : Int) (a0 : 0 ≤ a) (a1 : a < 18446744073709551616) (b0 : 0 ≤ b) (b1 : b < 18446744073709551616) (h : mixD a = mixD b) : a = b := by
  obtain ⟨x, rfl⟩ := nn a0
  obtain ⟨y, rfl⟩ := nn b0
  have hx : x < 18446744073709551616 := by omega
  have hy : y < 18446744073709551616 := by omega
  unfold mixD at h
  have ex := xs_nat x 2147483648 hx
  have ey := xs_nat y 2147483648 hy
  rw [show ((2147483648 : Nat) : Int) = 2147483648 from rfl] at ex ey
  rw [ex, ey] at h
  have e := xs_inj 31 2147483648 x y (by decide) (by decide +kernel) (Int.ofNat_inj.1 h)
  rw [e]
theorem mx64_inj (a b : Int) (a0 : 0 ≤ a) (a1 : a < 18446744073709551616) (b0 : 0 ≤ b) (b1 : b < 18446744073709551616) (h : mx64 a = mx64 b) : a = b :=
  mixA_inj a b a0 a1 b0 b1 (mixB_inj _ _ (mixA_b a).1 (mixA_b a).2 (mixA_b b).1 (mixA_b b).2 (mixC_inj _ _ (mixB_b _).1 (mixB_b _).2 (mixB_b _).1 (mixB_b _).2 (mixD_inj _ _ (mixC_b _).1 (mixC_b _).2 (mixC_b _).1 (mixC_b _).2 h)))
theorem hk64 : ∀ n : Int, 0 ≤ n → n < 2 ^ 64 → IntKind.u64.wrap n = n := fun n a b => wUi a (by simpa using b)
/-- Byte i of the eight bytes of n, the greatest one first. -/
theorem spB_eq (n : Int) (h0 : 0 ≤ n) (h1 : n < 18446744073709551616) (i : Nat) (hi : i < 8) : spB n i = n / 2 ^ (56 - 8 * i) % 256 := by
  have : i = 0 ∨ i = 1 ∨ i = 2 ∨ i = 3 ∨ i = 4 ∨ i = 5 ∨ i = 6 ∨ i = 7 := by omega
  unfold spB bits_RotateLeft64.f
  rcases this with rfl | rfl | rfl | rfl | rfl | rfl | rfl | rfl
  · rw [show Go.bits .and .u64 (IntKind.u64.wrap (8 * ((0 : Nat) : Int) + 8)) 63 = 8 by decide +kernel, show IntKind.u64.wrap (64 - 8) = 56 by decide, if_pos (by decide), if_pos (by decide), Option.getD_some, show shl .u64 n 8 = n * 2 ^ 8 % 18446744073709551616 from wU _, show shr .u64 n 56 = n / 2 ^ 56 from rfl, bits_join .u64 64 (by decide) hk64 8 _ _ (by omega) (by omega) (by omega) (by omega) (by omega) (by omega)]
    simp only [Nat.mul_zero, Nat.sub_zero]
    omega
  · rw [show Go.bits .and .u64 (IntKind.u64.wrap (8 * ((1 : Nat) : Int) + 8)) 63 = 16 by decide +kernel, show IntKind.u64.wrap (64 - 16) = 48 by decide, if_pos (by decide), if_pos (by decide), Option.getD_some, show shl .u64 n 16 = n * 2 ^ 16 % 18446744073709551616 from wU _, show shr .u64 n 48 = n / 2 ^ 48 from rfl, bits_join .u64 64 (by decide) hk64 16 _ _ (by omega) (by omega) (by omega) (by omega) (by omega) (by omega)]
    simp only [Nat.reduceMul, Nat.reduceSub]
    omega
  · rw [show Go.bits .and .u64 (IntKind.u64.wrap (8 * ((2 : Nat) : Int) + 8)) 63 = 24 by decide +kernel, show IntKind.u64.wrap (64 - 24) = 40 by decide, if_pos (by decide), if_pos (by decide), Option.getD_some, show shl .u64 n 24 = n * 2 ^ 24 % 18446744073709551616 from wU _, show shr .u64 n 40 = n / 2 ^ 40 from rfl, bits_join .u64 64 (by decide) hk64 24 _ _ (by omega) (by omega) (by omega) (by omega) (by omega) (by omega)]
    simp only [Nat.reduceMul, Nat.reduceSub]
    omega
  · rw [show Go.bits .and .u64 (IntKind.u64.wrap (8 * ((3 : Nat) : Int) + 8)) 63 = 32 by decide +kernel, show IntKind.u64.wrap (64 - 32) = 32 by decide, if_pos (by decide), if_pos (by decide), Option.getD_some, show shl .u64 n 32 = n * 2 ^ 32 % 18446744073709551616 from wU _, show shr .u64 n 32 = n / 2 ^ 32 from rfl, bits_join .u64 64 (by decide) hk64 32 _ _ (by omega) (by omega) (by omega) (by omega) (by omega) (by omega)]
    simp only [Nat.reduceMul, Nat.reduceSub]
    omega
  · rw [show Go.bits .and .u64 (IntKind.u64.wrap (8 * ((4 : Nat) : Int) + 8)) 63 = 40 by decide +kernel, show IntKind.u64.wrap (64 - 40) = 24 by decide, if_pos (by decide), if_pos (by decide), Option.getD_some, show shl .u64 n 40 = n * 2 ^ 40 % 18446744073709551616 from wU _, show shr .u64 n 24 = n / 2 ^ 24 from rfl, bits_join .u64 64 (by decide) hk64 40 _ _ (by omega) (by omega) (by omega) (by omega) (by omega) (by omega)]
    simp only [Nat.reduceMul, Nat.reduceSub]
    omega
  · rw [show Go.bits .and .u64 (IntKind.u64.wrap (8 * ((5 : Nat) : Int) + 8)) 63 = 48 by decide +kernel, show IntKind.u64.wrap (64 - 48) = 16 by decide, if_pos (by decide), if_pos (by decide), Option.getD_some, show shl .u64 n 48 = n * 2 ^ 48 % 18446744073709551616 from wU _, show shr .u64 n 16 = n / 2 ^ 16 from rfl, bits_join .u64 64 (by decide) hk64 48 _ _ (by omega) (by omega) (by omega) (by omega) (by omega) (by omega)]
    simp only [Nat.reduceMul, Nat.reduceSub]
    omega
  · rw [show Go.bits .and .u64 (IntKind.u64.wrap (8 * ((6 : Nat) : Int) + 8)) 63 = 56 by decide +kernel, show IntKind.u64.wrap (64 - 56) = 8 by decide, if_pos (by decide), if_pos (by decide), Option.getD_some, show shl .u64 n 56 = n * 2 ^ 56 % 18446744073709551616 from wU _, show shr .u64 n 8 = n / 2 ^ 8 from rfl, bits_join .u64 64 (by decide) hk64 56 _ _ (by omega) (by omega) (by omega) (by omega) (by omega) (by omega)]
    simp only [Nat.reduceMul, Nat.reduceSub]
    omega
  · rw [show Go.bits .and .u64 (IntKind.u64.wrap (8 * ((7 : Nat) : Int) + 8)) 63 = 0 by decide +kernel, show IntKind.u64.wrap (64 - 0) = 64 by decide, if_pos (by decide), if_pos (by decide), Option.getD_some, show shl .u64 n 0 = n * 2 ^ 0 % 18446744073709551616 from wU _, show shr .u64 n 64 = n / 2 ^ 64 from rfl, bits_join .u64 64 (by decide) hk64 0 _ _ (by omega) (by omega) (by omega) (by omega) (by omega) (by omega)]
    simp only [Nat.reduceMul, Nat.reduceSub]
    omega
theorem fixL_eq (n : Int) (h0 : 0 ≤ n) (h1 : n < 18446744073709551616) : fixL n = [n / 2 ^ 56 % 256, n / 2 ^ 48 % 256, n / 2 ^ 40 % 256, n / 2 ^ 32 % 256, n / 2 ^ 24 % 256, n / 2 ^ 16 % 256, n / 2 ^ 8 % 256, n / 2 ^ 0 % 256] := by
  unfold fixL
  rw [show List.range 8 = [0, 1, 2, 3, 4, 5, 6, 7] from rfl]
  simp only [List.map_cons, List.map_nil]
  rw [spB_eq n h0 h1 0 (by decide), spB_eq n h0 h1 1 (by decide), spB_eq n h0 h1 2 (by decide), spB_eq n h0 h1 3 (by decide), spB_eq n h0 h1 4 (by decide), spB_eq n h0 h1 5 (by decide), spB_eq n h0 h1 6 (by decide), spB_eq n h0 h1 7 (by decide)]
/-- The eight bytes of n. -/
def wd (n : Int) : ByteArray := strOfNums (fixL n)
theorem fixed8 (n : Int) : varint_Fixed.f n 8 = some (wd n) := rfl
theorem wd_len (n : Int) : (wd n).toList.length = 8 := by
  unfold wd
  rw [Go.Lib.strOfNums_toList, Go.Lib.bytesOf_length]
  simp [fixL]
theorem wd_size (n : Int) : (wd n).size = 8 := by rw [Go.Lib.size_eq, ← Go.Lib.toList_data, wd_len]
theorem u8_eq {a b : Int} (a0 : 0 ≤ a) (a1 : a < 256) (b0 : 0 ≤ b) (b1 : b < 256) (h : UInt8.ofNat a.toNat = UInt8.ofNat b.toNat) : a = b := by
  have := congrArg UInt8.toNat h
  simp only [UInt8.toNat_ofNat', Nat.reducePow] at this
  omega
theorem wd_inj (a b : Int) (a0 : 0 ≤ a) (a1 : a < 18446744073709551616) (b0 : 0 ≤ b) (b1 : b < 18446744073709551616) (h : (wd a).toList = (wd b).toList) : a = b := by
  unfold wd at h
  rw [Go.Lib.strOfNums_toList, Go.Lib.strOfNums_toList, fixL_eq a a0 a1, fixL_eq b b0 b1] at h
  simp only [Go.Lib.bytesOf, List.map_cons, List.map_nil, List.cons.injEq, and_true] at h
  obtain ⟨h7, h6, h5, h4, h3, h2, h1, h0⟩ := h
  have e7 := u8_eq (by omega) (by omega) (by omega) (by omega) h7
  have e6 := u8_eq (by omega) (by omega) (by omega) (by omega) h6
  have e5 := u8_eq (by omega) (by omega) (by omega) (by omega) h5
  have e4 := u8_eq (by omega) (by omega) (by omega) (by omega) h4
  have e3 := u8_eq (by omega) (by omega) (by omega) (by omega) h3
  have e2 := u8_eq (by omega) (by omega) (by omega) (by omega) h2
  have e1 := u8_eq (by omega) (by omega) (by omega) (by omega) h1
  have e0 := u8_eq (by omega) (by omega) (by omega) (by omega) h0
  omega
theorem shown_ten : dominolaw10_shown.f 10 = some true := by
  unfold dominolaw10_shown.f ideal_Open.f openP
  simp only [Go.Lib.toList_data]
  decide +kernel
theorem shown_all (k : Nat) (h : 10 ≤ k) : dominolaw10_shown.f k = some true := at_rounds dominolaw10_shown.mono h shown_ten
theorem Id_some (s i : Int) : ideal_Id.f s i = some (wd (mx64 (IntKind.u64.wrap ((IntKind.u64.wrap (s + i)) + 9223372036854775808)))) := rfl
/-- The bytes of m words from z on. -/
def run8 (z : Int) : Nat → List UInt8
  | 0 => []
  | m + 1 => (wd (mx64 z)).toList ++ run8 (IntKind.u64.wrap (z + 1)) m
theorem run8_len (m : Nat) : ∀ z, (run8 z m).length = 8 * m := by
  induction m with
  | zero => intro z; rfl
  | succ m ih => intro z; simp only [run8, List.length_append, ih, wd_len]; omega
theorem word_some (z : Int) : wordS z = some (wd (mx64 z)) := rfl
theorem sizeL (s : ByteArray) : s.size = s.toList.length := by rw [Go.Lib.toList_data, Go.Lib.size_eq]
theorem appL (a b : ByteArray) : (a ++ b).toList = a.toList ++ b.toList := by
  rw [Go.Lib.toList_data, Go.Lib.toList_data, Go.Lib.toList_data, ByteArray.data_append, Array.toList_append]
theorem extL (s : ByteArray) (n : Nat) : (s.extract 0 n).toList = s.toList.take n := by
  rw [Go.Lib.extract_toList, Go.Lib.toList_data]
  simp
theorem emptyL : (⟨#[]⟩ : ByteArray).toList = [] := by rw [Go.Lib.toList_data]
theorem mx0 (n : Int) : 0 ≤ mx n 0 ∧ (mx n 0).toNat = n.toNat ∧ mx n 0 = (n.toNat : Int) := by
  unfold mx
  split <;> omega
theorem draw_run (n : Int) (hn : n ≤ 1000) : ∀ (m k : Nat) (z : Int) (s : ByteArray), n ≤ (s.size : Int) + 8 * m → s.size ≤ 100000 → ∃ r, ideal_Draw.l0 (k + m + 1) z n s = some r ∧ r.toList = (s.toList ++ run8 z m).take n.toNat := by
  intro m
  induction m with
  | zero =>
    intro k z s h _
    have h1 : ¬ (s.size : Int) < n := by omega
    have h2 := mx0 n
    unfold ideal_Draw.l0
    rw [if_neg h1, if_pos h2.1, if_pos (by omega)]
    refine ⟨_, rfl, ?_⟩
    rw [h2.2.1, extL]
    simp [run8]
  | succ m ih =>
    intro k z s h hs
    unfold ideal_Draw.l0
    by_cases h1 : (s.size : Int) < n
    · have e : (s ++ wd (mx64 z)).size = s.size + 8 := by rw [sizeL, appL, List.length_append, wd_len, ← sizeL]
      rw [if_pos h1, word_some, Option.bind_some, wd_size, if_pos (by omega)]
      obtain ⟨r, h2, h3⟩ := ih k (IntKind.u64.wrap (z + 1)) (s ++ wd (mx64 z)) (by rw [e]; omega) (by rw [e]; omega)
      refine ⟨r, h2, ?_⟩
      rw [h3, appL, List.append_assoc]
      rfl
    · have h2 := mx0 n
      rw [if_neg h1, if_pos h2.1, if_pos (by omega)]
      refine ⟨_, rfl, ?_⟩
      rw [h2.2.1, extL, List.take_append_of_le_length (by rw [← sizeL]; omega)]
def place (s i : Int) : Int := mx64 (IntKind.u64.wrap (mx64 s + i))
theorem draw_some (s i n : Int) (k m : Nat) (hn : n ≤ 1000) (hm : n ≤ 8 * (m : Int)) : ∃ r, ideal_Draw.f (k + m + 1) s i n = some r ∧ r.toList = (run8 (place s i) m).take n.toNat := by
  obtain ⟨r, h1, h2⟩ := draw_run n hn m k (place s i) ⟨#[]⟩ (by show n ≤ ((0 : Nat) : Int) + 8 * m; omega) (Nat.zero_le _)
  refine ⟨r, ?_, ?_⟩
  · unfold ideal_Draw.f
    rw [mix_some, Option.bind_some, mix_some, Option.bind_some]
    exact h1
  · rw [h2, emptyL, List.nil_append]
theorem tdn {a b : Int} (h : 0 ≤ a) : Int.tdiv a b = a / b := Int.tdiv_eq_ediv_of_nonneg h
theorem rmix (z : Int) : dominoref10_mix.f z = some (mx64 z) := by
  unfold dominoref10_mix.f mx64 mixD mixC mixB
  have ha : IntKind.u64.wrap (z + 11400714819323198485) = mixA z := rfl
  have q : ∀ (x s : Int), 0 ≤ x → x < 18446744073709551616 → 0 < s → IntKind.u64.wrap (Int.tdiv x s) = x / s := by
    intro x s h0 h1 hs
    rw [tdn h0]
    have g0 : 0 ≤ x / s := Int.ediv_nonneg h0 (by omega)
    have g1 : x / s ≤ x := Int.ediv_le_self s h0
    exact wUi g0 (by omega)
  rw [ha, q _ _ (mixA_b z).1 (mixA_b z).2 (by decide)]
  rw [q _ _ (wUb _).1 (wUb _).2 (by decide), q _ _ (wUb _).1 (wUb _).2 (by decide)]
theorem rpow : ∀ i : Nat, i < 8 → dominoref01_power.f 70 (wrap64 (8 * (i : Int))) = some (2 ^ (8 * i)) := by
  intro i h
  have : i = 0 ∨ i = 1 ∨ i = 2 ∨ i = 3 ∨ i = 4 ∨ i = 5 ∨ i = 6 ∨ i = 7 := by omega
  rcases this with rfl | rfl | rfl | rfl | rfl | rfl | rfl | rfl <;> decide +kernel
theorem rpow_all (i : Nat) (h : i < 8) (k : Nat) (hk : 70 ≤ k) : dominoref01_power.f k (wrap64 (8 * (i : Int))) = some (2 ^ (8 * i)) :=
  at_rounds (dominoref01_power.mono _) hk (rpow i h)
theorem rfix_step (k : Nat) (n : Int) (h0 : 0 ≤ n) (h1 : n < 18446744073709551616) (i : Nat) (hi : i < 8) (xs : List Int) (hx : xs.length < 100) (hk : 70 ≤ k) :
    dominoref01_Fixed.l0 (k + 1) n xs (i : Int) = dominoref01_Fixed.l0 k n (xs ++ [n / 2 ^ (8 * i) % 256]) ((i : Int) - 1) := by
  have hp : (0 : Int) < 2 ^ (8 * i) := Int.pow_pos (by decide)
  have g0 : 0 ≤ n / 2 ^ (8 * i) := Int.ediv_nonneg h0 (by omega)
  have g1 : n / 2 ^ (8 * i) ≤ n := Int.ediv_le_self _ h0
  have e : (Int.tmod (IntKind.u64.wrap (Int.tdiv n (2 ^ (8 * i)))) 256) % 256 = n / 2 ^ (8 * i) % 256 := by
    rw [tdn h0, wUi g0 (by omega), Int.tmod_eq_emod_of_nonneg g0]
    omega
  have w : wrap64 ((i : Int) - 1) = (i : Int) - 1 := by
    have : i = 0 ∨ i = 1 ∨ i = 2 ∨ i = 3 ∨ i = 4 ∨ i = 5 ∨ i = 6 ∨ i = 7 := by omega
    rcases this with rfl | rfl | rfl | rfl | rfl | rfl | rfl | rfl <;> decide +kernel
  conv => lhs; unfold dominoref01_Fixed.l0
  rw [if_pos (by omega), rpow_all i hi k hk, Option.bind_some, if_neg (by omega), if_pos (by omega), e, w]
theorem rfix (k : Nat) (n : Int) (h0 : 0 ≤ n) (h1 : n < 18446744073709551616) (hk : 70 ≤ k) : dominoref01_Fixed.f (k + 9) n 8 = some (wd n) := by
  unfold dominoref01_Fixed.f
  rw [show mx (mn 8 8) 0 - 1 = ((7 : Nat) : Int) by decide]
  rw [rfix_step (k + 8) n h0 h1 7 (by decide) _ (by decide) (by omega), show (((7 : Nat) : Int) - 1) = ((6 : Nat) : Int) by decide]
  rw [rfix_step (k + 7) n h0 h1 6 (by decide) _ (by simp) (by omega), show (((6 : Nat) : Int) - 1) = ((5 : Nat) : Int) by decide]
  rw [rfix_step (k + 6) n h0 h1 5 (by decide) _ (by simp) (by omega), show (((5 : Nat) : Int) - 1) = ((4 : Nat) : Int) by decide]
  rw [rfix_step (k + 5) n h0 h1 4 (by decide) _ (by simp) (by omega), show (((4 : Nat) : Int) - 1) = ((3 : Nat) : Int) by decide]
  rw [rfix_step (k + 4) n h0 h1 3 (by decide) _ (by simp) (by omega), show (((3 : Nat) : Int) - 1) = ((2 : Nat) : Int) by decide]
  rw [rfix_step (k + 3) n h0 h1 2 (by decide) _ (by simp) (by omega), show (((2 : Nat) : Int) - 1) = ((1 : Nat) : Int) by decide]
  rw [rfix_step (k + 2) n h0 h1 1 (by decide) _ (by simp) (by omega), show (((1 : Nat) : Int) - 1) = ((0 : Nat) : Int) by decide]
  rw [rfix_step (k + 1) n h0 h1 0 (by decide) _ (by simp) (by omega)]
  unfold dominoref01_Fixed.l0
  rw [if_neg (by decide)]
  unfold wd
  rw [fixL_eq n h0 h1]
  rfl
theorem rdraw_run (n : Int) (hn : n ≤ 1000) : ∀ (m k : Nat) (z : Int) (s : ByteArray), n ≤ (s.size : Int) + 8 * m → s.size ≤ 100000 → ∃ r, dominoref10_Draw.l0 (k + 80 + m + 1) n z s = some r ∧ r.toList = (s.toList ++ run8 z m).take n.toNat := by
  intro m
  induction m with
  | zero =>
    intro k z s h _
    have h1 : ¬ (s.size : Int) < n := by omega
    have h2 := mx0 n
    unfold dominoref10_Draw.l0
    rw [if_neg h1, if_pos h2.1, if_pos (by omega)]
    refine ⟨_, rfl, ?_⟩
    rw [h2.2.1, extL]
    simp [run8]
  | succ m ih =>
    intro k z s h hs
    unfold dominoref10_Draw.l0
    by_cases h1 : (s.size : Int) < n
    · have e : (s ++ wd (mx64 z)).size = s.size + 8 := by rw [sizeL, appL, List.length_append, wd_len, ← sizeL]
      rw [if_pos h1, rmix, Option.bind_some, show k + 80 + (m + 1) = (k + 72 + m) + 9 by omega, rfix _ _ (mx64_b z).1 (mx64_b z).2 (by omega), Option.bind_some, wd_size, if_pos (by omega)]
      obtain ⟨r, h2, h3⟩ := ih k (IntKind.u64.wrap (z + 1)) (s ++ wd (mx64 z)) (by rw [e]; omega) (by rw [e]; omega)
      refine ⟨r, ?_, ?_⟩
      · rw [show (k + 72 + m) + 9 = k + 80 + m + 1 by omega]; exact h2
      · rw [h3, appL, List.append_assoc]
        rfl
    · have h2 := mx0 n
      rw [if_neg h1, if_pos h2.1, if_pos (by omega)]
      refine ⟨_, rfl, ?_⟩
      rw [h2.2.1, extL, List.take_append_of_le_length (by rw [← sizeL]; omega)]
theorem rdraw_some (s i n : Int) (k m : Nat) (hn : n ≤ 1000) (hm : n ≤ 8 * (m : Int)) : ∃ r, dominoref10_Draw.f (k + 80 + m + 1) s i n = some r ∧ r.toList = (run8 (place s i) m).take n.toNat := by
  obtain ⟨r, h1, h2⟩ := rdraw_run n hn m k (place s i) ⟨#[]⟩ (by show n ≤ ((0 : Nat) : Int) + 8 * m; omega) (Nat.zero_le _)
  refine ⟨r, ?_, ?_⟩
  · unfold dominoref10_Draw.f
    rw [rmix, Option.bind_some, rmix, Option.bind_some]
    exact h1
  · rw [h2, emptyL, List.nil_append]
theorem w64 {n : Int} (h0 : 0 ≤ n) (h1 : n < 9223372036854775808) : wrap64 n = n := by
  unfold wrap64
  first | omega | (simp [IntKind.wrap, IntKind.bits, IntKind.signed]; omega)
/-- What is sealed: the box has one more, the bytes are a mark, the connection ID and a draw. -/
theorem seal_some (q : Nat) (s nx : Int) (l : List S73) (who num : Int) (cid p : ByteArray) (hq : 125 ≤ q) (hp : p.size ≤ 300) (hc : cid.size ≤ 1000) (hl : l.length ≤ 1000) :
    ∃ r : ByteArray, ideal_Draw.f q s nx ((p.size : Int) + 20) = some r ∧ r.size = p.size + 20 ∧ r.toList = (run8 (place s nx) 63).take (p.size + 20) ∧
      ideal_Seal.f q s nx l who num cid p = some (s, IntKind.u64.wrap (nx + 1), l ++ [⟨who, num, ((⟨#[64]⟩ : ByteArray) ++ cid) ++ r, p⟩], ((⟨#[64]⟩ : ByteArray) ++ cid) ++ r) := by
  obtain ⟨j, rfl⟩ := Nat.le.dest hq
  obtain ⟨r, r1, r2⟩ := draw_some s nx ((p.size : Int) + 20) (j + 61) 63 (by omega) (by omega)
  have e : j + 61 + 63 + 1 = 125 + j := by omega
  rw [e] at r1
  have e2 : ((p.size : Int) + 20).toNat = p.size + 20 := by omega
  rw [e2] at r2
  have hs : r.size = p.size + 20 := by
    rw [sizeL, r2, List.length_take, run8_len]
    omega
  refine ⟨r, r1, hs, r2, ?_⟩
  unfold ideal_Seal.f
  rw [if_pos (by omega), w64 (by omega) (by omega), r1, Option.bind_some, if_pos (by omega), if_pos (by omega)]
theorem wi64 {n : Int} (h0 : 0 ≤ n) (h1 : n ≤ 9223372036854775807) : wrap64 n = n := w64 h0 (by omega)
theorem bounded_run (l : List S40) (hl : l.length ≤ maxLen) : ∀ (m : Nat) (i k : Nat), i + m = l.length → ∃ b, dominolaw10_bounded.l0 (k + m + 1) l (i : Int) = some b ∧ (b = true → l.length ≤ 20 ∧ ∀ j, i ≤ j → j < l.length → (l.getD j z40).f2.size ≤ 30 ∧ (l.getD j z40).f3.size ≤ 200) := by
  have hl' : l.length ≤ 9223372036854775807 := Nat.le_trans hl (by decide)
  intro m
  induction m with
  | zero =>
    intro i k h
    unfold dominolaw10_bounded.l0
    rw [if_neg (by omega)]
    refine ⟨_, rfl, fun hb => ⟨?_, fun j h1 h2 => by omega⟩⟩
    have := of_decide_eq_true hb
    omega
  | succ m ih =>
    intro i k h
    unfold dominolaw10_bounded.l0
    rw [if_pos (by omega), if_pos (by omega)]
    have e : rd_T40 l (i : Int) = l.getD i z40 := rfl
    rw [e]
    by_cases h1 : ((l.getD i z40).f2.size : Int) > 30
    · rw [if_pos h1]
      exact ⟨false, rfl, fun h => by simp at h⟩
    · rw [if_neg h1]
      by_cases h2 : ((l.getD i z40).f3.size : Int) > 200
      · rw [if_pos h2]
        exact ⟨false, rfl, fun h => by simp at h⟩
      · rw [if_neg h2, wi64 (by omega) (by omega)]
        obtain ⟨b, g1, g2⟩ := ih (i + 1) k (by omega)
        refine ⟨b, g1, fun hb => ⟨(g2 hb).1, fun j hj hlt => ?_⟩⟩
        by_cases hij : j = i
        · subst hij
          exact ⟨by omega, by omega⟩
        · exact (g2 hb).2 j (by omega) hlt
theorem bounded_all (l : List S40) (hl : l.length ≤ maxLen) : ∃ b, (∀ k, l.length + 1 ≤ k → dominolaw10_bounded.f k l = some b) ∧ (b = true → l.length ≤ 20 ∧ ∀ j, j < l.length → (l.getD j z40).f2.size ≤ 30 ∧ (l.getD j z40).f3.size ≤ 200) := by
  obtain ⟨b, h1, h2⟩ := bounded_run l hl l.length 0 0 (by omega)
  refine ⟨b, fun k hk => ?_, fun hb => ⟨(h2 hb).1, fun j hj => (h2 hb).2 j (by omega) hj⟩⟩
  have : dominolaw10_bounded.f (l.length + 1) l = some b := by
    rw [Nat.zero_add] at h1
    exact h1
  exact at_rounds (dominolaw10_bounded.mono _) hk this
theorem open_none (s0 s1 : Int) (L : List S73) (who : Int) (b : ByteArray) (h : ∀ x ∈ L, x.f2.toList ≠ b.toList) : ideal_Open.f s0 s1 L who b = some (0, ⟨#[]⟩, false) := by
  have e : L.find? (openP who b) = none := by
    rw [List.find?_eq_none]
    intro x hx
    simp [openP, h x hx]
  unfold ideal_Open.f
  rw [e]
def cv (x : S73) : S74 := ⟨x.f0, x.f1, x.f2, x.f3⟩
theorem ba_ext {a b : ByteArray} (h : a.toList = b.toList) : a = b := by
  rw [Go.Lib.toList_data, Go.Lib.toList_data] at h
  cases a
  cases b
  exact congrArg ByteArray.mk (Array.toList_inj.1 h)
theorem rseal (q : Nat) (s nx : Int) (L : List S74) (who num : Int) (cid p r : ByteArray) (hq : 150 ≤ q) (hr : r.toList = (run8 (place s nx) 63).take (p.size + 20)) (hs : r.size = p.size + 20) (hp : p.size ≤ 300) (hc : cid.size ≤ 1000) (hl : L.length ≤ 1000) :
    dominoref10_Seal.f q s nx L who num cid p = some (s, IntKind.u64.wrap (nx + 1), L ++ [⟨who, num, ((⟨#[64]⟩ : ByteArray) ++ cid) ++ r, p⟩], ((⟨#[64]⟩ : ByteArray) ++ cid) ++ r) := by
  obtain ⟨j, rfl⟩ := Nat.le.dest hq
  obtain ⟨t, t1, t2⟩ := rdraw_some s nx ((p.size : Int) + 20) (j + 6) 63 (by omega) (by omega)
  rw [show j + 6 + 80 + 63 + 1 = 150 + j by omega] at t1
  have e2 : ((p.size : Int) + 20).toNat = p.size + 20 := by omega
  rw [e2, ← hr] at t2
  have e := ba_ext t2
  subst e
  have z : ((⟨#[64]⟩ : ByteArray) ++ cid).size = 1 + cid.size := by
    rw [ByteArray.size_append]
    rfl
  unfold dominoref10_Seal.f
  rw [if_pos (by omega), w64 (by omega) (by omega), t1, Option.bind_some, if_pos (by omega), Option.bind_some, if_pos (by simp; omega), Option.bind_some, if_pos (by simp; omega)]
  rfl
theorem its_run (L : List S73) (hL : L.length ≤ 1000) (x0 x1 y0 y1 : Int) : ∀ (m i k : Nat) (acc : List S74), i + m = L.length → acc.length + m ≤ 2000 → dominolaw10_its.l0 (k + m + 1) (i : Int) x0 x1 L y0 y1 acc = some (y0, y1, acc ++ (L.drop i).map cv) := by
  intro m
  induction m with
  | zero =>
    intro i k acc h _
    unfold dominolaw10_its.l0
    rw [if_neg (by omega), List.drop_of_length_le (by omega)]
    simp
  | succ m ih =>
    intro i k acc h ha
    unfold dominolaw10_its.l0
    have hi : i < L.length := by omega
    have e : rd_T73 L (i : Int) = L[i] := by
      show L.getD (i : Int).toNat z73 = _
      rw [Int.toNat_natCast, List.getD_eq_getElem?_getD, List.getElem?_eq_getElem hi]
      rfl
    rw [if_pos (by omega), if_pos (by omega), if_pos (by omega), wi64 (by omega) (by omega), e]
    have := ih (i + 1) k (acc ++ [cv L[i]]) (by omega) (by simp; omega)
    rw [List.drop_eq_getElem_cons hi, List.map_cons]
    rw [List.append_assoc, List.singleton_append] at this
    exact this
theorem its_all (L : List S73) (hL : L.length ≤ 1000) (x0 x1 : Int) (k : Nat) (hk : 1001 ≤ k) : dominolaw10_its.f k x0 x1 L = some (x0, x1, L.map cv) := by
  obtain ⟨j, rfl⟩ := Nat.le.dest hk
  have := its_run L hL x0 x1 x0 x1 L.length 0 (1000 - L.length + j) [] (by omega) (by simp; omega)
  rw [show 1000 - L.length + j + L.length + 1 = 1001 + j by omega, List.drop_zero, List.nil_append] at this
  exact this
theorem same_run (X : List S74) (hX : X.length ≤ 1000) (a b c d : Int) : ∀ (m i k : Nat), i + m = X.length → dominoref10_Same.l0 (k + m + 1) (i : Int) a b X c d X = some true := by
  intro m
  induction m with
  | zero =>
    intro i k h
    unfold dominoref10_Same.l0
    rw [if_neg (by omega)]
  | succ m ih =>
    intro i k h
    unfold dominoref10_Same.l0
    rw [if_pos (by omega), if_pos (by omega), if_pos (by omega), if_neg (by simp), wi64 (by omega) (by omega)]
    exact ih (i + 1) k (by omega)
theorem same_all (X : List S74) (hX : X.length ≤ 1000) (a b : Int) (k : Nat) (hk : 1002 ≤ k) : dominoref10_Same.f k a b X a b X = some true := by
  obtain ⟨j, rfl⟩ := Nat.le.dest hk
  unfold dominoref10_Same.f
  rw [if_pos rfl, if_pos rfl, show 1002 + j = (1001 + j) + 1 by omega, dominoref10_Same.j0, if_neg (by simp)]
  have := same_run X hX a b a b X.length 0 (1000 - X.length + j) (by omega)
  rw [show 1000 - X.length + j + X.length + 1 = 1001 + j by omega] at this
  exact this
theorem ropen_run (L : List S73) (hL : L.length ≤ 1000) (who : Int) (b : ByteArray) (a nx : Int) : ∀ (m i k : Nat), i + m = L.length → dominoref10_Open.l0 (k + m + 1) who b (i : Int) a nx (L.map cv) = some (match (L.drop i).find? (openP who b) with
    | some x => (x.f1, x.f3, true)
    | none => (0, ⟨#[]⟩, false)) := by
  intro m
  induction m with
  | zero =>
    intro i k h
    unfold dominoref10_Open.l0
    rw [if_neg (by rw [List.length_map]; omega), List.drop_of_length_le (by omega)]
    rfl
  | succ m ih =>
    intro i k h
    have hi : i < L.length := by omega
    have e : rd_T74 (L.map cv) (i : Int) = cv L[i] := by
      show (L.map cv).getD (i : Int).toNat z74 = _
      rw [Int.toNat_natCast, List.getD_eq_getElem?_getD, List.getElem?_map, List.getElem?_eq_getElem hi]
      rfl
    unfold dominoref10_Open.l0
    rw [if_pos (by rw [List.length_map]; omega), if_pos (by omega), e, List.drop_eq_getElem_cons hi, List.find?_cons, wi64 (by omega) (by omega)]
    have hi1 := ih (i + 1) k (by omega)
    rw [show (cv L[i]).f2 = L[i].f2 from rfl, show (cv L[i]).f0 = L[i].f0 from rfl]
    by_cases h1 : L[i].f2.toList = b.toList
    · by_cases h2 : L[i].f0 = who
      · rw [if_pos h1, if_pos h2, show openP who b L[i] = false by simp [openP, h2]]
        exact hi1
      · rw [if_pos h1, if_neg h2, show openP who b L[i] = true by simp [openP, h1, h2]]
        rfl
    · rw [if_neg h1, show openP who b L[i] = false by simp [openP, h1]]
      exact hi1
theorem ropen (L : List S73) (hL : L.length ≤ 1000) (who : Int) (b : ByteArray) (a nx : Int) (k : Nat) (hk : 1001 ≤ k) : dominoref10_Open.f k a nx (L.map cv) who b = ideal_Open.f a nx L who b := by
  obtain ⟨j, rfl⟩ := Nat.le.dest hk
  have := ropen_run L hL who b a nx L.length 0 (1000 - L.length + j) (by omega)
  rw [show 1000 - L.length + j + L.length + 1 = 1001 + j by omega, List.drop_zero] at this
  exact this
theorem rcid (s : ByteArray) : ∃ c, ideal_Cid.f s = some c ∧ dominoref10_Cid.f s = some c := by
  unfold ideal_Cid.f dominoref10_Cid.f
  by_cases h : (s.size : Int) ≤ 8
  · rw [if_pos h, if_pos (by omega)]
    exact ⟨_, rfl, rfl⟩
  · have h9 : (9 : Int) ≤ (s.size : Int) := by omega
    have h8 : ¬ (s.size : Int) < 9 := by omega
    simp only [h, h9, h8, if_true, if_false]
    exact ⟨_, rfl, rfl⟩
theorem iopen_some (a nx : Int) (L : List S73) (who : Int) (b : ByteArray) : ∃ x, ideal_Open.f a nx L who b = some x := ⟨_, rfl⟩
theorem seals_l0 (x1 : List S40) (x2 : Int) (x3 : ByteArray) (a : Int) (h20 : x1.length ≤ 20) (hb : ∀ j, j < x1.length → (x1.getD j z40).f2.size ≤ 30 ∧ (x1.getD j z40).f3.size ≤ 200) :
    ∀ (m i : Nat) (L : List S73) (k : Nat), i + m = x1.length → L.length = i → 1100 + 2 * m ≤ k → dominolaw10_IdealSeals.l0 k x1 x2 x3 (i : Int) a (i : Int) L a (i : Int) (L.map cv) = some true := by
  intro m
  induction m with
  | zero =>
    intro i L k h hL hk
    obtain ⟨j, rfl⟩ := Nat.le.dest hk
    rw [show 1100 + 2 * 0 + j = (1099 + j) + 1 by omega, dominolaw10_IdealSeals.l0, if_neg (by omega), ropen L (by omega) _ _ _ _ _ (by omega)]
    obtain ⟨x, hx⟩ := iopen_some a (i : Int) L x2 x3
    obtain ⟨c, c1, c2⟩ := rcid x3
    rw [hx, Option.bind_some, Option.bind_some, if_pos rfl, if_pos rfl, if_pos (by simp), c1, Option.bind_some, c2, Option.bind_some]
    simp
  | succ m ih =>
    intro i L k h hL hk
    obtain ⟨j, rfl⟩ := Nat.le.dest hk
    have e0 : rd_T40 x1 (i : Int) = x1.getD i z40 := rfl
    obtain ⟨b1, b2⟩ := hb i (by omega)
    rw [show 1100 + 2 * (m + 1) + j = (1100 + 2 * m + j) + 1 + 1 by omega]
    obtain ⟨p, hp⟩ : ∃ p, p = 1100 + 2 * m + j := ⟨_, rfl⟩
    rw [← hp, dominolaw10_IdealSeals.l0, if_pos (by omega), if_pos (by omega), e0]
    obtain ⟨r, r1, r2, r3, r4⟩ := seal_some (p + 1) a (i : Int) L (x1.getD i z40).f0 (x1.getD i z40).f1 (x1.getD i z40).f2 (x1.getD i z40).f3 (by omega) (by omega) (by omega) (by omega)
    have r5 := rseal (p + 1) a (i : Int) (L.map cv) (x1.getD i z40).f0 (x1.getD i z40).f1 (x1.getD i z40).f2 (x1.getD i z40).f3 r (by omega) r3 r2 (by omega) (by omega) (by rw [List.length_map]; omega)
    rw [r4, Option.bind_some, r5, Option.bind_some]
    dsimp only
    generalize hs : ((⟨#[64]⟩ : ByteArray) ++ (x1.getD i z40).f2) ++ r = s
    have hw1 : IntKind.u64.wrap ((i : Int) + 1) = ((i + 1 : Nat) : Int) := by
      rw [wUi (by omega) (by omega)]
      omega
    rw [hw1]
    obtain ⟨M, hM⟩ : ∃ M : List S73, M = L ++ [⟨(x1.getD i z40).f0, (x1.getD i z40).f1, s, (x1.getD i z40).f3⟩] := ⟨_, rfl⟩
    have hMl : M.length = i + 1 := by rw [hM, List.length_append, hL]; rfl
    have hMc : (L.map cv ++ [(⟨(x1.getD i z40).f0, (x1.getD i z40).f1, s, (x1.getD i z40).f3⟩ : S74)]) = M.map cv := by
      rw [hM, List.map_append]
      rfl
    rw [← hM, hMc, if_pos rfl, its_all M (by omega) _ _ _ (by omega), Option.bind_some]
    dsimp only
    rw [same_all (M.map cv) (by rw [List.length_map]; omega) _ _ _ (by omega), Option.bind_some, if_pos rfl]
    obtain ⟨c, c1, c2⟩ := rcid s
    rw [c1, Option.bind_some, c2, Option.bind_some, show (c.toList != c.toList) = false by simp, dominolaw10_IdealSeals.j2, if_neg (by decide), ropen M (by omega) _ _ _ _ _ (by omega)]
    obtain ⟨x, hx⟩ := iopen_some a ((i + 1 : Nat) : Int) M x2 s
    rw [hx, Option.bind_some, Option.bind_some, if_pos rfl, if_pos rfl, if_neg (by simp), wi64 (by omega) (by omega)]
    exact ih (i + 1) M p (by omega) hMl (by omega)
theorem IdealSeals : dominolaw10_IdealSeals.Pure := by
  intro a0 l1 a2 a3 h0 h1 h2 h3 h4 h5
  obtain ⟨b, g1, g2⟩ := bounded_all l1 h1
  obtain ⟨q, hq⟩ : ∃ q : Nat, q = l1.length + 2000 := ⟨_, rfl⟩
  refine ⟨q + 1, ?_⟩
  have big : dominolaw10_IdealSeals.j0 (q + 1) a0 l1 a2 a3 true = some true := by
    rw [dominolaw10_IdealSeals.j0, if_pos rfl, shown_all q (by omega)]
    rfl
  unfold dominolaw10_IdealSeals.f
  rw [g1 (q + 1) (by omega), Option.bind_some]
  cases b with
  | false => rw [if_neg (by decide), big]
  | true =>
    rw [if_pos rfl]
    by_cases b2 : (a3.size : Int) > 300
    · rw [if_pos b2, big]
    rw [if_neg b2, shown_all (q + 1) (by omega), Option.bind_some, dominolaw10_IdealSeals.j0, if_neg (by decide), show ideal_New.f a0 = some (a0, 0, ([] : List S73)) from rfl, Option.bind_some, show dominoref10_New.f a0 = some (a0, 0, ([] : List S74)) from rfl, Option.bind_some]
    obtain ⟨c1, c2⟩ := g2 rfl
    exact seals_l0 l1 a2 a3 a0 c1 c2 l1.length 0 [] q (by omega) rfl (by omega)

end Go.Proofs.Ytoeccdhanafkpaa.Pure
