/- The law VarintMany of the claim in plain Lean: the bytes of many numbers are those of each, one behind the other. -/
import Derived.Test.YtablpjlhhnfpkaaDoorPVarintManyx4
import Derived.Lib.Bytes
import Derived.Lib.EndianBits
namespace Go.Proofs.YtablpjlhhnfpkaaDoor.Pure
open Go.RowKit Go.Proofs.YtablpjlhhnfpkaaDoor.PVarintMany Go.Proofs.YtablpjlhhnfpkaaDoorW.PrintWords Go.Proofs.YtablpjlhhnfpkaaDoorW.PrintLast
set_option linter.unusedVariables false
set_option linter.unusedSimpArgs false
theorem u64b {n : Int} (h : (Lit.int .u64 n).wf = true) : 0 ≤ n ∧ n < 18446744073709551616 := by
  simp [Lit.wf, IntKind.min, IntKind.max, IntKind.signed, IntKind.bits] at h
  omega
theorem wU (n : Int) : IntKind.u64.wrap n = n % 18446744073709551616 := IntKind.wrap_u64 n
theorem wUb (n : Int) : 0 ≤ IntKind.u64.wrap n ∧ IntKind.u64.wrap n < 18446744073709551616 := by rw [wU]; omega
theorem wUi {n : Int} (h0 : 0 ≤ n) (h1 : n < 18446744073709551616) : IntKind.u64.wrap n = n := by rw [wU]; omega
theorem hk64 : ∀ n : Int, 0 ≤ n → n < 2 ^ 64 → IntKind.u64.wrap n = n := fun n a b => wUi a (by simpa using b)
theorem spB_eq (n : Int) (h0 : 0 ≤ n) (h1 : n < 18446744073709551616) (i : Nat) (hi : i < 8) : spB n i = n / 2 ^ (56 - 8 * i) % 256 := by
  have : i = 0 ∨ i = 1 ∨ i = 2 ∨ i = 3 ∨ i = 4 ∨ i = 5 ∨ i = 6 ∨ i = 7 := by omega
  unfold spB bits_RotateLeft64.f
  rcases this with rfl | rfl | rfl | rfl | rfl | rfl | rfl | rfl
  · rw [show Go.bits .and .u64 (IntKind.u64.wrap (8 * ((0 : Nat) : Int) + 8)) 63 = 8 by decide +kernel, show IntKind.u64.wrap (64 - 8) = 56 by decide, if_pos (by decide), if_pos (by decide), Option.getD_some, show shl .u64 n 8 = n * 2 ^ 8 % 18446744073709551616 from wU _, show shr .u64 n 56 = n / 2 ^ 56 from rfl, bits_join .u64 64 (by decide) hk64 8 _ _ (by omega) (by omega) (by omega) (by omega) (by omega) (by omega)]
    simp only [Nat.mul_zero, Nat.sub_zero]
    omega
  · rw [show Go.bits .and .u64 (IntKind.u64.wrap (8 * ((1 : Nat) : Int) + 8)) 63 = 16 by decide +kernel, show IntKind.u64.wrap (64 - 16) = 48 by decide, if_pos (by decide), if_pos (by decide), Option.getD_some, show shl .u64 n 16 = n * 2 ^ 16 % 18446744073709551616 from wU _, show shr .u64 n 48 = n / 2 ^ 48 from rfl, bits_join .u64 64 (by decide) hk64 16 _ _ (by omega) (by omega) (by omega) (by omega) (by omega) (by omega)]
    simp only [Nat.reduceMul, Nat.reduceSub]
    omega
  · rw [show Go.bits .and .u64 (IntKind.u64.wrap (8 * ((2 : Nat) : Int) + 8)) 63 = 24 by decide +kernel, show IntKind.u64.wrap (64 - 24) = 40 by decide, if_pos (by decide), if_pos (by decide), Option.getD_some, show shl .u64 n 24 = n * 2 ^ 24 % 18446744073709551616 from wU _, show shr .u64 n 40 = n / 2 ^ 40 from rfl, bits_join .u64 64 (by decide) hk64 24 _ _ (by omega) (by omega) (by omega) (by omega) (by omega) (by omega)]
    simp only [Nat.reduceMul, Nat.reduceSub]
    omega
  · rw [show Go.bits .and .u64 (IntKind.u64.wrap (8 * ((3 : Nat) : Int) + 8)) 63 = 32 by decide +kernel, show IntKind.u64.wrap (64 - 32) = 32 by decide, if_pos (by decide), if_pos (by decide), Option.getD_some, show shl .u64 n 32 = n * 2 ^ 32 % 18446744073709551616 from wU _, show shr .u64 n 32 = n / 2 ^ 32 from rfl, bits_join .u64 64 (by decide) hk64 32 _ _ (by omega) (by omega) (by omega) (by omega) (by omega) (by omega)]
    simp only [Nat.reduceMul, Nat.reduceSub]
    omega
  · rw [show Go.bits .and .u64 (IntKind.u64.wrap (8 * ((4 : Nat) : Int) + 8)) 63 = 40 by decide +kernel, show IntKind.u64.wrap (64 - 40) = 24 by decide, if_pos (by decide), if_pos (by decide), Option.getD_some, show shl .u64 n 40 = n * 2 ^ 40 % 18446744073709551616 from wU _, show shr .u64 n 24 = n / 2 ^ 24 from rfl, bits_join .u64 64 (by decide) hk64 40 _ _ (by omega) (by omega) (by omega) (by omega) (by omega) (by omega)]
    simp only [Nat.reduceMul, Nat.reduceSub]
    omega
  · rw [show Go.bits .and .u64 (IntKind.u64.wrap (8 * ((5 : Nat) : Int) + 8)) 63 = 48 by decide +kernel, show IntKind.u64.wrap (64 - 48) = 16 by decide, if_pos (by decide), if_pos (by decide), Option.getD_some, show shl .u64 n 48 = n * 2 ^ 48 % 18446744073709551616 from wU _, show shr .u64 n 16 = n / 2 ^ 16 from rfl, bits_join .u64 64 (by decide) hk64 48 _ _ (by omega) (by omega) (by omega) (by omega) (by omega) (by omega)]
    simp only [Nat.reduceMul, Nat.reduceSub]
    omega
  · rw [show Go.bits .and .u64 (IntKind.u64.wrap (8 * ((6 : Nat) : Int) + 8)) 63 = 56 by decide +kernel, show IntKind.u64.wrap (64 - 56) = 8 by decide, if_pos (by decide), if_pos (by decide), Option.getD_some, show shl .u64 n 56 = n * 2 ^ 56 % 18446744073709551616 from wU _, show shr .u64 n 8 = n / 2 ^ 8 from rfl, bits_join .u64 64 (by decide) hk64 56 _ _ (by omega) (by omega) (by omega) (by omega) (by omega) (by omega)]
    simp only [Nat.reduceMul, Nat.reduceSub]
    omega
  · rw [show Go.bits .and .u64 (IntKind.u64.wrap (8 * ((7 : Nat) : Int) + 8)) 63 = 0 by decide +kernel, show IntKind.u64.wrap (64 - 0) = 64 by decide, if_pos (by decide), if_pos (by decide), Option.getD_some, show shl .u64 n 0 = n * 2 ^ 0 % 18446744073709551616 from wU _, show shr .u64 n 64 = n / 2 ^ 64 from rfl, bits_join .u64 64 (by decide) hk64 0 _ _ (by omega) (by omega) (by omega) (by omega) (by omega) (by omega)]
    simp only [Nat.reduceMul, Nat.reduceSub]
    omega
theorem fixL_eq (n : Int) (h0 : 0 ≤ n) (h1 : n < 18446744073709551616) : fixL n = [n / 2 ^ 56 % 256, n / 2 ^ 48 % 256, n / 2 ^ 40 % 256, n / 2 ^ 32 % 256, n / 2 ^ 24 % 256, n / 2 ^ 16 % 256, n / 2 ^ 8 % 256, n / 2 ^ 0 % 256] := by
  unfold fixL
  rw [show List.range 8 = [0, 1, 2, 3, 4, 5, 6, 7] from rfl]
  simp only [List.map_cons, List.map_nil]
  rw [spB_eq n h0 h1 0 (by decide), spB_eq n h0 h1 1 (by decide), spB_eq n h0 h1 2 (by decide), spB_eq n h0 h1 3 (by decide), spB_eq n h0 h1 4 (by decide), spB_eq n h0 h1 5 (by decide), spB_eq n h0 h1 6 (by decide), spB_eq n h0 h1 7 (by decide)]
theorem u8_eq {a b : Int} (a0 : 0 ≤ a) (a1 : a < 256) (b0 : 0 ≤ b) (b1 : b < 256) (h : UInt8.ofNat a.toNat = UInt8.ofNat b.toNat) : a = b := by
  have := congrArg UInt8.toNat h
  simp only [UInt8.toNat_ofNat', Nat.reducePow] at this
  omega
theorem w64 {n : Int} (h0 : 0 ≤ n) (h1 : n < 9223372036854775808) : wrap64 n = n := by
  unfold wrap64
  first | omega | (simp [IntKind.wrap, IntKind.bits, IntKind.signed]; omega)
theorem hk8 : ∀ n : Int, 0 ≤ n → n < 2 ^ 8 → IntKind.u8.wrap n = n := fun n a b => by
  have : n < 256 := by simpa using b
  simp [IntKind.wrap, IntKind.bits, IntKind.signed]
  omega
theorem sizeL (s : ByteArray) : s.size = s.toList.length := by rw [Go.Lib.toList_data, Go.Lib.size_eq]
theorem appL (a b : ByteArray) : (a ++ b).toList = a.toList ++ b.toList := by
  rw [Go.Lib.toList_data, Go.Lib.toList_data, Go.Lib.toList_data, ByteArray.data_append, Array.toList_append]
theorem numsL (xs : List Int) : (strOfNums xs).toList = xs.map fun n => UInt8.ofNat n.toNat := Go.Lib.strOfNums_toList xs
theorem nums_size (xs : List Int) : (strOfNums xs).size = xs.length := by rw [sizeL, numsL, List.length_map]
theorem ba_ext {a b : ByteArray} (h : a.toList = b.toList) : a = b := by
  rw [Go.Lib.toList_data, Go.Lib.toList_data] at h
  cases a
  cases b
  exact congrArg ByteArray.mk (Array.toList_inj.1 h)
/-- The bytes of a number that is put. -/
def pb (n : Int) : List Int := if n < 64 then [n] else if n < 16384 then [n / 256 + 64, n % 256] else if n < 1073741824 then [n / 16777216 + 128, n / 65536 % 256, n / 256 % 256, n % 256]
  else [n / 72057594037927936 + 192, n / 281474976710656 % 256, n / 1099511627776 % 256, n / 4294967296 % 256, n / 16777216 % 256, n / 65536 % 256, n / 256 % 256, n % 256]
theorem putB_1 (n : Int) (h0 : 0 ≤ n) (h : n < 64) : putB n 1 = n := by
  unfold putB
  rw [spB_eq n h0 (by omega) 7 (by decide), show IntKind.u8.wrap (IntKind.u8.wrap ((tzOf 1 : Nat) : Int) * 64) = 0 by decide +kernel, Go.bits_join_low .u8 8 (by decide) hk8 6 _ _ (by omega) (by omega) (by omega) (by omega) (by omega) (by omega)]
  omega
theorem putB_2 (n : Int) (h0 : 0 ≤ n) (h : n < 16384) : putB n 2 = n / 256 + 64 := by
  unfold putB
  rw [spB_eq n h0 (by omega) 6 (by decide), show IntKind.u8.wrap (IntKind.u8.wrap ((tzOf 2 : Nat) : Int) * 64) = 64 by decide +kernel, Go.bits_join_low .u8 8 (by decide) hk8 6 _ _ (by omega) (by omega) (by omega) (by omega) (by omega) (by omega)]
  omega
theorem putB_4 (n : Int) (h0 : 0 ≤ n) (h : n < 1073741824) : putB n 4 = n / 16777216 + 128 := by
  unfold putB
  rw [spB_eq n h0 (by omega) 4 (by decide), show IntKind.u8.wrap (IntKind.u8.wrap ((tzOf 4 : Nat) : Int) * 64) = 128 by decide +kernel, Go.bits_join_low .u8 8 (by decide) hk8 6 _ _ (by omega) (by omega) (by omega) (by omega) (by omega) (by omega)]
  omega
theorem putB_8 (n : Int) (h0 : 0 ≤ n) (h : n < 4611686018427387904) : putB n 8 = n / 72057594037927936 + 192 := by
  unfold putB
  rw [spB_eq n h0 (by omega) 0 (by decide), show IntKind.u8.wrap (IntKind.u8.wrap ((tzOf 8 : Nat) : Int) * 64) = 192 by decide +kernel, Go.bits_join_low .u8 8 (by decide) hk8 6 _ _ (by omega) (by omega) (by omega) (by omega) (by omega) (by omega)]
  omega
theorem size_eq (n : Int) (h0 : 0 ≤ n) (h1 : n < 18446744073709551616) : varint_Size.f n = some (if n < 4611686018427387904 then ((pb n).length : Int) else 0) := by
  unfold varint_Size.f pb
  rw [if_pos h0]
  (repeat' split) <;> first | rfl | (exfalso; omega)
theorem put_big (n : Int) (h0 : 4611686018427387904 ≤ n) (h1 : n < 18446744073709551616) : varint_Put.f n = some ((⟨#[]⟩ : ByteArray), 1) := by
  unfold varint_Put.f
  rw [size_eq n (by omega) h1, if_neg (by omega), Option.bind_some, if_pos rfl]
theorem put_eq (n : Int) (h0 : 0 ≤ n) (h1 : n < 4611686018427387904) : varint_Put.f n = some (strOfNums (pb n), 0) := by
  unfold varint_Put.f
  rw [size_eq n h0 (by omega), if_pos h1, Option.bind_some]
  unfold pb
  by_cases c1 : n < 64
  · rw [if_pos c1, if_neg (by simp)]
    show some (strOfNums ((putL n 1).drop 7), (0 : Int)) = _
    unfold putL
    rw [putB_1 n h0 c1, fixL_eq n h0 (by omega)]
    rfl
  by_cases c2 : n < 16384
  · rw [if_neg c1, if_pos c2, if_neg (by simp)]
    show some (strOfNums ((putL n 2).drop 6), (0 : Int)) = _
    unfold putL
    rw [putB_2 n h0 c2, fixL_eq n h0 (by omega)]
    show some (strOfNums [n / 256 + 64, n / 2 ^ 0 % 256], (0 : Int)) = _
    simp
  by_cases c4 : n < 1073741824
  · rw [if_neg c1, if_neg c2, if_pos c4, if_neg (by simp)]
    show some (strOfNums ((putL n 4).drop 4), (0 : Int)) = _
    unfold putL
    rw [putB_4 n h0 c4, fixL_eq n h0 (by omega)]
    show some (strOfNums [n / 16777216 + 128, n / 2 ^ 16 % 256, n / 2 ^ 8 % 256, n / 2 ^ 0 % 256], (0 : Int)) = _
    simp
  · rw [if_neg c1, if_neg c2, if_neg c4, if_neg (by simp)]
    show some (strOfNums ((putL n 8).drop 0), (0 : Int)) = _
    unfold putL
    rw [putB_8 n h0 h1, fixL_eq n h0 (by omega)]
    show some (strOfNums [n / 72057594037927936 + 192, n / 2 ^ 48 % 256, n / 2 ^ 40 % 256, n / 2 ^ 32 % 256, n / 2 ^ 24 % 256, n / 2 ^ 16 % 256, n / 2 ^ 8 % 256, n / 2 ^ 0 % 256], (0 : Int)) = _
    simp
/-- What the bytes of s from i on add to a number. -/
def valF (s : ByteArray) : Nat → Nat → Int → Int
  | 0, _, acc => acc
  | m + 1, i, acc => valF s m (i + 1) (acc * 256 + bt s (i : Int))
theorem get_run (s : ByteArray) (w : Nat) (hw : w ≤ 8) (hs : w ≤ s.size) (hb : ∀ i : Nat, 0 ≤ bt s (i : Int) ∧ bt s (i : Int) < 256) : ∀ (m i k : Nat) (acc : Int), i + m = w → 1 ≤ i → 0 ≤ acc → acc < 64 * 256 ^ (i - 1) →
    varint_Get.l0 (k + m + 1) s (w : Int) acc (i : Int) = some (valF s m i acc, s.extract w s.size, 0) := by
  intro m
  induction m with
  | zero =>
    intro i k acc h _ _ _
    unfold varint_Get.l0
    rw [if_neg (by omega), if_pos (by omega), if_pos (by omega), Int.toNat_natCast]
    rfl
  | succ m ih =>
    intro i k acc h hi h0 h1
    have hi8 : i ≤ 7 := by omega
    have hp : acc < 72057594037927936 := by
      have hh : i = 1 ∨ i = 2 ∨ i = 3 ∨ i = 4 ∨ i = 5 ∨ i = 6 ∨ i = 7 := by omega
      rcases hh with rfl | rfl | rfl | rfl | rfl | rfl | rfl <;> (simp only [Nat.reduceSub, Int.reducePow, Int.reduceMul] at h1; omega)
    obtain ⟨b0, b1⟩ := hb i
    unfold varint_Get.l0
    rw [if_pos (by omega), if_pos (by omega), if_pos (by omega), w64 (by omega) (by omega), wUi (n := acc * 256) (by omega) (by omega), wUi (n := bt s (i : Int)) (by omega) (by omega), bits_join .u64 64 (by decide) hk64 8 _ _ (by omega) (by omega) (by omega) (by omega) (by omega) (by omega)]
    refine ih (i + 1) k _ (by omega) (by omega) (by omega) ?_
    have e : i + 1 - 1 = (i - 1) + 1 := by omega
    rw [e, Int.pow_succ]
    omega
def wid (b : Int) : Nat := if b < 64 then 1 else if b < 128 then 2 else if b < 192 then 4 else 8
theorem wid_b (b : Int) : 1 ≤ wid b ∧ wid b ≤ 8 := by
  unfold wid
  (repeat' split) <;> decide
theorem bt_b (s : ByteArray) (i : Int) : 0 ≤ bt s i ∧ bt s i < 256 := by
  have := bt_range s i
  omega
theorem wid_shl (b : Int) (h0 : 0 ≤ b) (h1 : b < 256) : shl .i64 1 (b / 64) = (wid b : Int) := by
  have h : b / 64 = 0 ∨ b / 64 = 1 ∨ b / 64 = 2 ∨ b / 64 = 3 := by omega
  unfold wid
  rcases h with h | h | h | h <;> rw [h]
  · rw [if_pos (by omega)]; decide +kernel
  · rw [if_neg (by omega), if_pos (by omega)]; decide +kernel
  · rw [if_neg (by omega), if_neg (by omega), if_pos (by omega)]; decide +kernel
  · rw [if_neg (by omega), if_neg (by omega), if_neg (by omega)]; decide +kernel
theorem empty_iff (s : ByteArray) : s.toList = ([] : List UInt8) ↔ s.size = 0 := by
  rw [sizeL]
  exact List.length_eq_zero_iff.symm
theorem get_short (s : ByteArray) (k : Nat) (h : s.size < wid (bt s 0)) : varint_Get.f k s = some (0, (⟨#[]⟩ : ByteArray), 10) := by
  obtain ⟨b0, b1⟩ := bt_b s 0
  unfold varint_Get.f
  by_cases hz : s.size = 0
  · rw [if_pos ((empty_iff s).2 hz)]
  · rw [if_neg (fun h => hz ((empty_iff s).1 h)), if_pos (by omega), if_pos (by omega), wid_shl _ b0 b1, if_pos (by omega)]
theorem get_eq (s : ByteArray) (k : Nat) (hk : 10 ≤ k) (h : wid (bt s 0) ≤ s.size) : varint_Get.f k s = some (valF s (wid (bt s 0) - 1) 1 (bt s 0 % 64), s.extract (wid (bt s 0)) s.size, 0) := by
  obtain ⟨b0, b1⟩ := bt_b s 0
  obtain ⟨w1, w8⟩ := wid_b (bt s 0)
  obtain ⟨j, rfl⟩ := Nat.le.dest hk
  have hm : Go.bits .and .u8 (bt s 0) 63 = bt s 0 % 64 := by
    have := bits_mask .u8 8 (by decide) hk8 6 (by decide) (bt s 0) b0 (by omega)
    exact this
  unfold varint_Get.f
  rw [if_neg (fun h => by have := (empty_iff s).1 h; omega), if_pos (by omega), if_pos (by omega), wid_shl _ b0 b1, if_neg (by omega), hm, wUi (by omega) (by omega)]
  have := get_run s (wid (bt s 0)) w8 h (fun i => bt_b s i) (wid (bt s 0) - 1) 1 (10 + j - wid (bt s 0)) (bt s 0 % 64) (by omega) (by decide) (by omega) (by simp; omega)
  rw [show 10 + j - wid (bt s 0) + (wid (bt s 0) - 1) + 1 = 10 + j by omega] at this
  exact this
theorem bt_list (s : ByteArray) (i : Nat) : bt s (i : Int) = ((s.toList.getD i 0).toNat : Int) := by
  unfold bt
  rw [Go.Lib.toList_data, Int.toNat_natCast]
  by_cases h : i < s.size
  · rw [dif_pos h]
    have h2 : i < s.data.toList.length := by rw [← Go.Lib.size_eq]; exact h
    rw [List.getD_eq_getElem?_getD, List.getElem?_eq_getElem h2]
    rfl
  · rw [dif_neg h]
    have h2 : ¬ i < s.data.toList.length := by rw [← Go.Lib.size_eq]; exact h
    rw [List.getD_eq_getElem?_getD, List.getElem?_eq_none (by omega)]
    rfl
theorem u8n {a : Int} (a0 : 0 ≤ a) (a1 : a < 256) : ((UInt8.ofNat a.toNat).toNat : Int) = a := by
  simp only [UInt8.toNat_ofNat', Nat.reducePow]
  omega
theorem pb_b (n : Int) (h0 : 0 ≤ n) (h1 : n < 4611686018427387904) : ∀ x ∈ pb n, 0 ≤ x ∧ x < 256 := by
  unfold pb
  (repeat' split) <;> (intro x hx; simp only [List.mem_cons, List.not_mem_nil, or_false] at hx; omega)
/-- A byte of what begins by given numbers. -/
theorem bt_nums (xs : List Int) (s : ByteArray) (hx : ∀ x ∈ xs, 0 ≤ x ∧ x < 256) (i : Nat) (hi : i < xs.length) : bt (strOfNums xs ++ s) (i : Int) = xs.getD i 0 := by
  rw [bt_list, appL, numsL, List.getD_eq_getElem?_getD, List.getElem?_append_left (by rw [List.length_map]; exact hi), List.getElem?_map, List.getElem?_eq_getElem hi, List.getD_eq_getElem?_getD, List.getElem?_eq_getElem hi]
  have := hx xs[i] (List.getElem_mem hi)
  exact u8n this.1 this.2
theorem put_wid (n : Int) (s : ByteArray) (h0 : 0 ≤ n) (h1 : n < 4611686018427387904) : wid (bt (strOfNums (pb n) ++ s) 0) = (pb n).length ∧ valF (strOfNums (pb n) ++ s) ((pb n).length - 1) 1 (bt (strOfNums (pb n) ++ s) 0 % 64) = n := by
  have hb := pb_b n h0 h1
  have g : ∀ i : Nat, i < (pb n).length → bt (strOfNums (pb n) ++ s) (i : Int) = (pb n).getD i 0 := bt_nums (pb n) s hb
  have g0 := g 0
  have g1 := g 1
  have g2 := g 2
  have g3 := g 3
  have g4 := g 4
  have g5 := g 5
  have g6 := g 6
  have g7 := g 7
  clear g hb
  by_cases c1 : n < 64
  · have e : pb n = [n] := by
      unfold pb
      rw [if_pos c1]
    clear g1 g2 g3 g4 g5 g6 g7
    rw [e] at g0 ⊢
    simp only [List.length_cons, List.length_nil, List.getD_cons_zero, List.getD_cons_succ, Nat.zero_add, Nat.reduceAdd, Nat.reduceSub] at g0 ⊢
    rw [show ((0 : Nat) : Int) = 0 from rfl] at g0
    rw [g0 (by decide)]
    unfold wid
    rw [if_pos (by omega)]
    refine ⟨rfl, ?_⟩
    simp only [valF, Nat.reduceAdd]
    omega
  by_cases c2 : n < 16384
  · have e : pb n = [n / 256 + 64, n % 256] := by
      unfold pb
      rw [if_neg c1, if_pos c2]
    clear g2 g3 g4 g5 g6 g7
    rw [e] at g0 g1 ⊢
    simp only [List.length_cons, List.length_nil, List.getD_cons_zero, List.getD_cons_succ, Nat.zero_add, Nat.reduceAdd, Nat.reduceSub] at g0 g1 ⊢
    rw [show ((0 : Nat) : Int) = 0 from rfl] at g0
    rw [g0 (by decide)]
    unfold wid
    rw [if_neg (by omega), if_pos (by omega)]
    refine ⟨rfl, ?_⟩
    simp only [valF, Nat.reduceAdd]
    rw [g1 (by decide)]
    omega
  by_cases c4 : n < 1073741824
  · have e : pb n = [n / 16777216 + 128, n / 65536 % 256, n / 256 % 256, n % 256] := by
      unfold pb
      rw [if_neg c1, if_neg c2, if_pos c4]
    clear g4 g5 g6 g7
    rw [e] at g0 g1 g2 g3 ⊢
    simp only [List.length_cons, List.length_nil, List.getD_cons_zero, List.getD_cons_succ, Nat.zero_add, Nat.reduceAdd, Nat.reduceSub] at g0 g1 g2 g3 ⊢
    rw [show ((0 : Nat) : Int) = 0 from rfl] at g0
    rw [g0 (by decide)]
    unfold wid
    rw [if_neg (by omega), if_neg (by omega), if_pos (by omega)]
    refine ⟨rfl, ?_⟩
    simp only [valF, Nat.reduceAdd]
    rw [g1 (by decide), g2 (by decide), g3 (by decide)]
    omega
  · have e : pb n = [n / 72057594037927936 + 192, n / 281474976710656 % 256, n / 1099511627776 % 256, n / 4294967296 % 256, n / 16777216 % 256, n / 65536 % 256, n / 256 % 256, n % 256] := by
      unfold pb
      rw [if_neg c1, if_neg c2, if_neg c4]
    rw [e] at g0 g1 g2 g3 g4 g5 g6 g7 ⊢
    simp only [List.length_cons, List.length_nil, List.getD_cons_zero, List.getD_cons_succ, Nat.zero_add, Nat.reduceAdd, Nat.reduceSub] at g0 g1 g2 g3 g4 g5 g6 g7 ⊢
    rw [show ((0 : Nat) : Int) = 0 from rfl] at g0
    rw [g0 (by decide)]
    unfold wid
    rw [if_neg (by omega), if_neg (by omega), if_neg (by omega)]
    refine ⟨rfl, ?_⟩
    simp only [valF, Nat.reduceAdd]
    rw [g1 (by decide), g2 (by decide), g3 (by decide), g4 (by decide), g5 (by decide), g6 (by decide), g7 (by decide)]
    omega
theorem ext_app (a b : ByteArray) : (a ++ b).extract a.size (a ++ b).size = b := by
  apply ba_ext
  rw [Go.Lib.extract_toList, ← Go.Lib.toList_data, appL, sizeL, sizeL, appL, List.length_append, List.drop_left, Nat.add_sub_cancel_left, List.take_length]
theorem put_get (n : Int) (s : ByteArray) (h0 : 0 ≤ n) (h1 : n < 4611686018427387904) (k : Nat) (hk : 10 ≤ k) : varint_Get.f k (strOfNums (pb n) ++ s) = some (n, s, 0) := by
  obtain ⟨w, v⟩ := put_wid n s h0 h1
  have hs : (strOfNums (pb n)).size = (pb n).length := nums_size _
  rw [get_eq _ k hk (by rw [w, ByteArray.size_append, hs]; omega), w, v, ← hs, ext_app]
theorem shown_ten : dominolaw01_shown.f 10 = some true := by
  unfold dominolaw01_shown.f
  rw [put_eq 64 (by decide) (by decide), Option.bind_some, put_get 64 _ (by decide) (by decide) 10 (by decide)]
  dsimp only
  rw [Option.bind_some]
  simp only [Go.Lib.toList_data]
  decide +kernel
theorem shown_all (k : Nat) (h : 10 ≤ k) : dominolaw01_shown.f k = some true := at_rounds dominolaw01_shown.mono h shown_ten
theorem tdn {a b : Int} (h : 0 ≤ a) : Int.tdiv a b = a / b := Int.tdiv_eq_ediv_of_nonneg h
theorem rpow : ∀ i : Nat, i < 64 → dominoref01_power.f 70 (i : Int) = some (2 ^ i) := by
  have h : ∀ i : Fin 64, dominoref01_power.f 70 (i.val : Int) = some (2 ^ i.val) := by decide +kernel
  exact fun i hi => h ⟨i, hi⟩
theorem rpow_at (i : Nat) (h : i < 64) (k : Nat) (hk : 70 ≤ k) : dominoref01_power.f k (i : Int) = some (2 ^ i) :=
  at_rounds (dominoref01_power.mono _) hk (rpow i h)
theorem rpow_all (i : Nat) (h : i < 8) (k : Nat) (hk : 70 ≤ k) : dominoref01_power.f k (wrap64 (8 * (i : Int))) = some (2 ^ (8 * i)) := by
  rw [w64 (by omega) (by omega)]
  exact rpow_at (8 * i) (by omega) k hk
theorem rfix_step (k : Nat) (n : Int) (h0 : 0 ≤ n) (h1 : n < 18446744073709551616) (i : Nat) (hi : i < 8) (xs : List Int) (hx : xs.length < 100) (hk : 70 ≤ k) :
    dominoref01_Fixed.l0 (k + 1) n xs (i : Int) = dominoref01_Fixed.l0 k n (xs ++ [n / 2 ^ (8 * i) % 256]) ((i : Int) - 1) := by
  have hp : (0 : Int) < 2 ^ (8 * i) := Int.pow_pos (by decide)
  have g0 : 0 ≤ n / 2 ^ (8 * i) := Int.ediv_nonneg h0 (by omega)
  have g1 : n / 2 ^ (8 * i) ≤ n := Int.ediv_le_self _ h0
  have e : (Int.tmod (IntKind.u64.wrap (Int.tdiv n (2 ^ (8 * i)))) 256) % 256 = n / 2 ^ (8 * i) % 256 := by
    rw [tdn h0, wUi g0 (by omega), Int.tmod_eq_emod_of_nonneg g0]
    omega
  have w : wrap64 ((i : Int) - 1) = (i : Int) - 1 := by
    have : i = 0 ∨ i = 1 ∨ i = 2 ∨ i = 3 ∨ i = 4 ∨ i = 5 ∨ i = 6 ∨ i = 7 := by omega
    rcases this with rfl | rfl | rfl | rfl | rfl | rfl | rfl | rfl <;> decide +kernel
  conv => lhs; unfold dominoref01_Fixed.l0
  rw [if_pos (by omega), rpow_all i hi k hk, Option.bind_some, if_neg (by omega), if_pos (by omega), e, w]
theorem rfix1 (k : Nat) (n : Int) (h0 : 0 ≤ n) (h1 : n < 18446744073709551616) (hk : 70 ≤ k) : dominoref01_Fixed.f (k + 9) n 1 = some (strOfNums [n % 256]) := by
  unfold dominoref01_Fixed.f
  rw [show mx (mn 1 8) 0 - 1 = ((0 : Nat) : Int) by decide]
  rw [rfix_step (k + 8) n h0 h1 0 (by decide) _ (by simp) (by omega)]
  unfold dominoref01_Fixed.l0
  rw [if_neg (by decide)]
  simp
theorem rfix2 (k : Nat) (n : Int) (h0 : 0 ≤ n) (h1 : n < 18446744073709551616) (hk : 70 ≤ k) : dominoref01_Fixed.f (k + 9) n 2 = some (strOfNums [n / 256 % 256, n % 256]) := by
  unfold dominoref01_Fixed.f
  rw [show mx (mn 2 8) 0 - 1 = ((1 : Nat) : Int) by decide]
  rw [rfix_step (k + 8) n h0 h1 1 (by decide) _ (by simp) (by omega), show (((1 : Nat) : Int) - 1) = ((0 : Nat) : Int) by decide]
  rw [rfix_step (k + 7) n h0 h1 0 (by decide) _ (by simp) (by omega)]
  unfold dominoref01_Fixed.l0
  rw [if_neg (by decide)]
  simp
theorem rfix4 (k : Nat) (n : Int) (h0 : 0 ≤ n) (h1 : n < 18446744073709551616) (hk : 70 ≤ k) : dominoref01_Fixed.f (k + 9) n 4 = some (strOfNums [n / 16777216 % 256, n / 65536 % 256, n / 256 % 256, n % 256]) := by
  unfold dominoref01_Fixed.f
  rw [show mx (mn 4 8) 0 - 1 = ((3 : Nat) : Int) by decide]
  rw [rfix_step (k + 8) n h0 h1 3 (by decide) _ (by simp) (by omega), show (((3 : Nat) : Int) - 1) = ((2 : Nat) : Int) by decide]
  rw [rfix_step (k + 7) n h0 h1 2 (by decide) _ (by simp) (by omega), show (((2 : Nat) : Int) - 1) = ((1 : Nat) : Int) by decide]
  rw [rfix_step (k + 6) n h0 h1 1 (by decide) _ (by simp) (by omega), show (((1 : Nat) : Int) - 1) = ((0 : Nat) : Int) by decide]
  rw [rfix_step (k + 5) n h0 h1 0 (by decide) _ (by simp) (by omega)]
  unfold dominoref01_Fixed.l0
  rw [if_neg (by decide)]
  simp
theorem rfix8 (k : Nat) (n : Int) (h0 : 0 ≤ n) (h1 : n < 18446744073709551616) (hk : 70 ≤ k) : dominoref01_Fixed.f (k + 9) n 8 = some (strOfNums [n / 72057594037927936 % 256, n / 281474976710656 % 256, n / 1099511627776 % 256, n / 4294967296 % 256, n / 16777216 % 256, n / 65536 % 256, n / 256 % 256, n % 256]) := by
  unfold dominoref01_Fixed.f
  rw [show mx (mn 8 8) 0 - 1 = ((7 : Nat) : Int) by decide]
  rw [rfix_step (k + 8) n h0 h1 7 (by decide) _ (by decide) (by omega), show (((7 : Nat) : Int) - 1) = ((6 : Nat) : Int) by decide]
  rw [rfix_step (k + 7) n h0 h1 6 (by decide) _ (by simp) (by omega), show (((6 : Nat) : Int) - 1) = ((5 : Nat) : Int) by decide]
  rw [rfix_step (k + 6) n h0 h1 5 (by decide) _ (by simp) (by omega), show (((5 : Nat) : Int) - 1) = ((4 : Nat) : Int) by decide]
  rw [rfix_step (k + 5) n h0 h1 4 (by decide) _ (by simp) (by omega), show (((4 : Nat) : Int) - 1) = ((3 : Nat) : Int) by decide]
  rw [rfix_step (k + 4) n h0 h1 3 (by decide) _ (by simp) (by omega), show (((3 : Nat) : Int) - 1) = ((2 : Nat) : Int) by decide]
  rw [rfix_step (k + 3) n h0 h1 2 (by decide) _ (by simp) (by omega), show (((2 : Nat) : Int) - 1) = ((1 : Nat) : Int) by decide]
  rw [rfix_step (k + 2) n h0 h1 1 (by decide) _ (by simp) (by omega), show (((1 : Nat) : Int) - 1) = ((0 : Nat) : Int) by decide]
  rw [rfix_step (k + 1) n h0 h1 0 (by decide) _ (by simp) (by omega)]
  unfold dominoref01_Fixed.l0
  rw [if_neg (by decide)]
  simp
theorem p6 (k : Nat) (hk : 70 ≤ k) : dominoref01_power.f k 6 = some 64 := rpow_at 6 (by decide) k hk
theorem p14 (k : Nat) (hk : 70 ≤ k) : dominoref01_power.f k 14 = some 16384 := rpow_at 14 (by decide) k hk
theorem p30 (k : Nat) (hk : 70 ≤ k) : dominoref01_power.f k 30 = some 1073741824 := rpow_at 30 (by decide) k hk
theorem p62 (k : Nat) (hk : 70 ≤ k) : dominoref01_power.f k 62 = some 4611686018427387904 := rpow_at 62 (by decide) k hk
theorem rsize (n : Int) (h0 : 0 ≤ n) (k : Nat) (hk : 70 ≤ k) : dominoref01_Size.f k n = some (if n < 4611686018427387904 then ((pb n).length : Int) else 0) := by
  unfold dominoref01_Size.f pb
  rw [p6 k hk, Option.bind_some, p14 k hk, Option.bind_some, p30 k hk, Option.bind_some, p62 k hk, Option.bind_some]
  (repeat' split) <;> first | rfl | (exfalso; omega)
theorem rput_big (n : Int) (h0 : 4611686018427387904 ≤ n) (k : Nat) (hk : 70 ≤ k) : dominoref01_Put.f k n = some ((⟨#[]⟩ : ByteArray), 1) := by
  unfold dominoref01_Put.f
  rw [rsize n (by omega) k hk, if_neg (by omega), Option.bind_some, if_neg (by decide), if_neg (by decide), if_neg (by decide), if_neg (by decide)]
theorem rput (n : Int) (h0 : 0 ≤ n) (h1 : n < 4611686018427387904) (k : Nat) (hk : 70 ≤ k) : dominoref01_Put.f (k + 9) n = some (strOfNums (pb n), 0) := by
  unfold dominoref01_Put.f
  rw [rsize n h0 (k + 9) (by omega), if_pos h1, Option.bind_some]
  unfold pb
  by_cases c1 : n < 64
  · rw [if_pos c1, if_pos (by simp), rfix1 k n h0 (by omega) hk, Option.bind_some, show n % 256 = n by omega]
  by_cases c2 : n < 16384
  · rw [if_neg c1, if_pos c2, if_neg (by simp), if_pos (by simp), p14 (k + 9) (by omega), Option.bind_some, wUi (by omega) (by omega), rfix2 k _ (by omega) (by omega) hk, Option.bind_some, show (n + 16384) / 256 % 256 = n / 256 + 64 by omega, show (n + 16384) % 256 = n % 256 by omega]
  by_cases c4 : n < 1073741824
  · rw [if_neg c1, if_neg c2, if_pos c4, if_neg (by simp), if_neg (by simp), if_pos (by simp), p30 (k + 9) (by omega), Option.bind_some, wUi (n := 2 * 1073741824) (by omega) (by omega), wUi (by omega) (by omega), rfix4 k _ (by omega) (by omega) hk, Option.bind_some, show (n + 2 * 1073741824) / 16777216 % 256 = n / 16777216 + 128 by omega, show (n + 2 * 1073741824) / 65536 % 256 = n / 65536 % 256 by omega, show (n + 2 * 1073741824) / 256 % 256 = n / 256 % 256 by omega, show (n + 2 * 1073741824) % 256 = n % 256 by omega]
  · rw [if_neg c1, if_neg c2, if_neg c4, if_neg (by simp), if_neg (by simp), if_neg (by simp), if_pos (by simp), p62 (k + 9) (by omega), Option.bind_some, wUi (n := 3 * 4611686018427387904) (by omega) (by omega), wUi (by omega) (by omega), rfix8 k _ (by omega) (by omega) hk, Option.bind_some, show (n + 3 * 4611686018427387904) / 72057594037927936 % 256 = n / 72057594037927936 + 192 by omega, show (n + 3 * 4611686018427387904) / 281474976710656 % 256 = n / 281474976710656 % 256 by omega, show (n + 3 * 4611686018427387904) / 1099511627776 % 256 = n / 1099511627776 % 256 by omega, show (n + 3 * 4611686018427387904) / 4294967296 % 256 = n / 4294967296 % 256 by omega, show (n + 3 * 4611686018427387904) / 16777216 % 256 = n / 16777216 % 256 by omega, show (n + 3 * 4611686018427387904) / 65536 % 256 = n / 65536 % 256 by omega, show (n + 3 * 4611686018427387904) / 256 % 256 = n / 256 % 256 by omega, show (n + 3 * 4611686018427387904) % 256 = n % 256 by omega]
theorem back_run (s : ByteArray) (w : Nat) (hw : w ≤ 8) (hs : s.size = w) : ∀ (m i k : Nat) (acc : Int), i + m = w → 0 ≤ acc → acc < 256 ^ i →
    dominoref01_Back.l0 (k + m + 1) s acc (i : Int) = some (valF s m i acc) := by
  intro m
  induction m with
  | zero =>
    intro i k acc h _ _
    unfold dominoref01_Back.l0
    rw [if_neg (by omega)]
    rfl
  | succ m ih =>
    intro i k acc h h0 h1
    have hp : acc < 72057594037927936 := by
      have hh : i = 0 ∨ i = 1 ∨ i = 2 ∨ i = 3 ∨ i = 4 ∨ i = 5 ∨ i = 6 ∨ i = 7 := by omega
      rcases hh with rfl | rfl | rfl | rfl | rfl | rfl | rfl | rfl <;> (simp only [Int.reducePow] at h1; omega)
    obtain ⟨b0, b1⟩ := bt_b s (i : Int)
    unfold dominoref01_Back.l0
    rw [if_pos (by omega), if_pos (by omega), w64 (by omega) (by omega), wUi (n := acc * 256) (by omega) (by omega), wUi (n := bt s (i : Int)) (by omega) (by omega), wUi (by omega) (by omega)]
    refine ih (i + 1) k _ (by omega) (by omega) ?_
    rw [Int.pow_succ]
    omega
theorem bt_take (s : ByteArray) (c i : Nat) (hi : i < c) : bt (s.extract 0 c) (i : Int) = bt s (i : Int) := by
  rw [bt_list, bt_list, Go.Lib.extract_toList, ← Go.Lib.toList_data, List.getD_eq_getElem?_getD, List.getD_eq_getElem?_getD, List.getElem?_take, if_pos (by omega), List.drop_zero]
theorem valF_take (s : ByteArray) (c : Nat) : ∀ (m i : Nat) (acc : Int), i + m ≤ c → valF (s.extract 0 c) m i acc = valF s m i acc := by
  intro m
  induction m with
  | zero => intro i acc _; rfl
  | succ m ih =>
    intro i acc h
    simp only [valF]
    rw [bt_take s c i (by omega), ih (i + 1) _ (by omega)]
theorem take_size (s : ByteArray) (c : Nat) (hc : c ≤ s.size) : (s.extract 0 c).size = c := by
  rw [sizeL, Go.Lib.extract_toList, List.length_take, List.length_drop, ← Go.Lib.size_eq]
  omega
theorem ref_wid (b : Int) (h0 : 0 ≤ b) (h1 : b < 256) (k : Nat) (hk : 70 ≤ k) : dominoref01_power.f k (Int.tdiv b 64 % 256) = some (wid b : Int) := by
  rw [tdn h0]
  have h : b / 64 = 0 ∨ b / 64 = 1 ∨ b / 64 = 2 ∨ b / 64 = 3 := by omega
  unfold wid
  rcases h with h | h | h | h <;> rw [h]
  · rw [if_pos (by omega)]; exact rpow_at 0 (by decide) k hk
  · rw [if_neg (by omega), if_pos (by omega)]; exact rpow_at 1 (by decide) k hk
  · rw [if_neg (by omega), if_neg (by omega), if_pos (by omega)]; exact rpow_at 2 (by decide) k hk
  · rw [if_neg (by omega), if_neg (by omega), if_neg (by omega)]; exact rpow_at 3 (by decide) k hk
theorem rget_short (s : ByteArray) (k : Nat) (hk : 70 ≤ k) (h : s.size < wid (bt s 0)) : dominoref01_Get.f k s = some (0, (⟨#[]⟩ : ByteArray), 10) := by
  obtain ⟨b0, b1⟩ := bt_b s 0
  obtain ⟨w1, w8⟩ := wid_b (bt s 0)
  unfold dominoref01_Get.f
  by_cases hz : s.size = 0
  · rw [if_pos ((empty_iff s).2 hz)]
  · rw [if_neg (fun h => hz ((empty_iff s).1 h)), if_pos (by omega), ref_wid _ b0 b1 k hk, Option.bind_some, w64 (by omega) (by omega), if_pos (by omega)]
theorem ref_val (s : ByteArray) (w : Nat) (hw : wid (bt s 0) = w) : Int.tmod (valF s w 0 0) (2 ^ (8 * w - 2)) = valF s (w - 1) 1 (bt s 0 % 64) := by
  have b := fun i : Nat => bt_b s (i : Int)
  have b0 := b 0
  have b1 := b 1
  have b2 := b 2
  have b3 := b 3
  have b4 := b 4
  have b5 := b 5
  have b6 := b 6
  have b7 := b 7
  clear b
  rw [show ((0 : Nat) : Int) = 0 from rfl] at b0
  unfold wid at hw
  by_cases c1 : bt s 0 < 64
  · rw [if_pos c1] at hw
    subst hw
    simp only [valF, Nat.reduceSub, Nat.reduceMul, Int.reducePow, Int.zero_mul, Int.zero_add, show ((0 : Nat) : Int) = 0 from rfl]
    rw [Int.tmod_eq_emod_of_nonneg (by omega)]
  by_cases c2 : bt s 0 < 128
  · rw [if_neg c1, if_pos c2] at hw
    subst hw
    simp only [valF, Nat.reduceSub, Nat.reduceMul, Nat.reduceAdd, Int.reducePow, Int.zero_mul, Int.zero_add, show ((0 : Nat) : Int) = 0 from rfl]
    rw [Int.tmod_eq_emod_of_nonneg (by omega)]
    omega
  by_cases c4 : bt s 0 < 192
  · rw [if_neg c1, if_neg c2, if_pos c4] at hw
    subst hw
    simp only [valF, Nat.reduceSub, Nat.reduceMul, Nat.reduceAdd, Int.reducePow, Int.zero_mul, Int.zero_add, show ((0 : Nat) : Int) = 0 from rfl]
    rw [Int.tmod_eq_emod_of_nonneg (by omega)]
    omega
  · rw [if_neg c1, if_neg c2, if_neg c4] at hw
    subst hw
    simp only [valF, Nat.reduceSub, Nat.reduceMul, Nat.reduceAdd, Int.reducePow, Int.zero_mul, Int.zero_add, show ((0 : Nat) : Int) = 0 from rfl]
    rw [Int.tmod_eq_emod_of_nonneg (by omega)]
    omega
theorem rget_eq (s : ByteArray) (k : Nat) (hk : 80 ≤ k) (h : wid (bt s 0) ≤ s.size) : dominoref01_Get.f k s = some (valF s (wid (bt s 0) - 1) 1 (bt s 0 % 64), s.extract (wid (bt s 0)) s.size, 0) := by
  obtain ⟨b0, b1⟩ := bt_b s 0
  obtain ⟨w1, w8⟩ := wid_b (bt s 0)
  obtain ⟨j, rfl⟩ := Nat.le.dest hk
  have hv := ref_val s (wid (bt s 0)) rfl
  have hb : dominoref01_Back.f (80 + j) (s.extract 0 (wid (bt s 0))) = some (valF s (wid (bt s 0)) 0 0) := by
    have := back_run (s.extract 0 (wid (bt s 0))) (wid (bt s 0)) w8 (take_size s _ h) (wid (bt s 0)) 0 (79 + j - wid (bt s 0)) 0 (by omega) (by decide) (by decide)
    rw [show 79 + j - wid (bt s 0) + wid (bt s 0) + 1 = 80 + j by omega, valF_take s _ _ _ _ (by omega)] at this
    exact this
  have hp : dominoref01_power.f (80 + j) (wrap64 (wrap64 (8 * (wid (bt s 0) : Int)) - 2)) = some (2 ^ (8 * wid (bt s 0) - 2)) := by
    rw [w64 (n := 8 * (wid (bt s 0) : Int)) (by omega) (by omega), w64 (by omega) (by omega)]
    have := rpow_at (8 * wid (bt s 0) - 2) (by omega) (80 + j) (by omega)
    rw [show ((8 * wid (bt s 0) - 2 : Nat) : Int) = 8 * (wid (bt s 0) : Int) - 2 by omega] at this
    exact this
  have hne : ¬ ((2 : Int) ^ (8 * wid (bt s 0) - 2)) = 0 := by
    have : (0 : Int) < 2 ^ (8 * wid (bt s 0) - 2) := Int.pow_pos (by decide)
    omega
  unfold dominoref01_Get.f
  rw [if_neg (fun h => by have := (empty_iff s).1 h; omega), if_pos (by omega), ref_wid _ b0 b1 _ (by omega), Option.bind_some, w64 (n := (wid (bt s 0) : Int)) (by omega) (by omega), if_neg (by omega), if_pos (by omega), if_pos (by omega), Int.toNat_natCast, hb, Option.bind_some, hp, Option.bind_some, if_neg hne, hv]
theorem pb_l (n : Int) : (pb n).length ≤ 8 := by
  unfold pb
  (repeat' split) <;> simp
theorem both_put (n : Int) (h0 : 0 ≤ n) (h1 : n < 18446744073709551616) : ∃ p e, varint_Put.f n = some (p, e) ∧ (∀ q, 80 ≤ q → dominoref01_Put.f q n = some (p, e)) ∧ ((e = 0 ∧ n < 4611686018427387904 ∧ p = strOfNums (pb n)) ∨ e = 1) := by
  by_cases c : 4611686018427387904 ≤ n
  · exact ⟨_, _, put_big n c h1, fun q hq => rput_big n c q (by omega), Or.inr rfl⟩
  · refine ⟨_, _, put_eq n h0 (by omega), fun q hq => ?_, Or.inl ⟨rfl, by omega, rfl⟩⟩
    obtain ⟨j, rfl⟩ := Nat.le.dest hq
    rw [show 80 + j = 71 + j + 9 by omega]
    exact rput n h0 (by omega) (71 + j) (by omega)
theorem both_get (s : ByteArray) : ∃ v r e, (∀ q, 10 ≤ q → varint_Get.f q s = some (v, r, e)) ∧ (∀ q, 80 ≤ q → dominoref01_Get.f q s = some (v, r, e)) := by
  by_cases c : s.size < wid (bt s 0)
  · exact ⟨_, _, _, fun q _ => get_short s q c, fun q hq => rget_short s q (by omega) c⟩
  · exact ⟨_, _, _, fun q hq => get_eq s q hq (by omega), fun q hq => rget_eq s q hq (by omega)⟩
def cat (s : ByteArray) : List Int → ByteArray
  | [] => s
  | n :: t => cat (s ++ strOfNums (pb n)) t
theorem app_assoc (a b c : ByteArray) : a ++ b ++ c = a ++ (b ++ c) := by
  apply ba_ext
  rw [appL, appL, appL, appL, List.append_assoc]
theorem app_nil (a : ByteArray) : (⟨#[]⟩ : ByteArray) ++ a = a := by
  apply ba_ext
  have e : (⟨#[]⟩ : ByteArray).toList = ([] : List UInt8) := (empty_iff _).2 rfl
  rw [appL, e, List.nil_append]
theorem nil_app (a : ByteArray) : a ++ (⟨#[]⟩ : ByteArray) = a := by
  apply ba_ext
  have e : (⟨#[]⟩ : ByteArray).toList = ([] : List UInt8) := (empty_iff _).2 rfl
  rw [appL, e, List.append_nil]
theorem cat_app : ∀ (l : List Int) (s : ByteArray), cat s l = s ++ cat ⟨#[]⟩ l
  | [], s => (nil_app s).symm
  | n :: t, s => by
    simp only [cat]
    rw [cat_app t (s ++ strOfNums (pb n)), cat_app t ((⟨#[]⟩ : ByteArray) ++ strOfNums (pb n)), app_nil, app_assoc]
theorem gets_cat : ∀ (l : List Int) (acc : List Int) (k : Nat) (rest : ByteArray), (∀ x ∈ l, 0 ≤ x ∧ x < 4611686018427387904) → 10 ≤ k → acc.length + l.length ≤ 1000 →
    varint_Gets.l0 (k + l.length + 1) (l.length : Int) acc (cat ⟨#[]⟩ l ++ rest) = some (acc ++ l, rest, 0)
  | [], acc, k, rest, _, _, _ => by
    unfold varint_Gets.l0
    rw [if_neg (by simp), List.append_nil]
    simp only [cat, app_nil]
  | n :: t, acc, k, rest, hx, hk, hl => by
    have hn := hx n (List.mem_cons_self)
    have ih := gets_cat t (acc ++ [n]) k rest (fun x h => hx x (List.mem_cons_of_mem _ h)) hk (by simp at hl ⊢; omega)
    have e : cat ⟨#[]⟩ (n :: t) ++ rest = strOfNums (pb n) ++ (cat ⟨#[]⟩ t ++ rest) := by
      simp only [cat]
      rw [cat_app, app_nil, app_assoc]
    simp only [List.length_cons] at hl ⊢
    rw [e]
    unfold varint_Gets.l0
    rw [if_pos (by omega), put_get n _ hn.1 hn.2 _ (by omega), Option.bind_some]
    dsimp only
    rw [if_pos rfl, if_pos (by omega), w64 (by omega) (by omega), show (((t.length + 1 : Nat) : Int) - 1) = (t.length : Int) by omega, show k + (t.length + 1) = k + t.length + 1 by omega, ih, List.append_assoc]
    rfl
theorem gets_run : ∀ (m : Nat) (acc : List Int) (s : ByteArray), acc.length + m ≤ 1000 → ∃ L r e, (∀ k, 10 ≤ k → varint_Gets.l0 (k + m + 1) (m : Int) acc s = some (L, r, e)) ∧
    (∀ k, 80 ≤ k → ∀ n i : Int, 0 ≤ i → i + m = n → n ≤ 1000 → dominoref01_Gets.l0 (k + m + 1) s n acc i = some (L, r, e)) := by
  intro m
  induction m with
  | zero =>
    intro acc s _
    refine ⟨acc, s, 0, fun k _ => ?_, fun k _ n i h0 h1 _ => ?_⟩
    · unfold varint_Gets.l0
      rw [if_neg (by omega)]
    · unfold dominoref01_Gets.l0
      rw [if_neg (by omega)]
  | succ m ih =>
    intro acc s ha
    obtain ⟨v, r, e, g1, g2⟩ := both_get s
    by_cases he : e = 0
    · obtain ⟨L, r', e', i1, i2⟩ := ih (acc ++ [v]) r (by simp; omega)
      refine ⟨L, r', e', fun k hk => ?_, fun k hk n i h0 h1 hn => ?_⟩
      · unfold varint_Gets.l0
        rw [if_pos (by omega), g1 _ (by omega), Option.bind_some]
        dsimp only
        rw [if_pos he, if_pos (by omega), w64 (by omega) (by omega), show (((m + 1 : Nat) : Int) - 1) = (m : Int) by omega, show k + (m + 1) = k + m + 1 by omega]
        exact i1 k hk
      · unfold dominoref01_Gets.l0
        rw [if_pos (by omega), g2 _ (by omega), Option.bind_some]
        dsimp only
        rw [if_pos he, if_pos (by omega), w64 (by omega) (by omega), show k + (m + 1) = k + m + 1 by omega]
        exact i2 k hk n (i + 1) (by omega) (by omega) hn
    · refine ⟨[], ⟨#[]⟩, e, fun k hk => ?_, fun k hk n i h0 h1 hn => ?_⟩
      · unfold varint_Gets.l0
        rw [if_pos (by omega), g1 _ (by omega), Option.bind_some]
        dsimp only
        rw [if_neg he]
      · unfold dominoref01_Gets.l0
        rw [if_pos (by omega), g2 _ (by omega), Option.bind_some]
        dsimp only
        rw [if_neg he]
theorem puts_run (l0 : List Int) (hw : ∀ x ∈ l0, 0 ≤ x ∧ x < 18446744073709551616) (hl : l0.length ≤ 1000) : ∀ (m i : Nat) (s : ByteArray), i + m = l0.length → s.size + 8 * m ≤ 100000 → ∃ p e, putsL (l0.drop i) s = some (p, e) ∧
    (∀ k, 80 ≤ k → dominoref01_Puts.l0 (k + m + 1) l0 s (i : Int) = some (p, e)) ∧ (e = 0 → (∀ x ∈ l0.drop i, 0 ≤ x ∧ x < 4611686018427387904) ∧ p = cat s (l0.drop i)) ∧ (e ≠ 0 → p.toList = ([] : List UInt8)) ∧ p.size ≤ s.size + 8 * m := by
  intro m
  induction m with
  | zero =>
    intro i s h _
    have e : l0.drop i = [] := List.drop_of_length_le (by omega)
    rw [e]
    refine ⟨s, 0, rfl, fun k _ => ?_, fun _ => ⟨by simp, rfl⟩, fun h => absurd rfl h, by omega⟩
    unfold dominoref01_Puts.l0
    rw [if_neg (by omega)]
  | succ m ih =>
    intro i s h hs
    have hi : i < l0.length := by omega
    have hr : rd l0 (i : Int) = l0[i] := by
      unfold rd
      rw [Int.toNat_natCast, List.getD_eq_getElem?_getD, List.getElem?_eq_getElem hi]
      rfl
    have hn := hw l0[i] (List.getElem_mem hi)
    obtain ⟨p, e, p1, p2, p3⟩ := both_put l0[i] hn.1 hn.2
    rw [List.drop_eq_getElem_cons hi, putsL, p1, Option.bind_some]
    dsimp only
    rcases p3 with ⟨rfl, hlt, rfl⟩ | rfl
    · have hpl := pb_l l0[i]
      have hps : (strOfNums (pb l0[i])).size = (pb l0[i]).length := nums_size _
      have hsz : (s ++ strOfNums (pb l0[i])).size = s.size + (pb l0[i]).length := by rw [ByteArray.size_append, hps]
      obtain ⟨p', e', q1, q2, q3, q4, q5⟩ := ih (i + 1) (s ++ strOfNums (pb l0[i])) (by omega) (by omega)
      refine ⟨p', e', ?_, fun k hk => ?_, fun h0 => ?_, q4, by omega⟩
      · rw [if_pos rfl, if_pos (by omega)]
        exact q1
      · unfold dominoref01_Puts.l0
        rw [if_pos (by omega), if_pos (by omega), hr, p2 _ (by omega), Option.bind_some]
        dsimp only
        rw [if_pos rfl, if_pos (by omega), w64 (by omega) (by omega), show k + (m + 1) = k + m + 1 by omega]
        exact q2 k hk
      · obtain ⟨a, b⟩ := q3 h0
        refine ⟨fun x hx => ?_, b⟩
        rcases List.mem_cons.1 hx with rfl | hx
        · exact ⟨hn.1, hlt⟩
        · exact a x hx
    · refine ⟨⟨#[]⟩, 1, by rw [if_neg (by decide)], fun k hk => ?_, fun h => absurd h (by decide), fun _ => (empty_iff _).2 rfl, Nat.zero_le _⟩
      unfold dominoref01_Puts.l0
      rw [if_pos (by omega), if_pos (by omega), hr, p2 _ (by omega), Option.bind_some]
      dsimp only
      rw [if_neg (by decide)]
theorem same_run (x : List Int) (hx : x.length ≤ 1000) : ∀ (m i k : Nat), i + m = x.length → dominoref01_Same.l0 (k + m + 1) x x (i : Int) = some true := by
  intro m
  induction m with
  | zero =>
    intro i k h
    unfold dominoref01_Same.l0
    rw [if_neg (by omega)]
  | succ m ih =>
    intro i k h
    unfold dominoref01_Same.l0
    rw [if_pos (by omega), if_pos (by omega), if_pos (by omega), if_pos rfl, w64 (by omega) (by omega)]
    exact ih (i + 1) k (by omega)
theorem same_all (x : List Int) (hx : x.length ≤ 1000) (k : Nat) (hk : 1001 ≤ k) : dominoref01_Same.f k x x = some true := by
  obtain ⟨j, rfl⟩ := Nat.le.dest hk
  unfold dominoref01_Same.f
  rw [if_pos rfl]
  have := same_run x hx x.length 0 (1000 - x.length + j) (by omega)
  rw [show 1000 - x.length + j + x.length + 1 = 1001 + j by omega] at this
  exact this
theorem gets_len : ∀ (m : Nat) (acc : List Int) (s : ByteArray) (k : Nat) (L : List Int) (r : ByteArray) (e : Int), varint_Gets.l0 k (m : Int) acc s = some (L, r, e) → m ≤ 1000 → L.length ≤ acc.length + m := by
  intro m
  induction m with
  | zero =>
    intro acc s k L r e h _
    cases k with
    | zero => simp [varint_Gets.l0] at h
    | succ k =>
      unfold varint_Gets.l0 at h
      rw [if_neg (by omega)] at h
      simp only [Option.some.injEq, Prod.mk.injEq] at h
      rw [← h.1]
      omega
  | succ m ih =>
    intro acc s k L r e h hm
    cases k with
    | zero => simp [varint_Gets.l0] at h
    | succ k =>
      unfold varint_Gets.l0 at h
      rw [if_pos (by omega)] at h
      obtain ⟨⟨v, r', e'⟩, h1, h2⟩ := Option.bind_eq_some_iff.1 h
      dsimp only at h2
      by_cases he : e' = 0
      · rw [if_pos he] at h2
        by_cases hl : acc.length < 17592186044416
        · rw [if_pos hl, w64 (by omega) (by omega), show (((m + 1 : Nat) : Int) - 1) = (m : Int) by omega] at h2
          have := ih _ _ _ _ _ _ h2 (by omega)
          simp at this
          omega
        · rw [if_neg hl] at h2
          exact absurd h2 (by simp)
      · rw [if_neg he] at h2
        simp only [Option.some.injEq, Prod.mk.injEq] at h2
        rw [← h2.1]
        simp
theorem VarintMany : dominolaw01_VarintMany.Pure := by
  intro l0 a1 a2 h0 h1 h2 h3 h4
  obtain ⟨q, hq⟩ : ∃ q : Nat, q = 2000 := ⟨_, rfl⟩
  refine ⟨q + 1 + 1, ?_⟩
  have big : dominolaw01_VarintMany.j0 (q + 1 + 1) l0 a1 a2 true = some true := by
    rw [dominolaw01_VarintMany.j0, if_pos rfl, shown_all (q + 1) (by omega)]
    rfl
  unfold dominolaw01_VarintMany.f
  by_cases b1 : (l0.length : Int) > 40
  · rw [if_pos b1, big]
  by_cases b2 : (a1.size : Int) > 200
  · rw [if_neg b1, if_pos b2, big]
  by_cases b3 : a2 > 100
  · rw [if_neg b1, if_neg b2, if_pos b3, big]
  rw [if_neg b1, if_neg b2, if_neg b3, shown_all (q + 1 + 1) (by omega), Option.bind_some, dominolaw01_VarintMany.j0, if_neg (by decide)]
  have hw : ∀ x ∈ l0, 0 ≤ x ∧ x < 18446744073709551616 := fun x hx => u64b (h2 x hx)
  obtain ⟨p, e, p1, p2, p3, p4, p5⟩ := puts_run l0 hw (by omega) l0.length 0 ⟨#[]⟩ (by omega) (by show 0 + _ ≤ _; omega)
  rw [List.drop_zero] at p1 p3
  have p5' : p.size ≤ 0 + 8 * l0.length := p5
  have hP : varint_Puts.f l0 = some (p, e) := p1
  have hR : dominoref01_Puts.f (q + 1) l0 = some (p, e) := by
    have := p2 (q - l0.length) (by omega)
    rw [show q - l0.length + l0.length + 1 = q + 1 by omega] at this
    exact this
  have hG : ∃ L r f, varint_Gets.f (q + 1) a1 a2 = some (L, r, f) ∧ dominoref01_Gets.f (q + 1) a1 a2 = some (L, r, f) ∧ L.length ≤ 1000 := by
    by_cases hz : a2 ≤ 0
    · refine ⟨[], a1, 0, ?_, ?_, by simp⟩
      · unfold varint_Gets.f varint_Gets.l0
        rw [if_neg (by omega)]
      · unfold dominoref01_Gets.f dominoref01_Gets.l0
        rw [if_neg (by omega)]
    · obtain ⟨m, rfl⟩ : ∃ m : Nat, a2 = (m : Int) := ⟨a2.toNat, by omega⟩
      obtain ⟨L, r, f, g1, g2⟩ := gets_run m [] a1 (by simp; omega)
      have g1' := g1 (q - m) (by omega)
      have g2' := g2 (q - m) (by omega) (m : Int) 0 (by omega) (by omega) (by omega)
      rw [show q - m + m + 1 = q + 1 by omega] at g1' g2'
      have := gets_len m [] a1 _ L r f g1' (by omega)
      exact ⟨L, r, f, g1', g2', by simp at this; omega⟩
  obtain ⟨L, r, f, g1, g2, g3⟩ := hG
  rw [hP, Option.bind_some, hR, Option.bind_some, g1, Option.bind_some, g2, Option.bind_some]
  dsimp only
  rw [if_pos rfl, if_pos rfl, same_all L g3 _ (by omega), Option.bind_some, if_pos rfl, if_pos rfl, show (f != f) = false by simp, dominolaw01_VarintMany.j1, if_neg (by decide)]
  by_cases he : e = 0
  · obtain ⟨c1, c2⟩ := p3 he
    have hg := gets_cat l0 [] (q - l0.length - 1) a1 c1 (by omega) (by simp; omega)
    rw [show q - l0.length - 1 + l0.length + 1 = q by omega, ← c2, List.nil_append] at hg
    have hg' : varint_Gets.f q (p ++ a1) (l0.length : Int) = some (l0, a1, 0) := hg
    rw [if_pos he, if_pos (by omega), hg', Option.bind_some]
    dsimp only
    rw [if_pos rfl, same_all l0 (by omega) _ (by omega), Option.bind_some, if_pos rfl]
    simp
  · rw [if_neg he, p4 he]
    rfl

end Go.Proofs.YtablpjlhhnfpkaaDoor.Pure
