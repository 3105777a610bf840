/- The law VarintShort of the claim in plain Lean: the first byte tells how many there must be. -/
import Derived.Test.YtablpjlhhnfpkaaDoorPVarintShortx2
import Derived.Lib.Bytes
import Derived.Lib.EndianBits
namespace Go.Proofs.YtablpjlhhnfpkaaDoor.Pure
open Go.RowKit Go.Proofs.YtablpjlhhnfpkaaDoor.PVarintShort Go.Proofs.YtablpjlhhnfpkaaDoorW.PrintWords Go.Proofs.YtablpjlhhnfpkaaDoorW.PrintLast
set_option linter.unusedVariables false
set_option linter.unusedSimpArgs false
theorem u64b {n : Int} (h : (Lit.int .u64 n).wf = true) : 0 ≤ n ∧ n < 18446744073709551616 := by
  simp [Lit.wf, IntKind.min, IntKind.max, IntKind.signed, IntKind.bits] at h
  omega
theorem wU (n : Int) : IntKind.u64.wrap n = n % 18446744073709551616 := IntKind.wrap_u64 n
theorem wUb (n : Int) : 0 ≤ IntKind.u64.wrap n ∧ IntKind.u64.wrap n < 18446744073709551616 := by rw [wU]; omega
theorem wUi {n : Int} (h0 : 0 ≤ n) (h1 : n < 18446744073709551616) : IntKind.u64.wrap n = n := by rw [wU]; omega
theorem hk64 : ∀ n : Int, 0 ≤ n → n < 2 ^ 64 → IntKind.u64.wrap n = n := fun n a b => wUi a (by simpa using b)
theorem spB_eq (n : Int) (h0 : 0 ≤ n) (h1 : n < 18446744073709551616) (i : Nat) (hi : i < 8) : spB n i = n / 2 ^ (56 - 8 * i) % 256 := by
  have : i = 0 ∨ i = 1 ∨ i = 2 ∨ i = 3 ∨ i = 4 ∨ i = 5 ∨ i = 6 ∨ i = 7 := by omega
  unfold spB bits_RotateLeft64.f
  rcases this with rfl | rfl | rfl | rfl | rfl | rfl | rfl | rfl
  · rw [show Go.bits .and .u64 (IntKind.u64.wrap (8 * ((0 : Nat) : Int) + 8)) 63 = 8 by decide +kernel, show IntKind.u64.wrap (64 - 8) = 56 by decide, if_pos (by decide), if_pos (by decide), Option.getD_some, show shl .u64 n 8 = n * 2 ^ 8 % 18446744073709551616 from wU _, show shr .u64 n 56 = n / 2 ^ 56 from rfl, bits_join .u64 64 (by decide) hk64 8 _ _ (by omega) (by omega) (by omega) (by omega) (by omega) (by omega)]
    simp only [Nat.mul_zero, Nat.sub_zero]
    omega
  · rw [show Go.bits .and .u64 (IntKind.u64.wrap (8 * ((1 : Nat) : Int) + 8)) 63 = 16 by decide +kernel, show IntKind.u64.wrap (64 - 16) = 48 by decide, if_pos (by decide), if_pos (by decide), Option.getD_some, show shl .u64 n 16 = n * 2 ^ 16 % 18446744073709551616 from wU _, show shr .u64 n 48 = n / 2 ^ 48 from rfl, bits_join .u64 64 (by decide) hk64 16 _ _ (by omega) (by omega) (by omega) (by omega) (by omega) (by omega)]
    simp only [Nat.reduceMul, Nat.reduceSub]
    omega
  · rw [show Go.bits .and .u64 (IntKind.u64.wrap (8 * ((2 : Nat) : Int) + 8)) 63 = 24 by decide +kernel, show IntKind.u64.wrap (64 - 24) = 40 by decide, if_pos (by decide), if_pos (by decide), Option.getD_some, show shl .u64 n 24 = n * 2 ^ 24 % 18446744073709551616 from wU _, show shr .u64 n 40 = n / 2 ^ 40 from rfl, bits_join .u64 64 (by decide) hk64 24 _ _ (by omega) (by omega) (by omega) (by omega) (by omega) (by omega)]
    simp only [Nat.reduceMul, Nat.reduceSub]
    omega
  · rw [show Go.bits .and .u64 (IntKind.u64.wrap (8 * ((3 : Nat) : Int) + 8)) 63 = 32 by decide +kernel, show IntKind.u64.wrap (64 - 32) = 32 by decide, if_pos (by decide), if_pos (by decide), Option.getD_some, show shl .u64 n 32 = n * 2 ^ 32 % 18446744073709551616 from wU _, show shr .u64 n 32 = n / 2 ^ 32 from rfl, bits_join .u64 64 (by decide) hk64 32 _ _ (by omega) (by omega) (by omega) (by omega) (by omega) (by omega)]
    simp only [Nat.reduceMul, Nat.reduceSub]
    omega
  · rw [show Go.bits .and .u64 (IntKind.u64.wrap (8 * ((4 : Nat) : Int) + 8)) 63 = 40 by decide +kernel, show IntKind.u64.wrap (64 - 40) = 24 by decide, if_pos (by decide), if_pos (by decide), Option.getD_some, show shl .u64 n 40 = n * 2 ^ 40 % 18446744073709551616 from wU _, show shr .u64 n 24 = n / 2 ^ 24 from rfl, bits_join .u64 64 (by decide) hk64 40 _ _ (by omega) (by omega) (by omega) (by omega) (by omega) (by omega)]
    simp only [Nat.reduceMul, Nat.reduceSub]
    omega
  · rw [show Go.bits .and .u64 (IntKind.u64.wrap (8 * ((5 : Nat) : Int) + 8)) 63 = 48 by decide +kernel, show IntKind.u64.wrap (64 - 48) = 16 by decide, if_pos (by decide), if_pos (by decide), Option.getD_some, show shl .u64 n 48 = n * 2 ^ 48 % 18446744073709551616 from wU _, show shr .u64 n 16 = n / 2 ^ 16 from rfl, bits_join .u64 64 (by decide) hk64 48 _ _ (by omega) (by omega) (by omega) (by omega) (by omega) (by omega)]
    simp only [Nat.reduceMul, Nat.reduceSub]
    omega
  · rw [show Go.bits .and .u64 (IntKind.u64.wrap (8 * ((6 : Nat) : Int) + 8)) 63 = 56 by decide +kernel, show IntKind.u64.wrap (64 - 56) = 8 by decide, if_pos (by decide), if_pos (by decide), Option.getD_some, show shl .u64 n 56 = n * 2 ^ 56 % 18446744073709551616 from wU _, show shr .u64 n 8 = n / 2 ^ 8 from rfl, bits_join .u64 64 (by decide) hk64 56 _ _ (by omega) (by omega) (by omega) (by omega) (by omega) (by omega)]
    simp only [Nat.reduceMul, Nat.reduceSub]
    omega
  · rw [show Go.bits .and .u64 (IntKind.u64.wrap (8 * ((7 : Nat) : Int) + 8)) 63 = 0 by decide +kernel, show IntKind.u64.wrap (64 - 0) = 64 by decide, if_pos (by decide), if_pos (by decide), Option.getD_some, show shl .u64 n 0 = n * 2 ^ 0 % 18446744073709551616 from wU _, show shr .u64 n 64 = n / 2 ^ 64 from rfl, bits_join .u64 64 (by decide) hk64 0 _ _ (by omega) (by omega) (by omega) (by omega) (by omega) (by omega)]
    simp only [Nat.reduceMul, Nat.reduceSub]
    omega
theorem fixL_eq (n : Int) (h0 : 0 ≤ n) (h1 : n < 18446744073709551616) : fixL n = [n / 2 ^ 56 % 256, n / 2 ^ 48 % 256, n / 2 ^ 40 % 256, n / 2 ^ 32 % 256, n / 2 ^ 24 % 256, n / 2 ^ 16 % 256, n / 2 ^ 8 % 256, n / 2 ^ 0 % 256] := by
  unfold fixL
  rw [show List.range 8 = [0, 1, 2, 3, 4, 5, 6, 7] from rfl]
  simp only [List.map_cons, List.map_nil]
  rw [spB_eq n h0 h1 0 (by decide), spB_eq n h0 h1 1 (by decide), spB_eq n h0 h1 2 (by decide), spB_eq n h0 h1 3 (by decide), spB_eq n h0 h1 4 (by decide), spB_eq n h0 h1 5 (by decide), spB_eq n h0 h1 6 (by decide), spB_eq n h0 h1 7 (by decide)]
theorem u8_eq {a b : Int} (a0 : 0 ≤ a) (a1 : a < 256) (b0 : 0 ≤ b) (b1 : b < 256) (h : UInt8.ofNat a.toNat = UInt8.ofNat b.toNat) : a = b := by
  have := congrArg UInt8.toNat h
  simp only [UInt8.toNat_ofNat', Nat.reducePow] at this
  omega
theorem w64 {n : Int} (h0 : 0 ≤ n) (h1 : n < 9223372036854775808) : wrap64 n = n := by
  unfold wrap64
  first | omega | (simp [IntKind.wrap, IntKind.bits, IntKind.signed]; omega)
theorem hk8 : ∀ n : Int, 0 ≤ n → n < 2 ^ 8 → IntKind.u8.wrap n = n := fun n a b => by
  have : n < 256 := by simpa using b
  simp [IntKind.wrap, IntKind.bits, IntKind.signed]
  omega
theorem sizeL (s : ByteArray) : s.size = s.toList.length := by rw [Go.Lib.toList_data, Go.Lib.size_eq]
theorem appL (a b : ByteArray) : (a ++ b).toList = a.toList ++ b.toList := by
  rw [Go.Lib.toList_data, Go.Lib.toList_data, Go.Lib.toList_data, ByteArray.data_append, Array.toList_append]
theorem numsL (xs : List Int) : (strOfNums xs).toList = xs.map fun n => UInt8.ofNat n.toNat := Go.Lib.strOfNums_toList xs
theorem nums_size (xs : List Int) : (strOfNums xs).size = xs.length := by rw [sizeL, numsL, List.length_map]
theorem ba_ext {a b : ByteArray} (h : a.toList = b.toList) : a = b := by
  rw [Go.Lib.toList_data, Go.Lib.toList_data] at h
  cases a
  cases b
  exact congrArg ByteArray.mk (Array.toList_inj.1 h)
/-- The bytes of a number that is put. -/
def pb (n : Int) : List Int := if n < 64 then [n] else if n < 16384 then [n / 256 + 64, n % 256] else if n < 1073741824 then [n / 16777216 + 128, n / 65536 % 256, n / 256 % 256, n % 256]
  else [n / 72057594037927936 + 192, n / 281474976710656 % 256, n / 1099511627776 % 256, n / 4294967296 % 256, n / 16777216 % 256, n / 65536 % 256, n / 256 % 256, n % 256]
theorem putB_1 (n : Int) (h0 : 0 ≤ n) (h : n < 64) : putB n 1 = n := by
  unfold putB
  rw [spB_eq n h0 (by omega) 7 (by decide), show IntKind.u8.wrap (IntKind.u8.wrap ((tzOf 1 : Nat) : Int) * 64) = 0 by decide +kernel, Go.bits_join_low .u8 8 (by decide) hk8 6 _ _ (by omega) (by omega) (by omega) (by omega) (by omega) (by omega)]
  omega
theorem putB_2 (n : Int) (h0 : 0 ≤ n) (h : n < 16384) : putB n 2 = n / 256 + 64 := by
  unfold putB
  rw [spB_eq n h0 (by omega) 6 (by decide), show IntKind.u8.wrap (IntKind.u8.wrap ((tzOf 2 : Nat) : Int) * 64) = 64 by decide +kernel, Go.bits_join_low .u8 8 (by decide) hk8 6 _ _ (by omega) (by omega) (by omega) (by omega) (by omega) (by omega)]
  omega
theorem putB_4 (n : Int) (h0 : 0 ≤ n) (h : n < 1073741824) : putB n 4 = n / 16777216 + 128 := by
  unfold putB
  rw [spB_eq n h0 (by omega) 4 (by decide), show IntKind.u8.wrap (IntKind.u8.wrap ((tzOf 4 : Nat) : Int) * 64) = 128 by decide +kernel, Go.bits_join_low .u8 8 (by decide) hk8 6 _ _ (by omega) (by omega) (by omega) (by omega) (by omega) (by omega)]
  omega
theorem putB_8 (n : Int) (h0 : 0 ≤ n) (h : n < 4611686018427387904) : putB n 8 = n / 72057594037927936 + 192 := by
  unfold putB
  rw [spB_eq n h0 (by omega) 0 (by decide), show IntKind.u8.wrap (IntKind.u8.wrap ((tzOf 8 : Nat) : Int) * 64) = 192 by decide +kernel, Go.bits_join_low .u8 8 (by decide) hk8 6 _ _ (by omega) (by omega) (by omega) (by omega) (by omega) (by omega)]
  omega
theorem size_eq (n : Int) (h0 : 0 ≤ n) (h1 : n < 18446744073709551616) : varint_Size.f n = some (if n < 4611686018427387904 then ((pb n).length : Int) else 0) := by
  unfold varint_Size.f pb
  rw [if_pos h0]
  (repeat' split) <;> first | rfl | (exfalso; omega)
theorem put_big (n : Int) (h0 : 4611686018427387904 ≤ n) (h1 : n < 18446744073709551616) : varint_Put.f n = some ((⟨#[]⟩ : ByteArray), 1) := by
  unfold varint_Put.f
  rw [size_eq n (by omega) h1, if_neg (by omega), Option.bind_some, if_pos rfl]
theorem put_eq (n : Int) (h0 : 0 ≤ n) (h1 : n < 4611686018427387904) : varint_Put.f n = some (strOfNums (pb n), 0) := by
  unfold varint_Put.f
  rw [size_eq n h0 (by omega), if_pos h1, Option.bind_some]
  unfold pb
  by_cases c1 : n < 64
  · rw [if_pos c1, if_neg (by simp)]
    show some (strOfNums ((putL n 1).drop 7), (0 : Int)) = _
    unfold putL
    rw [putB_1 n h0 c1, fixL_eq n h0 (by omega)]
    rfl
  by_cases c2 : n < 16384
  · rw [if_neg c1, if_pos c2, if_neg (by simp)]
    show some (strOfNums ((putL n 2).drop 6), (0 : Int)) = _
    unfold putL
    rw [putB_2 n h0 c2, fixL_eq n h0 (by omega)]
    show some (strOfNums [n / 256 + 64, n / 2 ^ 0 % 256], (0 : Int)) = _
    simp
  by_cases c4 : n < 1073741824
  · rw [if_neg c1, if_neg c2, if_pos c4, if_neg (by simp)]
    show some (strOfNums ((putL n 4).drop 4), (0 : Int)) = _
    unfold putL
    rw [putB_4 n h0 c4, fixL_eq n h0 (by omega)]
    show some (strOfNums [n / 16777216 + 128, n / 2 ^ 16 % 256, n / 2 ^ 8 % 256, n / 2 ^ 0 % 256], (0 : Int)) = _
    simp
  · rw [if_neg c1, if_neg c2, if_neg c4, if_neg (by simp)]
    show some (strOfNums ((putL n 8).drop 0), (0 : Int)) = _
    unfold putL
    rw [putB_8 n h0 h1, fixL_eq n h0 (by omega)]
    show some (strOfNums [n / 72057594037927936 + 192, n / 2 ^ 48 % 256, n / 2 ^ 40 % 256, n / 2 ^ 32 % 256, n / 2 ^ 24 % 256, n / 2 ^ 16 % 256, n / 2 ^ 8 % 256, n / 2 ^ 0 % 256], (0 : Int)) = _
    simp
/-- What the bytes of s from i on add to a number. -/
def valF (s : ByteArray) : Nat → Nat → Int → Int
  | 0, _, acc => acc
  | m + 1, i, acc => valF s m (i + 1) (acc * 256 + bt s (i : Int))
theorem get_run (s : ByteArray) (w : Nat) (hw : w ≤ 8) (hs : w ≤ s.size) (hb : ∀ i : Nat, 0 ≤ bt s (i : Int) ∧ bt s (i : Int) < 256) : ∀ (m i k : Nat) (acc : Int), i + m = w → 1 ≤ i → 0 ≤ acc → acc < 64 * 256 ^ (i - 1) →
    varint_Get.l0 (k + m + 1) s (w : Int) acc (i : Int) = some (valF s m i acc, s.extract w s.size, 0) := by
  intro m
  induction m with
  | zero =>
    intro i k acc h _ _ _
    unfold varint_Get.l0
    rw [if_neg (by omega), if_pos (by omega), if_pos (by omega), Int.toNat_natCast]
    rfl
  | succ m ih =>
    intro i k acc h hi h0 h1
    have hi8 : i ≤ 7 := by omega
    have hp : acc < 72057594037927936 := by
      have hh : i = 1 ∨ i = 2 ∨ i = 3 ∨ i = 4 ∨ i = 5 ∨ i = 6 ∨ i = 7 := by omega
      rcases hh with rfl | rfl | rfl | rfl | rfl | rfl | rfl <;> (simp only [Nat.reduceSub, Int.reducePow, Int.reduceMul] at h1; omega)
    obtain ⟨b0, b1⟩ := hb i
    unfold varint_Get.l0
    rw [if_pos (by omega), if_pos (by omega), if_pos (by omega), w64 (by omega) (by omega), wUi (n := acc * 256) (by omega) (by omega), wUi (n := bt s (i : Int)) (by omega) (by omega), bits_join .u64 64 (by decide) hk64 8 _ _ (by omega) (by omega) (by omega) (by omega) (by omega) (by omega)]
    refine ih (i + 1) k _ (by omega) (by omega) (by omega) ?_
    have e : i + 1 - 1 = (i - 1) + 1 := by omega
    rw [e, Int.pow_succ]
    omega
def wid (b : Int) : Nat := if b < 64 then 1 else if b < 128 then 2 else if b < 192 then 4 else 8
theorem wid_b (b : Int) : 1 ≤ wid b ∧ wid b ≤ 8 := by
  unfold wid
  (repeat' split) <;> decide
theorem bt_b (s : ByteArray) (i : Int) : 0 ≤ bt s i ∧ bt s i < 256 := by
  have := bt_range s i
  omega
theorem wid_shl (b : Int) (h0 : 0 ≤ b) (h1 : b < 256) : shl .i64 1 (b / 64) = (wid b : Int) := by
  have h : b / 64 = 0 ∨ b / 64 = 1 ∨ b / 64 = 2 ∨ b / 64 = 3 := by omega
  unfold wid
  rcases h with h | h | h | h <;> rw [h]
  · rw [if_pos (by omega)]; decide +kernel
  · rw [if_neg (by omega), if_pos (by omega)]; decide +kernel
  · rw [if_neg (by omega), if_neg (by omega), if_pos (by omega)]; decide +kernel
  · rw [if_neg (by omega), if_neg (by omega), if_neg (by omega)]; decide +kernel
theorem empty_iff (s : ByteArray) : s.toList = ([] : List UInt8) ↔ s.size = 0 := by
  rw [sizeL]
  exact List.length_eq_zero_iff.symm
theorem get_short (s : ByteArray) (k : Nat) (h : s.size < wid (bt s 0)) : varint_Get.f k s = some (0, (⟨#[]⟩ : ByteArray), 10) := by
  obtain ⟨b0, b1⟩ := bt_b s 0
  unfold varint_Get.f
  by_cases hz : s.size = 0
  · rw [if_pos ((empty_iff s).2 hz)]
  · rw [if_neg (fun h => hz ((empty_iff s).1 h)), if_pos (by omega), if_pos (by omega), wid_shl _ b0 b1, if_pos (by omega)]
theorem get_eq (s : ByteArray) (k : Nat) (hk : 10 ≤ k) (h : wid (bt s 0) ≤ s.size) : varint_Get.f k s = some (valF s (wid (bt s 0) - 1) 1 (bt s 0 % 64), s.extract (wid (bt s 0)) s.size, 0) := by
  obtain ⟨b0, b1⟩ := bt_b s 0
  obtain ⟨w1, w8⟩ := wid_b (bt s 0)
  obtain ⟨j, rfl⟩ := Nat.le.dest hk
  have hm : Go.bits .and .u8 (bt s 0) 63 = bt s 0 % 64 := by
    have := bits_mask .u8 8 (by decide) hk8 6 (by decide) (bt s 0) b0 (by omega)
    exact this
  unfold varint_Get.f
  rw [if_neg (fun h => by have := (empty_iff s).1 h; omega), if_pos (by omega), if_pos (by omega), wid_shl _ b0 b1, if_neg (by omega), hm, wUi (by omega) (by omega)]
  have := get_run s (wid (bt s 0)) w8 h (fun i => bt_b s i) (wid (bt s 0) - 1) 1 (10 + j - wid (bt s 0)) (bt s 0 % 64) (by omega) (by decide) (by omega) (by simp; omega)
  rw [show 10 + j - wid (bt s 0) + (wid (bt s 0) - 1) + 1 = 10 + j by omega] at this
  exact this
theorem bt_list (s : ByteArray) (i : Nat) : bt s (i : Int) = ((s.toList.getD i 0).toNat : Int) := by
  unfold bt
  rw [Go.Lib.toList_data, Int.toNat_natCast]
  by_cases h : i < s.size
  · rw [dif_pos h]
    have h2 : i < s.data.toList.length := by rw [← Go.Lib.size_eq]; exact h
    rw [List.getD_eq_getElem?_getD, List.getElem?_eq_getElem h2]
    rfl
  · rw [dif_neg h]
    have h2 : ¬ i < s.data.toList.length := by rw [← Go.Lib.size_eq]; exact h
    rw [List.getD_eq_getElem?_getD, List.getElem?_eq_none (by omega)]
    rfl
theorem u8n {a : Int} (a0 : 0 ≤ a) (a1 : a < 256) : ((UInt8.ofNat a.toNat).toNat : Int) = a := by
  simp only [UInt8.toNat_ofNat', Nat.reducePow]
  omega
theorem pb_b (n : Int) (h0 : 0 ≤ n) (h1 : n < 4611686018427387904) : ∀ x ∈ pb n, 0 ≤ x ∧ x < 256 := by
  unfold pb
  (repeat' split) <;> (intro x hx; simp only [List.mem_cons, List.not_mem_nil, or_false] at hx; omega)
/-- A byte of what begins by given numbers. -/
theorem bt_nums (xs : List Int) (s : ByteArray) (hx : ∀ x ∈ xs, 0 ≤ x ∧ x < 256) (i : Nat) (hi : i < xs.length) : bt (strOfNums xs ++ s) (i : Int) = xs.getD i 0 := by
  rw [bt_list, appL, numsL, List.getD_eq_getElem?_getD, List.getElem?_append_left (by rw [List.length_map]; exact hi), List.getElem?_map, List.getElem?_eq_getElem hi, List.getD_eq_getElem?_getD, List.getElem?_eq_getElem hi]
  have := hx xs[i] (List.getElem_mem hi)
  exact u8n this.1 this.2
theorem put_wid (n : Int) (s : ByteArray) (h0 : 0 ≤ n) (h1 : n < 4611686018427387904) : wid (bt (strOfNums (pb n) ++ s) 0) = (pb n).length ∧ valF (strOfNums (pb n) ++ s) ((pb n).length - 1) 1 (bt (strOfNums (pb n) ++ s) 0 % 64) = n := by
  have hb := pb_b n h0 h1
  have g : ∀ i : Nat, i < (pb n).length → bt (strOfNums (pb n) ++ s) (i : Int) = (pb n).getD i 0 := bt_nums (pb n) s hb
  have g0 := g 0
  have g1 := g 1
  have g2 := g 2
  have g3 := g 3
  have g4 := g 4
  have g5 := g 5
  have g6 := g 6
  have g7 := g 7
  clear g hb
  by_cases c1 : n < 64
  · have e : pb n = [n] := by
      unfold pb
      rw [if_pos c1]
    clear g1 g2 g3 g4 g5 g6 g7
    rw [e] at g0 ⊢
    simp only [List.length_cons, List.length_nil, List.getD_cons_zero, List.getD_cons_succ, Nat.zero_add, Nat.reduceAdd, Nat.reduceSub] at g0 ⊢
    rw [show ((0 : Nat) : Int) = 0 from rfl] at g0
    rw [g0 (by decide)]
    unfold wid
    rw [if_pos (by omega)]
    refine ⟨rfl, ?_⟩
    simp only [valF, Nat.reduceAdd]
    omega
  by_cases c2 : n < 16384
  · have e : pb n = [n / 256 + 64, n % 256] := by
      unfold pb
      rw [if_neg c1, if_pos c2]
    clear g2 g3 g4 g5 g6 g7
    rw [e] at g0 g1 ⊢
    simp only [List.length_cons, List.length_nil, List.getD_cons_zero, List.getD_cons_succ, Nat.zero_add, Nat.reduceAdd, Nat.reduceSub] at g0 g1 ⊢
    rw [show ((0 : Nat) : Int) = 0 from rfl] at g0
    rw [g0 (by decide)]
    unfold wid
    rw [if_neg (by omega), if_pos (by omega)]
    refine ⟨rfl, ?_⟩
    simp only [valF, Nat.reduceAdd]
    rw [g1 (by decide)]
    omega
  by_cases c4 : n < 1073741824
  · have e : pb n = [n / 16777216 + 128, n / 65536 % 256, n / 256 % 256, n % 256] := by
      unfold pb
      rw [if_neg c1, if_neg c2, if_pos c4]
    clear g4 g5 g6 g7
    rw [e] at g0 g1 g2 g3 ⊢
    simp only [List.length_cons, List.length_nil, List.getD_cons_zero, List.getD_cons_succ, Nat.zero_add, Nat.reduceAdd, Nat.reduceSub] at g0 g1 g2 g3 ⊢
    rw [show ((0 : Nat) : Int) = 0 from rfl] at g0
    rw [g0 (by decide)]
    unfold wid
    rw [if_neg (by omega), if_neg (by omega), if_pos (by omega)]
    refine ⟨rfl, ?_⟩
    simp only [valF, Nat.reduceAdd]
    rw [g1 (by decide), g2 (by decide), g3 (by decide)]
    omega
  · have e : pb n = [n / 72057594037927936 + 192, n / 281474976710656 % 256, n / 1099511627776 % 256, n / 4294967296 % 256, n / 16777216 % 256, n / 65536 % 256, n / 256 % 256, n % 256] := by
      unfold pb
      rw [if_neg c1, if_neg c2, if_neg c4]
    rw [e] at g0 g1 g2 g3 g4 g5 g6 g7 ⊢
    simp only [List.length_cons, List.length_nil, List.getD_cons_zero, List.getD_cons_succ, Nat.zero_add, Nat.reduceAdd, Nat.reduceSub] at g0 g1 g2 g3 g4 g5 g6 g7 ⊢
    rw [show ((0 : Nat) : Int) = 0 from rfl] at g0
    rw [g0 (by decide)]
    unfold wid
    rw [if_neg (by omega), if_neg (by omega), if_neg (by omega)]
    refine ⟨rfl, ?_⟩
    simp only [valF, Nat.reduceAdd]
    rw [g1 (by decide), g2 (by decide), g3 (by decide), g4 (by decide), g5 (by decide), g6 (by decide), g7 (by decide)]
    omega
theorem ext_app (a b : ByteArray) : (a ++ b).extract a.size (a ++ b).size = b := by
  apply ba_ext
  rw [Go.Lib.extract_toList, ← Go.Lib.toList_data, appL, sizeL, sizeL, appL, List.length_append, List.drop_left, Nat.add_sub_cancel_left, List.take_length]
theorem put_get (n : Int) (s : ByteArray) (h0 : 0 ≤ n) (h1 : n < 4611686018427387904) (k : Nat) (hk : 10 ≤ k) : varint_Get.f k (strOfNums (pb n) ++ s) = some (n, s, 0) := by
  obtain ⟨w, v⟩ := put_wid n s h0 h1
  have hs : (strOfNums (pb n)).size = (pb n).length := nums_size _
  rw [get_eq _ k hk (by rw [w, ByteArray.size_append, hs]; omega), w, v, ← hs, ext_app]
theorem shown_ten : dominolaw01_shown.f 10 = some true := by
  unfold dominolaw01_shown.f
  rw [put_eq 64 (by decide) (by decide), Option.bind_some, put_get 64 _ (by decide) (by decide) 10 (by decide)]
  dsimp only
  rw [Option.bind_some]
  simp only [Go.Lib.toList_data]
  decide +kernel
theorem shown_all (k : Nat) (h : 10 ≤ k) : dominolaw01_shown.f k = some true := at_rounds dominolaw01_shown.mono h shown_ten
theorem emptyL : (⟨#[]⟩ : ByteArray).toList = [] := (empty_iff _).2 rfl
theorem bt_take (s : ByteArray) (c : Nat) (hc : 0 < c) : bt (s.extract 0 c) 0 = bt s 0 := by
  have h1 := bt_list (s.extract 0 c) 0
  have h2 := bt_list s 0
  rw [show ((0 : Nat) : Int) = 0 from rfl] at h1 h2
  rw [h1, h2, Go.Lib.extract_toList, ← Go.Lib.toList_data]
  cases s.toList with
  | nil => simp
  | cons x t =>
    obtain ⟨d, rfl⟩ : ∃ d, c = d + 1 := ⟨c - 1, by omega⟩
    simp
theorem take_size (s : ByteArray) (c : Nat) (hc : c ≤ s.size) : (s.extract 0 c).size = c := by
  rw [sizeL, Go.Lib.extract_toList, List.length_take, List.length_drop, ← Go.Lib.size_eq]
  omega
theorem pb_wid (n : Int) (h0 : 0 ≤ n) (h1 : n < 4611686018427387904) : wid (bt (strOfNums (pb n)) 0) = (pb n).length := by
  have h := (put_wid n ⟨#[]⟩ h0 h1).1
  have e : strOfNums (pb n) ++ (⟨#[]⟩ : ByteArray) = strOfNums (pb n) := by
    apply ba_ext
    rw [appL, emptyL, List.append_nil]
  rwa [e] at h
theorem long_get (n : Int) (h0 : 0 ≤ n) (h1 : n < 18446744073709551616) (k : Nat) (hk : 10 ≤ k) : ∃ F : ByteArray, varint_Fixed.f n 7 = some F ∧ F.size = 7 ∧
    ∃ v r, varint_Get.f k ((⟨#[192]⟩ : ByteArray) ++ F) = some (v, r, 0) ∧ (n < 72057594037927936 → v = n) ∧ r.toList = ([] : List UInt8) := by
  refine ⟨strOfNums ((fixL n).drop 1), rfl, by rw [nums_size]; simp [fixL], ?_⟩
  have e : (⟨#[192]⟩ : ByteArray) ++ strOfNums ((fixL n).drop 1) = strOfNums (192 :: (fixL n).drop 1) ++ (⟨#[]⟩ : ByteArray) := by
    apply ba_ext
    rw [appL, appL, numsL, numsL, emptyL, List.append_nil, List.map_cons, Go.Lib.toList_data]
    rfl
  rw [e]
  have hx : ∀ x ∈ (192 : Int) :: (fixL n).drop 1, 0 ≤ x ∧ x < 256 := by
    rw [fixL_eq n h0 h1]
    intro x hx
    simp only [List.drop_succ_cons, List.drop_zero, List.mem_cons, List.not_mem_nil, or_false] at hx
    omega
  have hlen : ((192 : Int) :: (fixL n).drop 1).length = 8 := by simp [fixL]
  have g : ∀ i : Nat, i < 8 → bt (strOfNums (192 :: (fixL n).drop 1) ++ (⟨#[]⟩ : ByteArray)) (i : Int) = ((192 : Int) :: (fixL n).drop 1).getD i 0 := fun i hi => bt_nums _ _ hx i (by omega)
  have hs : (strOfNums (192 :: (fixL n).drop 1) ++ (⟨#[]⟩ : ByteArray)).size = 8 := by
    rw [ByteArray.size_append, nums_size, hlen]
    rfl
  generalize strOfNums (192 :: (fixL n).drop 1) ++ (⟨#[]⟩ : ByteArray) = X at g hs ⊢
  rw [fixL_eq n h0 h1] at g
  have g0 : bt X 0 = 192 := g 0 (by decide)
  have hw : wid (bt X 0) = 8 := by rw [g0]; rfl
  have hg := get_eq X k hk (by omega)
  rw [hw, hs, g0] at hg
  refine ⟨_, _, hg, fun hn => ?_, ?_⟩
  · simp only [valF, Nat.reduceSub, Nat.reduceAdd]
    rw [g 1 (by decide), g 2 (by decide), g 3 (by decide), g 4 (by decide), g 5 (by decide), g 6 (by decide), g 7 (by decide)]
    simp only [List.drop_succ_cons, List.drop_zero, List.getD_cons_zero, List.getD_cons_succ]
    omega
  · rw [Go.Lib.extract_toList]
    simp
theorem VarintShort : dominolaw01_VarintShort.Pure := by
  intro a0 a1 h0 h1
  obtain ⟨x0, x1⟩ := u64b h0
  have n0 : 0 ≤ a1 ∧ a1 < 256 := by
    simp [Lit.wf, IntKind.min, IntKind.max, IntKind.signed, IntKind.bits] at h1
    omega
  obtain ⟨q, hq⟩ : ∃ q : Nat, q = 20 := ⟨_, rfl⟩
  refine ⟨q + 1, ?_⟩
  have big : ∀ p, dominolaw01_VarintShort.j0 (q + 1) a0 a1 p true = some true := by
    intro p
    rw [dominolaw01_VarintShort.j0, if_pos rfl, shown_all q (by omega)]
    rfl
  unfold dominolaw01_VarintShort.f
  by_cases ca : 4611686018427387904 ≤ a0
  · rw [put_big a0 ca x1, Option.bind_some, if_neg (by decide), big]
  have hl : 1 ≤ (pb a0).length ∧ (pb a0).length ≤ 8 := by
    unfold pb
    (repeat' split) <;> simp
  rw [put_eq a0 x0 (by omega), Option.bind_some, if_pos rfl]
  dsimp only
  rw [nums_size, if_neg (by omega), shown_all (q + 1) (by omega), Option.bind_some, dominolaw01_VarintShort.j0, if_neg (by decide), nums_size, if_neg (by omega)]
  have ht : Int.tmod (wrap64 a1) ((pb a0).length : Int) = a1 % ((pb a0).length : Int) := by
    rw [w64 n0.1 (by omega), Int.tmod_eq_emod_of_nonneg n0.1]
  have e0 : 0 ≤ a1 % ((pb a0).length : Int) := Int.emod_nonneg _ (by omega)
  have e1 : a1 % ((pb a0).length : Int) < ((pb a0).length : Int) := Int.emod_lt_of_pos _ (by omega)
  rw [ht]
  obtain ⟨c, hc⟩ : ∃ c : Nat, a1 % ((pb a0).length : Int) = (c : Int) := ⟨(a1 % ((pb a0).length : Int)).toNat, by omega⟩
  rw [hc] at e0 e1 ⊢
  rw [if_pos (by omega), if_pos (by omega), Int.toNat_natCast]
  have hps : (strOfNums (pb a0)).size = (pb a0).length := nums_size _
  have hshort : ((strOfNums (pb a0)).extract 0 c).size < wid (bt ((strOfNums (pb a0)).extract 0 c) 0) := by
    rw [take_size _ c (by omega)]
    by_cases hz : c = 0
    · have := wid_b (bt ((strOfNums (pb a0)).extract 0 c) 0)
      omega
    · rw [bt_take _ c (by omega), pb_wid a0 x0 (by omega)]
      omega
  obtain ⟨F, f1, f2, v, r, g1, g2, g3⟩ := long_get a0 x0 x1 q (by omega)
  rw [get_short _ q hshort, Option.bind_some, f1, Option.bind_some, f2, if_pos (by decide), g1, Option.bind_some]
  dsimp only
  by_cases hn : a0 < 72057594037927936
  · rw [if_pos hn, if_pos rfl, if_pos (g2 hn), if_pos g3]
    rfl
  · rw [if_neg hn]
    rfl

end Go.Proofs.YtablpjlhhnfpkaaDoor.Pure
