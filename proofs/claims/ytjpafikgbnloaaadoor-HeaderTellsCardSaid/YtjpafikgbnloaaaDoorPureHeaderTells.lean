/- The law HeaderTells of the claim in plain Lean: whether any header may be, its bytes, which one any bytes begin by, and where its number stands, is the document's. -/
import Derived.Test.YtjpafikgbnloaaaDoorPHdtx15
import Derived.Lib.Bytes
import Derived.Lib.EndianBits
namespace Go.Proofs.YtjpafikgbnloaaaDoor.Pure
open Go.RowKit Go.Proofs.YtjpafikgbnloaaaDoor.PHdt Go.Proofs.YtjpafikgbnloaaaDoorW.PrintWords Go.Proofs.YtjpafikgbnloaaaDoorW.PrintLast
set_option linter.unusedVariables false
set_option linter.unusedSimpArgs false
theorem u64b {n : Int} (h : (Lit.int .u64 n).wf = true) : 0 ≤ n ∧ n < 18446744073709551616 := by
  simp [Lit.wf, IntKind.min, IntKind.max, IntKind.signed, IntKind.bits] at h
  omega
theorem wU (n : Int) : IntKind.u64.wrap n = n % 18446744073709551616 := IntKind.wrap_u64 n
theorem wUb (n : Int) : 0 ≤ IntKind.u64.wrap n ∧ IntKind.u64.wrap n < 18446744073709551616 := by rw [wU]; omega
theorem wUi {n : Int} (h0 : 0 ≤ n) (h1 : n < 18446744073709551616) : IntKind.u64.wrap n = n := by rw [wU]; omega
theorem hk64 : ∀ n : Int, 0 ≤ n → n < 2 ^ 64 → IntKind.u64.wrap n = n := fun n a b => wUi a (by simpa using b)
theorem spB_eq (n : Int) (h0 : 0 ≤ n) (h1 : n < 18446744073709551616) (i : Nat) (hi : i < 8) : spB n i = n / 2 ^ (56 - 8 * i) % 256 := by
  have : i = 0 ∨ i = 1 ∨ i = 2 ∨ i = 3 ∨ i = 4 ∨ i = 5 ∨ i = 6 ∨ i = 7 := by omega
  unfold spB bits_RotateLeft64.f
  rcases this with rfl | rfl | rfl | rfl | rfl | rfl | rfl | rfl
  · rw [show Go.bits .and .u64 (IntKind.u64.wrap (8 * ((0 : Nat) : Int) + 8)) 63 = 8 by decide +kernel, show IntKind.u64.wrap (64 - 8) = 56 by decide, if_pos (by decide), if_pos (by decide), Option.getD_some, show shl .u64 n 8 = n * 2 ^ 8 % 18446744073709551616 from wU _, show shr .u64 n 56 = n / 2 ^ 56 from rfl, bits_join .u64 64 (by decide) hk64 8 _ _ (by omega) (by omega) (by omega) (by omega) (by omega) (by omega)]
    simp only [Nat.mul_zero, Nat.sub_zero]
    omega
  · rw [show Go.bits .and .u64 (IntKind.u64.wrap (8 * ((1 : Nat) : Int) + 8)) 63 = 16 by decide +kernel, show IntKind.u64.wrap (64 - 16) = 48 by decide, if_pos (by decide), if_pos (by decide), Option.getD_some, show shl .u64 n 16 = n * 2 ^ 16 % 18446744073709551616 from wU _, show shr .u64 n 48 = n / 2 ^ 48 from rfl, bits_join .u64 64 (by decide) hk64 16 _ _ (by omega) (by omega) (by omega) (by omega) (by omega) (by omega)]
    simp only [Nat.reduceMul, Nat.reduceSub]
    omega
  · rw [show Go.bits .and .u64 (IntKind.u64.wrap (8 * ((2 : Nat) : Int) + 8)) 63 = 24 by decide +kernel, show IntKind.u64.wrap (64 - 24) = 40 by decide, if_pos (by decide), if_pos (by decide), Option.getD_some, show shl .u64 n 24 = n * 2 ^ 24 % 18446744073709551616 from wU _, show shr .u64 n 40 = n / 2 ^ 40 from rfl, bits_join .u64 64 (by decide) hk64 24 _ _ (by omega) (by omega) (by omega) (by omega) (by omega) (by omega)]
    simp only [Nat.reduceMul, Nat.reduceSub]
    omega
  · rw [show Go.bits .and .u64 (IntKind.u64.wrap (8 * ((3 : Nat) : Int) + 8)) 63 = 32 by decide +kernel, show IntKind.u64.wrap (64 - 32) = 32 by decide, if_pos (by decide), if_pos (by decide), Option.getD_some, show shl .u64 n 32 = n * 2 ^ 32 % 18446744073709551616 from wU _, show shr .u64 n 32 = n / 2 ^ 32 from rfl, bits_join .u64 64 (by decide) hk64 32 _ _ (by omega) (by omega) (by omega) (by omega) (by omega) (by omega)]
    simp only [Nat.reduceMul, Nat.reduceSub]
    omega
  · rw [show Go.bits .and .u64 (IntKind.u64.wrap (8 * ((4 : Nat) : Int) + 8)) 63 = 40 by decide +kernel, show IntKind.u64.wrap (64 - 40) = 24 by decide, if_pos (by decide), if_pos (by decide), Option.getD_some, show shl .u64 n 40 = n * 2 ^ 40 % 18446744073709551616 from wU _, show shr .u64 n 24 = n / 2 ^ 24 from rfl, bits_join .u64 64 (by decide) hk64 40 _ _ (by omega) (by omega) (by omega) (by omega) (by omega) (by omega)]
    simp only [Nat.reduceMul, Nat.reduceSub]
    omega
  · rw [show Go.bits .and .u64 (IntKind.u64.wrap (8 * ((5 : Nat) : Int) + 8)) 63 = 48 by decide +kernel, show IntKind.u64.wrap (64 - 48) = 16 by decide, if_pos (by decide), if_pos (by decide), Option.getD_some, show shl .u64 n 48 = n * 2 ^ 48 % 18446744073709551616 from wU _, show shr .u64 n 16 = n / 2 ^ 16 from rfl, bits_join .u64 64 (by decide) hk64 48 _ _ (by omega) (by omega) (by omega) (by omega) (by omega) (by omega)]
    simp only [Nat.reduceMul, Nat.reduceSub]
    omega
  · rw [show Go.bits .and .u64 (IntKind.u64.wrap (8 * ((6 : Nat) : Int) + 8)) 63 = 56 by decide +kernel, show IntKind.u64.wrap (64 - 56) = 8 by decide, if_pos (by decide), if_pos (by decide), Option.getD_some, show shl .u64 n 56 = n * 2 ^ 56 % 18446744073709551616 from wU _, show shr .u64 n 8 = n / 2 ^ 8 from rfl, bits_join .u64 64 (by decide) hk64 56 _ _ (by omega) (by omega) (by omega) (by omega) (by omega) (by omega)]
    simp only [Nat.reduceMul, Nat.reduceSub]
    omega
  · rw [show Go.bits .and .u64 (IntKind.u64.wrap (8 * ((7 : Nat) : Int) + 8)) 63 = 0 by decide +kernel, show IntKind.u64.wrap (64 - 0) = 64 by decide, if_pos (by decide), if_pos (by decide), Option.getD_some, show shl .u64 n 0 = n * 2 ^ 0 % 18446744073709551616 from wU _, show shr .u64 n 64 = n / 2 ^ 64 from rfl, bits_join .u64 64 (by decide) hk64 0 _ _ (by omega) (by omega) (by omega) (by omega) (by omega) (by omega)]
    simp only [Nat.reduceMul, Nat.reduceSub]
    omega
theorem fixL_eq (n : Int) (h0 : 0 ≤ n) (h1 : n < 18446744073709551616) : fixL n = [n / 2 ^ 56 % 256, n / 2 ^ 48 % 256, n / 2 ^ 40 % 256, n / 2 ^ 32 % 256, n / 2 ^ 24 % 256, n / 2 ^ 16 % 256, n / 2 ^ 8 % 256, n / 2 ^ 0 % 256] := by
  unfold fixL
  rw [show List.range 8 = [0, 1, 2, 3, 4, 5, 6, 7] from rfl]
  simp only [List.map_cons, List.map_nil]
  rw [spB_eq n h0 h1 0 (by decide), spB_eq n h0 h1 1 (by decide), spB_eq n h0 h1 2 (by decide), spB_eq n h0 h1 3 (by decide), spB_eq n h0 h1 4 (by decide), spB_eq n h0 h1 5 (by decide), spB_eq n h0 h1 6 (by decide), spB_eq n h0 h1 7 (by decide)]
theorem u8_eq {a b : Int} (a0 : 0 ≤ a) (a1 : a < 256) (b0 : 0 ≤ b) (b1 : b < 256) (h : UInt8.ofNat a.toNat = UInt8.ofNat b.toNat) : a = b := by
  have := congrArg UInt8.toNat h
  simp only [UInt8.toNat_ofNat', Nat.reducePow] at this
  omega
theorem w64 {n : Int} (h0 : 0 ≤ n) (h1 : n < 9223372036854775808) : wrap64 n = n := by
  unfold wrap64
  first | omega | (simp [IntKind.wrap, IntKind.bits, IntKind.signed]; omega)
theorem hk8 : ∀ n : Int, 0 ≤ n → n < 2 ^ 8 → IntKind.u8.wrap n = n := fun n a b => by
  have : n < 256 := by simpa using b
  simp [IntKind.wrap, IntKind.bits, IntKind.signed]
  omega
theorem sizeL (s : ByteArray) : s.size = s.toList.length := by rw [Go.Lib.toList_data, Go.Lib.size_eq]
theorem appL (a b : ByteArray) : (a ++ b).toList = a.toList ++ b.toList := by
  rw [Go.Lib.toList_data, Go.Lib.toList_data, Go.Lib.toList_data, ByteArray.data_append, Array.toList_append]
theorem numsL (xs : List Int) : (strOfNums xs).toList = xs.map fun n => UInt8.ofNat n.toNat := Go.Lib.strOfNums_toList xs
theorem nums_size (xs : List Int) : (strOfNums xs).size = xs.length := by rw [sizeL, numsL, List.length_map]
theorem ba_ext {a b : ByteArray} (h : a.toList = b.toList) : a = b := by
  rw [Go.Lib.toList_data, Go.Lib.toList_data] at h
  cases a
  cases b
  exact congrArg ByteArray.mk (Array.toList_inj.1 h)
/-- The bytes of a number that is put. -/
def pb (n : Int) : List Int := if n < 64 then [n] else if n < 16384 then [n / 256 + 64, n % 256] else if n < 1073741824 then [n / 16777216 + 128, n / 65536 % 256, n / 256 % 256, n % 256]
  else [n / 72057594037927936 + 192, n / 281474976710656 % 256, n / 1099511627776 % 256, n / 4294967296 % 256, n / 16777216 % 256, n / 65536 % 256, n / 256 % 256, n % 256]
theorem putB_1 (n : Int) (h0 : 0 ≤ n) (h : n < 64) : putB n 1 = n := by
  unfold putB
  rw [spB_eq n h0 (by omega) 7 (by decide), show IntKind.u8.wrap (IntKind.u8.wrap ((tzOf 1 : Nat) : Int) * 64) = 0 by decide +kernel, Go.bits_join_low .u8 8 (by decide) hk8 6 _ _ (by omega) (by omega) (by omega) (by omega) (by omega) (by omega)]
  omega
theorem putB_2 (n : Int) (h0 : 0 ≤ n) (h : n < 16384) : putB n 2 = n / 256 + 64 := by
  unfold putB
  rw [spB_eq n h0 (by omega) 6 (by decide), show IntKind.u8.wrap (IntKind.u8.wrap ((tzOf 2 : Nat) : Int) * 64) = 64 by decide +kernel, Go.bits_join_low .u8 8 (by decide) hk8 6 _ _ (by omega) (by omega) (by omega) (by omega) (by omega) (by omega)]
  omega
theorem putB_4 (n : Int) (h0 : 0 ≤ n) (h : n < 1073741824) : putB n 4 = n / 16777216 + 128 := by
  unfold putB
  rw [spB_eq n h0 (by omega) 4 (by decide), show IntKind.u8.wrap (IntKind.u8.wrap ((tzOf 4 : Nat) : Int) * 64) = 128 by decide +kernel, Go.bits_join_low .u8 8 (by decide) hk8 6 _ _ (by omega) (by omega) (by omega) (by omega) (by omega) (by omega)]
  omega
theorem putB_8 (n : Int) (h0 : 0 ≤ n) (h : n < 4611686018427387904) : putB n 8 = n / 72057594037927936 + 192 := by
  unfold putB
  rw [spB_eq n h0 (by omega) 0 (by decide), show IntKind.u8.wrap (IntKind.u8.wrap ((tzOf 8 : Nat) : Int) * 64) = 192 by decide +kernel, Go.bits_join_low .u8 8 (by decide) hk8 6 _ _ (by omega) (by omega) (by omega) (by omega) (by omega) (by omega)]
  omega
theorem size_eq (n : Int) (h0 : 0 ≤ n) (h1 : n < 18446744073709551616) : varint_Size.f n = some (if n < 4611686018427387904 then ((pb n).length : Int) else 0) := by
  unfold varint_Size.f pb
  rw [if_pos h0]
  (repeat' split) <;> first | rfl | (exfalso; omega)
theorem put_big (n : Int) (h0 : 4611686018427387904 ≤ n) (h1 : n < 18446744073709551616) : varint_Put.f n = some ((⟨#[]⟩ : ByteArray), 1) := by
  unfold varint_Put.f
  rw [size_eq n (by omega) h1, if_neg (by omega), Option.bind_some, if_pos rfl]
theorem put_eq (n : Int) (h0 : 0 ≤ n) (h1 : n < 4611686018427387904) : varint_Put.f n = some (strOfNums (pb n), 0) := by
  unfold varint_Put.f
  rw [size_eq n h0 (by omega), if_pos h1, Option.bind_some]
  unfold pb
  by_cases c1 : n < 64
  · rw [if_pos c1, if_neg (by simp)]
    show some (strOfNums ((putL n 1).drop 7), (0 : Int)) = _
    unfold putL
    rw [putB_1 n h0 c1, fixL_eq n h0 (by omega)]
    rfl
  by_cases c2 : n < 16384
  · rw [if_neg c1, if_pos c2, if_neg (by simp)]
    show some (strOfNums ((putL n 2).drop 6), (0 : Int)) = _
    unfold putL
    rw [putB_2 n h0 c2, fixL_eq n h0 (by omega)]
    show some (strOfNums [n / 256 + 64, n / 2 ^ 0 % 256], (0 : Int)) = _
    simp
  by_cases c4 : n < 1073741824
  · rw [if_neg c1, if_neg c2, if_pos c4, if_neg (by simp)]
    show some (strOfNums ((putL n 4).drop 4), (0 : Int)) = _
    unfold putL
    rw [putB_4 n h0 c4, fixL_eq n h0 (by omega)]
    show some (strOfNums [n / 16777216 + 128, n / 2 ^ 16 % 256, n / 2 ^ 8 % 256, n / 2 ^ 0 % 256], (0 : Int)) = _
    simp
  · rw [if_neg c1, if_neg c2, if_neg c4, if_neg (by simp)]
    show some (strOfNums ((putL n 8).drop 0), (0 : Int)) = _
    unfold putL
    rw [putB_8 n h0 h1, fixL_eq n h0 (by omega)]
    show some (strOfNums [n / 72057594037927936 + 192, n / 2 ^ 48 % 256, n / 2 ^ 40 % 256, n / 2 ^ 32 % 256, n / 2 ^ 24 % 256, n / 2 ^ 16 % 256, n / 2 ^ 8 % 256, n / 2 ^ 0 % 256], (0 : Int)) = _
    simp
/-- What the bytes of s from i on add to a number. -/
def valF (s : ByteArray) : Nat → Nat → Int → Int
  | 0, _, acc => acc
  | m + 1, i, acc => valF s m (i + 1) (acc * 256 + bt s (i : Int))
theorem get_run (s : ByteArray) (w : Nat) (hw : w ≤ 8) (hs : w ≤ s.size) (hb : ∀ i : Nat, 0 ≤ bt s (i : Int) ∧ bt s (i : Int) < 256) : ∀ (m i k : Nat) (acc : Int), i + m = w → 1 ≤ i → 0 ≤ acc → acc < 64 * 256 ^ (i - 1) →
    varint_Get.l0 (k + m + 1) s (w : Int) acc (i : Int) = some (valF s m i acc, s.extract w s.size, 0) := by
  intro m
  induction m with
  | zero =>
    intro i k acc h _ _ _
    unfold varint_Get.l0
    rw [if_neg (by omega), if_pos (by omega), if_pos (by omega), Int.toNat_natCast]
    rfl
  | succ m ih =>
    intro i k acc h hi h0 h1
    have hi8 : i ≤ 7 := by omega
    have hp : acc < 72057594037927936 := by
      have hh : i = 1 ∨ i = 2 ∨ i = 3 ∨ i = 4 ∨ i = 5 ∨ i = 6 ∨ i = 7 := by omega
      rcases hh with rfl | rfl | rfl | rfl | rfl | rfl | rfl <;> (simp only [Nat.reduceSub, Int.reducePow, Int.reduceMul] at h1; omega)
    obtain ⟨b0, b1⟩ := hb i
    unfold varint_Get.l0
    rw [if_pos (by omega), if_pos (by omega), if_pos (by omega), w64 (by omega) (by omega), wUi (n := acc * 256) (by omega) (by omega), wUi (n := bt s (i : Int)) (by omega) (by omega), bits_join .u64 64 (by decide) hk64 8 _ _ (by omega) (by omega) (by omega) (by omega) (by omega) (by omega)]
    refine ih (i + 1) k _ (by omega) (by omega) (by omega) ?_
    have e : i + 1 - 1 = (i - 1) + 1 := by omega
    rw [e, Int.pow_succ]
    omega
def wid (b : Int) : Nat := if b < 64 then 1 else if b < 128 then 2 else if b < 192 then 4 else 8
theorem wid_b (b : Int) : 1 ≤ wid b ∧ wid b ≤ 8 := by
  unfold wid
  (repeat' split) <;> decide
theorem bt_b (s : ByteArray) (i : Int) : 0 ≤ bt s i ∧ bt s i < 256 := by
  have := bt_range s i
  omega
theorem wid_shl (b : Int) (h0 : 0 ≤ b) (h1 : b < 256) : shl .i64 1 (b / 64) = (wid b : Int) := by
  have h : b / 64 = 0 ∨ b / 64 = 1 ∨ b / 64 = 2 ∨ b / 64 = 3 := by omega
  unfold wid
  rcases h with h | h | h | h <;> rw [h]
  · rw [if_pos (by omega)]; decide +kernel
  · rw [if_neg (by omega), if_pos (by omega)]; decide +kernel
  · rw [if_neg (by omega), if_neg (by omega), if_pos (by omega)]; decide +kernel
  · rw [if_neg (by omega), if_neg (by omega), if_neg (by omega)]; decide +kernel
theorem empty_iff (s : ByteArray) : s.toList = ([] : List UInt8) ↔ s.size = 0 := by
  rw [sizeL]
  exact List.length_eq_zero_iff.symm
theorem get_short (s : ByteArray) (k : Nat) (h : s.size < wid (bt s 0)) : varint_Get.f k s = some (0, (⟨#[]⟩ : ByteArray), 10) := by
  obtain ⟨b0, b1⟩ := bt_b s 0
  unfold varint_Get.f
  by_cases hz : s.size = 0
  · rw [if_pos ((empty_iff s).2 hz)]
  · rw [if_neg (fun h => hz ((empty_iff s).1 h)), if_pos (by omega), if_pos (by omega), wid_shl _ b0 b1, if_pos (by omega)]
theorem get_eq (s : ByteArray) (k : Nat) (hk : 10 ≤ k) (h : wid (bt s 0) ≤ s.size) : varint_Get.f k s = some (valF s (wid (bt s 0) - 1) 1 (bt s 0 % 64), s.extract (wid (bt s 0)) s.size, 0) := by
  obtain ⟨b0, b1⟩ := bt_b s 0
  obtain ⟨w1, w8⟩ := wid_b (bt s 0)
  obtain ⟨j, rfl⟩ := Nat.le.dest hk
  have hm : Go.bits .and .u8 (bt s 0) 63 = bt s 0 % 64 := by
    have := bits_mask .u8 8 (by decide) hk8 6 (by decide) (bt s 0) b0 (by omega)
    exact this
  unfold varint_Get.f
  rw [if_neg (fun h => by have := (empty_iff s).1 h; omega), if_pos (by omega), if_pos (by omega), wid_shl _ b0 b1, if_neg (by omega), hm, wUi (by omega) (by omega)]
  have := get_run s (wid (bt s 0)) w8 h (fun i => bt_b s i) (wid (bt s 0) - 1) 1 (10 + j - wid (bt s 0)) (bt s 0 % 64) (by omega) (by decide) (by omega) (by simp; omega)
  rw [show 10 + j - wid (bt s 0) + (wid (bt s 0) - 1) + 1 = 10 + j by omega] at this
  exact this
theorem bt_list (s : ByteArray) (i : Nat) : bt s (i : Int) = ((s.toList.getD i 0).toNat : Int) := by
  unfold bt
  rw [Go.Lib.toList_data, Int.toNat_natCast]
  by_cases h : i < s.size
  · rw [dif_pos h]
    have h2 : i < s.data.toList.length := by rw [← Go.Lib.size_eq]; exact h
    rw [List.getD_eq_getElem?_getD, List.getElem?_eq_getElem h2]
    rfl
  · rw [dif_neg h]
    have h2 : ¬ i < s.data.toList.length := by rw [← Go.Lib.size_eq]; exact h
    rw [List.getD_eq_getElem?_getD, List.getElem?_eq_none (by omega)]
    rfl
theorem u8n {a : Int} (a0 : 0 ≤ a) (a1 : a < 256) : ((UInt8.ofNat a.toNat).toNat : Int) = a := by
  simp only [UInt8.toNat_ofNat', Nat.reducePow]
  omega
theorem pb_b (n : Int) (h0 : 0 ≤ n) (h1 : n < 4611686018427387904) : ∀ x ∈ pb n, 0 ≤ x ∧ x < 256 := by
  unfold pb
  (repeat' split) <;> (intro x hx; simp only [List.mem_cons, List.not_mem_nil, or_false] at hx; omega)
/-- A byte of what begins by given numbers. -/
theorem bt_nums (xs : List Int) (s : ByteArray) (hx : ∀ x ∈ xs, 0 ≤ x ∧ x < 256) (i : Nat) (hi : i < xs.length) : bt (strOfNums xs ++ s) (i : Int) = xs.getD i 0 := by
  rw [bt_list, appL, numsL, List.getD_eq_getElem?_getD, List.getElem?_append_left (by rw [List.length_map]; exact hi), List.getElem?_map, List.getElem?_eq_getElem hi, List.getD_eq_getElem?_getD, List.getElem?_eq_getElem hi]
  have := hx xs[i] (List.getElem_mem hi)
  exact u8n this.1 this.2
theorem put_wid (n : Int) (s : ByteArray) (h0 : 0 ≤ n) (h1 : n < 4611686018427387904) : wid (bt (strOfNums (pb n) ++ s) 0) = (pb n).length ∧ valF (strOfNums (pb n) ++ s) ((pb n).length - 1) 1 (bt (strOfNums (pb n) ++ s) 0 % 64) = n := by
  have hb := pb_b n h0 h1
  have g : ∀ i : Nat, i < (pb n).length → bt (strOfNums (pb n) ++ s) (i : Int) = (pb n).getD i 0 := bt_nums (pb n) s hb
  have g0 := g 0
  have g1 := g 1
  have g2 := g 2
  have g3 := g 3
  have g4 := g 4
  have g5 := g 5
  have g6 := g 6
  have g7 := g 7
  clear g hb
  by_cases c1 : n < 64
  · have e : pb n = [n] := by
      unfold pb
      rw [if_pos c1]
    clear g1 g2 g3 g4 g5 g6 g7
    rw [e] at g0 ⊢
    simp only [List.length_cons, List.length_nil, List.getD_cons_zero, List.getD_cons_succ, Nat.zero_add, Nat.reduceAdd, Nat.reduceSub] at g0 ⊢
    rw [show ((0 : Nat) : Int) = 0 from rfl] at g0
    rw [g0 (by decide)]
    unfold wid
    rw [if_pos (by omega)]
    refine ⟨rfl, ?_⟩
    simp only [valF, Nat.reduceAdd]
    omega
  by_cases c2 : n < 16384
  · have e : pb n = [n / 256 + 64, n % 256] := by
      unfold pb
      rw [if_neg c1, if_pos c2]
    clear g2 g3 g4 g5 g6 g7
    rw [e] at g0 g1 ⊢
    simp only [List.length_cons, List.length_nil, List.getD_cons_zero, List.getD_cons_succ, Nat.zero_add, Nat.reduceAdd, Nat.reduceSub] at g0 g1 ⊢
    rw [show ((0 : Nat) : Int) = 0 from rfl] at g0
    rw [g0 (by decide)]
    unfold wid
    rw [if_neg (by omega), if_pos (by omega)]
    refine ⟨rfl, ?_⟩
    simp only [valF, Nat.reduceAdd]
    rw [g1 (by decide)]
    omega
  by_cases c4 : n < 1073741824
  · have e : pb n = [n / 16777216 + 128, n / 65536 % 256, n / 256 % 256, n % 256] := by
      unfold pb
      rw [if_neg c1, if_neg c2, if_pos c4]
    clear g4 g5 g6 g7
    rw [e] at g0 g1 g2 g3 ⊢
    simp only [List.length_cons, List.length_nil, List.getD_cons_zero, List.getD_cons_succ, Nat.zero_add, Nat.reduceAdd, Nat.reduceSub] at g0 g1 g2 g3 ⊢
    rw [show ((0 : Nat) : Int) = 0 from rfl] at g0
    rw [g0 (by decide)]
    unfold wid
    rw [if_neg (by omega), if_neg (by omega), if_pos (by omega)]
    refine ⟨rfl, ?_⟩
    simp only [valF, Nat.reduceAdd]
    rw [g1 (by decide), g2 (by decide), g3 (by decide)]
    omega
  · have e : pb n = [n / 72057594037927936 + 192, n / 281474976710656 % 256, n / 1099511627776 % 256, n / 4294967296 % 256, n / 16777216 % 256, n / 65536 % 256, n / 256 % 256, n % 256] := by
      unfold pb
      rw [if_neg c1, if_neg c2, if_neg c4]
    rw [e] at g0 g1 g2 g3 g4 g5 g6 g7 ⊢
    simp only [List.length_cons, List.length_nil, List.getD_cons_zero, List.getD_cons_succ, Nat.zero_add, Nat.reduceAdd, Nat.reduceSub] at g0 g1 g2 g3 g4 g5 g6 g7 ⊢
    rw [show ((0 : Nat) : Int) = 0 from rfl] at g0
    rw [g0 (by decide)]
    unfold wid
    rw [if_neg (by omega), if_neg (by omega), if_neg (by omega)]
    refine ⟨rfl, ?_⟩
    simp only [valF, Nat.reduceAdd]
    rw [g1 (by decide), g2 (by decide), g3 (by decide), g4 (by decide), g5 (by decide), g6 (by decide), g7 (by decide)]
    omega
theorem ext_app (a b : ByteArray) : (a ++ b).extract a.size (a ++ b).size = b := by
  apply ba_ext
  rw [Go.Lib.extract_toList, ← Go.Lib.toList_data, appL, sizeL, sizeL, appL, List.length_append, List.drop_left, Nat.add_sub_cancel_left, List.take_length]
theorem put_get (n : Int) (s : ByteArray) (h0 : 0 ≤ n) (h1 : n < 4611686018427387904) (k : Nat) (hk : 10 ≤ k) : varint_Get.f k (strOfNums (pb n) ++ s) = some (n, s, 0) := by
  obtain ⟨w, v⟩ := put_wid n s h0 h1
  have hs : (strOfNums (pb n)).size = (pb n).length := nums_size _
  rw [get_eq _ k hk (by rw [w, ByteArray.size_append, hs]; omega), w, v, ← hs, ext_app]
/-! ### bits of a byte -/
theorem and8 (a b : Nat) (ha : a < 256) (hb : b < 256) : Go.bits .and .u8 (a : Int) (b : Int) = ((a &&& b : Nat) : Int) := by
  have hx : a &&& b < 2 ^ 8 := Nat.and_lt_two_pow _ (by omega)
  have h1 : (BitVec.ofInt 8 (a : Int)).toNat = a := by
    rw [BitVec.ofInt_natCast, BitVec.toNat_ofNat]; exact Nat.mod_eq_of_lt (by omega)
  have h2 : (BitVec.ofInt 8 (b : Int)).toNat = b := by
    rw [BitVec.ofInt_natCast, BitVec.toNat_ofNat]; exact Nat.mod_eq_of_lt (by omega)
  show IntKind.u8.wrap ((BitVec.ofInt 8 (a : Int) &&& BitVec.ofInt 8 (b : Int)).toNat : Int) = _
  rw [BitVec.toNat_and, h1, h2]
  exact hk8 _ (by omega) (by omega)
theorem xor8 (a b : Nat) (ha : a < 256) (hb : b < 256) : Go.bits .xor .u8 (a : Int) (b : Int) = ((a ^^^ b : Nat) : Int) := by
  have hx : a ^^^ b < 2 ^ 8 := Nat.xor_lt_two_pow (by omega) (by omega)
  have h1 : (BitVec.ofInt 8 (a : Int)).toNat = a := by
    rw [BitVec.ofInt_natCast, BitVec.toNat_ofNat]; exact Nat.mod_eq_of_lt (by omega)
  have h2 : (BitVec.ofInt 8 (b : Int)).toNat = b := by
    rw [BitVec.ofInt_natCast, BitVec.toNat_ofNat]; exact Nat.mod_eq_of_lt (by omega)
  show IntKind.u8.wrap ((BitVec.ofInt 8 (a : Int) ^^^ BitVec.ofInt 8 (b : Int)).toNat : Int) = _
  rw [BitVec.toNat_xor, h1, h2]
  exact hk8 _ (by omega) (by omega)
theorem fb0 : ∀ f : Fin 256, (f.val &&& 64 = 64 * (f.val / 64 % 2)) ∧ (f.val &&& 128 = 128 * (f.val / 128)) ∧ (f.val &&& 32 = 32 * (f.val / 32 % 2)) ∧ ((f.val / 16) &&& 3 = f.val / 16 % 4) ∧ (f.val &&& 3 = f.val % 4) ∧ (f.val &&& 24 = 8 * (f.val / 8 % 4)) ∧ (f.val &&& 12 = 4 * (f.val / 4 % 4)) ∧ (f.val &&& 4 = 4 * (f.val / 4 % 2)) ∧ (f.val &&& 31 = f.val % 32) ∧ (f.val &&& 15 = f.val % 16) := by decide +kernel
theorem fx0 : ∀ (f : Fin 256) (y : Fin 32), (f.val ^^^ y.val) < 256 ∧ (f.val ^^^ y.val) / 32 = f.val / 32 ∧ (y.val < 16 → (f.val ^^^ y.val) / 16 = f.val / 16) := by decide +kernel
theorem nat_of (f : Int) (h0 : 0 ≤ f) (h1 : f < 256) : ∃ n : Nat, f = (n : Int) ∧ n < 256 := ⟨f.toNat, by omega, by omega⟩
theorem fb (f : Int) (h0 : 0 ≤ f) (h1 : f < 256) : Go.bits .and .u8 f 64 = 64 * (f / 64 % 2) ∧ Go.bits .and .u8 f 128 = 128 * (f / 128) ∧ Go.bits .and .u8 f 32 = 32 * (f / 32 % 2) ∧ Go.bits .and .u8 (f / 16) 3 = f / 16 % 4 ∧ Go.bits .and .u8 f 3 = f % 4 ∧ Go.bits .and .u8 f 24 = 8 * (f / 8 % 4) ∧ Go.bits .and .u8 f 12 = 4 * (f / 4 % 4) ∧ Go.bits .and .u8 f 4 = 4 * (f / 4 % 2) ∧ Go.bits .and .u8 f 31 = f % 32 ∧ Go.bits .and .u8 f 15 = f % 16 := by
  obtain ⟨n, rfl, hn⟩ := nat_of f h0 h1
  obtain ⟨a1, a2, a3, a4, a5, a6, a7, a8, a9, a10⟩ := fb0 ⟨n, hn⟩
  have e (m : Nat) (hm : m < 256) := and8 n m hn hm
  have e4 := and8 (n / 16) 3 (by omega) (by decide)
  refine ⟨(e 64 (by decide)).trans (by simp only at a1; omega), (e 128 (by decide)).trans (by simp only at a2; omega), (e 32 (by decide)).trans (by simp only at a3; omega), ?_, (e 3 (by decide)).trans (by simp only at a5; omega), (e 24 (by decide)).trans (by simp only at a6; omega), (e 12 (by decide)).trans (by simp only at a7; omega), (e 4 (by decide)).trans (by simp only at a8; omega), (e 31 (by decide)).trans (by simp only at a9; omega), (e 15 (by decide)).trans (by simp only at a10; omega)⟩
  rw [show ((n : Int) / 16) = ((n / 16 : Nat) : Int) by omega, show (3 : Int) = ((3 : Nat) : Int) from rfl, e4]
  simp only at a4
  omega
theorem xor_b (a b : Int) (a0 : 0 ≤ a) (a1 : a < 256) (b0 : 0 ≤ b) (b1 : b < 256) : 0 ≤ Go.bits .xor .u8 a b ∧ Go.bits .xor .u8 a b < 256 ∧ Go.bits .xor .u8 (Go.bits .xor .u8 a b) b = a := by
  obtain ⟨n, rfl, hn⟩ := nat_of a a0 a1
  obtain ⟨m, rfl, hm⟩ := nat_of b b0 b1
  have hx : n ^^^ m < 2 ^ 8 := Nat.xor_lt_two_pow (by omega) (by omega)
  rw [xor8 n m hn hm, xor8 (n ^^^ m) m (by omega) hm, Nat.xor_assoc, Nat.xor_self, Nat.xor_zero]
  exact ⟨by omega, by omega, rfl⟩
theorem xor_low (f y : Int) (f0 : 0 ≤ f) (f1 : f < 256) (y0 : 0 ≤ y) (y1 : y < 32) : Go.bits .xor .u8 f y / 32 = f / 32 ∧ (y < 16 → Go.bits .xor .u8 f y / 16 = f / 16) := by
  obtain ⟨n, rfl, hn⟩ := nat_of f f0 f1
  obtain ⟨m, rfl, hm⟩ := nat_of y y0 (by omega)
  obtain ⟨c1, c2, c3⟩ := fx0 ⟨n, hn⟩ ⟨m, by omega⟩
  simp only at c1 c2 c3
  rw [xor8 n m hn hm]
  exact ⟨by omega, fun h => by have := c3 (by omega); omega⟩
theorem xor_zero (f : Int) (f0 : 0 ≤ f) (f1 : f < 256) : Go.bits .xor .u8 f 0 = f := by
  obtain ⟨n, rfl, hn⟩ := nat_of f f0 f1
  have := xor8 n 0 hn (by decide)
  rw [Nat.xor_zero] at this
  exact this
/-! ### bytes -/
theorem emptyL : (⟨#[]⟩ : ByteArray).toList = [] := (empty_iff _).2 rfl
theorem app_assoc (a b c : ByteArray) : a ++ b ++ c = a ++ (b ++ c) := by
  apply ba_ext
  rw [appL, appL, appL, appL, List.append_assoc]
theorem app_nil (a : ByteArray) : (⟨#[]⟩ : ByteArray) ++ a = a := by
  apply ba_ext
  rw [appL, emptyL, List.nil_append]
theorem nil_app (a : ByteArray) : a ++ (⟨#[]⟩ : ByteArray) = a := by
  apply ba_ext
  rw [appL, emptyL, List.append_nil]
theorem extL (s : ByteArray) (a b : Nat) : (s.extract a b).toList = (s.toList.drop a).take (b - a) := by
  rw [Go.Lib.extract_toList, ← Go.Lib.toList_data]
theorem take_size (s : ByteArray) (c : Nat) (hc : c ≤ s.size) : (s.extract 0 c).size = c := by
  rw [sizeL, extL, List.length_take, List.length_drop, ← sizeL]
  omega
theorem ext_left (c t : ByteArray) (n : Nat) (h : n ≤ c.size) : (c ++ t).extract 0 n = c.extract 0 n := by
  apply ba_ext
  rw [extL, extL, appL, List.drop_zero, List.drop_zero, Nat.sub_zero, List.take_append_of_le_length (by rw [← sizeL]; exact h)]
theorem ext_right (c t : ByteArray) (n : Nat) (h : c.size ≤ n) : (c ++ t).extract 0 n = c ++ t.extract 0 (n - c.size) := by
  apply ba_ext
  rw [appL, extL, extL, appL, List.drop_zero, List.drop_zero, Nat.sub_zero, Nat.sub_zero, List.take_append, List.take_of_length_le (by rw [← sizeL]; exact h), ← sizeL]
theorem ext_all (c : ByteArray) : c.extract 0 c.size = c := by
  apply ba_ext
  rw [extL, List.drop_zero, Nat.sub_zero, sizeL, List.take_length]
theorem ext0 (c t : ByteArray) : (c ++ t).extract 0 c.size = c := by rw [ext_left _ _ _ (Nat.le_refl _), ext_all]
theorem ext_cut (s : ByteArray) (n : Nat) (h : n ≤ s.size) : s.extract 0 n ++ s.extract n s.size = s := by
  apply ba_ext
  rw [appL, extL, extL, List.drop_zero, Nat.sub_zero, List.take_of_length_le (i := s.size - n) (by rw [List.length_drop, ← sizeL]; exact Nat.le_refl _), List.take_append_drop]
theorem bt_take (s : ByteArray) (c i : Nat) (hi : i < c) : bt (s.extract 0 c) (i : Int) = bt s (i : Int) := by
  rw [bt_list, bt_list, extL, List.drop_zero, Nat.sub_zero, List.getD_eq_getElem?_getD, List.getD_eq_getElem?_getD, List.getElem?_take_of_lt hi]
theorem bt_left (c t : ByteArray) (i : Nat) (hi : i < c.size) : bt (c ++ t) (i : Int) = bt c (i : Int) := by
  rw [bt_list, bt_list, appL, List.getD_eq_getElem?_getD, List.getD_eq_getElem?_getD, List.getElem?_append_left (by rw [← sizeL]; exact hi)]
theorem bt_one (f : Int) (h0 : 0 ≤ f) (h1 : f < 256) : bt (strOfNums [f]) 0 = f := by
  have := bt_nums [f] ⟨#[]⟩ (by intro x hx; simp at hx; omega) 0 (by simp)
  rw [nil_app] at this
  simpa using this
/-! ### parsers, and what they take exactly -/
def tkO (n : Nat) (s : ByteArray) : Option (ByteArray × ByteArray) := if n ≤ s.size then some (s.extract 0 n, s.extract n s.size) else none
def bd {α β : Type} (p : ByteArray → Option (α × ByteArray)) (q : α → ByteArray → Option (β × ByteArray)) (s : ByteArray) : Option (β × ByteArray) := (p s).bind fun x => q x.1 x.2
def gd {α : Type} (c : Prop) [Decidable c] (p : ByteArray → Option (α × ByteArray)) (s : ByteArray) : Option (α × ByteArray) := if c then p s else none
def rt {α : Type} (v : α) (s : ByteArray) : Option (α × ByteArray) := some (v, s)
structure Exact {α : Type} (p : ByteArray → Option (α × ByteArray)) (c : ByteArray) (v : α) : Prop where
  full : ∀ t, p (c ++ t) = some (v, t)
  part : ∀ n, n < c.size → p (c.extract 0 n) = none
theorem Exact.bd {α β : Type} {p : ByteArray → Option (α × ByteArray)} {q : α → ByteArray → Option (β × ByteArray)} {c d : ByteArray} {v : α} {u : β} (h1 : Exact p c v) (h2 : Exact (q v) d u) : Exact (bd p q) (c ++ d) u := by
  refine ⟨fun t => ?_, fun n hn => ?_⟩
  · unfold Pure.bd
    rw [app_assoc, h1.full]
    exact h2.full t
  · unfold Pure.bd
    by_cases hc : n < c.size
    · rw [ext_left _ _ _ (by omega), h1.part n hc]
      rfl
    · rw [ext_right _ _ _ (by omega), h1.full]
      rw [ByteArray.size_append] at hn
      exact h2.part _ (by omega)
theorem Exact.gd {α : Type} {p : ByteArray → Option (α × ByteArray)} {c : ByteArray} {v : α} {b : Prop} [Decidable b] (h : Exact p c v) (hb : b) : Exact (gd b p) c v := by
  have e : Pure.gd b p = p := funext fun s => if_pos hb
  rw [e]
  exact h
theorem exact_rt {α : Type} (v : α) : Exact (rt v) ⟨#[]⟩ v := ⟨fun t => by rw [app_nil]; rfl, fun n hn => absurd hn (by rw [show (⟨#[]⟩ : ByteArray).size = 0 from rfl]; exact Nat.not_lt_zero n)⟩
theorem Exact.map {α β : Type} {p : ByteArray → Option (α × ByteArray)} {c : ByteArray} {v : α} (h : Exact p c v) (f : α → β) : Exact (Pure.bd p fun x => rt (f x)) c (f v) := by
  have := Exact.bd (q := fun x => rt (f x)) h (exact_rt (f v))
  rwa [nil_app] at this
theorem exact_tk (c : ByteArray) {n : Nat} (h : c.size = n) : Exact (tkO n) c c := by
  subst h
  refine ⟨fun t => ?_, fun n hn => ?_⟩
  · unfold tkO
    rw [if_pos (by rw [ByteArray.size_append]; omega), ext0, ext_app]
  · unfold tkO
    rw [if_neg (by rw [take_size _ _ (by omega)]; omega)]
def idO : ByteArray → Option (ByteArray × ByteArray) := bd (tkO 1) fun p => gd (bt p 0 ≤ 20) (tkO (bt p 0).toNat)
def getO (s : ByteArray) : Option (Int × ByteArray) := if wid (bt s 0) ≤ s.size then some (valF s (wid (bt s 0) - 1) 1 (bt s 0 % 64), s.extract (wid (bt s 0)) s.size) else none
theorem pb_wid (n : Int) (h0 : 0 ≤ n) (h1 : n < 4611686018427387904) : wid (bt (strOfNums (pb n)) 0) = (pb n).length := by
  have h := (put_wid n ⟨#[]⟩ h0 h1).1
  rwa [nil_app] at h
theorem exact_get (n : Int) (h0 : 0 ≤ n) (h1 : n < 4611686018427387904) : Exact getO (strOfNums (pb n)) n := by
  refine ⟨fun t => ?_, fun m hm => ?_⟩
  · obtain ⟨w, v⟩ := put_wid n t h0 h1
    have hs : (strOfNums (pb n)).size = (pb n).length := nums_size _
    unfold getO
    rw [if_pos (by rw [w, ByteArray.size_append, hs]; omega), w, v, ← hs, ext_app]
  · unfold getO
    rw [if_neg]
    have hs : (strOfNums (pb n)).size = (pb n).length := nums_size _
    have hz : ((strOfNums (pb n)).extract 0 m).size = m := take_size _ _ (by omega)
    rw [hz]
    by_cases hm0 : m = 0
    · have := (wid_b (bt ((strOfNums (pb n)).extract 0 m) 0)).1
      omega
    · have := bt_take (strOfNums (pb n)) m 0 (by omega)
      rw [show ((0 : Nat) : Int) = 0 from rfl] at this
      rw [this, pb_wid n h0 h1]
      omega
theorem exact_id (d : ByteArray) (h : d.size ≤ 20) : Exact idO (strOfNums [(d.size : Int)] ++ d) d := by
  have hb : bt (strOfNums [(d.size : Int)]) 0 = d.size := bt_one _ (by omega) (by omega)
  refine Exact.bd (exact_tk (strOfNums [(d.size : Int)]) (by rw [nums_size]; rfl)) ?_
  rw [hb]
  exact Exact.gd (exact_tk d (by simp)) (by omega)
/-! ### the parser is these parsers -/
theorem tk_t (s : ByteArray) (n : Int) : tk s true n = (⟨#[]⟩, s, true) := if_pos (Or.inl rfl)
theorem tk_some {s p r : ByteArray} {n : Int} (h0 : 0 ≤ n) (h : tkO n.toNat s = some (p, r)) : tk s false n = (p, r, false) ∧ r.size ≤ s.size ∧ p.size = n.toNat := by
  unfold tkO at h
  by_cases c : n.toNat ≤ s.size
  · rw [if_pos c] at h
    simp only [Option.some.injEq, Prod.mk.injEq] at h
    obtain ⟨rfl, rfl⟩ := h
    unfold tk
    rw [if_neg (by simp only [Bool.false_eq_true, false_or]; omega)]
    exact ⟨rfl, by simp, take_size _ _ c⟩
  · rw [if_neg c] at h
    simp at h
theorem tk_none {s : ByteArray} {n : Int} (h0 : 0 ≤ n) (h : tkO n.toNat s = none) : tk s false n = (⟨#[]⟩, s, true) := by
  unfold tkO at h
  by_cases c : n.toNat ≤ s.size
  · rw [if_pos c] at h
    simp at h
  · unfold tk
    rw [if_pos (Or.inr (by omega))]
theorem idF_t (s : ByteArray) : idF s true = (⟨#[]⟩, s, true) := by
  unfold idF
  rw [tk_t]
  rfl
theorem idF_some {s p r : ByteArray} (h : idO s = some (p, r)) : idF s false = (p, r, false) := by
  unfold idO bd at h
  obtain ⟨⟨a, s1⟩, h1, h2⟩ := Option.bind_eq_some_iff.1 h
  unfold gd at h2
  dsimp only at h2
  by_cases c : bt a 0 ≤ 20
  · rw [if_pos c] at h2
    have t1 := (tk_some (n := 1) (by decide) h1).1
    have b0 := (bt_b a 0).1
    unfold idF
    rw [t1]
    dsimp only
    rw [if_neg (by simp only [Bool.false_eq_true, false_or]; omega)]
    exact (tk_some b0 h2).1
  · rw [if_neg c] at h2
    simp at h2
theorem idF_none {s : ByteArray} (h : idO s = none) : ∃ p r, idF s false = (p, r, true) := by
  unfold idO bd at h
  unfold idF
  cases h1 : tkO 1 s with
  | none =>
    rw [tk_none (n := 1) (by decide) h1]
    exact ⟨_, _, if_pos (Or.inl rfl)⟩
  | some x =>
    obtain ⟨a, s1⟩ := x
    rw [h1, Option.bind_some] at h
    dsimp only at h
    rw [(tk_some (n := 1) (by decide) h1).1]
    unfold gd at h
    by_cases c : bt a 0 ≤ 20
    · rw [if_pos c] at h
      dsimp only
      rw [if_neg (by simp only [Bool.false_eq_true, false_or]; omega), tk_none (bt_b a 0).1 h]
      exact ⟨_, _, rfl⟩
    · dsimp only
      rw [if_pos (Or.inr (by omega))]
      exact ⟨_, _, rfl⟩
theorem get_any (k : Nat) (hk : 10 ≤ k) (s : ByteArray) : ∃ r, varint_Get.f k s = some r := by
  by_cases c : wid (bt s 0) ≤ s.size
  · exact ⟨_, get_eq s k hk c⟩
  · exact ⟨_, get_short s k (by omega)⟩
theorem num_t (k : Nat) (hk : 10 ≤ k) (s : ByteArray) : numF k s true = some (0, s, true) := by
  obtain ⟨r, hr⟩ := get_any k hk s
  unfold numF
  rw [hr, Option.bind_some, if_pos (Or.inl rfl)]
theorem num_some {k : Nat} (hk : 10 ≤ k) {s r : ByteArray} {n : Int} (h : getO s = some (n, r)) : numF k s false = some (n, r, false) := by
  unfold getO at h
  by_cases c : wid (bt s 0) ≤ s.size
  · rw [if_pos c] at h
    unfold numF
    rw [get_eq s k hk c, Option.bind_some, if_neg (by simp)]
    simp only [Option.some.injEq, Prod.mk.injEq] at h
    obtain ⟨rfl, rfl⟩ := h
    rfl
  · rw [if_neg c] at h
    simp at h
theorem num_none {k : Nat} (hk : 10 ≤ k) {s : ByteArray} (h : getO s = none) : numF k s false = some (0, s, true) := by
  unfold getO at h
  by_cases c : wid (bt s 0) ≤ s.size
  · rw [if_pos c] at h
    simp at h
  · unfold numF
    rw [get_short s k (by omega), Option.bind_some, if_pos (Or.inr (by decide))]
theorem bd_none {α β : Type} {p : ByteArray → Option (α × ByteArray)} {q : α → ByteArray → Option (β × ByteArray)} {s : ByteArray} (h : p s = none) : bd p q s = none := by unfold bd; rw [h]; rfl
theorem bd_some {α β : Type} {p : ByteArray → Option (α × ByteArray)} {q : α → ByteArray → Option (β × ByteArray)} {s r : ByteArray} {v : α} (h : p s = some (v, r)) : bd p q s = q v r := by unfold bd; rw [h]; rfl
theorem getO_nn {s r : ByteArray} {n : Int} (h : getO s = some (n, r)) : 0 ≤ n ∧ n < 4611686018427387904 := by
  unfold getO at h
  by_cases c : wid (bt s 0) ≤ s.size
  · rw [if_pos c] at h
    simp only [Option.some.injEq, Prod.mk.injEq] at h
    obtain ⟨rfl, rfl⟩ := h
    have hb (i : Nat) := bt_b s (i : Int)
    have h1 := hb 1
    have h2 := hb 2
    have h3 := hb 3
    have h4 := hb 4
    have h5 := hb 5
    have h6 := hb 6
    have h7 := hb 7
    clear hb
    have hw : wid (bt s 0) = 1 ∨ wid (bt s 0) = 2 ∨ wid (bt s 0) = 4 ∨ wid (bt s 0) = 8 := by
      unfold wid
      (repeat' split) <;> simp
    rcases hw with e | e | e | e <;> rw [e] <;> simp only [valF, Nat.reduceSub, Nat.reduceAdd] <;> omega
  · rw [if_neg c] at h
    simp at h
/-- The state behind the type's token. -/
def tokO (ty : Int) : ByteArray → Option (ByteArray × ByteArray) := fun s => if ty = 0 then bd getO (fun n => gd (n ≤ 1000) (tkO n.toNat)) s else rt ⟨#[]⟩ s
def shortO (f : Int) : ByteArray → Option (Ps × ByteArray) := bd (tkO 8) fun p => rt ⟨false, Go.bits .and .u8 f 32 != 0, 0, 0, p, ⟨#[]⟩, ⟨#[]⟩, 0, ⟨#[]⟩, f⟩
def longO (f : Int) : ByteArray → Option (Ps × ByteArray) := bd (tkO 4) fun v => bd idO fun d => bd idO fun c => bd (tokO (tyF f)) fun t => bd getO fun l => gd (tyF f ≤ 2) (rt ⟨true, false, tyF f, bkF v v.size 0 0 % 4294967296, d, c, t, l, ⟨#[]⟩, f⟩)
def psO : ByteArray → Option (Ps × ByteArray) := bd (tkO 1) fun p => gd (Go.bits .and .u8 (bt p 0) 64 ≠ 0) fun s => if Go.bits .and .u8 (bt p 0) 128 = 0 then shortO (bt p 0) s else longO (bt p 0) s
def withRest (x : Ps × ByteArray) : Ps := ⟨x.1.long, x.1.spin, x.1.ty, x.1.ver, x.1.dcid, x.1.scid, x.1.token, x.1.len, x.2, x.1.first⟩
theorem end_t (k : Nat) (hk : 10 ≤ k) (f v : Int) (d c t s : ByteArray) : psEnd k f v d c t s true = some none := by
  unfold psEnd
  rw [num_t k hk, Option.bind_some, if_pos (Or.inl rfl)]
theorem tok_t (k : Nat) (hk : 10 ≤ k) (s : ByteArray) : psTok k s true = some (⟨#[]⟩, s, true) := by
  unfold psTok
  rw [num_t k hk, Option.bind_some]
  show some (tk s true 0) = _
  rw [tk_t]
theorem end_eq (k : Nat) (hk : 10 ≤ k) (f v : Int) (d c t s : ByteArray) : psEnd k f v d c t s false = some (((bd getO fun l => gd (tyF f ≤ 2) (rt ⟨true, false, tyF f, v, d, c, t, l, ⟨#[]⟩, f⟩)) s).map withRest) := by
  unfold psEnd bd
  cases h : getO s with
  | none => rw [num_none hk h, Option.bind_some, if_pos (Or.inl rfl)]; rfl
  | some x =>
    obtain ⟨l, r⟩ := x
    rw [num_some hk h, Option.bind_some, Option.bind_some]
    dsimp only
    unfold gd
    by_cases c1 : 2 < tyF f
    · rw [if_pos (Or.inr c1), if_neg (by omega)]; rfl
    · rw [if_neg (by simp only [Bool.false_eq_true, false_or]; exact c1), if_pos (by omega)]; rfl
theorem tok_some {k : Nat} (hk : 10 ≤ k) {s p r : ByteArray} (h : bd getO (fun n => gd (n ≤ 1000) (tkO n.toNat)) s = some (p, r)) : psTok k s false = some (p, r, false) := by
  unfold bd at h
  obtain ⟨⟨n, s1⟩, h1, h2⟩ := Option.bind_eq_some_iff.1 h
  unfold gd at h2
  dsimp only at h2
  by_cases c : n ≤ 1000
  · rw [if_pos c] at h2
    unfold psTok
    rw [num_some hk h1, Option.bind_some]
    dsimp only
    rw [show (false || decide (1000 < n)) = false by simp; omega, (tk_some (getO_nn h1).1 h2).1]
  · rw [if_neg c] at h2
    simp at h2
theorem tok_none {k : Nat} (hk : 10 ≤ k) {s : ByteArray} (h : bd getO (fun n => gd (n ≤ 1000) (tkO n.toNat)) s = none) : ∃ p r, psTok k s false = some (p, r, true) := by
  unfold bd at h
  unfold psTok
  cases h1 : getO s with
  | none =>
    rw [num_none hk h1, Option.bind_some]
    dsimp only
    rw [Bool.true_or, tk_t]
    exact ⟨_, _, rfl⟩
  | some x =>
    obtain ⟨n, s1⟩ := x
    rw [h1, Option.bind_some] at h
    dsimp only at h
    rw [num_some hk h1, Option.bind_some]
    dsimp only
    unfold gd at h
    by_cases c : n ≤ 1000
    · rw [if_pos c] at h
      rw [show (false || decide (1000 < n)) = false by simp; omega, tk_none (getO_nn h1).1 h]
      exact ⟨_, _, rfl⟩
    · rw [show (false || decide (1000 < n)) = true by simp; omega, tk_t]
      exact ⟨_, _, rfl⟩
def endO (f ver : Int) (d c t : ByteArray) : ByteArray → Option (Ps × ByteArray) := bd getO fun l => gd (tyF f ≤ 2) (rt ⟨true, false, tyF f, ver, d, c, t, l, ⟨#[]⟩, f⟩)
def verO (v : ByteArray) : Int := bkF v v.size 0 0 % 4294967296
theorem longO_eq (f : Int) : longO f = bd (tkO 4) fun v => bd idO fun d => bd idO fun c => bd (tokO (tyF f)) fun t => endO f (verO v) d c t := rfl
def psFin (k : Nat) (f ver : Int) (d c s4 : ByteArray) (b4 : Bool) : Option (Option Ps) := if tyF f = 0 then (psTok k s4 b4).bind fun t => psEnd k f ver d c t.1 t.2.1 t.2.2 else psEnd k f ver d c ⟨#[]⟩ s4 b4
theorem fin_t (k : Nat) (hk : 10 ≤ k) (f ver : Int) (d c s4 : ByteArray) : psFin k f ver d c s4 true = some none := by
  unfold psFin
  by_cases ct : tyF f = 0
  · rw [if_pos ct, tok_t k hk, Option.bind_some]; exact end_t k hk _ _ _ _ _ _
  · rw [if_neg ct]; exact end_t k hk _ _ _ _ _ _
theorem fin_eq (k : Nat) (hk : 10 ≤ k) (f ver : Int) (d c s3 : ByteArray) : psFin k f ver d c s3 false = some ((bd (tokO (tyF f)) (fun t => endO f ver d c t) s3).map withRest) := by
  unfold psFin
  by_cases ct : tyF f = 0
  · rw [if_pos ct]
    have et : tokO (tyF f) s3 = bd getO (fun n => gd (n ≤ 1000) (tkO n.toNat)) s3 := by unfold tokO; rw [if_pos ct]
    cases h4 : bd getO (fun n => gd (n ≤ 1000) (tkO n.toNat)) s3 with
    | none =>
      obtain ⟨p, r, e⟩ := tok_none hk h4
      rw [e, Option.bind_some, bd_none (et.trans h4)]
      exact end_t k hk _ _ _ _ _ _
    | some x =>
      obtain ⟨t, s4⟩ := x
      rw [tok_some hk h4, Option.bind_some, bd_some (et.trans h4)]
      exact end_eq k hk _ _ _ _ _ _
  · rw [if_neg ct]
    have et : tokO (tyF f) s3 = some (⟨#[]⟩, s3) := by unfold tokO; rw [if_neg ct]; rfl
    rw [bd_some et]
    exact end_eq k hk _ _ _ _ _ _
def psTail (k : Nat) (f ver : Int) (s2 : ByteArray) (b2 : Bool) : Option (Option Ps) :=
  match idF s2 b2 with
  | (d, s3, b3) => match idF s3 b3 with
    | (c, s4, b4) => psFin k f ver d c s4 b4
theorem psLong_eq (k : Nat) (s1 : ByteArray) (f : Int) : psLong k s1 f = (match tk s1 false 4 with | (p4, s2, b2) => psTail k f (verO p4) s2 b2) := rfl
theorem tail_t (k : Nat) (hk : 10 ≤ k) (f ver : Int) (s2 : ByteArray) : psTail k f ver s2 true = some none := by
  unfold psTail
  rw [idF_t]
  dsimp only
  rw [idF_t]
  dsimp only
  exact fin_t k hk _ _ _ _ _
theorem tail_eq (k : Nat) (hk : 10 ≤ k) (f ver : Int) (s1 : ByteArray) : psTail k f ver s1 false = some ((bd idO (fun d => bd idO fun c => bd (tokO (tyF f)) fun t => endO f ver d c t) s1).map withRest) := by
  unfold psTail
  cases h2 : idO s1 with
  | none =>
    obtain ⟨p, r, e⟩ := idF_none h2
    rw [e, bd_none h2]
    dsimp only
    rw [idF_t]
    exact fin_t k hk _ _ _ _ _
  | some x =>
    obtain ⟨d, s2⟩ := x
    rw [idF_some h2, bd_some h2]
    dsimp only
    cases h3 : idO s2 with
    | none =>
      obtain ⟨p, r, e⟩ := idF_none h3
      rw [e, bd_none h3]
      exact fin_t k hk _ _ _ _ _
    | some x =>
      obtain ⟨c, s3⟩ := x
      rw [idF_some h3, bd_some h3]
      exact fin_eq k hk _ _ _ _ _
theorem long_eq (k : Nat) (hk : 10 ≤ k) (s : ByteArray) (f : Int) : psLong k s f = some ((longO f s).map withRest) := by
  rw [psLong_eq, longO_eq]
  cases h1 : tkO 4 s with
  | none =>
    rw [tk_none (n := 4) (by decide) h1, bd_none h1]
    exact tail_t k hk _ _ _
  | some x =>
    obtain ⟨v, s1⟩ := x
    rw [(tk_some (n := 4) (by decide) h1).1, bd_some h1]
    exact tail_eq k hk _ _ _
theorem short_eq (s1 : ByteArray) (f : Int) : psShort s1 f = some ((shortO f s1).map withRest) := by
  unfold psShort shortO
  cases h2 : tkO 8 s1 with
  | none =>
    rw [tk_none (n := 8) (by decide) h2, bd_none h2]
    exact if_pos rfl
  | some x =>
    obtain ⟨q, s2⟩ := x
    rw [(tk_some (n := 8) (by decide) h2).1, bd_some h2]
    exact if_neg (by decide)
theorem parsed_eq (k : Nat) (hk : 10 ≤ k) (s : ByteArray) (hs : s.size ≤ 9223372036854775807) : parsedF k s = some ((psO s).map withRest) := by
  unfold parsedF psO
  rw [if_pos hs]
  cases h1 : tkO 1 s with
  | none =>
    rw [tk_none (n := 1) (by decide) h1]
    dsimp only
    rw [if_pos (Or.inl rfl), bd_none h1]
    rfl
  | some x =>
    obtain ⟨p, s1⟩ := x
    rw [(tk_some (n := 1) (by decide) h1).1, bd_some h1]
    dsimp only [gd]
    by_cases c : Go.bits .and .u8 (bt p 0) 64 = 0
    · rw [if_pos (Or.inr c), if_neg (by simpa using c)]
      rfl
    · rw [if_neg (by simp only [Bool.false_eq_true, false_or]; exact c), if_pos c]
      by_cases c2 : Go.bits .and .u8 (bt p 0) 128 = 0
      · rw [if_pos c2, if_pos c2]
        exact short_eq s1 (bt p 0)
      · rw [if_neg c2, if_neg c2]
        exact long_eq k hk s1 (bt p 0)
/-! ### put -/
theorem bytesOf_nums (s : ByteArray) : strOfNums (bytesOf s) = s := by
  apply ba_ext
  rw [numsL, Go.Lib.toList_data]
  unfold bytesOf
  rw [List.map_map]
  refine (List.map_congr_left (fun b _ => ?_)).trans (List.map_id _)
  show UInt8.ofNat ((b.toNat : Int)).toNat = b
  rw [Int.toNat_natCast, UInt8.ofNat_toNat]
theorem nums_app (a b : List Int) : strOfNums (a ++ b) = strOfNums a ++ strOfNums b := by
  apply ba_ext
  rw [appL, numsL, numsL, numsL, List.map_append]
def catB : List ByteArray → ByteArray
  | [] => ⟨#[]⟩
  | s :: t => s ++ catB t
theorem joined_run (l : List ByteArray) (hl : l.length ≤ 10) (hz : ∀ s ∈ l, s.size ≤ 2000) : ∀ (m i k : Nat) (x : List Int), i + m = l.length → x.length + 2000 * m ≤ 100000 →
    header_joined.l0 (k + m + 1) x l (l.length : Int) (i : Int) = some (strOfNums x ++ catB (l.drop i)) := by
  intro m
  induction m with
  | zero =>
    intro i k x h _
    unfold header_joined.l0
    rw [if_neg (by omega), List.drop_of_length_le (by omega)]
    show _ = some (strOfNums x ++ (⟨#[]⟩ : ByteArray))
    rw [nil_app]
  | succ m ih =>
    intro i k x h hx
    have hlt : i < l.length := by omega
    have e : rdOf ByteArray.empty l (i : Int) = l[i] := by
      unfold rdOf
      rw [Int.toNat_natCast, List.getD_eq_getElem?_getD, List.getElem?_eq_getElem hlt]
      rfl
    have hb := hz l[i] (List.getElem_mem hlt)
    rw [show k + (m + 1) + 1 = (k + m + 1) + 1 by omega]
    unfold header_joined.l0
    rw [if_pos (by omega), if_pos (by omega), if_pos (by omega), e, if_pos (by omega), w64 (by omega) (by omega)]
    have := ih (i + 1) k (x ++ bytesOf l[i]) (by omega) (by rw [List.length_append, bytesOf_length]; omega)
    rw [show ((i : Int) + 1) = ((i + 1 : Nat) : Int) by omega, this, List.drop_eq_getElem_cons hlt]
    show _ = some (strOfNums x ++ (l[i] ++ catB (l.drop (i + 1))))
    rw [nums_app, bytesOf_nums, app_assoc]
theorem joined_eq (k : Nat) (hk : 20 ≤ k) (b : Int) (l : List ByteArray) (hl : l.length ≤ 10) (hz : ∀ s ∈ l, s.size ≤ 2000) : header_joined.f k b l = some (strOfNums [b] ++ catB l) := by
  unfold header_joined.f
  have := joined_run l hl hz l.length 0 (k - l.length - 1) [b] (by omega) (by simp; omega)
  rw [show k - l.length - 1 + l.length + 1 = k by omega] at this
  exact this
theorem bkF_val (s : ByteArray) : ∀ (m i j : Nat) (acc : Int), j + m ≤ 8 → 0 ≤ acc → acc < 256 ^ j → bkF s m i acc = valF s m i acc := by
  intro m
  induction m with
  | zero => intro i j acc _ _ _; rfl
  | succ m ih =>
    intro i j acc hj h0 h1
    obtain ⟨b0, b1⟩ := bt_b s (i : Int)
    have hp : acc < 72057594037927936 := by
      have hh : j = 0 ∨ j = 1 ∨ j = 2 ∨ j = 3 ∨ j = 4 ∨ j = 5 ∨ j = 6 ∨ j = 7 := by omega
      rcases hh with rfl | rfl | rfl | rfl | rfl | rfl | rfl | rfl <;> (simp only [Int.reducePow] at h1; omega)
    unfold bkF valF
    rw [wUi (n := acc * 256) (by omega) (by omega), bits_join .u64 64 (by decide) hk64 8 _ _ (by omega) (by omega) (by omega) (by omega) (by omega) (by omega)]
    refine ih (i + 1) (j + 1) _ (by omega) (by omega) ?_
    rw [Int.pow_succ]
    omega
theorem val_nums (xs : List Int) (hx : ∀ x ∈ xs, 0 ≤ x ∧ x < 256) (i : Nat) (hi : i < xs.length) : bt (strOfNums xs) (i : Int) = xs.getD i 0 := by
  have := bt_nums xs ⟨#[]⟩ hx i hi
  rwa [nil_app] at this
theorem fixed_spec (n : Int) (h0 : 0 ≤ n) (w : Int) (hw : w = 1 ∨ w = 2 ∨ w = 3 ∨ w = 4) (hn : n < 256 ^ w.toNat) : ∃ N : ByteArray, varint_Fixed.f n w = some N ∧ N.size = w.toNat ∧ bkF N N.size 0 0 = n := by
  have h1 : n < 18446744073709551616 := by
    rcases hw with rfl | rfl | rfl | rfl <;> (simp at hn; omega)
  have e8 (v : Int) (hv : v = 1 ∨ v = 2 ∨ v = 3 ∨ v = 4) : mx 0 (mn v 8) = v := by
    rcases hv with rfl | rfl | rfl | rfl <;> decide
  unfold varint_Fixed.f
  rw [e8 w hw, fixL_eq n h0 h1]
  rcases hw with rfl | rfl | rfl | rfl
  · refine ⟨strOfNums [n / 2 ^ 0 % 256], rfl, by rw [nums_size]; rfl, ?_⟩
    have hx : ∀ x ∈ [n / 2 ^ 0 % 256], 0 ≤ x ∧ x < 256 := by intro x hx; simp only [List.mem_cons, List.not_mem_nil, or_false] at hx; omega
    rw [nums_size]
    show bkF _ 1 0 0 = n
    rw [bkF_val _ 1 0 0 0 (by omega) (by omega) (by decide)]
    simp only [valF]
    rw [show ((0 : Nat) : Int) = 0 from rfl] 
    have g0 := val_nums _ hx 0 (by simp)
    rw [show ((0 : Nat) : Int) = 0 from rfl] at g0
    rw [g0]
    simp at hn ⊢
    omega
  · refine ⟨strOfNums [n / 2 ^ 8 % 256, n / 2 ^ 0 % 256], rfl, by rw [nums_size]; rfl, ?_⟩
    have hx : ∀ x ∈ [n / 2 ^ 8 % 256, n / 2 ^ 0 % 256], 0 ≤ x ∧ x < 256 := by intro x hx; simp only [List.mem_cons, List.not_mem_nil, or_false] at hx; omega
    rw [nums_size]
    show bkF _ 2 0 0 = n
    rw [bkF_val _ 2 0 0 0 (by omega) (by omega) (by decide)]
    simp only [valF, Nat.reduceAdd]
    rw [val_nums _ hx 0 (by simp), val_nums _ hx 1 (by simp)]
    simp at hn ⊢
    omega
  · refine ⟨strOfNums [n / 2 ^ 16 % 256, n / 2 ^ 8 % 256, n / 2 ^ 0 % 256], rfl, by rw [nums_size]; rfl, ?_⟩
    have hx : ∀ x ∈ [n / 2 ^ 16 % 256, n / 2 ^ 8 % 256, n / 2 ^ 0 % 256], 0 ≤ x ∧ x < 256 := by intro x hx; simp only [List.mem_cons, List.not_mem_nil, or_false] at hx; omega
    rw [nums_size]
    show bkF _ 3 0 0 = n
    rw [bkF_val _ 3 0 0 0 (by omega) (by omega) (by decide)]
    simp only [valF, Nat.reduceAdd]
    rw [val_nums _ hx 0 (by simp), val_nums _ hx 1 (by simp), val_nums _ hx 2 (by simp)]
    simp at hn ⊢
    omega
  · refine ⟨strOfNums [n / 2 ^ 24 % 256, n / 2 ^ 16 % 256, n / 2 ^ 8 % 256, n / 2 ^ 0 % 256], rfl, by rw [nums_size]; rfl, ?_⟩
    have hx : ∀ x ∈ [n / 2 ^ 24 % 256, n / 2 ^ 16 % 256, n / 2 ^ 8 % 256, n / 2 ^ 0 % 256], 0 ≤ x ∧ x < 256 := by intro x hx; simp only [List.mem_cons, List.not_mem_nil, or_false] at hx; omega
    rw [nums_size]
    show bkF _ 4 0 0 = n
    rw [bkF_val _ 4 0 0 0 (by omega) (by omega) (by decide)]
    simp only [valF, Nat.reduceAdd]
    rw [val_nums _ hx 0 (by simp), val_nums _ hx 1 (by simp), val_nums _ hx 2 (by simp), val_nums _ hx 3 (by simp)]
    simp at hn ⊢
    omega
/-- A header that may be. -/
def MayP (long spin phase : Bool) (ty ver : Int) (dcid scid token : ByteArray) (len wide num : Int) : Prop :=
  (wide = 1 ∨ wide = 2 ∨ wide = 3 ∨ wide = 4) ∧ num < 256 ^ wide.toNat ∧
  ((long = true ∧ spin = false ∧ phase = false ∧ (ty = 0 ∨ ty = 1 ∨ ty = 2) ∧ (ty = 0 ∨ token.toList = []) ∧ dcid.size ≤ 20 ∧ scid.size ≤ 20 ∧ token.size ≤ 1000 ∧ len ≤ 4611686018427387903) ∨
   (long = false ∧ ty = 0 ∧ ver = 0 ∧ scid.toList = [] ∧ token.toList = [] ∧ len = 0 ∧ dcid.size = 8))
theorem may_wide (num wide : Int) (h0 : 0 ≤ num) (hw : wide = 1 ∨ wide = 2 ∨ wide = 3 ∨ wide = 4) : 0 ≤ wrap64 (8 * wide) ∧ ((shr .u64 num (wrap64 (8 * wide)) != 0) = false ↔ num < 256 ^ wide.toNat) := by
  rcases hw with rfl | rfl | rfl | rfl
  · rw [show wrap64 (8 * 1) = 8 by decide +kernel, show shr .u64 num 8 = num / 2 ^ 8 from rfl, bne_eq_false_iff_eq]; exact ⟨by decide, by simp; omega⟩
  · rw [show wrap64 (8 * 2) = 16 by decide +kernel, show shr .u64 num 16 = num / 2 ^ 16 from rfl, bne_eq_false_iff_eq]; exact ⟨by decide, by simp; omega⟩
  · rw [show wrap64 (8 * 3) = 24 by decide +kernel, show shr .u64 num 24 = num / 2 ^ 24 from rfl, bne_eq_false_iff_eq]; exact ⟨by decide, by simp; omega⟩
  · rw [show wrap64 (8 * 4) = 32 by decide +kernel, show shr .u64 num 32 = num / 2 ^ 32 from rfl, bne_eq_false_iff_eq]; exact ⟨by decide, by simp; omega⟩
theorem j0_t (k : Nat) (hk : 1 ≤ k) (long spin phase : Bool) (ty ver : Int) (dcid scid token : ByteArray) (len wide num : Int) : header_May.j0 k true long spin phase ty ver dcid scid token len wide num = some false := by
  obtain ⟨j, rfl⟩ := Nat.le.dest hk
  rw [Nat.add_comm, header_May.j0]
  exact if_pos rfl
theorem j0_eq (k : Nat) (hk : 1 ≤ k) (long spin phase : Bool) (ty ver : Int) (dcid scid token : ByteArray) (len wide num : Int) : header_May.j0 k false long spin phase ty ver dcid scid token len wide num = some (decide
  ((long = true ∧ spin = false ∧ phase = false ∧ (ty = 0 ∨ ty = 1 ∨ ty = 2) ∧ (ty = 0 ∨ token.toList = []) ∧ dcid.size ≤ 20 ∧ scid.size ≤ 20 ∧ token.size ≤ 1000 ∧ len ≤ 4611686018427387903) ∨
   (long = false ∧ ty = 0 ∧ ver = 0 ∧ scid.toList = [] ∧ token.toList = [] ∧ len = 0 ∧ dcid.size = 8))) := by
  obtain ⟨j, rfl⟩ := Nat.le.dest hk
  rw [Nat.add_comm, header_May.j0, if_neg (by decide)]
  cases long with
  | false =>
    rw [if_neg (by decide)]
    simp only [Bool.not_false, Bool.true_and, Bool.false_eq_true, false_and, false_or, true_and]
    by_cases c : ty = 0 ∧ ver = 0 ∧ scid.toList = [] ∧ token.toList = [] ∧ len = 0
    · obtain ⟨rfl, rfl, c3, c4, rfl⟩ := c
      rw [if_pos (by simp [c3, c4])]
      congr 1
      by_cases c8 : dcid.size = 8
      · simp [c3, c4, c8]
      · simp [c3, c4, c8]; omega
    · rw [if_neg (by simpa using c)]
      congr 1
      symm
      rw [decide_eq_false_iff_not]
      exact fun ⟨a, b, c3, d, e, _⟩ => c ⟨a, b, c3, d, e⟩
  | true =>
    rw [if_pos rfl]
    simp only [true_and, Bool.true_eq_false, false_and, or_false]
    cases spin with
    | true => simp
    | false =>
      cases phase with
      | true => simp
      | false =>
        simp only [Bool.false_eq_true, if_false, true_and]
        by_cases a1 : ty < 0
        · rw [if_pos a1]; congr 1; symm; rw [decide_eq_false_iff_not]; omega
        rw [if_neg a1]
        by_cases a2 : ty > 2
        · rw [if_pos a2]; congr 1; symm; rw [decide_eq_false_iff_not]; omega
        rw [if_neg a2]
        have ht : ty = 0 ∨ ty = 1 ∨ ty = 2 := by omega
        have key : ∀ (P : Prop) [Decidable P], P → (if (dcid.size : Int) ≤ 20 then (if (scid.size : Int) ≤ 20 then (if (token.size : Int) ≤ 1000 then (some (decide (len ≤ 4611686018427387903))) else (some false)) else (some false)) else (some false)) = some (decide (P ∧ dcid.size ≤ 20 ∧ scid.size ≤ 20 ∧ token.size ≤ 1000 ∧ len ≤ 4611686018427387903)) := by
          intro P _ hP
          by_cases b1 : dcid.size ≤ 20
          · rw [if_pos (by omega)]
            by_cases b2 : scid.size ≤ 20
            · rw [if_pos (by omega)]
              by_cases b3 : token.size ≤ 1000
              · rw [if_pos (by omega)]
                simp [hP, b1, b2, b3]
              · rw [if_neg (by omega)]
                simp [b3]
            · rw [if_neg (by omega)]
              simp [b2]
          · rw [if_neg (by omega)]
            simp [b1]
        by_cases a3 : ty = 0
        · rw [if_pos a3, key (ty = 0) a3]
          simp [a3]
        · rw [if_neg a3]
          by_cases a4 : token.toList = ([] : List UInt8)
          · rw [if_pos a4, key (token.toList = []) a4]
            have e : ∀ Q : Prop, ((ty = 0 ∨ ty = 1 ∨ ty = 2) ∧ (ty = 0 ∨ token.toList = []) ∧ Q) ↔ (token.toList = [] ∧ Q) := fun Q => ⟨fun h => ⟨a4, h.2.2⟩, fun h => ⟨ht, Or.inr a4, h.2⟩⟩
            simp only [e]
          · rw [if_neg a4]
            simp [a3, a4]
theorem may_yes {k : Nat} (hk : 1 ≤ k) {long spin phase : Bool} {ty ver : Int} {dcid scid token : ByteArray} {len wide num : Int} (h0 : 0 ≤ num) (h : MayP long spin phase ty ver dcid scid token len wide num) : header_May.f k long spin phase ty ver dcid scid token len wide num = some true := by
  obtain ⟨hw, hn, h⟩ := h
  obtain ⟨w0, w1⟩ := may_wide num wide h0 hw
  unfold header_May.f
  rw [if_neg (by omega), if_neg (by omega), if_pos w0, w1.2 hn, j0_eq k hk]
  congr 1
  rw [decide_eq_true_iff]
  exact h
theorem may_or (k : Nat) (hk : 1 ≤ k) (long spin phase : Bool) (ty ver : Int) (dcid scid token : ByteArray) (len wide num : Int) (h0 : 0 ≤ num) :
    (MayP long spin phase ty ver dcid scid token len wide num ∧ header_May.f k long spin phase ty ver dcid scid token len wide num = some true) ∨ header_May.f k long spin phase ty ver dcid scid token len wide num = some false := by
  by_cases c1 : wide < 1
  · right; unfold header_May.f; rw [if_pos c1]; exact j0_t k hk _ _ _ _ _ _ _ _ _ _ _
  by_cases c2 : wide > 4
  · right; unfold header_May.f; rw [if_neg c1, if_pos c2]; exact j0_t k hk _ _ _ _ _ _ _ _ _ _ _
  have hw : wide = 1 ∨ wide = 2 ∨ wide = 3 ∨ wide = 4 := by omega
  obtain ⟨w0, w1⟩ := may_wide num wide h0 hw
  by_cases c3 : num < 256 ^ wide.toNat
  · unfold header_May.f
    rw [if_neg c1, if_neg c2, if_pos w0, w1.2 c3, j0_eq k hk]
    by_cases c4 : ((long = true ∧ spin = false ∧ phase = false ∧ (ty = 0 ∨ ty = 1 ∨ ty = 2) ∧ (ty = 0 ∨ token.toList = []) ∧ dcid.size ≤ 20 ∧ scid.size ≤ 20 ∧ token.size ≤ 1000 ∧ len ≤ 4611686018427387903) ∨
   (long = false ∧ ty = 0 ∧ ver = 0 ∧ scid.toList = [] ∧ token.toList = [] ∧ len = 0 ∧ dcid.size = 8))
    · exact Or.inl ⟨⟨hw, c3, c4⟩, by rw [decide_eq_true c4]⟩
    · exact Or.inr (by rw [decide_eq_false c4])
  · right
    unfold header_May.f
    have : (shr .u64 num (wrap64 (8 * wide)) != 0) = true := by
      cases e : (shr .u64 num (wrap64 (8 * wide)) != 0) with
      | true => rfl
      | false => exact absurd (w1.1 e) c3
    rw [if_neg c1, if_neg c2, if_pos w0, this]
    exact j0_t k hk _ _ _ _ _ _ _ _ _ _ _
/-! ### what is put of a header that may be -/
structure Hd (long spin phase : Bool) (ty ver : Int) (dcid scid token : ByteArray) (len wide num f : Int) (body N : ByteArray) : Prop where
  f0 : 0 ≤ f
  f1 : f < 256
  size : N.size = wide.toNat
  val : bkF N N.size 0 0 = num
  wd : f % 4 + 1 = wide
  res : if long = true then f / 4 % 4 = 0 else f / 8 % 4 = 0
  ph : phase = (!long && (Go.bits .and .u8 f 4 != 0))
  big : long = decide (f ≥ 128)
  exact : ∀ f', 0 ≤ f' → f' < 256 → (if long = true then f' / 16 = f / 16 else f' / 32 = f / 32) → Exact psO (strOfNums [f'] ++ body) ⟨long, spin, ty, ver, dcid, scid, token, len, ⟨#[]⟩, f'⟩
  bs : body.size ≤ 3000
theorem exact_psO (f : Int) (f0 : 0 ≤ f) (f1 : f < 256) (h64 : f / 64 % 2 = 1) {P : ByteArray → Option (Ps × ByteArray)} (hP : (fun s => if Go.bits .and .u8 f 128 = 0 then shortO f s else longO f s) = P) {c : ByteArray} {q : Ps} (h : Exact P c q) :
    Exact psO (strOfNums [f] ++ c) q := by
  unfold psO
  refine Exact.bd (exact_tk (strOfNums [f]) (by rw [nums_size]; rfl)) ?_
  rw [bt_one f f0 f1, hP]
  exact Exact.gd h (by rw [(fb f f0 f1).1]; omega)
theorem exact_short (f : Int) (f0 : 0 ≤ f) (f1 : f < 256) (h64 : f / 64 % 2 = 1) (h128 : f / 128 = 0) (spin : Bool) (hs : f / 32 % 2 = if spin = true then 1 else 0) (d : ByteArray) (hd : d.size = 8) :
    Exact psO (strOfNums [f] ++ d) ⟨false, spin, 0, 0, d, ⟨#[]⟩, ⟨#[]⟩, 0, ⟨#[]⟩, f⟩ := by
  refine exact_psO f f0 f1 h64 (P := shortO f) (funext fun s => if_pos (by rw [(fb f f0 f1).2.1]; omega)) ?_
  have : (Go.bits .and .u8 f 32 != 0) = spin := by
    rw [(fb f f0 f1).2.2.1, hs]
    cases spin <;> rfl
  have h := Exact.map (exact_tk d hd) fun p => (⟨false, Go.bits .and .u8 f 32 != 0, 0, 0, p, ⟨#[]⟩, ⟨#[]⟩, 0, ⟨#[]⟩, f⟩ : Ps)
  rw [this] at h
  unfold shortO
  rw [this]
  exact h
theorem tyF_eq (f : Int) (f0 : 0 ≤ f) (f1 : f < 256) : tyF f = f / 16 % 4 := by
  unfold tyF
  rw [(fb f f0 f1).2.2.2.1, w64 (by omega) (by omega)]
theorem exact_tok0 (t : ByteArray) (ht : t.size ≤ 1000) : Exact (tokO 0) (strOfNums (pb t.size) ++ t) t := by
  have e : tokO 0 = bd getO (fun n => gd (n ≤ 1000) (tkO n.toNat)) := funext fun s => if_pos rfl
  rw [e]
  exact Exact.bd (exact_get (t.size : Int) (by omega) (by omega)) (Exact.gd (exact_tk t (by simp)) (by omega))
theorem exact_tok1 (ty : Int) (h : ty ≠ 0) : Exact (tokO ty) ⟨#[]⟩ ⟨#[]⟩ := by
  have e : tokO ty = rt ⟨#[]⟩ := funext fun s => if_neg h
  rw [e]
  exact exact_rt _
theorem exact_end (f ver : Int) (d c t : ByteArray) (len : Int) (h0 : 0 ≤ len) (h1 : len ≤ 4611686018427387903) (hty : tyF f ≤ 2) : Exact (endO f ver d c t) (strOfNums (pb len)) ⟨true, false, tyF f, ver, d, c, t, len, ⟨#[]⟩, f⟩ := by
  have := Exact.bd (q := fun l => gd (tyF f ≤ 2) (rt (⟨true, false, tyF f, ver, d, c, t, l, ⟨#[]⟩, f⟩ : Ps))) (exact_get len h0 (by omega)) (Exact.gd (exact_rt _) hty)
  rwa [nil_app] at this
theorem exact_long (f : Int) (f0 : 0 ≤ f) (f1 : f < 256) (h64 : f / 64 % 2 = 1) (h128 : f / 128 = 1) (ty ver : Int) (hty : f / 16 % 4 = ty) (ht2 : ty ≤ 2) (F4 d c T t : ByteArray) (hF : F4.size = 4) (hv : verO F4 = ver)
    (hd : d.size ≤ 20) (hc : c.size ≤ 20) (hT : Exact (tokO ty) T t) (len : Int) (h0 : 0 ≤ len) (h1 : len ≤ 4611686018427387903) :
    Exact psO (strOfNums [f] ++ (F4 ++ ((strOfNums [(d.size : Int)] ++ d) ++ ((strOfNums [(c.size : Int)] ++ c) ++ (T ++ strOfNums (pb len)))))) ⟨true, false, ty, ver, d, c, t, len, ⟨#[]⟩, f⟩ := by
  refine exact_psO f f0 f1 h64 (P := longO f) (funext fun s => if_neg (by rw [(fb f f0 f1).2.1]; omega)) ?_
  have hy : tyF f = ty := (tyF_eq f f0 f1).trans hty
  rw [longO_eq]
  refine Exact.bd (exact_tk F4 hF) (Exact.bd (exact_id d hd) (Exact.bd (exact_id c hc) (Exact.bd (by rw [hy]; exact hT) ?_)))
  have := exact_end f (verO F4) d c t len h0 h1 (by rw [hy]; exact ht2)
  rw [hv, hy] at this
  rw [hv]
  exact this
theorem empty_of {s : ByteArray} (h : s.toList = ([] : List UInt8)) : s = ⟨#[]⟩ := ba_ext (h.trans emptyL.symm)
theorem f_short (wide : Int) (hw : wide = 1 ∨ wide = 2 ∨ wide = 3 ∨ wide = 4) (spin phase : Bool) : Go.bits .or .u8 (Go.bits .or .u8 (Go.bits .or .u8 64 ((wrap64 (wide - 1)) % 256)) (if spin = true then 32 else 0)) (if phase = true then 4 else 0) = 63 + wide + (if spin = true then 32 else 0) + (if phase = true then 4 else 0) := by
  rcases hw with rfl | rfl | rfl | rfl <;> cases spin <;> cases phase <;> decide +kernel
theorem f_long (wide ty : Int) (hw : wide = 1 ∨ wide = 2 ∨ wide = 3 ∨ wide = 4) (ht : ty = 0 ∨ ty = 1 ∨ ty = 2) : Go.bits .or .u8 (Go.bits .or .u8 (Go.bits .or .u8 64 ((wrap64 (wide - 1)) % 256)) 128) ((((ty) % 256) * 16) % 256) = 191 + wide + 16 * ty := by
  rcases hw with rfl | rfl | rfl | rfl <;> rcases ht with rfl | rfl | rfl <;> decide +kernel
theorem flag_eq (b : Bool) (n : Int) : header_flag.f b n = some (if b = true then n else 0) := by
  unfold header_flag.f
  split <;> rfl
theorem number_eq (n : Int) (h0 : 0 ≤ n) (h1 : n < 4611686018427387904) : header_number.f n = some (strOfNums (pb n)) := by
  unfold header_number.f
  rw [put_eq n h0 h1, Option.bind_some]
theorem counted_eq (k : Nat) (hk : 20 ≤ k) (s : ByteArray) (hs : s.size ≤ 20) : header_counted.f k s = some (strOfNums [(s.size : Int)] ++ s) := by
  unfold header_counted.f
  rw [joined_eq k hk _ [s] (by simp) (by intro x hx; simp at hx; subst hx; omega), Option.bind_some, show ((s.size : Int)) % 256 = (s.size : Int) by omega]
  show some (strOfNums [(s.size : Int)] ++ (s ++ (⟨#[]⟩ : ByteArray))) = _
  rw [nil_app]
theorem pb_len (n : Int) : (pb n).length ≤ 8 := by
  unfold pb
  (repeat' split) <;> simp
theorem put_bad {k : Nat} {long spin phase : Bool} {ty ver : Int} {dcid scid token : ByteArray} {len wide num : Int} (h : header_May.f k long spin phase ty ver dcid scid token len wide num = some false) : header_Put.f k long spin phase ty ver dcid scid token len wide num = some ((⟨#[]⟩ : ByteArray), 1) := by
  unfold header_Put.f
  rw [h, Option.bind_some, if_neg (by decide)]
theorem put_ok {k : Nat} (hk : 30 ≤ k) {long spin phase : Bool} {ty ver : Int} {dcid scid token : ByteArray} {len wide num : Int} (hm : MayP long spin phase ty ver dcid scid token len wide num) (n0 : 0 ≤ num) (v0 : 0 ≤ ver) (v1 : ver < 4294967296) (l0 : 0 ≤ len)
    (hz : token.size ≤ 1000000) : ∃ f body N, header_Put.f k long spin phase ty ver dcid scid token len wide num = some (strOfNums [f] ++ body ++ N, 0) ∧ Hd long spin phase ty ver dcid scid token len wide num f body N := by
  have hy := may_yes (k := k) (by omega) n0 hm
  obtain ⟨hw, hn, hm⟩ := hm
  obtain ⟨N, hN, hNs, hNv⟩ := fixed_spec num n0 wide hw hn
  have HNV := Aside0.mk hNv
  clear hNv
  have hN4 : N.size ≤ 4 := by rcases hw with rfl | rfl | rfl | rfl <;> (rw [hNs]; decide)
  rcases hm with ⟨rfl, rfl, rfl, ht, htt, hd, hc, ht1, hl⟩ | ⟨rfl, rfl, rfl, hc, htk, rfl, hd⟩
  · obtain ⟨F4, hF, hFs, hFv⟩ := fixed_spec ver v0 4 (by simp) (by simpa using v1)
    have hver : Aside0 (verO F4 = ver) := ⟨by unfold verO; rw [hFv]; exact Int.emod_eq_of_lt v0 v1⟩
    clear hFv
    obtain ⟨j, rfl⟩ := Nat.le.dest hk
    have hFs4 : F4.size = 4 := hFs
    have core (T : ByteArray) (hT : Exact (tokO ty) T token) (hTs : T.size ≤ 1100) :
        header_Put.j0 (30 + j) N (Go.bits .or .u8 64 ((wrap64 (wide - 1)) % 256)) T true false false ty ver dcid scid token len wide num = some (strOfNums [191 + wide + 16 * ty] ++ (F4 ++ ((strOfNums [(dcid.size : Int)] ++ dcid) ++ ((strOfNums [(scid.size : Int)] ++ scid) ++ (T ++ strOfNums (pb len))))) ++ N, 0) ∧
        Hd true false false ty ver dcid scid token len wide num (191 + wide + 16 * ty) (F4 ++ ((strOfNums [(dcid.size : Int)] ++ dcid) ++ ((strOfNums [(scid.size : Int)] ++ scid) ++ (T ++ strOfNums (pb len))))) N := by
      have pl := pb_len len
      have sz1 (n : Int) : (strOfNums [n]).size = 1 := nums_size _
      constructor
      · rw [show 30 + j = (29 + j) + 1 by omega, header_Put.j0]
        rw [wUi v0 (by omega), hF, Option.bind_some, counted_eq (29 + j) (by omega) dcid hd, Option.bind_some, counted_eq (29 + j) (by omega) scid hc, Option.bind_some, number_eq len l0 (by omega), Option.bind_some, f_long wide ty hw ht,
          joined_eq (29 + j) (by omega) _ _ (by simp) (by
            intro s hs
            simp only [List.mem_cons, List.not_mem_nil, or_false] at hs
            rcases hs with rfl | rfl | rfl | rfl | rfl | rfl
            · omega
            · rw [ByteArray.size_append, sz1]; omega
            · rw [ByteArray.size_append, sz1]; omega
            · omega
            · rw [nums_size]; omega
            · omega), Option.bind_some]
        congr 2
        simp only [catB, nil_app, app_assoc]
      · refine ⟨by omega, by omega, hNs, HNV.out, by omega, by rw [if_pos rfl]; omega, rfl, by symm; rw [decide_eq_true_iff]; omega, fun f' a b c => ?_, ?_⟩
        · rw [if_pos rfl] at c
          exact exact_long f' a b (by omega) (by omega) ty ver (by omega) (by omega) F4 dcid scid T token hFs4 hver.out hd hc hT len l0 hl
        · simp only [ByteArray.size_append, sz1, nums_size]; omega
    unfold header_Put.f
    rw [hy, Option.bind_some, if_pos rfl, hN, Option.bind_some, if_pos rfl]
    by_cases c : ty = 0
    · rw [if_pos c, wUi (by omega) (by omega), number_eq _ (by omega) (by omega), Option.bind_some, if_pos (by rw [nums_size]; have := pb_len (token.size : Int); omega)]
      obtain ⟨h1, h2⟩ := core (strOfNums (pb token.size) ++ token) (by rw [c]; exact exact_tok0 token ht1) (by rw [ByteArray.size_append, nums_size]; have := pb_len (token.size : Int); omega)
      exact ⟨_, _, N, h1, h2⟩
    · rw [if_neg c]
      have ht0 := empty_of (htt.resolve_left c)
      obtain ⟨h1, h2⟩ := core ⟨#[]⟩ (by rw [ht0]; exact exact_tok1 ty c) (by decide)
      exact ⟨_, _, N, h1, h2⟩
  · obtain rfl := empty_of hc
    obtain rfl := empty_of htk
    refine ⟨63 + wide + (if spin = true then 32 else 0) + (if phase = true then 4 else 0), dcid, N, ?_, ?_⟩
    · unfold header_Put.f
      rw [hy, Option.bind_some, if_pos rfl, hN, Option.bind_some, if_neg (by decide), flag_eq, Option.bind_some, flag_eq, Option.bind_some, f_short wide hw, joined_eq k (by omega) _ _ (by simp) (by
        intro s hs
        simp only [List.mem_cons, List.not_mem_nil, or_false] at hs
        rcases hs with rfl | rfl <;> omega), Option.bind_some]
      congr 2
      simp only [catB, nil_app, app_assoc]
    · have hs : (if spin = true then (32 : Int) else 0) = 32 * (if spin = true then 1 else 0) := by cases spin <;> rfl
      have hp : (if phase = true then (4 : Int) else 0) = 4 * (if phase = true then 1 else 0) := by cases phase <;> rfl
      have s1 : (if spin = true then (1 : Int) else 0) = 0 ∨ (if spin = true then (1 : Int) else 0) = 1 := by cases spin <;> simp
      have p1 : (if phase = true then (1 : Int) else 0) = 0 ∨ (if phase = true then (1 : Int) else 0) = 1 := by cases phase <;> simp
      have hph : phase = decide ((if phase = true then (1 : Int) else 0) = 1) := by cases phase <;> rfl
      rw [hs, hp]
      generalize hS : (if spin = true then (1 : Int) else 0) = S at *
      generalize hPh : (if phase = true then (1 : Int) else 0) = Q at *
      refine ⟨by omega, by omega, hNs, HNV.out, by omega, by rw [if_neg (by decide)]; omega, ?_, by symm; rw [decide_eq_false_iff_not]; omega, fun f' a b c => ?_, by omega⟩
      · rw [(fb _ (by omega) (by omega)).2.2.2.2.2.2.2.1, hph, show (63 + wide + 32 * S + 4 * Q) / 4 % 2 = Q by omega]
        rcases p1 with rfl | rfl <;> rfl
      · rw [if_neg (by decide)] at c
        exact exact_short f' a b (by omega) (by omega) spin (by rw [hS]; omega) dcid hd
/-! ### get, place -/
theorem psO_first {s : ByteArray} {q : Ps} {r : ByteArray} (h : psO s = some (q, r)) : q.first = bt s 0 ∧ r.size < s.size ∧
    ((q.long = true ∧ q.spin = false ∧ (q.ty = 0 ∨ q.ty = 1 ∨ q.ty = 2) ∧ (q.ty = 0 ∨ q.token.toList = []) ∧ q.dcid.size ≤ 20 ∧ q.scid.size ≤ 20 ∧ q.token.size ≤ 1000 ∧ 0 ≤ q.len ∧ q.len ≤ 4611686018427387903) ∨
     (q.long = false ∧ q.ty = 0 ∧ q.ver = 0 ∧ q.scid.toList = [] ∧ q.token.toList = [] ∧ q.len = 0 ∧ q.dcid.size = 8)) := by
  unfold psO bd at h
  obtain ⟨⟨p, s1⟩, h1, h⟩ := Option.bind_eq_some_iff.1 h
  dsimp only [gd] at h
  have hs1 : s1.size < s.size ∧ bt p 0 = bt s 0 := by
    unfold tkO at h1
    by_cases c : 1 ≤ s.size
    · rw [if_pos c] at h1
      simp only [Option.some.injEq, Prod.mk.injEq] at h1
      obtain ⟨rfl, rfl⟩ := h1
      exact ⟨by simp; omega, bt_take s 1 0 (by decide)⟩
    · rw [if_neg c] at h1
      simp at h1
  obtain ⟨b0, b1⟩ := bt_b p 0
  by_cases c : Go.bits .and .u8 (bt p 0) 64 ≠ 0
  rotate_left
  · rw [if_neg c] at h
    simp at h
  rw [if_pos c] at h
  have tkz {n : Nat} {a x y : ByteArray} (h : tkO n a = some (x, y)) : x.size = n ∧ y.size ≤ a.size := by
    unfold tkO at h
    by_cases c : n ≤ a.size
    · rw [if_pos c] at h
      simp only [Option.some.injEq, Prod.mk.injEq] at h
      obtain ⟨rfl, rfl⟩ := h
      exact ⟨take_size _ _ c, by simp⟩
    · rw [if_neg c] at h
      simp at h
  by_cases c2 : Go.bits .and .u8 (bt p 0) 128 = 0
  · rw [if_pos c2] at h
    unfold shortO bd at h
    obtain ⟨⟨d, s2⟩, h2, h⟩ := Option.bind_eq_some_iff.1 h
    have z2 := tkz h2
    simp only [rt, Option.some.injEq, Prod.mk.injEq] at h
    obtain ⟨rfl, rfl⟩ := h
    exact ⟨hs1.2, by omega, Or.inr ⟨rfl, rfl, rfl, emptyL, emptyL, rfl, z2.1⟩⟩
  · rw [if_neg c2, longO_eq] at h
    unfold bd at h
    obtain ⟨⟨v, s2⟩, h2, h⟩ := Option.bind_eq_some_iff.1 h
    obtain ⟨⟨d, s3⟩, h3, h⟩ := Option.bind_eq_some_iff.1 h
    obtain ⟨⟨e, s4⟩, h4, h⟩ := Option.bind_eq_some_iff.1 h
    obtain ⟨⟨t, s5⟩, h5, h⟩ := Option.bind_eq_some_iff.1 h
    dsimp only at h3 h4 h5 h
    have z2 := tkz h2
    have idz {a x y : ByteArray} (h : idO a = some (x, y)) : x.size ≤ 20 ∧ y.size ≤ a.size := by
      unfold idO bd at h
      obtain ⟨⟨p, a1⟩, g1, h⟩ := Option.bind_eq_some_iff.1 h
      dsimp only [gd] at h
      by_cases c : bt p 0 ≤ 20
      · rw [if_pos c] at h
        have y1 := tkz g1
        have y2 := tkz h
        exact ⟨by omega, by omega⟩
      · rw [if_neg c] at h
        simp at h
    have z3 := idz h3
    have z4 := idz h4
    have getz {a y : ByteArray} {n : Int} (h : getO a = some (n, y)) : y.size ≤ a.size := by
      unfold getO at h
      by_cases c : wid (bt a 0) ≤ a.size
      · rw [if_pos c] at h
        simp only [Option.some.injEq, Prod.mk.injEq] at h
        obtain ⟨rfl, rfl⟩ := h
        simp
      · rw [if_neg c] at h
        simp at h
    have z5 : t.size ≤ 1000 ∧ s5.size ≤ s4.size ∧ (tyF (bt p 0) = 0 ∨ t.toList = []) := by
      unfold tokO at h5
      by_cases ct : tyF (bt p 0) = 0
      · rw [if_pos ct] at h5
        unfold bd at h5
        obtain ⟨⟨n, a1⟩, g1, h5⟩ := Option.bind_eq_some_iff.1 h5
        dsimp only [gd] at h5
        by_cases c : n ≤ 1000
        · rw [if_pos c] at h5
          have y1 := getz g1
          have y2 := tkz h5
          exact ⟨by omega, by omega, Or.inl ct⟩
        · rw [if_neg c] at h5
          simp at h5
      · rw [if_neg ct] at h5
        simp only [rt, Option.some.injEq, Prod.mk.injEq] at h5
        obtain ⟨rfl, rfl⟩ := h5
        exact ⟨by decide, Nat.le_refl _, Or.inr emptyL⟩
    unfold endO bd at h
    obtain ⟨⟨l, s6⟩, h6, h⟩ := Option.bind_eq_some_iff.1 h
    have z6 := getz h6
    have zl := getO_nn h6
    dsimp only [gd] at h
    by_cases c3 : tyF (bt p 0) ≤ 2
    · rw [if_pos c3] at h
      simp only [rt, Option.some.injEq, Prod.mk.injEq] at h
      obtain ⟨hq, rfl⟩ := h
      have hty := tyF_eq _ b0 b1
      have q0 : q.first = bt p 0 := by rw [← hq]
      have q1 : q.long = true := by rw [← hq]
      have q2 : q.spin = false := by rw [← hq]
      have q3 : q.ty = tyF (bt p 0) := by rw [← hq]
      have q4 : q.token = t := by rw [← hq]
      have q5 : q.dcid = d := by rw [← hq]
      have q6 : q.scid = e := by rw [← hq]
      have q7 : q.len = l := by rw [← hq]
      clear hq
      generalize tyF (bt p 0) = T at *
      rw [q0, q1, q2, q3, q4, q5, q6, q7]
      exact ⟨hs1.2, by omega, Or.inl ⟨rfl, rfl, by omega, z5.2.2, z3.1, z4.1, z5.1, zl.1, by omega⟩⟩
    · rw [if_neg c3] at h
      simp at h
theorem wd_eq (f : Int) (f0 : 0 ≤ f) (f1 : f < 256) : wdF f = 1 + f % 4 := by
  unfold wdF
  rw [(fb f f0 f1).2.2.2.2.1, w64 (n := f % 4) (by omega) (by omega), w64 (by omega) (by omega)]
def zG : Bool × Bool × Bool × Int × Int × ByteArray × ByteArray × ByteArray × Int × Int × Int × ByteArray × Int := (false, false, false, 0, 0, (⟨#[]⟩ : ByteArray), (⟨#[]⟩ : ByteArray), (⟨#[]⟩ : ByteArray), 0, 0, 0, (⟨#[]⟩ : ByteArray), 40)
theorem get_none {k : Nat} (hk : 10 ≤ k) {s : ByteArray} (hs : s.size ≤ 9223372036854775807) (h : psO s = none) : header_Get.f k s = some zG := by
  unfold header_Get.f
  rw [parsed_eq k hk s hs, h]
  rfl
theorem get_psO {k : Nat} (hk : 10 ≤ k) {s : ByteArray} (hs : s.size ≤ 9223372036854775807) {q : Ps} {r : ByteArray} (h : psO s = some (q, r)) : header_Get.f k s = header_Get.g (withRest (q, r)) := by
  unfold header_Get.f
  rw [parsed_eq k hk s hs, h]
  rfl
theorem wrap_wd (f : Int) (f0 : 0 ≤ f) (f1 : f < 256) : IntKind.u64.wrap (wdF f) = 1 + f % 4 := by
  rw [wd_eq f f0 f1, wUi (by omega) (by omega)]
theorem wr_rest (q : Ps) (r : ByteArray) : (withRest (q, r)).rest = r := rfl
theorem wr_first (q : Ps) (r : ByteArray) : (withRest (q, r)).first = q.first := rfl
theorem wr_long (q : Ps) (r : ByteArray) : (withRest (q, r)).long = q.long := rfl
theorem g_eq (Q : Ps) (h : Q.rest.size ≤ 9223372036854775807) : header_Get.g Q = header_Get.e Q (tk Q.rest false (IntKind.u64.wrap (wdF Q.first))) := by
  unfold header_Get.g
  exact if_pos h
theorem e_bad (Q : Ps) (p s : ByteArray) : header_Get.e Q (p, s, true) = some zG := by
  unfold header_Get.e
  exact if_pos (Or.inl rfl)
theorem e_res (Q : Ps) (p s : ByteArray) (b : Bool) (h : Go.bits .and .u8 Q.first (if Q.long = true then 12 else 24) ≠ 0) : header_Get.e Q (p, s, b) = some zG := by
  unfold header_Get.e
  exact if_pos (Or.inr h)
theorem e_ok (Q : Ps) (p s : ByteArray) (h : Go.bits .and .u8 Q.first (if Q.long = true then 12 else 24) = 0) : header_Get.e Q (p, s, false) = some (Q.long, Q.spin, !Q.long && (Go.bits .and .u8 Q.first 4 != 0), Q.ty, Q.ver, Q.dcid, Q.scid, Q.token, Q.len, wdF Q.first, bkF p p.size 0 0, s, 0) := by
  unfold header_Get.e
  exact if_neg (fun h2 => h2.elim (fun h3 => absurd h3 (by decide)) (fun h3 => h3 h))
theorem get_few {k : Nat} (hk : 10 ≤ k) {s : ByteArray} (hs : s.size ≤ 9223372036854775807) {q : Ps} {r : ByteArray} (h : psO s = some (q, r)) (hr : tkO (1 + q.first % 4).toNat r = none) : header_Get.f k s = some zG := by
  obtain ⟨hf, hz, _⟩ := psO_first h
  obtain ⟨b0, b1⟩ := bt_b s 0
  rw [get_psO hk hs h]
  rw [g_eq _ (by rw [wr_rest]; omega), wr_rest, wr_first, wrap_wd q.first (by omega) (by omega), tk_none (by omega) hr]
  exact e_bad _ _ _
theorem res_eq (long : Bool) (f : Int) (f0 : 0 ≤ f) (f1 : f < 256) : Go.bits .and .u8 f (if long = true then 12 else 24) = 0 ↔ (if long = true then f / 4 % 4 = 0 else f / 8 % 4 = 0) := by
  cases long with
  | true => rw [if_pos rfl, if_pos rfl, (fb f f0 f1).2.2.2.2.2.2.1]; omega
  | false => rw [if_neg (by decide), if_neg (by decide), (fb f f0 f1).2.2.2.2.2.1]; omega
theorem get_yes {k : Nat} (hk : 10 ≤ k) {s : ByteArray} (hs : s.size ≤ 9223372036854775807) {q : Ps} {r p t : ByteArray} (h : psO s = some (q, r)) (hr : tkO (1 + q.first % 4).toNat r = some (p, t)) (hb : if q.long = true then q.first / 4 % 4 = 0 else q.first / 8 % 4 = 0) :
    header_Get.f k s = some (q.long, q.spin, !q.long && (Go.bits .and .u8 q.first 4 != 0), q.ty, q.ver, q.dcid, q.scid, q.token, q.len, 1 + q.first % 4, bkF p p.size 0 0, t, 0) := by
  obtain ⟨hf, hz, _⟩ := psO_first h
  obtain ⟨b0, b1⟩ := bt_b s 0
  rw [get_psO hk hs h]
  rw [g_eq _ (by rw [wr_rest]; omega), wr_rest, wr_first, wrap_wd q.first (by omega) (by omega), (tk_some (by omega) hr).1, e_ok _ _ _ (by rw [wr_first, wr_long]; exact (res_eq q.long q.first (by omega) (by omega)).2 hb), wr_first, wd_eq q.first (by omega) (by omega)]
  rfl
theorem get_res {k : Nat} (hk : 10 ≤ k) {s : ByteArray} (hs : s.size ≤ 9223372036854775807) {q : Ps} {r p t : ByteArray} (h : psO s = some (q, r)) (hr : tkO (1 + q.first % 4).toNat r = some (p, t)) (hb : ¬ (if q.long = true then q.first / 4 % 4 = 0 else q.first / 8 % 4 = 0)) :
    header_Get.f k s = some zG := by
  obtain ⟨hf, hz, _⟩ := psO_first h
  obtain ⟨b0, b1⟩ := bt_b s 0
  rw [get_psO hk hs h]
  rw [g_eq _ (by rw [wr_rest]; omega), wr_rest, wr_first, wrap_wd q.first (by omega) (by omega), (tk_some (by omega) hr).1]
  exact e_res _ _ _ _ (fun e => hb ((res_eq q.long q.first (by omega) (by omega)).1 (by rw [wr_first, wr_long] at e; exact e)))
theorem place_none {k : Nat} (hk : 10 ≤ k) {s : ByteArray} (hs : s.size ≤ 9223372036854775807) (h : psO s = none) : header_Place.f k s = some (0, 40) := by
  unfold header_Place.f
  rw [parsed_eq k hk s hs, h]
  rfl
theorem place_some {k : Nat} (hk : 10 ≤ k) {s : ByteArray} (hs : s.size ≤ 9223372036854775807) {q : Ps} {r : ByteArray} (h : psO s = some (q, r)) : header_Place.f k s = some ((s.size : Int) - (r.size : Int), 0) := by
  obtain ⟨hf, hz, _⟩ := psO_first h
  unfold header_Place.f
  rw [parsed_eq k hk s hs, h]
  show some (wrap64 ((s.size : Int) - (r.size : Int)), (0 : Int)) = _
  rw [w64 (by omega) (by omega)]
/-! ### a mask -/
def xorN (mask : ByteArray) : Nat → List Int → List Int
  | _, [] => []
  | i, n :: t => Go.bits .xor .u8 n (bt mask (1 + (i : Int))) :: xorN mask (i + 1) t
theorem xorN_length (mask : ByteArray) : ∀ (l : List Int) (i : Nat), (xorN mask i l).length = l.length
  | [], _ => rfl
  | _ :: t, i => by simp [xorN, xorN_length mask t (i + 1)]
theorem xorN_back (mask : ByteArray) : ∀ (l : List Int) (i : Nat), (∀ x ∈ l, 0 ≤ x ∧ x < 256) → xorN mask i (xorN mask i l) = l
  | [], _, _ => rfl
  | n :: t, i, h => by
    obtain ⟨b0, b1⟩ := bt_b mask (1 + (i : Int))
    obtain ⟨n0, n1⟩ := h n (List.mem_cons_self ..)
    simp only [xorN]
    rw [(xor_b n _ n0 n1 b0 b1).2.2, xorN_back mask t (i + 1) (fun x hx => h x (List.mem_cons_of_mem _ hx))]
theorem xorN_b (mask : ByteArray) : ∀ (l : List Int) (i : Nat), (∀ x ∈ l, 0 ≤ x ∧ x < 256) → ∀ x ∈ xorN mask i l, 0 ≤ x ∧ x < 256
  | [], _, _ => fun x hx => by simp [xorN] at hx
  | n :: t, i, h => by
    obtain ⟨b0, b1⟩ := bt_b mask (1 + (i : Int))
    obtain ⟨n0, n1⟩ := h n (List.mem_cons_self ..)
    intro x hx
    simp only [xorN, List.mem_cons] at hx
    rcases hx with rfl | hx
    · exact ⟨(xor_b n _ n0 n1 b0 b1).1, (xor_b n _ n0 n1 b0 b1).2.1⟩
    · exact xorN_b mask t (i + 1) (fun x hx => h x (List.mem_cons_of_mem _ hx)) x hx
theorem xorN_zero (mask : ByteArray) (hm : ∀ i : Nat, bt mask (1 + (i : Int)) = 0) : ∀ (l : List Int) (i : Nat), (∀ x ∈ l, 0 ≤ x ∧ x < 256) → xorN mask i l = l
  | [], _, _ => rfl
  | n :: t, i, h => by
    obtain ⟨n0, n1⟩ := h n (List.mem_cons_self ..)
    simp only [xorN]
    rw [hm i, xor_zero n n0 n1, xorN_zero mask hm t (i + 1) (fun x hx => h x (List.mem_cons_of_mem _ hx))]
theorem lay_run (mask : ByteArray) : ∀ (N A T : List Int) (i : Nat), N.length + i < mask.size → layL mask ((List.range N.length).map fun j => ((A.length + j : Nat) : Int)) i (A ++ N ++ T) = some (A ++ xorN mask i N ++ T)
  | [], A, T, i, _ => rfl
  | n :: N, A, T, i, h => by
    rw [List.length_cons, List.range_succ_eq_map, List.map_cons, List.map_map]
    rw [List.length_cons] at h
    unfold layL
    have hl : (A ++ n :: N ++ T).length = A.length + (N.length + 1) + T.length := by simp; omega
    rw [if_pos (by refine ⟨by omega, by rw [hl]; omega, by omega⟩)]
    have e1 : (((A.length + 0 : Nat) : Int)).toNat = A.length := by omega
    rw [e1]
    have e2 : (A ++ n :: N ++ T).getD A.length 0 = n := by simp [List.getD_eq_getElem?_getD]
    have e3 (v : Int) : (A ++ n :: N ++ T).set A.length v = (A ++ [v]) ++ N ++ T := by
      rw [List.append_assoc, List.set_append_right _ _ (Nat.le_refl _)]
      simp
    rw [e2, e3]
    have := lay_run mask N (A ++ [Go.bits .xor .u8 n (bt mask (1 + (i : Int)))]) T (i + 1) (by omega)
    rw [List.length_append, List.length_singleton] at this
    have e4 : ((fun j => ((A.length + j : Nat) : Int)) ∘ Nat.succ) = fun j => ((A.length + 1 + j : Nat) : Int) := by
      funext j
      show ((A.length + (j + 1) : Nat) : Int) = _
      omega
    rw [e4, this]
    simp [xorN]
theorem places_run (at_ : Nat) (w : Nat) (hw : w ≤ 10) (ha : at_ ≤ 1000000000000000000) : ∀ (m i k : Nat), i + m = w → header_places.l0 (k + m + 1) (at_ : Int) ((List.range i).map fun j => ((at_ + j : Nat) : Int)) (w : Int) (i : Int) = some ((List.range w).map fun j => ((at_ + j : Nat) : Int)) := by
  intro m
  induction m with
  | zero =>
    intro i k h
    unfold header_places.l0
    rw [if_neg (by omega), show i = w by omega]
  | succ m ih =>
    intro i k h
    rw [show k + (m + 1) + 1 = (k + m + 1) + 1 by omega]
    unfold header_places.l0
    rw [if_pos (by omega), if_pos (by rw [List.length_map, List.length_range]; omega), w64 (by omega) (by omega), w64 (by omega) (by omega)]
    have := ih (i + 1) k (by omega)
    rw [List.range_succ, List.map_append, List.map_singleton] at this
    rw [show ((at_ : Int) + (i : Int)) = ((at_ + i : Nat) : Int) by omega, show ((i : Int) + 1) = ((i + 1 : Nat) : Int) by omega]
    exact this
theorem places_eq (k : Nat) (hk : 20 ≤ k) (at_ w : Nat) (hw : w ≤ 10) (ha : at_ ≤ 1000000000000000000) : header_places.f k (at_ : Int) (w : Int) = some ((List.range w).map fun j => ((at_ + j : Nat) : Int)) := by
  have := places_run at_ w hw ha w 0 (k - w - 1) (by omega)
  rw [show k - w - 1 + w + 1 = k by omega] at this
  exact this
theorem bytesOf_app (a b : ByteArray) : bytesOf (a ++ b) = bytesOf a ++ bytesOf b := by
  unfold bytesOf
  rw [ByteArray.data_append, Array.toList_append, List.map_append]
theorem bytesOf_b (s : ByteArray) : ∀ x ∈ bytesOf s, 0 ≤ x ∧ x < 256 := by
  intro x hx
  unfold bytesOf at hx
  obtain ⟨b, _, rfl⟩ := List.mem_map.1 hx
  have := b.toNat_lt
  exact ⟨by omega, by omega⟩
theorem nums_bytes (xs : List Int) (h : ∀ x ∈ xs, 0 ≤ x ∧ x < 256) : bytesOf (strOfNums xs) = xs := by
  unfold bytesOf
  have e : (strOfNums xs).data.toList = xs.map fun n => UInt8.ofNat n.toNat := by rw [← Go.Lib.toList_data, numsL]
  rw [e, List.map_map]
  refine (List.map_congr_left (fun n hn => ?_)).trans (List.map_id _)
  exact u8n (h n hn).1 (h n hn).2
/-- Bytes: a first one, what is ahead of the number, the number, what is behind; a mask laid on. -/
def hb4 (f : Int) (body N t : ByteArray) : ByteArray := strOfNums [f] ++ body ++ N ++ t
theorem hb4_size (f : Int) (body N t : ByteArray) : (hb4 f body N t).size = 1 + body.size + N.size + t.size := by
  unfold hb4
  rw [ByteArray.size_append, ByteArray.size_append, ByteArray.size_append, nums_size]
  rfl
def xorB (mask N : ByteArray) : ByteArray := strOfNums (xorN mask 0 (bytesOf N))
theorem xorB_size (mask N : ByteArray) : (xorB mask N).size = N.size := by unfold xorB; rw [nums_size, xorN_length, bytesOf_length]
theorem xorB_back (mask N : ByteArray) : xorB mask (xorB mask N) = N := by
  unfold xorB
  rw [nums_bytes _ (xorN_b mask _ _ (bytesOf_b N)), xorN_back mask _ _ (bytesOf_b N), bytesOf_nums]
theorem bt_hb4 (f : Int) (f0 : 0 ≤ f) (f1 : f < 256) (body N t : ByteArray) : bt (hb4 f body N t) 0 = f := by
  unfold hb4
  rw [app_assoc, app_assoc]
  have := bt_left (strOfNums [f]) (body ++ (N ++ t)) 0 (by rw [nums_size]; simp)
  rw [show ((0 : Nat) : Int) = 0 from rfl] at this
  rw [this, bt_one f f0 f1]
theorem lay_hb4 (f : Int) (f0 : 0 ≤ f) (f1 : f < 256) (body N t mask : ByteArray) (low : Int) (hm : mask.size = 5) (hN : N.size ≤ 4) (hz : (hb4 f body N t).size ≤ 9223372036854775807) :
    header_lay.f (hb4 f body N t) mask low ((List.range N.size).map fun j => ((1 + body.size + j : Nat) : Int)) = some (hb4 (Go.bits .xor .u8 f (Go.bits .and .u8 (bt mask 0) low)) body (xorB mask N) t) := by
  have hs := hb4_size f body N t
  unfold header_lay.f
  rw [if_pos ⟨by omega, hz, by omega, by omega, by rw [List.length_map, List.length_range]; omega⟩]
  have hb : bytesOf (hb4 f body N t) = f :: bytesOf body ++ bytesOf N ++ bytesOf t := by
    unfold hb4
    rw [bytesOf_app, bytesOf_app, bytesOf_app, nums_bytes [f] (by intro x hx; simp at hx; omega)]
    rfl
  generalize hx : Go.bits .xor .u8 f (Go.bits .and .u8 (bt mask 0) low) = X
  have h0 : (f :: bytesOf body ++ bytesOf N ++ bytesOf t).getD 0 0 = f := rfl
  have h1 (v : Int) : (f :: bytesOf body ++ bytesOf N ++ bytesOf t).set 0 v = (v :: bytesOf body) ++ bytesOf N ++ bytesOf t := rfl
  rw [hb, h0, hx, h1]
  have := lay_run mask (bytesOf N) (X :: bytesOf body) (bytesOf t) 0 (by rw [bytesOf_length]; omega)
  rw [bytesOf_length, List.length_cons, bytesOf_length] at this
  rw [show (fun j => ((1 + body.size + j : Nat) : Int)) = fun j => ((body.size + 1 + j : Nat) : Int) from funext fun j => by omega, this, Option.bind_some]
  congr 1
  unfold hb4 xorB
  rw [show X :: bytesOf body = [X] ++ bytesOf body from rfl, nums_app, nums_app, nums_app, bytesOf_nums, bytesOf_nums]
/-! ### what the functions say of what was put -/
section
variable {long spin phase : Bool} {ty ver : Int} {dcid scid token : ByteArray} {len wide num f : Int} {body N : ByteArray}
theorem Hd.wide_b (h : Hd long spin phase ty ver dcid scid token len wide num f body N) : 1 ≤ wide ∧ wide ≤ 4 := by
  have := h.wd
  omega
theorem Hd.nsize (h : Hd long spin phase ty ver dcid scid token len wide num f body N) : (N.size : Int) = wide := by
  have := h.size
  have := h.wide_b
  omega
theorem Hd.psO (h : Hd long spin phase ty ver dcid scid token len wide num f body N) (f' : Int) (a : 0 ≤ f') (b : f' < 256) (c : if long = true then f' / 16 = f / 16 else f' / 32 = f / 32) (M t : ByteArray) :
    Pure.psO (hb4 f' body M t) = some (⟨long, spin, ty, ver, dcid, scid, token, len, ⟨#[]⟩, f'⟩, M ++ t) := by
  unfold hb4
  rw [app_assoc]
  exact (h.exact f' a b c).full (M ++ t)
theorem same_f (long : Bool) (f : Int) : if long = true then f / 16 = f / 16 else f / 32 = f / 32 := by split <;> rfl
theorem Hd.tk (h : Hd long spin phase ty ver dcid scid token len wide num f body N) (t : ByteArray) : tkO (1 + f % 4).toNat (N ++ t) = some (N, t) := by
  have hw := h.wd
  have hs := h.nsize
  exact (exact_tk N (by omega)).full t
theorem Hd.get (h : Hd long spin phase ty ver dcid scid token len wide num f body N) {k : Nat} (hk : 10 ≤ k) (t : ByteArray) (hz : (hb4 f body N t).size ≤ 9223372036854775807) :
    header_Get.f k (hb4 f body N t) = some (long, spin, phase, ty, ver, dcid, scid, token, len, wide, num, t, 0) := by
  rw [get_yes hk hz (h.psO f h.f0 h.f1 (same_f long f) N t) (h.tk t) h.res, h.val, ← h.ph]
  have := h.wd
  rw [show 1 + f % 4 = wide by omega]
theorem Hd.place (h : Hd long spin phase ty ver dcid scid token len wide num f body N) {k : Nat} (hk : 10 ≤ k) (f' : Int) (a : 0 ≤ f') (b : f' < 256) (c : if long = true then f' / 16 = f / 16 else f' / 32 = f / 32) (M t : ByteArray) (hz : (hb4 f' body M t).size ≤ 9223372036854775807) :
    header_Place.f k (hb4 f' body M t) = some (((1 + body.size : Nat) : Int), 0) := by
  rw [place_some hk hz (h.psO f' a b c M t), hb4_size, ByteArray.size_append]
  congr 2
  omega
def lowF (long : Bool) : Int := if long = true then 15 else 31
theorem low_eq (long : Bool) (f : Int) (f0 : 0 ≤ f) (f1 : f < 256) (hb : long = decide (f ≥ 128)) : header_low.f f = some (lowF long) := by
  unfold header_low.f lowF
  rw [(fb f f0 f1).2.1]
  by_cases c : f ≥ 128
  · rw [hb, decide_eq_true c, if_neg (by omega), if_pos rfl]
  · rw [hb, decide_eq_false c, if_pos (by omega), if_neg (by decide)]
def mf (mask : ByteArray) (long : Bool) (f : Int) : Int := Go.bits .xor .u8 f (Go.bits .and .u8 (bt mask 0) (lowF long))
theorem mf_spec (mask : ByteArray) (long : Bool) (f : Int) (f0 : 0 ≤ f) (f1 : f < 256) (hb : long = decide (f ≥ 128)) :
    0 ≤ mf mask long f ∧ mf mask long f < 256 ∧ mf mask long (mf mask long f) = f ∧ (if long = true then mf mask long f / 16 = f / 16 else mf mask long f / 32 = f / 32) ∧ long = decide (mf mask long f ≥ 128) := by
  obtain ⟨b0, b1⟩ := bt_b mask 0
  unfold mf lowF
  cases long with
  | true =>
    rw [if_pos rfl, (fb _ b0 b1).2.2.2.2.2.2.2.2.2, if_pos rfl]
    obtain ⟨x0, x1, x2⟩ := xor_b f (bt mask 0 % 16) f0 f1 (by omega) (by omega)
    obtain ⟨y0, y1⟩ := xor_low f (bt mask 0 % 16) f0 f1 (by omega) (by omega)
    have y2 := y1 (by omega)
    have hf : f ≥ 128 := of_decide_eq_true hb.symm
    exact ⟨x0, x1, x2, y2, by symm; rw [decide_eq_true_iff]; omega⟩
  | false =>
    rw [if_neg (by decide), (fb _ b0 b1).2.2.2.2.2.2.2.2.1, if_neg (by decide)]
    obtain ⟨x0, x1, x2⟩ := xor_b f (bt mask 0 % 32) f0 f1 (by omega) (by omega)
    obtain ⟨y0, y1⟩ := xor_low f (bt mask 0 % 32) f0 f1 (by omega) (by omega)
    have hf : ¬ f ≥ 128 := of_decide_eq_false hb.symm
    exact ⟨x0, x1, x2, y0, by symm; rw [decide_eq_false_iff_not]; omega⟩
theorem Hd.mask (h : Hd long spin phase ty ver dcid scid token len wide num f body N) {k : Nat} (hk : 30 ≤ k) (t mask : ByteArray) (hm : mask.size = 5) (hz : (hb4 f body N t).size ≤ 1000000000000000) :
    header_Mask.f k (hb4 f body N t) mask = some (hb4 (mf mask long f) body (xorB mask N) t, 0) := by
  have hs := hb4_size f body N t
  have hn := h.nsize
  have hw := h.wide_b
  have hbs := h.bs
  unfold header_Mask.f
  rw [if_pos (by omega), h.get (by omega) t (by omega), Option.bind_some]
  dsimp only
  rw [if_pos rfl, if_pos (by omega), bt_hb4 f h.f0 h.f1, low_eq long f h.f0 h.f1 h.big, Option.bind_some]
  have e : wrap64 (wrap64 (((hb4 f body N t).size : Int) - (t.size : Int)) - wide) = ((1 + body.size : Nat) : Int) := by
    rw [w64 (n := ((hb4 f body N t).size : Int) - (t.size : Int)) (by omega) (by omega), w64 (by omega) (by omega)]
    omega
  rw [e, ← hn, places_eq k (by omega) _ _ (by omega) (by omega), Option.bind_some, lay_hb4 f h.f0 h.f1 body N t mask _ hm (by omega) (by omega)]
  rfl
theorem Hd.unmask (h : Hd long spin phase ty ver dcid scid token len wide num f body N) {k : Nat} (hk : 30 ≤ k) (t mask : ByteArray) (hm : mask.size = 5) (hz : (hb4 f body N t).size ≤ 1000000000000000) :
    header_Unmask.f k (hb4 (mf mask long f) body (xorB mask N) t) mask = some (hb4 f body N t, 0) := by
  have hs := hb4_size f body N t
  have hs2 := hb4_size (mf mask long f) body (xorB mask N) t
  rw [xorB_size] at hs2
  have hn := h.nsize
  have hw := h.wide_b
  have hwd := h.wd
  have hf0 := h.f0
  have hf1 := h.f1
  obtain ⟨g0, g1, g2, g3, g4⟩ := mf_spec mask long f hf0 hf1 h.big
  unfold header_Unmask.f
  rw [if_pos (by omega), h.place (by omega) _ g0 g1 g3 _ _ (by omega), Option.bind_some]
  dsimp only
  rw [if_pos rfl, if_pos (by omega), if_pos (by omega), bt_hb4 _ g0 g1, low_eq long _ g0 g1 g4, Option.bind_some]
  have e0 : Go.bits .xor .u8 (mf mask long f) (Go.bits .and .u8 (bt mask 0) (lowF long)) = f := g2
  rw [e0, (fb f hf0 hf1).2.2.2.2.1]
  have e1 : wrap64 (1 + wrap64 (f % 4)) = wide := by
    rw [w64 (n := f % 4) (by omega) (by omega), w64 (by omega) (by omega)]
    omega
  rw [e1]
  have hbs := h.bs
  rw [if_neg (by rw [w64 (by omega) (by omega)]; omega), ← hn, places_eq k (by omega) _ _ (by omega) (by omega), Option.bind_some]
  have hl := lay_hb4 (mf mask long f) g0 g1 body (xorB mask N) t mask (lowF long) hm (by rw [xorB_size]; omega) (by omega)
  rw [xorB_size, xorB_back, e0] at hl
  rw [hl, Option.bind_some, h.get (by omega) t (by omega), Option.bind_some]
  rfl
end
/-! ### the anchor -/
theorem may_shown : MayP false false false 0 0 (⟨#[1, 1, 1, 1, 1, 1, 1, 1]⟩ : ByteArray) (⟨#[]⟩ : ByteArray) (⟨#[]⟩ : ByteArray) 0 2 258 :=
  ⟨Or.inr (Or.inl rfl), by decide, Or.inr ⟨rfl, rfl, rfl, emptyL, emptyL, rfl, rfl⟩⟩
theorem fix_shown : varint_Fixed.f 258 2 = some (strOfNums [1, 2]) := by
  unfold varint_Fixed.f
  rw [fixL_eq 258 (by decide) (by decide)]
  rfl
theorem put_shown (k : Nat) (hk : 30 ≤ k) : header_Put.f k false false false 0 0 (⟨#[1, 1, 1, 1, 1, 1, 1, 1]⟩ : ByteArray) (⟨#[]⟩ : ByteArray) (⟨#[]⟩ : ByteArray) 0 2 258 = some (strOfNums [65, 1, 1, 1, 1, 1, 1, 1, 1, 1, 2], 0) := by
  unfold header_Put.f
  rw [may_yes (by omega) (by decide) may_shown, Option.bind_some, if_pos rfl, fix_shown, Option.bind_some, if_neg (by decide), flag_eq, Option.bind_some, flag_eq, Option.bind_some, f_short 2 (by simp), joined_eq k (by omega) _ _ (by simp) (by
    intro s hs
    simp only [List.mem_cons, List.not_mem_nil, or_false] at hs
    rcases hs with rfl | rfl
    · decide
    · rw [nums_size]; decide), Option.bind_some]
  congr 2
theorem shown_all (k : Nat) (hk : 30 ≤ k) : dominolaw04_shown.f k = some true := by
  obtain ⟨f, body, N, hp, hd⟩ := put_ok hk may_shown (by decide) (by decide) (by decide) (by decide) (by decide)
  have hp2 := put_shown k hk
  rw [hp2] at hp
  simp only [Option.some.injEq, Prod.mk.injEq, and_true] at hp
  have hm (t : ByteArray) : strOfNums [65, 1, 1, 1, 1, 1, 1, 1, 1, 1, 2] ++ t = hb4 f body N t := by unfold hb4; rw [hp]
  have h65 : f = 65 := by
    have h1 := bt_hb4 f hd.f0 hd.f1 body N ⟨#[]⟩
    rw [← hm, nil_app] at h1
    have h2 := val_nums [65, 1, 1, 1, 1, 1, 1, 1, 1, 1, 2] (by intro x hx; simp only [List.mem_cons, List.not_mem_nil, or_false] at hx; omega) 0 (by simp)
    rw [show ((0 : Nat) : Int) = 0 from rfl] at h2
    rw [h2] at h1
    exact h1.symm
  have hz : (hb4 f body N ⟨#[120]⟩).size ≤ 1000000000000000 := by
    rw [← hm, ByteArray.size_append, nums_size]
    decide
  have hm5 : (⟨#[255, 1, 2, 3, 4]⟩ : ByteArray).size = 5 := rfl
  obtain ⟨g0, g1, g2, g3, g4⟩ := mf_spec ⟨#[255, 1, 2, 3, 4]⟩ false f hd.f0 hd.f1 hd.big
  unfold dominolaw04_shown.f
  rw [hp2, Option.bind_some]
  dsimp only
  rw [if_pos (by rw [nums_size]; decide), hm, hd.get (by omega) _ (by omega), Option.bind_some, hd.mask hk _ _ hm5 hz, Option.bind_some]
  dsimp only
  rw [hd.unmask hk _ _ hm5 hz, Option.bind_some]
  dsimp only
  rw [if_pos rfl, if_pos rfl, if_pos rfl, if_pos rfl, if_pos (by rw [numsL] <;> rfl), if_pos (by rw [Go.Lib.toList_data, Go.Lib.toList_data] <;> rfl), if_pos (by rw [Go.Lib.toList_data] <;> rfl), if_pos rfl]
  congr 1
  rw [bne_iff_ne]
  intro e
  have e2 := ba_ext e
  have h1 := bt_hb4 f hd.f0 hd.f1 body N ⟨#[120]⟩
  rw [← e2, bt_hb4 _ g0 g1] at h1
  rw [h65] at h1
  have h2 : mf (⟨#[255, 1, 2, 3, 4]⟩ : ByteArray) false 65 = 94 := by decide +kernel
  rw [h2] at h1
  exact absurd h1 (by decide)
theorem u32b {n : Int} (h : (Lit.int .u32 n).wf = true) : 0 ≤ n ∧ n < 4294967296 := by
  simp [Lit.wf, IntKind.min, IntKind.max, IntKind.signed, IntKind.bits] at h
  omega
/-- Whatever is put: nothing with an error, or what a header that may be is put to. -/
theorem put_or {k : Nat} (hk : 30 ≤ k) (long spin phase : Bool) (ty ver : Int) (dcid scid token : ByteArray) (len wide num : Int) (n0 : 0 ≤ num) (v0 : 0 ≤ ver) (v1 : ver < 4294967296) (l0 : 0 ≤ len) :
    header_Put.f k long spin phase ty ver dcid scid token len wide num = some ((⟨#[]⟩ : ByteArray), 1) ∨
    ∃ f body N, header_Put.f k long spin phase ty ver dcid scid token len wide num = some (hb4 f body N ⟨#[]⟩, 0) ∧ Hd long spin phase ty ver dcid scid token len wide num f body N := by
  rcases may_or k (by omega) long spin phase ty ver dcid scid token len wide num n0 with ⟨hm, _⟩ | hb
  · right
    have hz : token.size ≤ 1000000 := by
      obtain ⟨_, _, h⟩ := hm
      rcases h with ⟨_, _, _, _, _, _, _, h, _⟩ | ⟨_, _, _, _, h, _⟩
      · omega
      · rw [empty_of h]; decide
    obtain ⟨f, body, N, h1, h2⟩ := put_ok hk hm n0 v0 v1 l0 hz
    refine ⟨f, body, N, ?_, h2⟩
    rw [h1]
    unfold hb4
    rw [nil_app]
  · exact Or.inl (put_bad hb)
theorem bounded_or (long spin phase : Bool) (ty ver : Int) (dcid scid token : ByteArray) (len wide num : Int) :
    (dominolaw04_bounded.f long spin phase ty ver dcid scid token len wide num = some true ∧ dcid.size ≤ 100 ∧ scid.size ≤ 100 ∧ token.size ≤ 1100) ∨ dominolaw04_bounded.f long spin phase ty ver dcid scid token len wide num = some false := by
  unfold dominolaw04_bounded.f
  by_cases c1 : (dcid.size : Int) ≤ 100
  · rw [if_pos c1]
    by_cases c2 : (scid.size : Int) ≤ 100
    · rw [if_pos c2]
      by_cases c3 : (token.size : Int) ≤ 1100
      · exact Or.inl ⟨by rw [decide_eq_true c3], by omega, by omega, by omega⟩
      · exact Or.inr (by rw [decide_eq_false c3])
    · exact Or.inr (if_neg c2)
  · exact Or.inr (if_neg c1)
theorem tdn {a b : Int} (h : 0 ≤ a) : Int.tdiv a b = a / b := Int.tdiv_eq_ediv_of_nonneg h
theorem rpow : ∀ i : Nat, i < 64 → dominoref01_power.f 70 (i : Int) = some (2 ^ i) := by
  have h : ∀ i : Fin 64, dominoref01_power.f 70 (i.val : Int) = some (2 ^ i.val) := by decide +kernel
  exact fun i hi => h ⟨i, hi⟩
theorem rpow_at (i : Nat) (h : i < 64) (k : Nat) (hk : 70 ≤ k) : dominoref01_power.f k (i : Int) = some (2 ^ i) :=
  at_rounds (dominoref01_power.mono _) hk (rpow i h)
theorem back_run (s : ByteArray) (w : Nat) (hw : w ≤ 8) (hs : s.size = w) : ∀ (m i k : Nat) (acc : Int), i + m = w → 0 ≤ acc → acc < 256 ^ i →
    dominoref01_Back.l0 (k + m + 1) s acc (i : Int) = some (valF s m i acc) := by
  intro m
  induction m with
  | zero =>
    intro i k acc h _ _
    unfold dominoref01_Back.l0
    rw [if_neg (by omega)]
    rfl
  | succ m ih =>
    intro i k acc h h0 h1
    have hp : acc < 72057594037927936 := by
      have hh : i = 0 ∨ i = 1 ∨ i = 2 ∨ i = 3 ∨ i = 4 ∨ i = 5 ∨ i = 6 ∨ i = 7 := by omega
      rcases hh with rfl | rfl | rfl | rfl | rfl | rfl | rfl | rfl <;> (simp only [Int.reducePow] at h1; omega)
    obtain ⟨b0, b1⟩ := bt_b s (i : Int)
    unfold dominoref01_Back.l0
    rw [if_pos (by omega), if_pos (by omega), w64 (by omega) (by omega), wUi (n := acc * 256) (by omega) (by omega), wUi (n := bt s (i : Int)) (by omega) (by omega), wUi (by omega) (by omega)]
    refine ih (i + 1) k _ (by omega) (by omega) ?_
    rw [Int.pow_succ]
    omega
theorem valF_take (s : ByteArray) (c : Nat) : ∀ (m i : Nat) (acc : Int), i + m ≤ c → valF (s.extract 0 c) m i acc = valF s m i acc := by
  intro m
  induction m with
  | zero => intro i acc _; rfl
  | succ m ih =>
    intro i acc h
    simp only [valF]
    rw [bt_take s c i (by omega), ih (i + 1) _ (by omega)]
theorem ref_wid (b : Int) (h0 : 0 ≤ b) (h1 : b < 256) (k : Nat) (hk : 70 ≤ k) : dominoref01_power.f k (Int.tdiv b 64 % 256) = some (wid b : Int) := by
  rw [tdn h0]
  have h : b / 64 = 0 ∨ b / 64 = 1 ∨ b / 64 = 2 ∨ b / 64 = 3 := by omega
  unfold wid
  rcases h with h | h | h | h <;> rw [h]
  · rw [if_pos (by omega)]; exact rpow_at 0 (by decide) k hk
  · rw [if_neg (by omega), if_pos (by omega)]; exact rpow_at 1 (by decide) k hk
  · rw [if_neg (by omega), if_neg (by omega), if_pos (by omega)]; exact rpow_at 2 (by decide) k hk
  · rw [if_neg (by omega), if_neg (by omega), if_neg (by omega)]; exact rpow_at 3 (by decide) k hk
theorem rget_short (s : ByteArray) (k : Nat) (hk : 70 ≤ k) (h : s.size < wid (bt s 0)) : dominoref01_Get.f k s = some (0, (⟨#[]⟩ : ByteArray), 10) := by
  obtain ⟨b0, b1⟩ := bt_b s 0
  obtain ⟨w1, w8⟩ := wid_b (bt s 0)
  unfold dominoref01_Get.f
  by_cases hz : s.size = 0
  · rw [if_pos ((empty_iff s).2 hz)]
  · rw [if_neg (fun h => hz ((empty_iff s).1 h)), if_pos (by omega), ref_wid _ b0 b1 k hk, Option.bind_some, w64 (by omega) (by omega), if_pos (by omega)]
theorem ref_val (s : ByteArray) (w : Nat) (hw : wid (bt s 0) = w) : Int.tmod (valF s w 0 0) (2 ^ (8 * w - 2)) = valF s (w - 1) 1 (bt s 0 % 64) := by
  have b := fun i : Nat => bt_b s (i : Int)
  have b0 := b 0
  have b1 := b 1
  have b2 := b 2
  have b3 := b 3
  have b4 := b 4
  have b5 := b 5
  have b6 := b 6
  have b7 := b 7
  clear b
  rw [show ((0 : Nat) : Int) = 0 from rfl] at b0
  unfold wid at hw
  by_cases c1 : bt s 0 < 64
  · rw [if_pos c1] at hw
    subst hw
    simp only [valF, Nat.reduceSub, Nat.reduceMul, Int.reducePow, Int.zero_mul, Int.zero_add, show ((0 : Nat) : Int) = 0 from rfl]
    rw [Int.tmod_eq_emod_of_nonneg (by omega)]
  by_cases c2 : bt s 0 < 128
  · rw [if_neg c1, if_pos c2] at hw
    subst hw
    simp only [valF, Nat.reduceSub, Nat.reduceMul, Nat.reduceAdd, Int.reducePow, Int.zero_mul, Int.zero_add, show ((0 : Nat) : Int) = 0 from rfl]
    rw [Int.tmod_eq_emod_of_nonneg (by omega)]
    omega
  by_cases c4 : bt s 0 < 192
  · rw [if_neg c1, if_neg c2, if_pos c4] at hw
    subst hw
    simp only [valF, Nat.reduceSub, Nat.reduceMul, Nat.reduceAdd, Int.reducePow, Int.zero_mul, Int.zero_add, show ((0 : Nat) : Int) = 0 from rfl]
    rw [Int.tmod_eq_emod_of_nonneg (by omega)]
    omega
  · rw [if_neg c1, if_neg c2, if_neg c4] at hw
    subst hw
    simp only [valF, Nat.reduceSub, Nat.reduceMul, Nat.reduceAdd, Int.reducePow, Int.zero_mul, Int.zero_add, show ((0 : Nat) : Int) = 0 from rfl]
    rw [Int.tmod_eq_emod_of_nonneg (by omega)]
    omega
theorem rget_eq (s : ByteArray) (k : Nat) (hk : 80 ≤ k) (h : wid (bt s 0) ≤ s.size) : dominoref01_Get.f k s = some (valF s (wid (bt s 0) - 1) 1 (bt s 0 % 64), s.extract (wid (bt s 0)) s.size, 0) := by
  obtain ⟨b0, b1⟩ := bt_b s 0
  obtain ⟨w1, w8⟩ := wid_b (bt s 0)
  obtain ⟨j, rfl⟩ := Nat.le.dest hk
  have hv := ref_val s (wid (bt s 0)) rfl
  have hb : dominoref01_Back.f (80 + j) (s.extract 0 (wid (bt s 0))) = some (valF s (wid (bt s 0)) 0 0) := by
    have := back_run (s.extract 0 (wid (bt s 0))) (wid (bt s 0)) w8 (take_size s _ h) (wid (bt s 0)) 0 (79 + j - wid (bt s 0)) 0 (by omega) (by decide) (by decide)
    rw [show 79 + j - wid (bt s 0) + wid (bt s 0) + 1 = 80 + j by omega, valF_take s _ _ _ _ (by omega)] at this
    exact this
  have hp : dominoref01_power.f (80 + j) (wrap64 (wrap64 (8 * (wid (bt s 0) : Int)) - 2)) = some (2 ^ (8 * wid (bt s 0) - 2)) := by
    rw [w64 (n := 8 * (wid (bt s 0) : Int)) (by omega) (by omega), w64 (by omega) (by omega)]
    have := rpow_at (8 * wid (bt s 0) - 2) (by omega) (80 + j) (by omega)
    rw [show ((8 * wid (bt s 0) - 2 : Nat) : Int) = 8 * (wid (bt s 0) : Int) - 2 by omega] at this
    exact this
  have hne : ¬ ((2 : Int) ^ (8 * wid (bt s 0) - 2)) = 0 := by
    have : (0 : Int) < 2 ^ (8 * wid (bt s 0) - 2) := Int.pow_pos (by decide)
    omega
  unfold dominoref01_Get.f
  rw [if_neg (fun h => by have := (empty_iff s).1 h; omega), if_pos (by omega), ref_wid _ b0 b1 _ (by omega), Option.bind_some, w64 (n := (wid (bt s 0) : Int)) (by omega) (by omega), if_neg (by omega), if_pos (by omega), if_pos (by omega), Int.toNat_natCast, hb, Option.bind_some, hp, Option.bind_some, if_neg hne, hv]
/-! ### the document's parser is the same -/
theorem rback (p : ByteArray) (hz : p.size ≤ 8) (k : Nat) (hk : 20 ≤ k) : dominoref01_Back.f k p = some (bkF p p.size 0 0) := by
  unfold dominoref01_Back.f
  rw [bkF_val p p.size 0 0 0 (by omega) (by omega) (by decide)]
  have := back_run p p.size hz rfl p.size 0 (k - p.size - 1) 0 (by omega) (by omega) (by decide)
  rw [show k - p.size - 1 + p.size + 1 = k by omega] at this
  exact this
theorem rget_s {k : Nat} (hk : 80 ≤ k) {s r : ByteArray} {n : Int} (h : getO s = some (n, r)) : dominoref01_Get.f k s = some (n, r, 0) := by
  unfold getO at h
  by_cases c : wid (bt s 0) ≤ s.size
  · rw [if_pos c] at h
    rw [rget_eq s k hk c]
    simp only [Option.some.injEq, Prod.mk.injEq] at h
    obtain ⟨rfl, rfl⟩ := h
    rfl
  · rw [if_neg c] at h
    simp at h
theorem rget_n {k : Nat} (hk : 80 ≤ k) {s : ByteArray} (h : getO s = none) : dominoref01_Get.f k s = some (0, (⟨#[]⟩ : ByteArray), 10) := by
  unfold getO at h
  by_cases c : wid (bt s 0) ≤ s.size
  · rw [if_pos c] at h
    simp at h
  · exact rget_short s k (by omega) (by omega)
theorem ext_a (s : ByteArray) (a b : Nat) (h : a + b ≤ s.size) : (s.extract a s.size).extract 0 b = s.extract a (a + b) := by
  apply ba_ext
  rw [extL, extL, extL, List.drop_zero, Nat.sub_zero, List.take_take, show min b (s.size - a) = b by omega, show a + b - a = b by omega]
theorem ext_sz (s : ByteArray) (a : Nat) (h : a ≤ s.size) : (s.extract a s.size).size = s.size - a := by
  rw [sizeL, extL, List.length_take, List.length_drop, ← sizeL]
  omega
theorem ext_b (s : ByteArray) (a b : Nat) (h : a + b ≤ s.size) : (s.extract a s.size).extract b (s.extract a s.size).size = s.extract (a + b) s.size := by
  have hz := ext_sz s a (by omega)
  apply ba_ext
  rw [extL, extL, extL, hz, List.drop_take, List.drop_drop, List.take_take]
  congr 1
  omega
theorem idO_eq (s : ByteArray) : idO s = if 1 ≤ s.size ∧ bt s 0 ≤ 20 ∧ 1 + (bt s 0).toNat ≤ s.size then some (s.extract 1 (1 + (bt s 0).toNat), s.extract (1 + (bt s 0).toNat) s.size) else none := by
  unfold idO
  have hb : bt (s.extract 0 1) 0 = bt s 0 := bt_take s 1 0 (by decide)
  by_cases c1 : 1 ≤ s.size
  · have h1 : tkO 1 s = some (s.extract 0 1, s.extract 1 s.size) := if_pos c1
    have hz := ext_sz s 1 c1
    rw [bd_some h1, hb]
    unfold gd
    by_cases c2 : bt s 0 ≤ 20
    · rw [if_pos c2]
      unfold tkO
      by_cases c3 : 1 + (bt s 0).toNat ≤ s.size
      · rw [if_pos (by omega), if_pos ⟨c1, c2, c3⟩, ext_a s 1 _ c3, ext_b s 1 _ c3]
      · rw [if_neg (by omega), if_neg (fun h => c3 h.2.2)]
    · rw [if_neg c2, if_neg (fun h => c2 h.2.1)]
  · rw [bd_none (if_neg c1), if_neg (fun h => c1 h.1)]
theorem rid_eq (s : ByteArray) (hs : s.size ≤ 1000000000000000) : dominoref04_id.f s = some (match idO s with | none => ((⟨#[]⟩ : ByteArray), (⟨#[]⟩ : ByteArray), false) | some (p, r) => (p, r, true)) := by
  obtain ⟨b0, b1⟩ := bt_b s 0
  unfold dominoref04_id.f
  rw [idO_eq, w64 (n := bt s 0) (by omega) (by omega), w64 (by omega) (by omega)]
  by_cases c0 : s.size = 0
  · rw [if_pos ((empty_iff s).2 c0), if_neg (by omega)]
  rw [if_neg (fun h => c0 ((empty_iff s).1 h)), if_pos (by omega)]
  by_cases c2 : bt s 0 ≤ 20
  · rw [if_neg (by omega)]
    by_cases c3 : 1 + (bt s 0).toNat ≤ s.size
    · rw [if_neg (by omega), if_pos (by omega), if_pos (by omega), if_pos (by omega), if_pos ⟨by omega, c2, c3⟩, show (1 + bt s 0).toNat = 1 + (bt s 0).toNat by omega]
    · rw [if_pos (by omega), if_neg (fun h => c3 h.2.2)]
  · rw [if_pos (by omega), if_neg (fun h => c2 h.2.1)]
theorem rid_s {s p r : ByteArray} (hs : s.size ≤ 1000000000000000) (h : idO s = some (p, r)) : dominoref04_id.f s = some (p, r, true) := by rw [rid_eq s hs, h]
theorem rid_n {s : ByteArray} (hs : s.size ≤ 1000000000000000) (h : idO s = none) : dominoref04_id.f s = some ((⟨#[]⟩ : ByteArray), (⟨#[]⟩ : ByteArray), false) := by rw [rid_eq s hs, h]
def rA : Option (Ps × ByteArray) → Bool × Bool × Bool × Int × Int × ByteArray × ByteArray × ByteArray × Int × Int × Int × ByteArray × Bool
  | none => ahZ
  | some (q, r) => (q.long, q.spin, false, q.ty, q.ver, q.dcid, q.scid, q.token, q.len, 0, 0, r, true)
theorem id_size {a x y : ByteArray} (h : idO a = some (x, y)) : y.size ≤ a.size := by
  rw [idO_eq] at h
  split at h
  · simp only [Option.some.injEq, Prod.mk.injEq] at h
    obtain ⟨rfl, rfl⟩ := h
    simp
  · simp at h
theorem get_size {a y : ByteArray} {n : Int} (h : getO a = some (n, y)) : y.size ≤ a.size := by
  unfold getO at h
  by_cases c : wid (bt a 0) ≤ a.size
  · rw [if_pos c] at h
    simp only [Option.some.injEq, Prod.mk.injEq] at h
    obtain ⟨rfl, rfl⟩ := h
    simp
  · rw [if_neg c] at h
    simp at h
def endR (f ty ver : Int) (d c t : ByteArray) : ByteArray → Option (Ps × ByteArray) := bd getO fun l => rt ⟨true, false, ty, ver, d, c, t, l, ⟨#[]⟩, f⟩
theorem end_r (k : Nat) (hk : 80 ≤ k) (f ty ver : Int) (d c t s : ByteArray) : ahEnd k ty ver d c t s = some (rA (endR f ty ver d c t s)) := by
  unfold ahEnd endR
  cases h : getO s with
  | none => rw [rget_n hk h, bd_none h]; rfl
  | some x =>
    obtain ⟨l, r⟩ := x
    rw [rget_s hk h, bd_some h]; rfl
theorem tok_r (k : Nat) (hk : 80 ≤ k) (f ver : Int) (d c s3 : ByteArray) (hs : s3.size ≤ 1000000000000000) : ahTok k ver d c s3 = some (rA (bd (tokO 0) (fun t => endR f 0 ver d c t) s3)) := by
  unfold ahTok
  have et : tokO 0 s3 = bd getO (fun n => gd (n ≤ 1000) (tkO n.toNat)) s3 := rfl
  cases h3 : getO s3 with
  | none =>
    rw [rget_n hk h3, Option.bind_some, bd_none (et.trans (bd_none h3))]
    dsimp only
    rw [if_pos ⟨by decide, by decide⟩, if_neg (fun h => absurd h.1 (by decide))]
    rfl
  | some x =>
    obtain ⟨n, s4⟩ := x
    have y3 := get_size h3
    obtain ⟨n0, n1⟩ := getO_nn h3
    rw [rget_s hk h3, Option.bind_some]
    dsimp only
    have e4 : tokO 0 s3 = gd (n ≤ 1000) (tkO n.toNat) s4 := et.trans (bd_some h3)
    rw [if_pos ⟨n0, by omega⟩]
    by_cases c1 : n ≤ 1000
    · have e5 : tokO 0 s3 = tkO n.toNat s4 := e4.trans (if_pos c1)
      by_cases c2 : n ≤ (s4.size : Int)
      · rw [if_pos ⟨rfl, c1, c2⟩, bd_some (e5.trans (if_pos (by omega)))]
        exact end_r k hk f 0 ver d c _ _
      · rw [if_neg (fun h => c2 h.2.2), bd_none (e5.trans (if_neg (by omega)))]
        rfl
    · rw [if_neg (fun h => c1 h.2.1), bd_none (e4.trans (if_neg c1))]
      rfl
theorem long_r (k : Nat) (hk : 100 ≤ k) (s : ByteArray) (h5 : 5 ≤ s.size) (hs : s.size ≤ 1000000000000000) (f ty : Int) : ahLong k s ty =
    some (rA ((bd idO fun d => bd idO fun c => bd (tokO ty) fun t => endR f ty (verO (s.extract 1 5)) d c t) (s.extract 5 s.size))) := by
  have z4 : (s.extract 1 5).size = 4 := by rw [sizeL, extL, List.length_take, List.length_drop, ← sizeL]; omega
  have zs := ext_sz s 5 h5
  unfold ahLong
  rw [rback _ (by omega) k (by omega), Option.bind_some, show bkF (s.extract 1 5) (s.extract 1 5).size 0 0 % 4294967296 = verO (s.extract 1 5) from rfl]
  generalize verO (s.extract 1 5) = ver
  generalize s.extract 5 s.size = s1 at zs ⊢
  cases h1 : idO s1 with
  | none => rw [rid_n (by omega) h1, bd_none h1, Option.bind_some]; exact if_neg (by decide)
  | some x =>
    obtain ⟨d, s2⟩ := x
    have y1 := id_size h1
    rw [rid_s (by omega) h1, bd_some h1, Option.bind_some]
    dsimp only
    rw [if_pos rfl]
    cases h2 : idO s2 with
    | none => rw [rid_n (by omega) h2, bd_none h2, Option.bind_some]; exact if_neg (by decide)
    | some x =>
      obtain ⟨c, s3⟩ := x
      have y2 := id_size h2
      rw [rid_s (by omega) h2, bd_some h2, Option.bind_some]
      dsimp only
      rw [if_pos rfl]
      by_cases ct : ty = 0
      · subst ct
        rw [if_pos rfl]
        exact tok_r k (by omega) f ver d c s3 (by omega)
      · rw [if_neg ct]
        have et : tokO ty s3 = some (⟨#[]⟩, s3) := if_neg ct
        rw [bd_some et]
        exact end_r k (by omega) f ty ver d c _ _
theorem bd_no {α β : Type} {p : ByteArray → Option (α × ByteArray)} {q : α → ByteArray → Option (β × ByteArray)} (h : ∀ v r, q v r = none) (s : ByteArray) : bd p q s = none := by
  cases e : p s with
  | none => exact bd_none e
  | some x => obtain ⟨v, r⟩ := x; rw [bd_some e]; exact h v r
theorem endO_no (f ver : Int) (d c t : ByteArray) (h : ¬ tyF f ≤ 2) (s : ByteArray) : endO f ver d c t s = none := bd_no (fun _ _ => if_neg h) s
theorem ahead_eq (k : Nat) (hk : 110 ≤ k) (s : ByteArray) (hs : s.size ≤ 1000000000000000) : dominoref04_ahead.f k s = some (rA (psO s)) := by
  unfold dominoref04_ahead.f psO
  by_cases c0 : s.size = 0
  · rw [if_pos c0, bd_none (if_neg (by omega))]
    rfl
  rw [if_neg c0, if_pos (by omega)]
  have h1 : tkO 1 s = some (s.extract 0 1, s.extract 1 s.size) := if_pos (by omega)
  have hz1 := ext_sz s 1 (by omega)
  have hb : bt (s.extract 0 1) 0 = bt s 0 := bt_take s 1 0 (by decide)
  obtain ⟨b0, b1⟩ := bt_b s 0
  rw [bd_some h1, hb]
  have hty : tyF (bt s 0) = bt s 0 / 16 % 4 := tyF_eq _ b0 b1
  unfold gd
  by_cases c1 : bt s 0 / 64 % 2 = 0
  · rw [if_pos c1, if_neg (by rw [(fb _ b0 b1).1, c1]; decide)]
    rfl
  rw [if_neg c1, if_pos (show Go.bits .and .u8 (bt s 0) 64 ≠ 0 by rw [(fb _ b0 b1).1]; omega)]
  dsimp only
  by_cases c2 : 128 ≤ bt s 0
  · rw [if_pos c2, if_neg (show ¬ Go.bits .and .u8 (bt s 0) 128 = 0 by rw [(fb _ b0 b1).2.1]; omega), longO_eq]
    by_cases c3 : s.size < 5
    · rw [if_pos (Or.inl c3), bd_none (if_neg (by omega))]
      rfl
    · have h4 : tkO 4 (s.extract 1 s.size) = some (s.extract 1 5, s.extract 5 s.size) := by
        unfold tkO
        rw [if_pos (by omega), ext_a s 1 4 (by omega), ext_b s 1 4 (by omega)]
      rw [bd_some h4]
      by_cases c4 : bt s 0 / 16 % 4 = 3
      · rw [if_pos (Or.inr c4)]
        have hn : bd idO (fun d => bd idO fun c => bd (tokO (tyF (bt s 0))) fun t => endO (bt s 0) (verO (s.extract 1 5)) d c t) (s.extract 5 s.size) = none := bd_no (fun d r => bd_no (fun c r => bd_no (fun t r => endO_no _ _ _ _ _ (by rw [hty]; omega) r) r) r) _
        rw [hn]
        rfl
      · rw [if_neg (fun h => h.elim c3 c4), ← hty, long_r k (by omega) s (by omega) hs (bt s 0)]
        have e : (fun d c t => endO (bt s 0) (verO (s.extract 1 5)) d c t) = fun d c t => endR (bt s 0) (tyF (bt s 0)) (verO (s.extract 1 5)) d c t := by
          funext d c t
          unfold endO endR
          have : (fun l => gd (tyF (bt s 0) ≤ 2) (rt (⟨true, false, tyF (bt s 0), verO (s.extract 1 5), d, c, t, l, ⟨#[]⟩, bt s 0⟩ : Ps))) = fun l => rt (⟨true, false, tyF (bt s 0), verO (s.extract 1 5), d, c, t, l, ⟨#[]⟩, bt s 0⟩ : Ps) := funext fun l => funext fun x => if_pos (by rw [hty]; omega)
          rw [this]
        have e2 : (fun d => bd idO fun c => bd (tokO (tyF (bt s 0))) fun t => endO (bt s 0) (verO (s.extract 1 5)) d c t) = fun d => bd idO fun c => bd (tokO (tyF (bt s 0))) fun t => endR (bt s 0) (tyF (bt s 0)) (verO (s.extract 1 5)) d c t := by
          funext d
          congr 1
          funext c
          congr 1
          funext t
          exact congrFun (congrFun (congrFun e d) c) t
        rw [e2]
  · rw [if_neg c2, if_pos (show Go.bits .and .u8 (bt s 0) 128 = 0 by rw [(fb _ b0 b1).2.1]; omega)]
    unfold shortO
    by_cases c3 : s.size < 9
    · rw [if_pos c3, bd_none (if_neg (by omega))]
      rfl
    · have h8 : tkO 8 (s.extract 1 s.size) = some (s.extract 1 9, s.extract 9 s.size) := by
        unfold tkO
        rw [if_pos (by omega), ext_a s 1 8 (by omega), ext_b s 1 8 (by omega)]
      have hsp : (bt s 0 / 32 % 2 == 1) = (Go.bits .and .u8 (bt s 0) 32 != 0) := by
        rw [(fb _ b0 b1).2.2.1]
        have : bt s 0 / 32 % 2 = 0 ∨ bt s 0 / 32 % 2 = 1 := by omega
        rcases this with e | e <;> rw [e] <;> rfl
      rw [if_neg c3, bd_some h8, hsp]
      rfl
/-! ### get, place, mask of the document -/
def GG (s : ByteArray) : Bool × Bool × Bool × Int × Int × ByteArray × ByteArray × ByteArray × Int × Int × Int × ByteArray × Int :=
  match psO s with
  | none => zG
  | some (q, r) => match tkO (1 + q.first % 4).toNat r with
    | none => zG
    | some (p, t) => if (if q.long = true then q.first / 4 % 4 = 0 else q.first / 8 % 4 = 0) then (q.long, q.spin, !q.long && (Go.bits .and .u8 q.first 4 != 0), q.ty, q.ver, q.dcid, q.scid, q.token, q.len, 1 + q.first % 4, bkF p p.size 0 0, t, 0) else zG
theorem imp_get {k : Nat} (hk : 10 ≤ k) {s : ByteArray} (hs : s.size ≤ 1000000000000000) : header_Get.f k s = some (GG s) := by
  unfold GG
  cases h : psO s with
  | none => exact get_none hk (by omega) h
  | some x =>
    obtain ⟨q, r⟩ := x
    dsimp only
    cases ht : tkO (1 + q.first % 4).toNat r with
    | none => exact get_few hk (by omega) h ht
    | some y =>
      obtain ⟨p, t⟩ := y
      dsimp only
      by_cases hb : (if q.long = true then q.first / 4 % 4 = 0 else q.first / 8 % 4 = 0)
      · rw [if_pos hb]; exact get_yes hk (by omega) h ht hb
      · rw [if_neg hb]; exact get_res hk (by omega) h ht hb
theorem ref_get {k : Nat} (hk : 120 ≤ k) {s : ByteArray} (hs : s.size ≤ 1000000000000000) : dominoref04_Get.f k s = some (GG s) := by
  unfold dominoref04_Get.f GG
  rw [ahead_eq k (by omega) s hs]
  cases h : psO s with
  | none => rw [show rA none = ahZ from rfl, Option.bind_some]; exact if_neg (by decide)
  | some x =>
    obtain ⟨q, r⟩ := x
    obtain ⟨hf, hr, _⟩ := psO_first h
    obtain ⟨b0, b1⟩ := bt_b s 0
    rw [show rA (some (q, r)) = (q.long, q.spin, false, q.ty, q.ver, q.dcid, q.scid, q.token, q.len, 0, 0, r, true) from rfl, Option.bind_some]
    dsimp only
    rw [if_pos rfl, if_pos (by omega), ← hf]
    rw [← hf] at b0 b1
    have hph : (q.first / 4 % 2 == 1) = (Go.bits .and .u8 q.first 4 != 0) := by
      rw [(fb _ b0 b1).2.2.2.2.2.2.2.1]
      have : q.first / 4 % 2 = 0 ∨ q.first / 4 % 2 = 1 := by omega
      rcases this with e | e <;> rw [e] <;> rfl
    unfold gEnd
    by_cases c : (1 + q.first % 4).toNat ≤ r.size
    · have ht : tkO (1 + q.first % 4).toNat r = some (r.extract 0 (1 + q.first % 4).toNat, r.extract (1 + q.first % 4).toNat r.size) := if_pos c
      have hz : (r.extract 0 (1 + q.first % 4).toNat).size = (1 + q.first % 4).toNat := take_size _ _ c
      rw [ht]
      dsimp only
      by_cases hb : (if q.long = true then q.first / 4 % 4 = 0 else q.first / 8 % 4 = 0)
      · have hB : (if q.long = true then q.first / 4 % 4 else q.first / 8 % 4) = 0 := by
          cases hl : q.long with
          | true => rw [hl] at hb; exact hb
          | false => rw [hl] at hb; exact hb
        rw [if_pos hb, if_neg (fun h => h.elim (by omega) (fun h => h hB)), rback _ (by omega) k (by omega), hph]
        rfl
      · have hB : ¬ (if q.long = true then q.first / 4 % 4 else q.first / 8 % 4) = 0 := by
          cases hl : q.long with
          | true => rw [hl] at hb; exact hb
          | false => rw [hl] at hb; exact hb
        rw [if_neg hb, if_pos (Or.inr hB)]
        rfl
    · have ht : tkO (1 + q.first % 4).toNat r = none := if_neg c
      rw [ht, if_pos (Or.inl (by omega))]
      rfl
def PP (s : ByteArray) : Int × Int :=
  match psO s with
  | none => (0, 40)
  | some (_, r) => ((s.size : Int) - (r.size : Int), 0)
theorem imp_place {k : Nat} (hk : 10 ≤ k) {s : ByteArray} (hs : s.size ≤ 1000000000000000) : header_Place.f k s = some (PP s) := by
  unfold PP
  cases h : psO s with
  | none => exact place_none hk (by omega) h
  | some x => obtain ⟨q, r⟩ := x; exact place_some hk (by omega) h
theorem ref_place {k : Nat} (hk : 120 ≤ k) {s : ByteArray} (hs : s.size ≤ 1000000000000000) : dominoref04_Place.f k s = some (PP s) := by
  unfold dominoref04_Place.f PP
  rw [ahead_eq k (by omega) s hs]
  cases h : psO s with
  | none => rw [show rA none = ahZ from rfl, Option.bind_some]; exact if_neg (by decide)
  | some x =>
    obtain ⟨q, r⟩ := x
    obtain ⟨hf, hr, _⟩ := psO_first h
    rw [show rA (some (q, r)) = (q.long, q.spin, false, q.ty, q.ver, q.dcid, q.scid, q.token, q.len, 0, 0, r, true) from rfl, Option.bind_some]
    dsimp only
    rw [if_pos rfl, w64 (by omega) (by omega)]
/-! ### what the document puts -/
theorem rpow_all (i : Nat) (h : i < 8) (k : Nat) (hk : 70 ≤ k) : dominoref01_power.f k (wrap64 (8 * (i : Int))) = some (2 ^ (8 * i)) := by
  rw [w64 (by omega) (by omega)]
  exact rpow_at (8 * i) (by omega) k hk
theorem rfix_step (k : Nat) (n : Int) (h0 : 0 ≤ n) (h1 : n < 18446744073709551616) (i : Nat) (hi : i < 8) (xs : List Int) (hx : xs.length < 100) (hk : 70 ≤ k) :
    dominoref01_Fixed.l0 (k + 1) n xs (i : Int) = dominoref01_Fixed.l0 k n (xs ++ [n / 2 ^ (8 * i) % 256]) ((i : Int) - 1) := by
  have hp : (0 : Int) < 2 ^ (8 * i) := Int.pow_pos (by decide)
  have g0 : 0 ≤ n / 2 ^ (8 * i) := Int.ediv_nonneg h0 (by omega)
  have g1 : n / 2 ^ (8 * i) ≤ n := Int.ediv_le_self _ h0
  have e : (Int.tmod (IntKind.u64.wrap (Int.tdiv n (2 ^ (8 * i)))) 256) % 256 = n / 2 ^ (8 * i) % 256 := by
    rw [tdn h0, wUi g0 (by omega), Int.tmod_eq_emod_of_nonneg g0]
    omega
  have w : wrap64 ((i : Int) - 1) = (i : Int) - 1 := by
    have : i = 0 ∨ i = 1 ∨ i = 2 ∨ i = 3 ∨ i = 4 ∨ i = 5 ∨ i = 6 ∨ i = 7 := by omega
    rcases this with rfl | rfl | rfl | rfl | rfl | rfl | rfl | rfl <;> decide +kernel
  conv => lhs; unfold dominoref01_Fixed.l0
  rw [if_pos (by omega), rpow_all i hi k hk, Option.bind_some, if_neg (by omega), if_pos (by omega), e, w]
theorem rfix1 (k : Nat) (n : Int) (h0 : 0 ≤ n) (h1 : n < 18446744073709551616) (hk : 70 ≤ k) : dominoref01_Fixed.f (k + 9) n 1 = some (strOfNums [n % 256]) := by
  unfold dominoref01_Fixed.f
  rw [show mx (mn 1 8) 0 - 1 = ((0 : Nat) : Int) by decide]
  rw [rfix_step (k + 8) n h0 h1 0 (by decide) _ (by simp) (by omega)]
  unfold dominoref01_Fixed.l0
  rw [if_neg (by decide)]
  simp
theorem rfix2 (k : Nat) (n : Int) (h0 : 0 ≤ n) (h1 : n < 18446744073709551616) (hk : 70 ≤ k) : dominoref01_Fixed.f (k + 9) n 2 = some (strOfNums [n / 256 % 256, n % 256]) := by
  unfold dominoref01_Fixed.f
  rw [show mx (mn 2 8) 0 - 1 = ((1 : Nat) : Int) by decide]
  rw [rfix_step (k + 8) n h0 h1 1 (by decide) _ (by simp) (by omega), show (((1 : Nat) : Int) - 1) = ((0 : Nat) : Int) by decide]
  rw [rfix_step (k + 7) n h0 h1 0 (by decide) _ (by simp) (by omega)]
  unfold dominoref01_Fixed.l0
  rw [if_neg (by decide)]
  simp
theorem rfix4 (k : Nat) (n : Int) (h0 : 0 ≤ n) (h1 : n < 18446744073709551616) (hk : 70 ≤ k) : dominoref01_Fixed.f (k + 9) n 4 = some (strOfNums [n / 16777216 % 256, n / 65536 % 256, n / 256 % 256, n % 256]) := by
  unfold dominoref01_Fixed.f
  rw [show mx (mn 4 8) 0 - 1 = ((3 : Nat) : Int) by decide]
  rw [rfix_step (k + 8) n h0 h1 3 (by decide) _ (by simp) (by omega), show (((3 : Nat) : Int) - 1) = ((2 : Nat) : Int) by decide]
  rw [rfix_step (k + 7) n h0 h1 2 (by decide) _ (by simp) (by omega), show (((2 : Nat) : Int) - 1) = ((1 : Nat) : Int) by decide]
  rw [rfix_step (k + 6) n h0 h1 1 (by decide) _ (by simp) (by omega), show (((1 : Nat) : Int) - 1) = ((0 : Nat) : Int) by decide]
  rw [rfix_step (k + 5) n h0 h1 0 (by decide) _ (by simp) (by omega)]
  unfold dominoref01_Fixed.l0
  rw [if_neg (by decide)]
  simp
theorem rfix8 (k : Nat) (n : Int) (h0 : 0 ≤ n) (h1 : n < 18446744073709551616) (hk : 70 ≤ k) : dominoref01_Fixed.f (k + 9) n 8 = some (strOfNums [n / 72057594037927936 % 256, n / 281474976710656 % 256, n / 1099511627776 % 256, n / 4294967296 % 256, n / 16777216 % 256, n / 65536 % 256, n / 256 % 256, n % 256]) := by
  unfold dominoref01_Fixed.f
  rw [show mx (mn 8 8) 0 - 1 = ((7 : Nat) : Int) by decide]
  rw [rfix_step (k + 8) n h0 h1 7 (by decide) _ (by decide) (by omega), show (((7 : Nat) : Int) - 1) = ((6 : Nat) : Int) by decide]
  rw [rfix_step (k + 7) n h0 h1 6 (by decide) _ (by simp) (by omega), show (((6 : Nat) : Int) - 1) = ((5 : Nat) : Int) by decide]
  rw [rfix_step (k + 6) n h0 h1 5 (by decide) _ (by simp) (by omega), show (((5 : Nat) : Int) - 1) = ((4 : Nat) : Int) by decide]
  rw [rfix_step (k + 5) n h0 h1 4 (by decide) _ (by simp) (by omega), show (((4 : Nat) : Int) - 1) = ((3 : Nat) : Int) by decide]
  rw [rfix_step (k + 4) n h0 h1 3 (by decide) _ (by simp) (by omega), show (((3 : Nat) : Int) - 1) = ((2 : Nat) : Int) by decide]
  rw [rfix_step (k + 3) n h0 h1 2 (by decide) _ (by simp) (by omega), show (((2 : Nat) : Int) - 1) = ((1 : Nat) : Int) by decide]
  rw [rfix_step (k + 2) n h0 h1 1 (by decide) _ (by simp) (by omega), show (((1 : Nat) : Int) - 1) = ((0 : Nat) : Int) by decide]
  rw [rfix_step (k + 1) n h0 h1 0 (by decide) _ (by simp) (by omega)]
  unfold dominoref01_Fixed.l0
  rw [if_neg (by decide)]
  simp
theorem p6 (k : Nat) (hk : 70 ≤ k) : dominoref01_power.f k 6 = some 64 := rpow_at 6 (by decide) k hk
theorem p14 (k : Nat) (hk : 70 ≤ k) : dominoref01_power.f k 14 = some 16384 := rpow_at 14 (by decide) k hk
theorem p30 (k : Nat) (hk : 70 ≤ k) : dominoref01_power.f k 30 = some 1073741824 := rpow_at 30 (by decide) k hk
theorem p62 (k : Nat) (hk : 70 ≤ k) : dominoref01_power.f k 62 = some 4611686018427387904 := rpow_at 62 (by decide) k hk
theorem rsize (n : Int) (h0 : 0 ≤ n) (k : Nat) (hk : 70 ≤ k) : dominoref01_Size.f k n = some (if n < 4611686018427387904 then ((pb n).length : Int) else 0) := by
  unfold dominoref01_Size.f pb
  rw [p6 k hk, Option.bind_some, p14 k hk, Option.bind_some, p30 k hk, Option.bind_some, p62 k hk, Option.bind_some]
  (repeat' split) <;> first | rfl | (exfalso; omega)
theorem rput_big (n : Int) (h0 : 4611686018427387904 ≤ n) (k : Nat) (hk : 70 ≤ k) : dominoref01_Put.f k n = some ((⟨#[]⟩ : ByteArray), 1) := by
  unfold dominoref01_Put.f
  rw [rsize n (by omega) k hk, if_neg (by omega), Option.bind_some, if_neg (by decide), if_neg (by decide), if_neg (by decide), if_neg (by decide)]
theorem rput (n : Int) (h0 : 0 ≤ n) (h1 : n < 4611686018427387904) (k : Nat) (hk : 70 ≤ k) : dominoref01_Put.f (k + 9) n = some (strOfNums (pb n), 0) := by
  unfold dominoref01_Put.f
  rw [rsize n h0 (k + 9) (by omega), if_pos h1, Option.bind_some]
  unfold pb
  by_cases c1 : n < 64
  · rw [if_pos c1, if_pos (by simp), rfix1 k n h0 (by omega) hk, Option.bind_some, show n % 256 = n by omega]
  by_cases c2 : n < 16384
  · rw [if_neg c1, if_pos c2, if_neg (by simp), if_pos (by simp), p14 (k + 9) (by omega), Option.bind_some, wUi (by omega) (by omega), rfix2 k _ (by omega) (by omega) hk, Option.bind_some, show (n + 16384) / 256 % 256 = n / 256 + 64 by omega, show (n + 16384) % 256 = n % 256 by omega]
  by_cases c4 : n < 1073741824
  · rw [if_neg c1, if_neg c2, if_pos c4, if_neg (by simp), if_neg (by simp), if_pos (by simp), p30 (k + 9) (by omega), Option.bind_some, wUi (n := 2 * 1073741824) (by omega) (by omega), wUi (by omega) (by omega), rfix4 k _ (by omega) (by omega) hk, Option.bind_some, show (n + 2 * 1073741824) / 16777216 % 256 = n / 16777216 + 128 by omega, show (n + 2 * 1073741824) / 65536 % 256 = n / 65536 % 256 by omega, show (n + 2 * 1073741824) / 256 % 256 = n / 256 % 256 by omega, show (n + 2 * 1073741824) % 256 = n % 256 by omega]
  · rw [if_neg c1, if_neg c2, if_neg c4, if_neg (by simp), if_neg (by simp), if_neg (by simp), if_pos (by simp), p62 (k + 9) (by omega), Option.bind_some, wUi (n := 3 * 4611686018427387904) (by omega) (by omega), wUi (by omega) (by omega), rfix8 k _ (by omega) (by omega) hk, Option.bind_some, show (n + 3 * 4611686018427387904) / 72057594037927936 % 256 = n / 72057594037927936 + 192 by omega, show (n + 3 * 4611686018427387904) / 281474976710656 % 256 = n / 281474976710656 % 256 by omega, show (n + 3 * 4611686018427387904) / 1099511627776 % 256 = n / 1099511627776 % 256 by omega, show (n + 3 * 4611686018427387904) / 4294967296 % 256 = n / 4294967296 % 256 by omega, show (n + 3 * 4611686018427387904) / 16777216 % 256 = n / 16777216 % 256 by omega, show (n + 3 * 4611686018427387904) / 65536 % 256 = n / 65536 % 256 by omega, show (n + 3 * 4611686018427387904) / 256 % 256 = n / 256 % 256 by omega, show (n + 3 * 4611686018427387904) % 256 = n % 256 by omega]
theorem rfix3 (k : Nat) (n : Int) (h0 : 0 ≤ n) (h1 : n < 18446744073709551616) (hk : 70 ≤ k) : dominoref01_Fixed.f (k + 9) n 3 = some (strOfNums [n / 65536 % 256, n / 256 % 256, n % 256]) := by
  unfold dominoref01_Fixed.f
  rw [show mx (mn 3 8) 0 - 1 = ((2 : Nat) : Int) by decide]
  rw [rfix_step (k + 8) n h0 h1 2 (by decide) _ (by simp) (by omega), show (((2 : Nat) : Int) - 1) = ((1 : Nat) : Int) by decide]
  rw [rfix_step (k + 7) n h0 h1 1 (by decide) _ (by simp) (by omega), show (((1 : Nat) : Int) - 1) = ((0 : Nat) : Int) by decide]
  rw [rfix_step (k + 6) n h0 h1 0 (by decide) _ (by simp) (by omega)]
  unfold dominoref01_Fixed.l0
  rw [if_neg (by decide)]
  simp
theorem rfixed (k : Nat) (n : Int) (h0 : 0 ≤ n) (h1 : n < 18446744073709551616) (hk : 70 ≤ k) (w : Int) (hw : w = 1 ∨ w = 2 ∨ w = 3 ∨ w = 4) : dominoref01_Fixed.f (k + 9) n w = varint_Fixed.f n w := by
  have e8 (v : Int) (hv : v = 1 ∨ v = 2 ∨ v = 3 ∨ v = 4) : mx 0 (mn v 8) = v := by
    rcases hv with rfl | rfl | rfl | rfl <;> decide
  unfold varint_Fixed.f
  rw [e8 w hw, fixL_eq n h0 h1]
  rcases hw with rfl | rfl | rfl | rfl
  · rw [rfix1 k n h0 h1 hk, show n % 256 = n / 2 ^ 0 % 256 by simp]; rfl
  · rw [rfix2 k n h0 h1 hk, show n % 256 = n / 2 ^ 0 % 256 by simp, show n / 256 % 256 = n / 2 ^ 8 % 256 by simp]; rfl
  · rw [rfix3 k n h0 h1 hk, show n % 256 = n / 2 ^ 0 % 256 by simp, show n / 256 % 256 = n / 2 ^ 8 % 256 by simp, show n / 65536 % 256 = n / 2 ^ 16 % 256 by simp]; rfl
  · rw [rfix4 k n h0 h1 hk, show n % 256 = n / 2 ^ 0 % 256 by simp, show n / 256 % 256 = n / 2 ^ 8 % 256 by simp, show n / 65536 % 256 = n / 2 ^ 16 % 256 by simp, show n / 16777216 % 256 = n / 2 ^ 24 % 256 by simp]; rfl
theorem rwin (k : Nat) (hk : 10 ≤ k) (wide : Int) (hw : wide = 1 ∨ wide = 2 ∨ wide = 3 ∨ wide = 4) : dominoref04_window.f k wide = some (256 ^ wide.toNat) := by
  refine at_rounds (dominoref04_window.mono _) hk ?_
  rcases hw with rfl | rfl | rfl | rfl <;> decide +kernel
theorem rj0_t (k : Nat) (hk : 1 ≤ k) (long spin phase : Bool) (ty ver : Int) (dcid scid token : ByteArray) (len wide num : Int) : dominoref04_May.j0 k true long spin phase ty ver dcid scid token len wide num = some false := by
  obtain ⟨j, rfl⟩ := Nat.le.dest hk
  rw [Nat.add_comm, dominoref04_May.j0]
  exact if_pos rfl
theorem rj0_eq (k : Nat) (hk : 1 ≤ k) (long spin phase : Bool) (ty ver : Int) (dcid scid token : ByteArray) (len wide num : Int) : dominoref04_May.j0 k false long spin phase ty ver dcid scid token len wide num = header_May.j0 k false long spin phase ty ver dcid scid token len wide num := by
  rw [j0_eq k hk]
  obtain ⟨j, rfl⟩ := Nat.le.dest hk
  rw [Nat.add_comm, dominoref04_May.j0, if_neg (by decide)]
  cases long with
  | false =>
    rw [if_neg (by decide)]
    simp only [Bool.false_eq_true, false_and, false_or, true_and]
    by_cases c1 : dcid.size = 8
    · rw [if_pos (by omega)]
      by_cases c2 : ty = 0
      · rw [if_pos c2]
        by_cases c3 : ver = 0
        · rw [if_pos c3]
          by_cases c4 : scid.toList = ([] : List UInt8)
          · rw [if_pos c4]
            by_cases c5 : token.toList = ([] : List UInt8)
            · rw [if_pos c5]
              simp only [c1, c2, c3, c4, c5, true_and, and_true]
              rfl
            · rw [if_neg c5]; simp [c5]
          · rw [if_neg c4]; simp [c4]
        · rw [if_neg c3]; simp [c3]
      · rw [if_neg c2]; simp [c2]
    · rw [if_neg (by omega)]; simp [c1]
  | true =>
    rw [if_pos rfl]
    simp only [true_and, Bool.true_eq_false, false_and, or_false]
    cases spin with
    | true => simp
    | false =>
      cases phase with
      | true => simp
      | false =>
        simp only [Bool.false_eq_true, if_false, true_and]
        by_cases a1 : ty ≥ 0
        rotate_left
        · rw [if_neg a1]; congr 1; symm; rw [decide_eq_false_iff_not]; omega
        rw [if_pos a1]
        by_cases a2 : ty ≤ 2
        rotate_left
        · rw [if_neg a2]; congr 1; symm; rw [decide_eq_false_iff_not]; omega
        rw [if_pos a2]
        have ht : ty = 0 ∨ ty = 1 ∨ ty = 2 := by omega
        by_cases b1 : dcid.size ≤ 20
        · rw [if_pos (by omega)]
          by_cases b2 : scid.size ≤ 20
          · rw [if_pos (by omega)]
            by_cases b3 : token.size ≤ 1000
            · rw [if_pos (by omega)]
              by_cases a4 : token.toList = ([] : List UInt8)
              · rw [if_pos a4]
                simp only [ht, a4, b1, b2, b3, true_and, or_true]
              · rw [if_neg a4]
                by_cases a3 : ty = 0
                · rw [if_pos a3]
                  simp only [a3, b1, b2, b3, true_and, true_or]
                · rw [if_neg a3]
                  simp [a3, a4]
            · rw [if_neg (by omega)]
              simp [b3]
          · rw [if_neg (by omega)]
            simp [b2]
        · rw [if_neg (by omega)]
          simp [b1]
theorem rmay_eq (k : Nat) (hk : 10 ≤ k) (long spin phase : Bool) (ty ver : Int) (dcid scid token : ByteArray) (len wide num : Int) (h0 : 0 ≤ num) : dominoref04_May.f k long spin phase ty ver dcid scid token len wide num = header_May.f k long spin phase ty ver dcid scid token len wide num := by
  unfold dominoref04_May.f header_May.f
  by_cases c1 : wide < 1
  · rw [if_pos c1, if_pos c1, rj0_t k (by omega), j0_t k (by omega)]
  by_cases c2 : wide > 4
  · rw [if_neg c1, if_pos c2, if_neg c1, if_pos c2, rj0_t k (by omega), j0_t k (by omega)]
  have hw : wide = 1 ∨ wide = 2 ∨ wide = 3 ∨ wide = 4 := by omega
  obtain ⟨w0, w1⟩ := may_wide num wide h0 hw
  rw [if_neg c1, if_neg c2, if_neg c1, if_neg c2, if_pos w0, rwin k hk wide hw, Option.bind_some]
  by_cases c3 : num < 256 ^ wide.toNat
  · rw [w1.2 c3, decide_eq_false (by omega), rj0_eq k (by omega)]
  · have : (shr .u64 num (wrap64 (8 * wide)) != 0) = true := by
      cases e : (shr .u64 num (wrap64 (8 * wide)) != 0) with
      | true => rfl
      | false => exact absurd (w1.1 e) c3
    rw [this, decide_eq_true (by omega), rj0_t k (by omega), j0_t k (by omega)]
theorem rshort (s : ByteArray) (h : s.size ≤ 20) : dominoref04_short.f s = some (strOfNums [(s.size : Int)] ++ s) := by
  unfold dominoref04_short.f
  rw [Option.bind_some, show ((s.size : Int)) % 256 = (s.size : Int) by omega, if_pos (by rw [nums_size]; simp; omega)]
theorem rv (n : Int) (h0 : 0 ≤ n) (h1 : n < 4611686018427387904) (k : Nat) (hk : 70 ≤ k) : dominoref04_v.f (k + 9) n = some (strOfNums (pb n)) := by
  unfold dominoref04_v.f
  rw [rput n h0 h1 k hk, Option.bind_some]
def hdT (ty : Int) (token : ByteArray) : ByteArray := if ty = 0 then strOfNums (pb token.size) ++ token else ⟨#[]⟩
theorem hdT_size (ty : Int) (token : ByteArray) (h : token.size ≤ 1000) : (hdT ty token).size ≤ 1100 := by
  unfold hdT
  split
  · rw [ByteArray.size_append, nums_size]; have := pb_len (token.size : Int); omega
  · decide
theorem put_long {k : Nat} (hk : 30 ≤ k) {ty ver : Int} {dcid scid token : ByteArray} {len wide num : Int} (hy : header_May.f k true false false ty ver dcid scid token len wide num = some true) (hw : wide = 1 ∨ wide = 2 ∨ wide = 3 ∨ wide = 4) (ht : ty = 0 ∨ ty = 1 ∨ ty = 2)
    (hd : dcid.size ≤ 20) (hc : scid.size ≤ 20) (ht1 : token.size ≤ 1000) (v0 : 0 ≤ ver) (v1 : ver < 4294967296) (l0 : 0 ≤ len) (hl : len ≤ 4611686018427387903) {N F4 : ByteArray} (hN : varint_Fixed.f num wide = some N) (hN4 : N.size ≤ 4) (hF : varint_Fixed.f ver 4 = some F4) (hFs4 : F4.size = 4) :
    header_Put.f k true false false ty ver dcid scid token len wide num = some (strOfNums [191 + wide + 16 * ty] ++ (F4 ++ ((strOfNums [(dcid.size : Int)] ++ dcid) ++ ((strOfNums [(scid.size : Int)] ++ scid) ++ (hdT ty token ++ strOfNums (pb len))))) ++ N, 0) := by
  obtain ⟨j, rfl⟩ := Nat.le.dest hk
  have hTs := hdT_size ty token ht1
  have sz1 (n : Int) : (strOfNums [n]).size = 1 := nums_size _
  have pl := pb_len len
  have core (T : ByteArray) (hT : hdT ty token = T) : header_Put.j0 (30 + j) N (Go.bits .or .u8 64 ((wrap64 (wide - 1)) % 256)) T true false false ty ver dcid scid token len wide num = some (strOfNums [191 + wide + 16 * ty] ++ (F4 ++ ((strOfNums [(dcid.size : Int)] ++ dcid) ++ ((strOfNums [(scid.size : Int)] ++ scid) ++ (hdT ty token ++ strOfNums (pb len))))) ++ N, 0) := by
    rw [hT] at hTs ⊢
    rw [show 30 + j = (29 + j) + 1 by omega, header_Put.j0]
    rw [wUi v0 (by omega), hF, Option.bind_some, counted_eq (29 + j) (by omega) dcid hd, Option.bind_some, counted_eq (29 + j) (by omega) scid hc, Option.bind_some, number_eq len l0 (by omega), Option.bind_some, f_long wide ty hw ht,
      joined_eq (29 + j) (by omega) _ _ (by simp) (by
        intro s hs
        simp only [List.mem_cons, List.not_mem_nil, or_false] at hs
        rcases hs with rfl | rfl | rfl | rfl | rfl | rfl
        · omega
        · rw [ByteArray.size_append, sz1]; omega
        · rw [ByteArray.size_append, sz1]; omega
        · omega
        · rw [nums_size]; omega
        · omega), Option.bind_some]
    congr 2
    simp only [catB, nil_app, app_assoc]
  unfold header_Put.f
  rw [hy, Option.bind_some, if_pos rfl, hN, Option.bind_some, if_pos rfl]
  by_cases c : ty = 0
  · rw [if_pos c, wUi (by omega) (by omega), number_eq _ (by omega) (by omega), Option.bind_some, if_pos (by rw [nums_size]; have := pb_len (token.size : Int); omega)]
    exact core _ (if_pos c)
  · rw [if_neg c]
    exact core _ (if_neg c)
theorem rput_long {k : Nat} (hk : 70 ≤ k) {ty ver : Int} {dcid scid token : ByteArray} {len wide num : Int} (hy : dominoref04_May.f (k + 9) true false false ty ver dcid scid token len wide num = some true) (hw : wide = 1 ∨ wide = 2 ∨ wide = 3 ∨ wide = 4) (ht : ty = 0 ∨ ty = 1 ∨ ty = 2)
    (hd : dcid.size ≤ 20) (hc : scid.size ≤ 20) (ht1 : token.size ≤ 1000) (v0 : 0 ≤ ver) (v1 : ver < 4294967296) (l0 : 0 ≤ len) (hl : len ≤ 4611686018427387903) (n0 : 0 ≤ num) (n1 : num < 18446744073709551616) {N F4 : ByteArray} (hN : varint_Fixed.f num wide = some N) (hN4 : N.size ≤ 4) (hF : varint_Fixed.f ver 4 = some F4) (hFs4 : F4.size = 4) :
    dominoref04_Put.f (k + 9) true false false ty ver dcid scid token len wide num = some (strOfNums [191 + wide + 16 * ty] ++ (F4 ++ ((strOfNums [(dcid.size : Int)] ++ dcid) ++ ((strOfNums [(scid.size : Int)] ++ scid) ++ (hdT ty token ++ strOfNums (pb len))))) ++ N, 0) := by
  have sz1 (n : Int) : (strOfNums [n]).size = 1 := nums_size _
  have pl := pb_len len
  have pt := pb_len (token.size : Int)
  have e1 : ((wrap64 (wide - 1) % 256 + 192) % 256 + wrap64 (16 * ty) % 256) % 256 = 191 + wide + 16 * ty := by
    rcases hw with rfl | rfl | rfl | rfl <;> rcases ht with rfl | rfl | rfl <;> decide +kernel
  unfold dominoref04_Put.f
  rw [hy, Option.bind_some, if_pos rfl, rfixed k num n0 n1 hk wide hw, hN, Option.bind_some, if_pos rfl, Option.bind_some, e1, wUi v0 (by omega), rfixed k ver v0 (by omega) hk 4 (by simp), hF, Option.bind_some, if_pos (by rw [sz1]; omega),
    rshort dcid hd, Option.bind_some, if_pos (by simp only [ByteArray.size_append, sz1]; omega), rshort scid hc, Option.bind_some, if_pos (by simp only [ByteArray.size_append, sz1]; omega)]
  unfold hdT
  by_cases c : ty = 0
  · rw [if_pos c, wUi (by omega) (by omega), rv _ (by omega) (by omega) k hk, Option.bind_some, if_pos (by simp only [ByteArray.size_append, sz1, nums_size]; omega), if_pos (by simp only [ByteArray.size_append, sz1, nums_size]; omega),
      rv _ l0 (by omega) k hk, Option.bind_some, if_pos (by simp only [ByteArray.size_append, sz1, nums_size]; omega), if_pos (by simp only [ByteArray.size_append, sz1, nums_size]; omega), if_pos c]
    congr 2
    simp only [app_assoc]
  · rw [if_neg c, rv _ l0 (by omega) k hk, Option.bind_some, if_pos (by simp only [ByteArray.size_append, sz1, nums_size]; omega), if_pos (by simp only [ByteArray.size_append, sz1, nums_size]; omega), if_neg c]
    congr 2
    simp only [app_assoc, app_nil]
theorem put_sh {k : Nat} (hk : 30 ≤ k) {spin phase : Bool} {dcid : ByteArray} {wide num : Int} (hy : header_May.f k false spin phase 0 0 dcid (⟨#[]⟩ : ByteArray) (⟨#[]⟩ : ByteArray) 0 wide num = some true) (hw : wide = 1 ∨ wide = 2 ∨ wide = 3 ∨ wide = 4) (hd : dcid.size = 8) {N : ByteArray} (hN : varint_Fixed.f num wide = some N) (hN4 : N.size ≤ 4) :
    header_Put.f k false spin phase 0 0 dcid (⟨#[]⟩ : ByteArray) (⟨#[]⟩ : ByteArray) 0 wide num = some (strOfNums [63 + wide + (if spin = true then 32 else 0) + (if phase = true then 4 else 0)] ++ dcid ++ N, 0) := by
  unfold header_Put.f
  rw [hy, Option.bind_some, if_pos rfl, hN, Option.bind_some, if_neg (by decide), flag_eq, Option.bind_some, flag_eq, Option.bind_some, f_short wide hw, joined_eq k (by omega) _ _ (by simp) (by
    intro s hs
    simp only [List.mem_cons, List.not_mem_nil, or_false] at hs
    rcases hs with rfl | rfl <;> omega), Option.bind_some]
  congr 2
  simp only [catB, nil_app, app_assoc]
theorem rput_sh {k : Nat} (hk : 70 ≤ k) {spin phase : Bool} {dcid : ByteArray} {wide num : Int} (hy : dominoref04_May.f (k + 9) false spin phase 0 0 dcid (⟨#[]⟩ : ByteArray) (⟨#[]⟩ : ByteArray) 0 wide num = some true) (hw : wide = 1 ∨ wide = 2 ∨ wide = 3 ∨ wide = 4) (hd : dcid.size = 8) (n0 : 0 ≤ num) (n1 : num < 18446744073709551616) {N : ByteArray} (hN : varint_Fixed.f num wide = some N) (hN4 : N.size ≤ 4) :
    dominoref04_Put.f (k + 9) false spin phase 0 0 dcid (⟨#[]⟩ : ByteArray) (⟨#[]⟩ : ByteArray) 0 wide num = some (strOfNums [63 + wide + (if spin = true then 32 else 0) + (if phase = true then 4 else 0)] ++ dcid ++ N, 0) := by
  have sz1 (n : Int) : (strOfNums [n]).size = 1 := nums_size _
  unfold dominoref04_Put.f
  rw [hy, Option.bind_some, if_pos rfl, rfixed k num n0 n1 hk wide hw, hN, Option.bind_some, if_neg (by decide)]
  cases spin with
  | true =>
    rw [if_pos rfl]
    cases phase with
    | true =>
      rw [if_pos rfl, Option.bind_some, if_pos (by simp only [ByteArray.size_append, sz1]; omega), if_pos (by simp only [ByteArray.size_append, sz1]; omega)]
      rw [show (((wrap64 (wide - 1) % 256 + 64) % 256 + 32) % 256 + 4) % 256 = 63 + wide + 32 + 4 by rcases hw with rfl | rfl | rfl | rfl <;> decide +kernel]
      rfl
    | false =>
      rw [if_neg (by decide), Option.bind_some, if_pos (by simp only [ByteArray.size_append, sz1]; omega), if_pos (by simp only [ByteArray.size_append, sz1]; omega)]
      rw [show ((wrap64 (wide - 1) % 256 + 64) % 256 + 32) % 256 = 63 + wide + 32 + 0 by rcases hw with rfl | rfl | rfl | rfl <;> decide +kernel]
      rfl
  | false =>
    rw [if_neg (by decide)]
    cases phase with
    | true =>
      rw [if_pos rfl, Option.bind_some, if_pos (by simp only [ByteArray.size_append, sz1]; omega), if_pos (by simp only [ByteArray.size_append, sz1]; omega)]
      rw [show ((wrap64 (wide - 1) % 256 + 64) % 256 + 4) % 256 = 63 + wide + 0 + 4 by rcases hw with rfl | rfl | rfl | rfl <;> decide +kernel]
      rfl
    | false =>
      rw [if_neg (by decide), Option.bind_some, if_pos (by simp only [ByteArray.size_append, sz1]; omega), if_pos (by simp only [ByteArray.size_append, sz1]; omega)]
      rw [show (wrap64 (wide - 1) % 256 + 64) % 256 = 63 + wide + 0 + 0 by rcases hw with rfl | rfl | rfl | rfl <;> decide +kernel]
      rfl
theorem rput_eq {k : Nat} (hk : 70 ≤ k) (long spin phase : Bool) (ty ver : Int) (dcid scid token : ByteArray) (len wide num : Int) (n0 : 0 ≤ num) (n1 : num < 18446744073709551616) (v0 : 0 ≤ ver) (v1 : ver < 4294967296) (l0 : 0 ≤ len) :
    ∃ r, header_Put.f (k + 9) long spin phase ty ver dcid scid token len wide num = some r ∧ dominoref04_Put.f (k + 9) long spin phase ty ver dcid scid token len wide num = some r := by
  have hr := rmay_eq (k + 9) (by omega) long spin phase ty ver dcid scid token len wide num n0
  rcases may_or (k + 9) (by omega) long spin phase ty ver dcid scid token len wide num n0 with ⟨hm, hy⟩ | hy
  · rw [hy] at hr
    obtain ⟨hw, hn, hm⟩ := hm
    obtain ⟨N, hN, hNs, _⟩ := fixed_spec num n0 wide hw hn
    have hN4 : N.size ≤ 4 := by rcases hw with rfl | rfl | rfl | rfl <;> (rw [hNs]; decide)
    rcases hm with ⟨rfl, rfl, rfl, ht, htt, hd, hc, ht1, hl⟩ | ⟨rfl, rfl, rfl, hc, htk, rfl, hd⟩
    · obtain ⟨F4, hF, hFs, _⟩ := fixed_spec ver v0 4 (by simp) (by simpa using v1)
      exact ⟨_, put_long (by omega) hy hw ht hd hc ht1 v0 v1 l0 hl hN hN4 hF hFs, rput_long hk hr hw ht hd hc ht1 v0 v1 l0 hl n0 n1 hN hN4 hF hFs⟩
    · obtain rfl := empty_of hc
      obtain rfl := empty_of htk
      exact ⟨_, put_sh (by omega) hy hw hd hN hN4, rput_sh hk hr hw hd n0 n1 hN hN4⟩
  · rw [hy] at hr
    refine ⟨_, put_bad hy, ?_⟩
    unfold dominoref04_Put.f
    rw [hr, Option.bind_some, if_neg (by decide)]
theorem HeaderTells : dominolaw04_HeaderTells.Pure := by
  intro long spin phase ty ver dcid scid token len wide num t h3 h4 h5 h6 h7 h8 h9 h10 htz
  refine ⟨160, ?_⟩
  obtain ⟨v0, v1⟩ := u32b h4
  obtain ⟨l0, l1⟩ := u64b h8
  obtain ⟨n0, n1⟩ := u64b h10
  have js : dominolaw04_HeaderTells.j0 160 t true long spin phase ty ver dcid scid token len wide num = some true := by
    rw [dominolaw04_HeaderTells.j0, if_pos rfl, shown_all 159 (by decide)]
    rfl
  unfold dominolaw04_HeaderTells.f
  rcases bounded_or long spin phase ty ver dcid scid token len wide num with ⟨hb, _⟩ | hb
  rotate_left
  · rw [hb, Option.bind_some, if_neg (by decide), js]
  rw [hb, Option.bind_some, if_pos rfl]
  by_cases c1 : (t.size : Int) > 1200
  · rw [if_pos c1, js]
  rw [if_neg c1, shown_all 160 (by decide), Option.bind_some]
  show dominolaw04_HeaderTells.j0 160 _ false _ _ _ _ _ _ _ _ _ _ _ = _
  obtain ⟨r, hp, hq⟩ := rput_eq (k := 150) (by decide) long spin phase ty ver dcid scid token len wide num n0 n1 v0 v1 l0
  have hm : ∃ m, header_May.f 159 long spin phase ty ver dcid scid token len wide num = some m := by
    rcases may_or 159 (by decide) long spin phase ty ver dcid scid token len wide num n0 with ⟨_, h⟩ | h
    · exact ⟨_, h⟩
    · exact ⟨_, h⟩
  obtain ⟨m, hm⟩ := hm
  have hr := rmay_eq 159 (by decide) long spin phase ty ver dcid scid token len wide num n0
  rw [hm] at hr
  rw [dominolaw04_HeaderTells.j0, if_neg (by decide), show (159 : Nat) = 150 + 9 from rfl, hp, Option.bind_some, hq, Option.bind_some, show (150 + 9 : Nat) = 159 from rfl, imp_get (by decide) (by omega), Option.bind_some, ref_get (by decide) (by omega), Option.bind_some,
    imp_place (by decide) (by omega), Option.bind_some, ref_place (by decide) (by omega), Option.bind_some, hm, Option.bind_some, hr, Option.bind_some]
  generalize GG t = g
  generalize PP t = p
  rw [if_pos (by simp), if_pos rfl, if_pos rfl, if_pos (by simp only [beq_self_eq_true, Bool.and_self]), if_pos rfl, if_pos rfl, if_pos rfl]
  simp

end Go.Proofs.YtjpafikgbnloaaaDoor.Pure
