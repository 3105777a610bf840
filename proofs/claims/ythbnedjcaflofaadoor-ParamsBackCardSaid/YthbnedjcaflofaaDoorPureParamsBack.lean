/- The law ParamsBack of the claim in plain Lean: what is put is got back; what is got may be, and may be put. -/
import Derived.Test.YthbnedjcaflofaaDoorPPaxx13
import Derived.Lib.Bytes
import Derived.Lib.EndianBits
namespace Go.Proofs.YthbnedjcaflofaaDoor.Pure
open Go.RowKit Go.Proofs.YthbnedjcaflofaaDoor.PPax Go.Proofs.YthbnedjcaflofaaDoorW.PrintWords Go.Proofs.YthbnedjcaflofaaDoorW.PrintLast
set_option linter.unusedVariables false
set_option linter.unusedSimpArgs false
set_option linter.unusedVariables false
set_option linter.unusedSimpArgs false
theorem u64b {n : Int} (h : (Lit.int .u64 n).wf = true) : 0 ≤ n ∧ n < 18446744073709551616 := by
  simp [Lit.wf, IntKind.min, IntKind.max, IntKind.signed, IntKind.bits] at h
  omega
theorem wU (n : Int) : IntKind.u64.wrap n = n % 18446744073709551616 := IntKind.wrap_u64 n
theorem wUb (n : Int) : 0 ≤ IntKind.u64.wrap n ∧ IntKind.u64.wrap n < 18446744073709551616 := by rw [wU]; omega
theorem wUi {n : Int} (h0 : 0 ≤ n) (h1 : n < 18446744073709551616) : IntKind.u64.wrap n = n := by rw [wU]; omega
theorem hk64 : ∀ n : Int, 0 ≤ n → n < 2 ^ 64 → IntKind.u64.wrap n = n := fun n a b => wUi a (by simpa using b)
theorem spB_eq (n : Int) (h0 : 0 ≤ n) (h1 : n < 18446744073709551616) (i : Nat) (hi : i < 8) : spB n i = n / 2 ^ (56 - 8 * i) % 256 := by
  have : i = 0 ∨ i = 1 ∨ i = 2 ∨ i = 3 ∨ i = 4 ∨ i = 5 ∨ i = 6 ∨ i = 7 := by omega
  unfold spB bits_RotateLeft64.f
  rcases this with rfl | rfl | rfl | rfl | rfl | rfl | rfl | rfl
  · rw [show Go.bits .and .u64 (IntKind.u64.wrap (8 * ((0 : Nat) : Int) + 8)) 63 = 8 by decide +kernel, show IntKind.u64.wrap (64 - 8) = 56 by decide, if_pos (by decide), if_pos (by decide), Option.getD_some, show shl .u64 n 8 = n * 2 ^ 8 % 18446744073709551616 from wU _, show shr .u64 n 56 = n / 2 ^ 56 from rfl, bits_join .u64 64 (by decide) hk64 8 _ _ (by omega) (by omega) (by omega) (by omega) (by omega) (by omega)]
    simp only [Nat.mul_zero, Nat.sub_zero]
    omega
  · rw [show Go.bits .and .u64 (IntKind.u64.wrap (8 * ((1 : Nat) : Int) + 8)) 63 = 16 by decide +kernel, show IntKind.u64.wrap (64 - 16) = 48 by decide, if_pos (by decide), if_pos (by decide), Option.getD_some, show shl .u64 n 16 = n * 2 ^ 16 % 18446744073709551616 from wU _, show shr .u64 n 48 = n / 2 ^ 48 from rfl, bits_join .u64 64 (by decide) hk64 16 _ _ (by omega) (by omega) (by omega) (by omega) (by omega) (by omega)]
    simp only [Nat.reduceMul, Nat.reduceSub]
    omega
  · rw [show Go.bits .and .u64 (IntKind.u64.wrap (8 * ((2 : Nat) : Int) + 8)) 63 = 24 by decide +kernel, show IntKind.u64.wrap (64 - 24) = 40 by decide, if_pos (by decide), if_pos (by decide), Option.getD_some, show shl .u64 n 24 = n * 2 ^ 24 % 18446744073709551616 from wU _, show shr .u64 n 40 = n / 2 ^ 40 from rfl, bits_join .u64 64 (by decide) hk64 24 _ _ (by omega) (by omega) (by omega) (by omega) (by omega) (by omega)]
    simp only [Nat.reduceMul, Nat.reduceSub]
    omega
  · rw [show Go.bits .and .u64 (IntKind.u64.wrap (8 * ((3 : Nat) : Int) + 8)) 63 = 32 by decide +kernel, show IntKind.u64.wrap (64 - 32) = 32 by decide, if_pos (by decide), if_pos (by decide), Option.getD_some, show shl .u64 n 32 = n * 2 ^ 32 % 18446744073709551616 from wU _, show shr .u64 n 32 = n / 2 ^ 32 from rfl, bits_join .u64 64 (by decide) hk64 32 _ _ (by omega) (by omega) (by omega) (by omega) (by omega) (by omega)]
    simp only [Nat.reduceMul, Nat.reduceSub]
    omega
  · rw [show Go.bits .and .u64 (IntKind.u64.wrap (8 * ((4 : Nat) : Int) + 8)) 63 = 40 by decide +kernel, show IntKind.u64.wrap (64 - 40) = 24 by decide, if_pos (by decide), if_pos (by decide), Option.getD_some, show shl .u64 n 40 = n * 2 ^ 40 % 18446744073709551616 from wU _, show shr .u64 n 24 = n / 2 ^ 24 from rfl, bits_join .u64 64 (by decide) hk64 40 _ _ (by omega) (by omega) (by omega) (by omega) (by omega) (by omega)]
    simp only [Nat.reduceMul, Nat.reduceSub]
    omega
  · rw [show Go.bits .and .u64 (IntKind.u64.wrap (8 * ((5 : Nat) : Int) + 8)) 63 = 48 by decide +kernel, show IntKind.u64.wrap (64 - 48) = 16 by decide, if_pos (by decide), if_pos (by decide), Option.getD_some, show shl .u64 n 48 = n * 2 ^ 48 % 18446744073709551616 from wU _, show shr .u64 n 16 = n / 2 ^ 16 from rfl, bits_join .u64 64 (by decide) hk64 48 _ _ (by omega) (by omega) (by omega) (by omega) (by omega) (by omega)]
    simp only [Nat.reduceMul, Nat.reduceSub]
    omega
  · rw [show Go.bits .and .u64 (IntKind.u64.wrap (8 * ((6 : Nat) : Int) + 8)) 63 = 56 by decide +kernel, show IntKind.u64.wrap (64 - 56) = 8 by decide, if_pos (by decide), if_pos (by decide), Option.getD_some, show shl .u64 n 56 = n * 2 ^ 56 % 18446744073709551616 from wU _, show shr .u64 n 8 = n / 2 ^ 8 from rfl, bits_join .u64 64 (by decide) hk64 56 _ _ (by omega) (by omega) (by omega) (by omega) (by omega) (by omega)]
    simp only [Nat.reduceMul, Nat.reduceSub]
    omega
  · rw [show Go.bits .and .u64 (IntKind.u64.wrap (8 * ((7 : Nat) : Int) + 8)) 63 = 0 by decide +kernel, show IntKind.u64.wrap (64 - 0) = 64 by decide, if_pos (by decide), if_pos (by decide), Option.getD_some, show shl .u64 n 0 = n * 2 ^ 0 % 18446744073709551616 from wU _, show shr .u64 n 64 = n / 2 ^ 64 from rfl, bits_join .u64 64 (by decide) hk64 0 _ _ (by omega) (by omega) (by omega) (by omega) (by omega) (by omega)]
    simp only [Nat.reduceMul, Nat.reduceSub]
    omega
theorem fixL_eq (n : Int) (h0 : 0 ≤ n) (h1 : n < 18446744073709551616) : fixL n = [n / 2 ^ 56 % 256, n / 2 ^ 48 % 256, n / 2 ^ 40 % 256, n / 2 ^ 32 % 256, n / 2 ^ 24 % 256, n / 2 ^ 16 % 256, n / 2 ^ 8 % 256, n / 2 ^ 0 % 256] := by
  unfold fixL
  rw [show List.range 8 = [0, 1, 2, 3, 4, 5, 6, 7] from rfl]
  simp only [List.map_cons, List.map_nil]
  rw [spB_eq n h0 h1 0 (by decide), spB_eq n h0 h1 1 (by decide), spB_eq n h0 h1 2 (by decide), spB_eq n h0 h1 3 (by decide), spB_eq n h0 h1 4 (by decide), spB_eq n h0 h1 5 (by decide), spB_eq n h0 h1 6 (by decide), spB_eq n h0 h1 7 (by decide)]
theorem u8_eq {a b : Int} (a0 : 0 ≤ a) (a1 : a < 256) (b0 : 0 ≤ b) (b1 : b < 256) (h : UInt8.ofNat a.toNat = UInt8.ofNat b.toNat) : a = b := by
  have := congrArg UInt8.toNat h
  simp only [UInt8.toNat_ofNat', Nat.reducePow] at this
  omega
theorem w64 {n : Int} (h0 : 0 ≤ n) (h1 : n < 9223372036854775808) : wrap64 n = n := by
  unfold wrap64
  first | omega | (simp [IntKind.wrap, IntKind.bits, IntKind.signed]; omega)
theorem hk8 : ∀ n : Int, 0 ≤ n → n < 2 ^ 8 → IntKind.u8.wrap n = n := fun n a b => by
  have : n < 256 := by simpa using b
  simp [IntKind.wrap, IntKind.bits, IntKind.signed]
  omega
theorem sizeL (s : ByteArray) : s.size = s.toList.length := by rw [Go.Lib.toList_data, Go.Lib.size_eq]
theorem appL (a b : ByteArray) : (a ++ b).toList = a.toList ++ b.toList := by
  rw [Go.Lib.toList_data, Go.Lib.toList_data, Go.Lib.toList_data, ByteArray.data_append, Array.toList_append]
theorem numsL (xs : List Int) : (strOfNums xs).toList = xs.map fun n => UInt8.ofNat n.toNat := Go.Lib.strOfNums_toList xs
theorem nums_size (xs : List Int) : (strOfNums xs).size = xs.length := by rw [sizeL, numsL, List.length_map]
theorem ba_ext {a b : ByteArray} (h : a.toList = b.toList) : a = b := by
  rw [Go.Lib.toList_data, Go.Lib.toList_data] at h
  cases a
  cases b
  exact congrArg ByteArray.mk (Array.toList_inj.1 h)
/-- The bytes of a number that is put. -/
def pb (n : Int) : List Int := if n < 64 then [n] else if n < 16384 then [n / 256 + 64, n % 256] else if n < 1073741824 then [n / 16777216 + 128, n / 65536 % 256, n / 256 % 256, n % 256]
  else [n / 72057594037927936 + 192, n / 281474976710656 % 256, n / 1099511627776 % 256, n / 4294967296 % 256, n / 16777216 % 256, n / 65536 % 256, n / 256 % 256, n % 256]
theorem putB_1 (n : Int) (h0 : 0 ≤ n) (h : n < 64) : putB n 1 = n := by
  unfold putB
  rw [spB_eq n h0 (by omega) 7 (by decide), show IntKind.u8.wrap (IntKind.u8.wrap ((tzOf 1 : Nat) : Int) * 64) = 0 by decide +kernel, Go.bits_join_low .u8 8 (by decide) hk8 6 _ _ (by omega) (by omega) (by omega) (by omega) (by omega) (by omega)]
  omega
theorem putB_2 (n : Int) (h0 : 0 ≤ n) (h : n < 16384) : putB n 2 = n / 256 + 64 := by
  unfold putB
  rw [spB_eq n h0 (by omega) 6 (by decide), show IntKind.u8.wrap (IntKind.u8.wrap ((tzOf 2 : Nat) : Int) * 64) = 64 by decide +kernel, Go.bits_join_low .u8 8 (by decide) hk8 6 _ _ (by omega) (by omega) (by omega) (by omega) (by omega) (by omega)]
  omega
theorem putB_4 (n : Int) (h0 : 0 ≤ n) (h : n < 1073741824) : putB n 4 = n / 16777216 + 128 := by
  unfold putB
  rw [spB_eq n h0 (by omega) 4 (by decide), show IntKind.u8.wrap (IntKind.u8.wrap ((tzOf 4 : Nat) : Int) * 64) = 128 by decide +kernel, Go.bits_join_low .u8 8 (by decide) hk8 6 _ _ (by omega) (by omega) (by omega) (by omega) (by omega) (by omega)]
  omega
theorem putB_8 (n : Int) (h0 : 0 ≤ n) (h : n < 4611686018427387904) : putB n 8 = n / 72057594037927936 + 192 := by
  unfold putB
  rw [spB_eq n h0 (by omega) 0 (by decide), show IntKind.u8.wrap (IntKind.u8.wrap ((tzOf 8 : Nat) : Int) * 64) = 192 by decide +kernel, Go.bits_join_low .u8 8 (by decide) hk8 6 _ _ (by omega) (by omega) (by omega) (by omega) (by omega) (by omega)]
  omega
theorem size_eq (n : Int) (h0 : 0 ≤ n) (h1 : n < 18446744073709551616) : varint_Size.f n = some (if n < 4611686018427387904 then ((pb n).length : Int) else 0) := by
  unfold varint_Size.f pb
  rw [if_pos h0]
  (repeat' split) <;> first | rfl | (exfalso; omega)
theorem put_big (n : Int) (h0 : 4611686018427387904 ≤ n) (h1 : n < 18446744073709551616) : varint_Put.f n = some ((⟨#[]⟩ : ByteArray), 1) := by
  unfold varint_Put.f
  rw [size_eq n (by omega) h1, if_neg (by omega), Option.bind_some, if_pos rfl]
theorem put_eq (n : Int) (h0 : 0 ≤ n) (h1 : n < 4611686018427387904) : varint_Put.f n = some (strOfNums (pb n), 0) := by
  unfold varint_Put.f
  rw [size_eq n h0 (by omega), if_pos h1, Option.bind_some]
  unfold pb
  by_cases c1 : n < 64
  · rw [if_pos c1, if_neg (by simp)]
    show some (strOfNums ((putL n 1).drop 7), (0 : Int)) = _
    unfold putL
    rw [putB_1 n h0 c1, fixL_eq n h0 (by omega)]
    rfl
  by_cases c2 : n < 16384
  · rw [if_neg c1, if_pos c2, if_neg (by simp)]
    show some (strOfNums ((putL n 2).drop 6), (0 : Int)) = _
    unfold putL
    rw [putB_2 n h0 c2, fixL_eq n h0 (by omega)]
    show some (strOfNums [n / 256 + 64, n / 2 ^ 0 % 256], (0 : Int)) = _
    simp
  by_cases c4 : n < 1073741824
  · rw [if_neg c1, if_neg c2, if_pos c4, if_neg (by simp)]
    show some (strOfNums ((putL n 4).drop 4), (0 : Int)) = _
    unfold putL
    rw [putB_4 n h0 c4, fixL_eq n h0 (by omega)]
    show some (strOfNums [n / 16777216 + 128, n / 2 ^ 16 % 256, n / 2 ^ 8 % 256, n / 2 ^ 0 % 256], (0 : Int)) = _
    simp
  · rw [if_neg c1, if_neg c2, if_neg c4, if_neg (by simp)]
    show some (strOfNums ((putL n 8).drop 0), (0 : Int)) = _
    unfold putL
    rw [putB_8 n h0 h1, fixL_eq n h0 (by omega)]
    show some (strOfNums [n / 72057594037927936 + 192, n / 2 ^ 48 % 256, n / 2 ^ 40 % 256, n / 2 ^ 32 % 256, n / 2 ^ 24 % 256, n / 2 ^ 16 % 256, n / 2 ^ 8 % 256, n / 2 ^ 0 % 256], (0 : Int)) = _
    simp
/-- What the bytes of s from i on add to a number. -/
def valF (s : ByteArray) : Nat → Nat → Int → Int
  | 0, _, acc => acc
  | m + 1, i, acc => valF s m (i + 1) (acc * 256 + bt s (i : Int))
theorem get_run (s : ByteArray) (w : Nat) (hw : w ≤ 8) (hs : w ≤ s.size) (hb : ∀ i : Nat, 0 ≤ bt s (i : Int) ∧ bt s (i : Int) < 256) : ∀ (m i k : Nat) (acc : Int), i + m = w → 1 ≤ i → 0 ≤ acc → acc < 64 * 256 ^ (i - 1) →
    varint_Get.l0 (k + m + 1) s (w : Int) acc (i : Int) = some (valF s m i acc, s.extract w s.size, 0) := by
  intro m
  induction m with
  | zero =>
    intro i k acc h _ _ _
    unfold varint_Get.l0
    rw [if_neg (by omega), if_pos (by omega), if_pos (by omega), Int.toNat_natCast]
    rfl
  | succ m ih =>
    intro i k acc h hi h0 h1
    have hi8 : i ≤ 7 := by omega
    have hp : acc < 72057594037927936 := by
      have hh : i = 1 ∨ i = 2 ∨ i = 3 ∨ i = 4 ∨ i = 5 ∨ i = 6 ∨ i = 7 := by omega
      rcases hh with rfl | rfl | rfl | rfl | rfl | rfl | rfl <;> (simp only [Nat.reduceSub, Int.reducePow, Int.reduceMul] at h1; omega)
    obtain ⟨b0, b1⟩ := hb i
    unfold varint_Get.l0
    rw [if_pos (by omega), if_pos (by omega), if_pos (by omega), w64 (by omega) (by omega), wUi (n := acc * 256) (by omega) (by omega), wUi (n := bt s (i : Int)) (by omega) (by omega), bits_join .u64 64 (by decide) hk64 8 _ _ (by omega) (by omega) (by omega) (by omega) (by omega) (by omega)]
    refine ih (i + 1) k _ (by omega) (by omega) (by omega) ?_
    have e : i + 1 - 1 = (i - 1) + 1 := by omega
    rw [e, Int.pow_succ]
    omega
def wid (b : Int) : Nat := if b < 64 then 1 else if b < 128 then 2 else if b < 192 then 4 else 8
theorem wid_b (b : Int) : 1 ≤ wid b ∧ wid b ≤ 8 := by
  unfold wid
  (repeat' split) <;> decide
theorem bt_b (s : ByteArray) (i : Int) : 0 ≤ bt s i ∧ bt s i < 256 := by
  have := bt_range s i
  omega
theorem wid_shl (b : Int) (h0 : 0 ≤ b) (h1 : b < 256) : shl .i64 1 (b / 64) = (wid b : Int) := by
  have h : b / 64 = 0 ∨ b / 64 = 1 ∨ b / 64 = 2 ∨ b / 64 = 3 := by omega
  unfold wid
  rcases h with h | h | h | h <;> rw [h]
  · rw [if_pos (by omega)]; decide +kernel
  · rw [if_neg (by omega), if_pos (by omega)]; decide +kernel
  · rw [if_neg (by omega), if_neg (by omega), if_pos (by omega)]; decide +kernel
  · rw [if_neg (by omega), if_neg (by omega), if_neg (by omega)]; decide +kernel
theorem empty_iff (s : ByteArray) : s.toList = ([] : List UInt8) ↔ s.size = 0 := by
  rw [sizeL]
  exact List.length_eq_zero_iff.symm
theorem get_short (s : ByteArray) (k : Nat) (h : s.size < wid (bt s 0)) : varint_Get.f k s = some (0, (⟨#[]⟩ : ByteArray), 10) := by
  obtain ⟨b0, b1⟩ := bt_b s 0
  unfold varint_Get.f
  by_cases hz : s.size = 0
  · rw [if_pos ((empty_iff s).2 hz)]
  · rw [if_neg (fun h => hz ((empty_iff s).1 h)), if_pos (by omega), if_pos (by omega), wid_shl _ b0 b1, if_pos (by omega)]
theorem get_eq (s : ByteArray) (k : Nat) (hk : 10 ≤ k) (h : wid (bt s 0) ≤ s.size) : varint_Get.f k s = some (valF s (wid (bt s 0) - 1) 1 (bt s 0 % 64), s.extract (wid (bt s 0)) s.size, 0) := by
  obtain ⟨b0, b1⟩ := bt_b s 0
  obtain ⟨w1, w8⟩ := wid_b (bt s 0)
  obtain ⟨j, rfl⟩ := Nat.le.dest hk
  have hm : Go.bits .and .u8 (bt s 0) 63 = bt s 0 % 64 := by
    have := bits_mask .u8 8 (by decide) hk8 6 (by decide) (bt s 0) b0 (by omega)
    exact this
  unfold varint_Get.f
  rw [if_neg (fun h => by have := (empty_iff s).1 h; omega), if_pos (by omega), if_pos (by omega), wid_shl _ b0 b1, if_neg (by omega), hm, wUi (by omega) (by omega)]
  have := get_run s (wid (bt s 0)) w8 h (fun i => bt_b s i) (wid (bt s 0) - 1) 1 (10 + j - wid (bt s 0)) (bt s 0 % 64) (by omega) (by decide) (by omega) (by simp; omega)
  rw [show 10 + j - wid (bt s 0) + (wid (bt s 0) - 1) + 1 = 10 + j by omega] at this
  exact this
theorem bt_list (s : ByteArray) (i : Nat) : bt s (i : Int) = ((s.toList.getD i 0).toNat : Int) := by
  unfold bt
  rw [Go.Lib.toList_data, Int.toNat_natCast]
  by_cases h : i < s.size
  · rw [dif_pos h]
    have h2 : i < s.data.toList.length := by rw [← Go.Lib.size_eq]; exact h
    rw [List.getD_eq_getElem?_getD, List.getElem?_eq_getElem h2]
    rfl
  · rw [dif_neg h]
    have h2 : ¬ i < s.data.toList.length := by rw [← Go.Lib.size_eq]; exact h
    rw [List.getD_eq_getElem?_getD, List.getElem?_eq_none (by omega)]
    rfl
theorem u8n {a : Int} (a0 : 0 ≤ a) (a1 : a < 256) : ((UInt8.ofNat a.toNat).toNat : Int) = a := by
  simp only [UInt8.toNat_ofNat', Nat.reducePow]
  omega
theorem pb_b (n : Int) (h0 : 0 ≤ n) (h1 : n < 4611686018427387904) : ∀ x ∈ pb n, 0 ≤ x ∧ x < 256 := by
  unfold pb
  (repeat' split) <;> (intro x hx; simp only [List.mem_cons, List.not_mem_nil, or_false] at hx; omega)
/-- A byte of what begins by given numbers. -/
theorem bt_nums (xs : List Int) (s : ByteArray) (hx : ∀ x ∈ xs, 0 ≤ x ∧ x < 256) (i : Nat) (hi : i < xs.length) : bt (strOfNums xs ++ s) (i : Int) = xs.getD i 0 := by
  rw [bt_list, appL, numsL, List.getD_eq_getElem?_getD, List.getElem?_append_left (by rw [List.length_map]; exact hi), List.getElem?_map, List.getElem?_eq_getElem hi, List.getD_eq_getElem?_getD, List.getElem?_eq_getElem hi]
  have := hx xs[i] (List.getElem_mem hi)
  exact u8n this.1 this.2
theorem put_wid (n : Int) (s : ByteArray) (h0 : 0 ≤ n) (h1 : n < 4611686018427387904) : wid (bt (strOfNums (pb n) ++ s) 0) = (pb n).length ∧ valF (strOfNums (pb n) ++ s) ((pb n).length - 1) 1 (bt (strOfNums (pb n) ++ s) 0 % 64) = n := by
  have hb := pb_b n h0 h1
  have g : ∀ i : Nat, i < (pb n).length → bt (strOfNums (pb n) ++ s) (i : Int) = (pb n).getD i 0 := bt_nums (pb n) s hb
  have g0 := g 0
  have g1 := g 1
  have g2 := g 2
  have g3 := g 3
  have g4 := g 4
  have g5 := g 5
  have g6 := g 6
  have g7 := g 7
  clear g hb
  by_cases c1 : n < 64
  · have e : pb n = [n] := by
      unfold pb
      rw [if_pos c1]
    clear g1 g2 g3 g4 g5 g6 g7
    rw [e] at g0 ⊢
    simp only [List.length_cons, List.length_nil, List.getD_cons_zero, List.getD_cons_succ, Nat.zero_add, Nat.reduceAdd, Nat.reduceSub] at g0 ⊢
    rw [show ((0 : Nat) : Int) = 0 from rfl] at g0
    rw [g0 (by decide)]
    unfold wid
    rw [if_pos (by omega)]
    refine ⟨rfl, ?_⟩
    simp only [valF, Nat.reduceAdd]
    omega
  by_cases c2 : n < 16384
  · have e : pb n = [n / 256 + 64, n % 256] := by
      unfold pb
      rw [if_neg c1, if_pos c2]
    clear g2 g3 g4 g5 g6 g7
    rw [e] at g0 g1 ⊢
    simp only [List.length_cons, List.length_nil, List.getD_cons_zero, List.getD_cons_succ, Nat.zero_add, Nat.reduceAdd, Nat.reduceSub] at g0 g1 ⊢
    rw [show ((0 : Nat) : Int) = 0 from rfl] at g0
    rw [g0 (by decide)]
    unfold wid
    rw [if_neg (by omega), if_pos (by omega)]
    refine ⟨rfl, ?_⟩
    simp only [valF, Nat.reduceAdd]
    rw [g1 (by decide)]
    omega
  by_cases c4 : n < 1073741824
  · have e : pb n = [n / 16777216 + 128, n / 65536 % 256, n / 256 % 256, n % 256] := by
      unfold pb
      rw [if_neg c1, if_neg c2, if_pos c4]
    clear g4 g5 g6 g7
    rw [e] at g0 g1 g2 g3 ⊢
    simp only [List.length_cons, List.length_nil, List.getD_cons_zero, List.getD_cons_succ, Nat.zero_add, Nat.reduceAdd, Nat.reduceSub] at g0 g1 g2 g3 ⊢
    rw [show ((0 : Nat) : Int) = 0 from rfl] at g0
    rw [g0 (by decide)]
    unfold wid
    rw [if_neg (by omega), if_neg (by omega), if_pos (by omega)]
    refine ⟨rfl, ?_⟩
    simp only [valF, Nat.reduceAdd]
    rw [g1 (by decide), g2 (by decide), g3 (by decide)]
    omega
  · have e : pb n = [n / 72057594037927936 + 192, n / 281474976710656 % 256, n / 1099511627776 % 256, n / 4294967296 % 256, n / 16777216 % 256, n / 65536 % 256, n / 256 % 256, n % 256] := by
      unfold pb
      rw [if_neg c1, if_neg c2, if_neg c4]
    rw [e] at g0 g1 g2 g3 g4 g5 g6 g7 ⊢
    simp only [List.length_cons, List.length_nil, List.getD_cons_zero, List.getD_cons_succ, Nat.zero_add, Nat.reduceAdd, Nat.reduceSub] at g0 g1 g2 g3 g4 g5 g6 g7 ⊢
    rw [show ((0 : Nat) : Int) = 0 from rfl] at g0
    rw [g0 (by decide)]
    unfold wid
    rw [if_neg (by omega), if_neg (by omega), if_neg (by omega)]
    refine ⟨rfl, ?_⟩
    simp only [valF, Nat.reduceAdd]
    rw [g1 (by decide), g2 (by decide), g3 (by decide), g4 (by decide), g5 (by decide), g6 (by decide), g7 (by decide)]
    omega
theorem ext_app (a b : ByteArray) : (a ++ b).extract a.size (a ++ b).size = b := by
  apply ba_ext
  rw [Go.Lib.extract_toList, ← Go.Lib.toList_data, appL, sizeL, sizeL, appL, List.length_append, List.drop_left, Nat.add_sub_cancel_left, List.take_length]
theorem put_get (n : Int) (s : ByteArray) (h0 : 0 ≤ n) (h1 : n < 4611686018427387904) (k : Nat) (hk : 10 ≤ k) : varint_Get.f k (strOfNums (pb n) ++ s) = some (n, s, 0) := by
  obtain ⟨w, v⟩ := put_wid n s h0 h1
  have hs : (strOfNums (pb n)).size = (pb n).length := nums_size _
  rw [get_eq _ k hk (by rw [w, ByteArray.size_append, hs]; omega), w, v, ← hs, ext_app]
theorem pb_l (n : Int) : (pb n).length ≤ 8 := by
  unfold pb
  (repeat' split) <;> simp
def cat (s : ByteArray) : List Int → ByteArray
  | [] => s
  | n :: t => cat (s ++ strOfNums (pb n)) t
theorem app_assoc (a b c : ByteArray) : a ++ b ++ c = a ++ (b ++ c) := by
  apply ba_ext
  rw [appL, appL, appL, appL, List.append_assoc]
theorem app_nil (a : ByteArray) : (⟨#[]⟩ : ByteArray) ++ a = a := by
  apply ba_ext
  have e : (⟨#[]⟩ : ByteArray).toList = ([] : List UInt8) := (empty_iff _).2 rfl
  rw [appL, e, List.nil_append]
theorem nil_app (a : ByteArray) : a ++ (⟨#[]⟩ : ByteArray) = a := by
  apply ba_ext
  have e : (⟨#[]⟩ : ByteArray).toList = ([] : List UInt8) := (empty_iff _).2 rfl
  rw [appL, e, List.append_nil]
theorem cat_app : ∀ (l : List Int) (s : ByteArray), cat s l = s ++ cat ⟨#[]⟩ l
  | [], s => (nil_app s).symm
  | n :: t, s => by
    simp only [cat]
    rw [cat_app t (s ++ strOfNums (pb n)), cat_app t ((⟨#[]⟩ : ByteArray) ++ strOfNums (pb n)), app_nil, app_assoc]
theorem gets_cat : ∀ (l : List Int) (acc : List Int) (k : Nat) (rest : ByteArray), (∀ x ∈ l, 0 ≤ x ∧ x < 4611686018427387904) → 10 ≤ k → acc.length + l.length ≤ 1000 →
    varint_Gets.l0 (k + l.length + 1) (l.length : Int) acc (cat ⟨#[]⟩ l ++ rest) = some (acc ++ l, rest, 0)
  | [], acc, k, rest, _, _, _ => by
    unfold varint_Gets.l0
    rw [if_neg (by simp), List.append_nil]
    simp only [cat, app_nil]
  | n :: t, acc, k, rest, hx, hk, hl => by
    have hn := hx n (List.mem_cons_self)
    have ih := gets_cat t (acc ++ [n]) k rest (fun x h => hx x (List.mem_cons_of_mem _ h)) hk (by simp at hl ⊢; omega)
    have e : cat ⟨#[]⟩ (n :: t) ++ rest = strOfNums (pb n) ++ (cat ⟨#[]⟩ t ++ rest) := by
      simp only [cat]
      rw [cat_app, app_nil, app_assoc]
    simp only [List.length_cons] at hl ⊢
    rw [e]
    unfold varint_Gets.l0
    rw [if_pos (by omega), put_get n _ hn.1 hn.2 _ (by omega), Option.bind_some]
    dsimp only
    rw [if_pos rfl, if_pos (by omega), w64 (by omega) (by omega), show (((t.length + 1 : Nat) : Int) - 1) = (t.length : Int) by omega, show k + (t.length + 1) = k + t.length + 1 by omega, ih, List.append_assoc]
    rfl
/-- A number, the length of a text, and the text. -/
def pr (n : Int) (x : ByteArray) : ByteArray := strOfNums (pb n) ++ (strOfNums (pb (x.size : Int)) ++ x)
def cats : List (Int × ByteArray) → ByteArray
  | [] => ⟨#[]⟩
  | p :: t => pr p.1 p.2 ++ cats t
theorem cats_app : ∀ a b : List (Int × ByteArray), cats (a ++ b) = cats a ++ cats b
  | [], b => (app_nil _).symm
  | p :: t, b => by
    simp only [List.cons_append, cats]
    rw [cats_app t b, app_assoc]
theorem baSize (a b : ByteArray) : (a ++ b).size = a.size + b.size := ByteArray.size_append
theorem nil_size : (⟨#[]⟩ : ByteArray).size = 0 := rfl
theorem pr_size (n : Int) (x : ByteArray) : x.size ≤ (pr n x).size ∧ (pr n x).size ≤ x.size + 16 := by
  unfold pr
  rw [baSize, baSize, nums_size, nums_size]
  have h1 := pb_l n
  have h2 := pb_l (x.size : Int)
  omega
theorem pb_pos (n : Int) : 0 < (pb n).length := by
  unfold pb
  repeat' split
  all_goals simp
theorem pr_pos (n : Int) (x : ByteArray) : 2 ≤ (pr n x).size := by
  unfold pr
  rw [baSize, baSize, nums_size, nums_size]
  have h1 := pb_pos n
  have h2 := pb_pos (x.size : Int)
  omega
theorem cat_two (n m : Int) : cat ⟨#[]⟩ [n, m] = strOfNums (pb n) ++ strOfNums (pb m) := by
  simp only [cat]
  rw [app_nil]
theorem pair_eq (n : Int) (x : ByteArray) (h0 : 0 ≤ n) (h1 : n < 4611686018427387904) (hx : x.size ≤ 140737488351232) : params_pair.f n x = some (pr n x) := by
  have e1 := put_eq n h0 h1
  have e2 := put_eq (x.size : Int) (by omega) (by omega)
  have l1 := pb_l n
  have l2 := pb_l (x.size : Int)
  unfold params_pair.f varint_Puts.f
  simp only [putsL, e1, e2, Option.bind_some, app_nil]
  have s1 := nums_size (pb n)
  have s2 := nums_size (pb (x.size : Int))
  rw [if_pos trivial, if_pos (by rw [nil_size]; omega), if_pos trivial, if_pos (by omega), Option.bind_some]
  dsimp only
  rw [if_pos (by rw [baSize]; omega)]
  unfold pr
  rw [app_assoc]
theorem ext_pre (a b : ByteArray) : (a ++ b).extract 0 a.size = a := by
  apply ba_ext
  rw [Go.Lib.toList_data, Go.Lib.toList_data, ByteArray.data_extract, ByteArray.data_append]
  have h : a.size = a.data.toList.length := Go.Lib.size_eq a
  simp
  rw [h, List.take_length]
theorem gets_two (n : Int) (x s : ByteArray) (h0 : 0 ≤ n) (h1 : n < 4611686018427387904) (hx : x.size ≤ 140737488351232) (k : Nat) (hk : 13 ≤ k) : varint_Gets.f k (pr n x ++ s) 2 = some ([n, (x.size : Int)], x ++ s, 0) := by
  obtain ⟨j, rfl⟩ : ∃ j, k = j + 2 + 1 := ⟨k - 3, by omega⟩
  have h := gets_cat [n, (x.size : Int)] [] j (x ++ s) (by intro y hy; simp at hy; omega) (by omega) (by simp)
  rw [cat_two] at h
  unfold varint_Gets.f
  have e : pr n x ++ s = strOfNums (pb n) ++ strOfNums (pb (x.size : Int)) ++ (x ++ s) := by
    unfold pr
    rw [app_assoc, app_assoc, app_assoc]
  rw [e]
  exact h
theorem nonempty_of {s : ByteArray} (h : 0 < s.size) : ¬ s.toList = ([] : List UInt8) := fun e => by have := (empty_iff s).1 e; omega
theorem prs_cons (n : Int) (x s : ByteArray) (h0 : 0 ≤ n) (h1 : n < 4611686018427387904) (hx : x.size + s.size ≤ 140737488351232) (k : Nat) (hk : 13 ≤ k) :
    prsL (k + 1) (pr n x ++ s) = (prsL k s).bind fun t => some ((n, some x) :: t) := by
  have hp := pr_pos n x
  rw [prsL, if_neg (nonempty_of (by rw [baSize]; omega)), gets_two n x s h0 h1 (by omega) k hk, Option.bind_some]
  dsimp only
  have r0 : rd [n, (x.size : Int)] 0 = n := rfl
  have r1 : rd [n, (x.size : Int)] 1 = (x.size : Int) := rfl
  rw [if_pos rfl, if_pos (by simp), r1, r0, if_pos (by rw [baSize]; omega), if_neg (by rw [baSize]; omega)]
  simp only [Int.toNat_natCast]
  rw [ext_app, ext_pre]
theorem prs_nil (k : Nat) : prsL (k + 1) ⟨#[]⟩ = some [] := by
  rw [prsL, if_pos ((empty_iff _).2 rfl)]
def someL (l : List (Int × ByteArray)) : List (Int × Option ByteArray) := l.map fun p => (p.1, some p.2)
theorem prs_cats : ∀ (l : List (Int × ByteArray)) (k : Nat), (∀ p ∈ l, 0 ≤ p.1 ∧ p.1 < 4611686018427387904) → (cats l).size ≤ 140737488351232 → 13 ≤ k → prsL (k + l.length + 1) (cats l) = some (someL l)
  | [], k, _, _, _ => prs_nil _
  | p :: t, k, hl, hs, hk => by
    have hp := hl p (List.mem_cons_self)
    have hz := (pr_size p.1 p.2).1
    simp only [cats, baSize] at hs
    have ih := prs_cats t k (fun q hq => hl q (List.mem_cons_of_mem _ hq)) (by omega) hk
    simp only [cats, List.length_cons]
    rw [show k + (t.length + 1) + 1 = (k + t.length + 1) + 1 by omega, prs_cons p.1 p.2 (cats t) hp.1 hp.2 (by omega) _ (by omega), ih]
    rfl
/-! ### the fold over what was put -/
def itN (n x d : Int) : List (Int × ByteArray) := if x = d then [] else [(n, strOfNums (pb x))]
def itT (tok : ByteArray) : List (Int × ByteArray) := if tok.toList = ([] : List UInt8) then [] else [(2, tok)]
theorem u64_wf {n : Int} (h0 : 0 ≤ n) (h1 : n < 18446744073709551616) : (Lit.int .u64 n).wf = true := by
  have e1 : IntKind.u64.min = 0 := by decide
  have e2 : IntKind.u64.max = 18446744073709551615 := by decide
  simp [Lit.wf, e1, e2]
  omega
theorem cnt_less {n : Int} {had : List Int} (h : ∀ x ∈ had, x < n) : cntT n had = 0 := by
  unfold cntT
  rw [List.filter_eq_nil_iff.2 (fun x hx => by have := h x hx; simp; omega)]
  rfl
theorem set_same {v : List Int} {i : Nat} {d : Int} (h : rd v (i : Int) = d) (hi : i < v.length) : v.set i d = v := by
  subst h
  apply List.ext_getElem (by simp)
  intro j h1 h2
  by_cases e : i = j
  · subst e
    simp [rd, hi]
  · simp [List.getElem_set_ne e]
theorem get_num (x : Int) (h0 : 0 ≤ x) (h1 : x < 4611686018427387904) (k : Nat) (hk : 10 ≤ k) : varint_Get.f k (strOfNums (pb x)) = some (x, ⟨#[]⟩, 0) := by
  have h := put_get x ⟨#[]⟩ h0 h1 k hk
  rwa [nil_app] at h
theorem fold_num (k : Nat) (hk : 10 ≤ k) {n x d : Int} {i : Nat} {v : List Int} {had : List Int} (tok : ByteArray) (rest : List (Int × ByteArray)) (hn0 : 0 ≤ n) (hn1 : n < 100) (hn2 : n ≠ 2) (hx0 : 0 ≤ x) (hx1 : x < 4611686018427387904)
    (hf : fldOf n = some i) (hv : rd v (i : Int) = d) (hi : i < v.length) (hh : ∀ h ∈ had, h < n) :
    ∃ had', (∀ h ∈ had', h ≤ n) ∧ getFold k (someL (itN n x d ++ rest)) v tok had = getFold k (someL rest) (v.set i x) tok had' := by
  unfold itN
  by_cases e : x = d
  · rw [if_pos e]
    refine ⟨had, fun h hh' => Int.le_of_lt (hh h hh'), ?_⟩
    rw [set_same (hv.trans e.symm) hi]
    rfl
  · rw [if_neg e]
    refine ⟨had ++ [n], ?_, ?_⟩
    · intro h hh'
      rcases List.mem_append.1 hh' with h1 | h1
      · exact Int.le_of_lt (hh h h1)
      · simp at h1; omega
    · show getFold k ((n, some (strOfNums (pb x))) :: someL rest) v tok had = _
      rw [getFold, if_pos (u64_wf hn0 (by omega)), getStep]
      dsimp only
      rw [if_pos (cnt_less hh), if_neg hn2, hf]
      dsimp only
      rw [get_num x hx0 hx1 k hk]
      simp only [Option.bind_some, if_true]
      rw [if_pos ((empty_iff _).2 rfl)]
      rfl
theorem fold_tok (k : Nat) {v : List Int} {had : List Int} (tok : ByteArray) (rest : List (Int × ByteArray)) (ht : tok.toList = ([] : List UInt8) ∨ (tok.size : Int) = 16) (hh : ∀ h ∈ had, h < 2) :
    ∃ had', (∀ h ∈ had', h ≤ 2) ∧ getFold k (someL (itT tok ++ rest)) v ⟨#[]⟩ had = getFold k (someL rest) v tok had' := by
  unfold itT
  by_cases e : tok.toList = ([] : List UInt8)
  · rw [if_pos e]
    obtain rfl : tok = ⟨#[]⟩ := ba_ext (e.trans ((empty_iff _).2 rfl).symm)
    exact ⟨had, fun h hh' => Int.le_of_lt (hh h hh'), rfl⟩
  · rw [if_neg e]
    refine ⟨had ++ [2], ?_, ?_⟩
    · intro h hh'
      rcases List.mem_append.1 hh' with h1 | h1
      · exact Int.le_of_lt (hh h h1)
      · simp at h1; omega
    · show getFold k ((2, some tok) :: someL rest) v ⟨#[]⟩ had = _
      rw [getFold, if_pos (u64_wf (n := 2) (by omega) (by omega)), getStep]
      dsimp only
      rw [if_pos (cnt_less hh), if_pos rfl, if_pos (ht.resolve_left e)]
      rfl
theorem prmOk_not {x0 x1 x2 x3 x4 x5 x6 x7 x8 x9 x10 : Int} {tok : ByteArray} (h : prmOk x0 x1 x2 x3 x4 x5 x6 x7 x8 x9 x10 tok) : (x0 ≤ 4611686018427387903 ∧ x1 ≤ 4611686018427387903 ∧ x2 ≤ 4611686018427387903 ∧ x3 ≤ 4611686018427387903 ∧ x4 ≤ 4611686018427387903 ∧ x5 ≤ 4611686018427387903 ∧ x6 ≤ 4611686018427387903 ∧ x7 ≤ 4611686018427387903 ∧ x8 ≤ 4611686018427387903 ∧ x9 ≤ 4611686018427387903 ∧ x10 ≤ 4611686018427387903) ∧ 1200 ≤ x1 ∧ x6 ≤ 1152921504606846976 ∧ x7 ≤ 1152921504606846976 ∧ x8 ≤ 20 ∧ x9 < 16384 ∧ 2 ≤ x10 ∧ (tok.size = 0 ∨ tok.size = 16) := by
  obtain ⟨ha, h1, h2, h3, h4, h5, h6, h7⟩ := h
  simp only [prmL, List.mem_cons, List.not_mem_nil, or_false, forall_eq_or_imp, forall_eq] at ha
  have ht : tok.size = 0 ∨ tok.size = 16 := by
    rcases h7 with h | h
    · exact Or.inl ((empty_iff _).1 h)
    · exact Or.inr (by omega)
  omega
theorem prmOk_of {x0 x1 x2 x3 x4 x5 x6 x7 x8 x9 x10 : Int} {tok : ByteArray} (h : (x0 ≤ 4611686018427387903 ∧ x1 ≤ 4611686018427387903 ∧ x2 ≤ 4611686018427387903 ∧ x3 ≤ 4611686018427387903 ∧ x4 ≤ 4611686018427387903 ∧ x5 ≤ 4611686018427387903 ∧ x6 ≤ 4611686018427387903 ∧ x7 ≤ 4611686018427387903 ∧ x8 ≤ 4611686018427387903 ∧ x9 ≤ 4611686018427387903 ∧ x10 ≤ 4611686018427387903) ∧ 1200 ≤ x1 ∧ x6 ≤ 1152921504606846976 ∧ x7 ≤ 1152921504606846976 ∧ x8 ≤ 20 ∧ x9 < 16384 ∧ 2 ≤ x10 ∧ (tok.size = 0 ∨ tok.size = 16)) : prmOk x0 x1 x2 x3 x4 x5 x6 x7 x8 x9 x10 tok := by
  obtain ⟨ha, h1, h2, h3, h4, h5, h6, h7⟩ := h
  refine ⟨?_, by omega, by omega, by omega, by omega, by omega, by omega, ?_⟩
  · simp only [prmL, List.mem_cons, List.not_mem_nil, or_false, forall_eq_or_imp, forall_eq]
    omega
  · rcases h7 with h | h
    · exact Or.inl ((empty_iff _).2 h)
    · exact Or.inr (by omega)
def itE (tok : ByteArray) : Nat → List (Option (Int × Int)) → List (Int × ByteArray)
  | _, [] => []
  | k, e :: t => (if k = 2 then itT tok else []) ++ ((match e with
      | none => []
      | some (v, d) => itN (k : Int) v d) ++ itE tok (k + 1) t)
theorem itN_b {n x d : Int} (_hx : 0 ≤ x ∧ x < 4611686018427387904) : ∀ p ∈ itN n x d, p.1 = n ∧ p.2.size ≤ 8 := by
  intro p hp
  unfold itN at hp
  by_cases e : x = d
  · rw [if_pos e] at hp; cases hp
  · rw [if_neg e] at hp
    obtain rfl := List.mem_singleton.1 hp
    exact ⟨rfl, by rw [nums_size]; exact pb_l x⟩
theorem itT_b {tok : ByteArray} : ∀ p ∈ itT tok, p.1 = 2 ∧ p.2 = tok := by
  intro p hp
  unfold itT at hp
  by_cases e : tok.toList = ([] : List UInt8)
  · rw [if_pos e] at hp; cases hp
  · rw [if_neg e] at hp
    obtain rfl := List.mem_singleton.1 hp
    exact ⟨rfl, rfl⟩
theorem itN_len (n x d : Int) : (itN n x d).length ≤ 1 := by
  unfold itN; split <;> simp
theorem itT_len (tok : ByteArray) : (itT tok).length ≤ 1 := by
  unfold itT; split <;> simp
theorem cats_size : ∀ (l : List (Int × ByteArray)), (∀ p ∈ l, p.2.size ≤ 16) → (cats l).size ≤ 32 * l.length
  | [], _ => by simp [cats, nil_size]
  | p :: t, h => by
    have h1 := h p (List.mem_cons_self)
    have h2 := (pr_size p.1 p.2).2
    have h3 := cats_size t (fun q hq => h q (List.mem_cons_of_mem _ hq))
    simp only [cats, baSize, List.length_cons]
    omega
theorem cats_one (n : Int) (x : ByteArray) : cats [(n, x)] = pr n x := by
  simp only [cats]
  rw [nil_app]
theorem addS_eq (s q : ByteArray) (h : s.size + q.size ≤ 140737488355328) : addS s q = some (s ++ q) := by
  unfold addS; rw [if_pos h]
theorem tokS_eq (tok : ByteArray) (ht : tok.size ≤ 16) (k : Nat) (s : ByteArray) (hs : s.size ≤ 100000) : tokS tok k s = some (s ++ cats (if k = 2 then itT tok else [])) := by
  unfold tokS itT
  by_cases h : k = 2
  · rw [if_pos h, if_pos h]
    by_cases e : tok.toList = ([] : List UInt8)
    · rw [if_pos e, if_pos e]
      simp only [cats]
      rw [nil_app]
    · have hz := (pr_size 2 tok).2
      rw [if_neg e, if_neg e, pair_eq 2 tok (by decide) (by decide) (by omega), Option.bind_some, addS_eq _ _ (by omega), cats_one]
  · rw [if_neg h, if_neg h]
    simp only [cats]
    rw [nil_app]
theorem numS_eq (k : Nat) (hk : k < 1000) (v d : Int) (hv : 0 ≤ v ∧ v < 4611686018427387904) (s : ByteArray) (hs : s.size ≤ 100000) : numS k (some (v, d)) s = some (s ++ cats (itN (k : Int) v d)) := by
  unfold numS itN
  dsimp only
  by_cases e : v = d
  · rw [if_pos e, if_pos e]
    simp only [cats]
    rw [nil_app]
  · have hl := pb_l v
    have hn := nums_size (pb v)
    have hz := (pr_size (k : Int) (strOfNums (pb v))).2
    rw [if_neg e, if_neg e, put_eq v hv.1 hv.2, Option.bind_some]
    dsimp only
    rw [pair_eq _ _ (by omega) (by omega) (by omega), Option.bind_some, addS_eq _ _ (by omega), cats_one]
theorem putE_eq (tok : ByteArray) (ht : tok.size ≤ 16) : ∀ (E : List (Option (Int × Int))) (k : Nat) (s : ByteArray), (∀ v d, some (v, d) ∈ E → 0 ≤ v ∧ v < 4611686018427387904) → k + E.length < 1000 → s.size + 64 * E.length ≤ 90000 →
    putE tok k E s = some (s ++ cats (itE tok k E))
  | [], k, s, _, _, _ => by
    simp only [putE, itE, cats]
    rw [nil_app]
  | e :: t, k, s, hE, hk, hs => by
    simp only [List.length_cons] at hk hs
    have h1 : (cats (if k = 2 then itT tok else [])).size ≤ 32 := by
      split
      · have := cats_size (itT tok) (fun p hp => by rw [(itT_b p hp).2]; exact ht)
        have := itT_len tok
        omega
      · exact Nat.zero_le _
    rw [putE, tokS_eq tok ht k s (by omega), Option.bind_some]
    cases e with
    | none =>
      show (some (s ++ cats (if k = 2 then itT tok else []))).bind _ = _
      rw [Option.bind_some, putE_eq tok ht t (k + 1) _ (fun v d h => hE v d (List.mem_cons_of_mem _ h)) (by omega) (by rw [baSize]; omega)]
      simp only [itE]
      rw [cats_app, List.nil_append, app_assoc]
    | some q =>
      obtain ⟨v, d⟩ := q
      have hv := hE v d (List.mem_cons_self)
      have h2 : (cats (itN (k : Int) v d)).size ≤ 32 := by
        have := cats_size (itN (k : Int) v d) (fun p hp => by have := (itN_b hv p hp).2; omega)
        have := itN_len (k : Int) v d
        omega
      rw [numS_eq k (by omega) v d hv _ (by rw [baSize]; omega), Option.bind_some, putE_eq tok ht t (k + 1) _ (fun v d h => hE v d (List.mem_cons_of_mem _ h)) (by omega) (by rw [baSize, baSize]; omega)]
      simp only [itE]
      rw [cats_app, cats_app, app_assoc, app_assoc]
def items (x0 x1 x2 x3 x4 x5 x6 x7 x8 x9 x10 : Int) (tok : ByteArray) : List (Int × ByteArray) :=
  itN 1 x0 0 ++ (itT tok ++ (itN 3 x1 65527 ++ (itN 4 x2 0 ++ (itN 5 x3 0 ++ (itN 6 x4 0 ++ (itN 7 x5 0 ++ (itN 8 x6 0 ++ (itN 9 x7 0 ++ (itN 10 x8 3 ++ (itN 11 x9 25 ++ itN 14 x10 2))))))))))
theorem itE_items (x0 x1 x2 x3 x4 x5 x6 x7 x8 x9 x10 : Int) (tok : ByteArray) : itE tok 0 (prmE x0 x1 x2 x3 x4 x5 x6 x7 x8 x9 x10) = items x0 x1 x2 x3 x4 x5 x6 x7 x8 x9 x10 tok := by
  simp [prmE, itE, items]
def nonN (x0 x1 x2 x3 x4 x5 x6 x7 x8 x9 x10 : Int) : Prop := 0 ≤ x0 ∧ 0 ≤ x1 ∧ 0 ≤ x2 ∧ 0 ≤ x3 ∧ 0 ≤ x4 ∧ 0 ≤ x5 ∧ 0 ≤ x6 ∧ 0 ≤ x7 ∧ 0 ≤ x8 ∧ 0 ≤ x9 ∧ 0 ≤ x10
theorem put_ok {x0 x1 x2 x3 x4 x5 x6 x7 x8 x9 x10 : Int} {tok : ByteArray} (h : prmOk x0 x1 x2 x3 x4 x5 x6 x7 x8 x9 x10 tok) (hn : nonN x0 x1 x2 x3 x4 x5 x6 x7 x8 x9 x10) :
    params_Put.f x0 x1 x2 x3 x4 x5 x6 x7 x8 x9 x10 tok = some (cats (items x0 x1 x2 x3 x4 x5 x6 x7 x8 x9 x10 tok), 0) := by
  have ho := prmOk_not h
  obtain ⟨n0, n1, n2, n3, n4, n5, n6, n7, n8, n9, n10⟩ := hn
  rw [params_Put.f, if_pos h, putE_eq tok (by omega) _ 0 ⟨#[]⟩ (by
    intro v d hv
    simp only [prmE, List.mem_cons, List.not_mem_nil, or_false, Option.some.injEq, Prod.mk.injEq, reduceCtorEq, false_or] at hv
    omega) (by simp [prmE]) (by simp [prmE, nil_size]), itE_items, app_nil]
  rfl
theorem put_no {x0 x1 x2 x3 x4 x5 x6 x7 x8 x9 x10 : Int} {tok : ByteArray} (h : ¬ prmOk x0 x1 x2 x3 x4 x5 x6 x7 x8 x9 x10 tok) : params_Put.f x0 x1 x2 x3 x4 x5 x6 x7 x8 x9 x10 tok = some (⟨#[]⟩, 50) := by
  rw [params_Put.f, if_neg h]
/-! ### back -/
def v0L : List Int := [0, 65527, 0, 0, 0, 0, 0, 0, 3, 25, 2]
theorem fold_items (k : Nat) (hk : 10 ≤ k) {x0 x1 x2 x3 x4 x5 x6 x7 x8 x9 x10 : Int} {tok : ByteArray} (h : prmOk x0 x1 x2 x3 x4 x5 x6 x7 x8 x9 x10 tok) (hn : nonN x0 x1 x2 x3 x4 x5 x6 x7 x8 x9 x10) :
    getFold k (someL (items x0 x1 x2 x3 x4 x5 x6 x7 x8 x9 x10 tok)) v0L ⟨#[]⟩ [] = some (some ([x0, x1, x2, x3, x4, x5, x6, x7, x8, x9, x10], tok)) := by
  have ho := prmOk_not h
  obtain ⟨n0, n1, n2, n3, n4, n5, n6, n7, n8, n9, n10⟩ := hn
  have ht : tok.toList = ([] : List UInt8) ∨ (tok.size : Int) = 16 := h.2.2.2.2.2.2.2
  have lt : ∀ {a b : Int} {had : List Int}, (∀ h ∈ had, h ≤ a) → a < b → ∀ h ∈ had, h < b := fun h1 h2 q hq => by have := h1 q hq; omega
  unfold items v0L
  obtain ⟨d1, e1, f1⟩ := fold_num k hk (n := 1) (x := x0) (d := 0) (i := 0) (v := [0, 65527, 0, 0, 0, 0, 0, 0, 3, 25, 2]) (had := []) ⟨#[]⟩ _ (by omega) (by omega) (by omega) n0 (by omega) rfl rfl (by simp) (by simp)
  rw [f1]
  obtain ⟨d2, e2, f2⟩ := fold_tok k (v := [x0, 65527, 0, 0, 0, 0, 0, 0, 3, 25, 2]) tok _ ht (lt e1 (by omega))
  refine Eq.trans f2 ?_
  obtain ⟨d3, e3, f3⟩ := fold_num k hk (n := 3) (x := x1) (d := 65527) (i := 1) (v := [x0, 65527, 0, 0, 0, 0, 0, 0, 3, 25, 2]) tok _ (by omega) (by omega) (by omega) n1 (by omega) rfl rfl (by simp) (lt e2 (by omega))
  refine Eq.trans f3 ?_
  obtain ⟨d4, e4, f4⟩ := fold_num k hk (n := 4) (x := x2) (d := 0) (i := 2) (v := [x0, x1, 0, 0, 0, 0, 0, 0, 3, 25, 2]) tok _ (by omega) (by omega) (by omega) n2 (by omega) rfl rfl (by simp) (lt e3 (by omega))
  refine Eq.trans f4 ?_
  obtain ⟨d5, e5, f5⟩ := fold_num k hk (n := 5) (x := x3) (d := 0) (i := 3) (v := [x0, x1, x2, 0, 0, 0, 0, 0, 3, 25, 2]) tok _ (by omega) (by omega) (by omega) n3 (by omega) rfl rfl (by simp) (lt e4 (by omega))
  refine Eq.trans f5 ?_
  obtain ⟨d6, e6, f6⟩ := fold_num k hk (n := 6) (x := x4) (d := 0) (i := 4) (v := [x0, x1, x2, x3, 0, 0, 0, 0, 3, 25, 2]) tok _ (by omega) (by omega) (by omega) n4 (by omega) rfl rfl (by simp) (lt e5 (by omega))
  refine Eq.trans f6 ?_
  obtain ⟨d7, e7, f7⟩ := fold_num k hk (n := 7) (x := x5) (d := 0) (i := 5) (v := [x0, x1, x2, x3, x4, 0, 0, 0, 3, 25, 2]) tok _ (by omega) (by omega) (by omega) n5 (by omega) rfl rfl (by simp) (lt e6 (by omega))
  refine Eq.trans f7 ?_
  obtain ⟨d8, e8, f8⟩ := fold_num k hk (n := 8) (x := x6) (d := 0) (i := 6) (v := [x0, x1, x2, x3, x4, x5, 0, 0, 3, 25, 2]) tok _ (by omega) (by omega) (by omega) n6 (by omega) rfl rfl (by simp) (lt e7 (by omega))
  refine Eq.trans f8 ?_
  obtain ⟨d9, e9, f9⟩ := fold_num k hk (n := 9) (x := x7) (d := 0) (i := 7) (v := [x0, x1, x2, x3, x4, x5, x6, 0, 3, 25, 2]) tok _ (by omega) (by omega) (by omega) n7 (by omega) rfl rfl (by simp) (lt e8 (by omega))
  refine Eq.trans f9 ?_
  obtain ⟨d10, e10, f10⟩ := fold_num k hk (n := 10) (x := x8) (d := 3) (i := 8) (v := [x0, x1, x2, x3, x4, x5, x6, x7, 3, 25, 2]) tok _ (by omega) (by omega) (by omega) n8 (by omega) rfl rfl (by simp) (lt e9 (by omega))
  refine Eq.trans f10 ?_
  obtain ⟨d11, e11, f11⟩ := fold_num k hk (n := 11) (x := x9) (d := 25) (i := 9) (v := [x0, x1, x2, x3, x4, x5, x6, x7, x8, 25, 2]) tok _ (by omega) (by omega) (by omega) n9 (by omega) rfl rfl (by simp) (lt e10 (by omega))
  refine Eq.trans f11 ?_
  obtain ⟨d12, e12, f12⟩ := fold_num k hk (n := 14) (x := x10) (d := 2) (i := 10) (v := [x0, x1, x2, x3, x4, x5, x6, x7, x8, x9, 2]) tok [] (by omega) (by omega) (by omega) n10 (by omega) rfl rfl (by simp) (lt e11 (by omega))
  rw [List.append_nil] at f12
  exact f12
/-- What is told of the fold's end. -/
def fin (r : Option (List Int × ByteArray)) : Option (Int × Int × Int × Int × Int × Int × Int × Int × Int × Int × Int × ByteArray × Int) := match r with
    | none => some (0, 0, 0, 0, 0, 0, 0, 0, 0, 0, 0, (⟨#[]⟩ : ByteArray), 50)
    | some q => (params_Check.f (rd q.1 0) (rd q.1 1) (rd q.1 2) (rd q.1 3) (rd q.1 4) (rd q.1 5) (rd q.1 6) (rd q.1 7) (rd q.1 8) (rd q.1 9) (rd q.1 10) q.2).bind fun e =>
        if e = 0 then some (rd q.1 0, rd q.1 1, rd q.1 2, rd q.1 3, rd q.1 4, rd q.1 5, rd q.1 6, rd q.1 7, rd q.1 8, rd q.1 9, rd q.1 10, q.2, 0) else some (0, 0, 0, 0, 0, 0, 0, 0, 0, 0, 0, (⟨#[]⟩ : ByteArray), e)
theorem get_fin (k : Nat) (s : ByteArray) {xs : List (Int × Option ByteArray)} (h : prsL k s = some xs) (hl : xs.length < 4611686018427387904) {r : Option (List Int × ByteArray)} (hf : getFold k xs v0L ⟨#[]⟩ [] = some r) : params_Get.f k s = fin r := by
  unfold v0L at hf
  rw [params_Get.f, h, Option.bind_some, if_pos hl, hf, Option.bind_some]
  cases r <;> rfl
theorem get_cats (k : Nat) (l : List (Int × ByteArray)) (hl : ∀ p ∈ l, 0 ≤ p.1 ∧ p.1 < 4611686018427387904) (hs : (cats l).size ≤ 140737488351232) (hk : 14 + l.length ≤ k) (h2 : l.length < 1000) {r : Option (List Int × ByteArray)} (hf : getFold k (someL l) v0L ⟨#[]⟩ [] = some r) :
    params_Get.f k (cats l) = fin r := by
  have h := prs_cats l (k - l.length - 1) hl hs (by omega)
  rw [show k - l.length - 1 + l.length + 1 = k by omega] at h
  exact get_fin k _ h (by simp [someL]; omega) hf
theorem fin_ok {x0 x1 x2 x3 x4 x5 x6 x7 x8 x9 x10 : Int} {tok : ByteArray} (h : prmOk x0 x1 x2 x3 x4 x5 x6 x7 x8 x9 x10 tok) : fin (some ([x0, x1, x2, x3, x4, x5, x6, x7, x8, x9, x10], tok)) = some (x0, x1, x2, x3, x4, x5, x6, x7, x8, x9, x10, tok, 0) := by
  show (params_Check.f x0 x1 x2 x3 x4 x5 x6 x7 x8 x9 x10 tok).bind _ = _
  rw [params_Check.f, if_pos h]
  rfl
theorem items_b {x0 x1 x2 x3 x4 x5 x6 x7 x8 x9 x10 : Int} {tok : ByteArray} (h : prmOk x0 x1 x2 x3 x4 x5 x6 x7 x8 x9 x10 tok) (hn : nonN x0 x1 x2 x3 x4 x5 x6 x7 x8 x9 x10) :
    ∀ p ∈ items x0 x1 x2 x3 x4 x5 x6 x7 x8 x9 x10 tok, (0 ≤ p.1 ∧ p.1 < 100) ∧ p.2.size ≤ 16 := by
  have ho := prmOk_not h
  obtain ⟨n0, n1, n2, n3, n4, n5, n6, n7, n8, n9, n10⟩ := hn
  intro p hp
  unfold items at hp
  simp only [List.mem_append] at hp
  have hN : ∀ {n x d : Int}, 0 ≤ n → n < 100 → 0 ≤ x → x < 4611686018427387904 → p ∈ itN n x d → (0 ≤ p.1 ∧ p.1 < 100) ∧ p.2.size ≤ 16 := fun a b c d e => by
    have := itN_b ⟨c, d⟩ p e
    omega
  rcases hp with hp | hp | hp | hp | hp | hp | hp | hp | hp | hp | hp | hp
  · exact hN (by omega) (by omega) n0 (by omega) hp
  · have := itT_b p hp
    rw [this.1, this.2]
    exact ⟨by omega, by omega⟩
  · exact hN (by omega) (by omega) n1 (by omega) hp
  · exact hN (by omega) (by omega) n2 (by omega) hp
  · exact hN (by omega) (by omega) n3 (by omega) hp
  · exact hN (by omega) (by omega) n4 (by omega) hp
  · exact hN (by omega) (by omega) n5 (by omega) hp
  · exact hN (by omega) (by omega) n6 (by omega) hp
  · exact hN (by omega) (by omega) n7 (by omega) hp
  · exact hN (by omega) (by omega) n8 (by omega) hp
  · exact hN (by omega) (by omega) n9 (by omega) hp
  · exact hN (by omega) (by omega) n10 (by omega) hp
theorem items_len (x0 x1 x2 x3 x4 x5 x6 x7 x8 x9 x10 : Int) (tok : ByteArray) : (items x0 x1 x2 x3 x4 x5 x6 x7 x8 x9 x10 tok).length ≤ 12 := by
  unfold items
  simp only [List.length_append]
  have h0 := itN_len 1 x0 0
  have h1 := itT_len tok
  have h2 := itN_len 3 x1 65527
  have h3 := itN_len 4 x2 0
  have h4 := itN_len 5 x3 0
  have h5 := itN_len 6 x4 0
  have h6 := itN_len 7 x5 0
  have h7 := itN_len 8 x6 0
  have h8 := itN_len 9 x7 0
  have h9 := itN_len 10 x8 3
  have h10 := itN_len 11 x9 25
  have h11 := itN_len 14 x10 2
  omega
theorem get_put (k : Nat) (hk : 30 ≤ k) {x0 x1 x2 x3 x4 x5 x6 x7 x8 x9 x10 : Int} {tok : ByteArray} (h : prmOk x0 x1 x2 x3 x4 x5 x6 x7 x8 x9 x10 tok) (hn : nonN x0 x1 x2 x3 x4 x5 x6 x7 x8 x9 x10) :
    params_Get.f k (cats (items x0 x1 x2 x3 x4 x5 x6 x7 x8 x9 x10 tok)) = some (x0, x1, x2, x3, x4, x5, x6, x7, x8, x9, x10, tok, 0) := by
  have hl := items_len x0 x1 x2 x3 x4 x5 x6 x7 x8 x9 x10 tok
  have hb := items_b h hn
  have hs := cats_size _ (fun p hp => (hb p hp).2)
  rw [get_cats k _ (fun p hp => by have := (hb p hp).1; omega) (by omega) (by omega) (by omega) (fold_items k (by omega) h hn), fin_ok h]
theorem ok_dflt (x2 : Int) (h0 : 0 ≤ x2) (h1 : x2 < 4611686018427387904) : prmOk 0 65527 x2 0 0 0 0 0 3 25 2 ⟨#[]⟩ ∧ nonN 0 65527 x2 0 0 0 0 0 3 25 2 := by
  refine ⟨prmOk_of ?_, by unfold nonN; omega⟩
  rw [nil_size]
  omega
theorem itN_same (n d : Int) : itN n d d = [] := if_pos rfl
theorem itN_diff (n x d : Int) (h : x ≠ d) : itN n x d = [(n, strOfNums (pb x))] := if_neg h
theorem itT_nil : itT ⟨#[]⟩ = [] := if_pos ((empty_iff _).2 rfl)
theorem items_data (x2 : Int) : items 0 65527 x2 0 0 0 0 0 3 25 2 ⟨#[]⟩ = itN 4 x2 0 := by
  unfold items
  rw [itN_same, itT_nil, itN_same, itN_same, itN_same, itN_same, itN_same, itN_same, itN_same, itN_same, itN_same]
  simp
theorem dflt_eq : params_Default.f = some (0, 65527, 0, 0, 0, 0, 0, 0, 3, 25, 2, ⟨#[]⟩) := rfl
theorem shown_all (k : Nat) (hk : 40 ≤ k) : dominolaw05_shown.f k = some true := by
  have ho := ok_dflt 64 (by decide) (by decide)
  have hp := put_ok ho.1 ho.2
  have hg := get_put k (by omega) ho.1 ho.2
  have hs : (cats (items 0 65527 64 0 0 0 0 0 3 25 2 ⟨#[]⟩)).toList = ([4, 2, 64, 64] : List UInt8) := by
    rw [items_data, itN_diff _ _ _ (by decide), cats_one]
    unfold pr
    rw [appL, appL, nums_size, numsL, numsL, numsL]
    decide
  have hc : params_Check.f 0 0 0 0 0 0 0 0 0 0 0 ⟨#[]⟩ = some 50 := by
    rw [params_Check.f, if_neg (fun h => by have := prmOk_not h; omega)]
  unfold dominolaw05_shown.f
  simp only [dflt_eq, Option.bind_some, hp, hg, hs, hc, if_true, beq_self_eq_true, Bool.and_true]
theorem valF_b (s : ByteArray) : ∀ (m i : Nat) (acc B : Int), 0 ≤ acc → acc < B → 0 ≤ valF s m i acc ∧ valF s m i acc < B * 256 ^ m
  | 0, i, acc, B, h0, h1 => by
    simp only [valF, Int.pow_zero, Int.mul_one]
    exact ⟨h0, h1⟩
  | m + 1, i, acc, B, h0, h1 => by
    have hb := bt_b s (i : Int)
    have ih := valF_b s m (i + 1) (acc * 256 + bt s (i : Int)) (B * 256) (by omega) (by omega)
    simp only [valF]
    rw [Int.pow_succ, Int.mul_comm (256 ^ m) 256, ← Int.mul_assoc]
    exact ih
theorem get_info (s : ByteArray) : ∃ v r e, (∀ k, 10 ≤ k → varint_Get.f k s = some (v, r, e)) ∧ (e = 0 → 0 ≤ v ∧ v < 4611686018427387904 ∧ r.size < s.size) := by
  by_cases h : s.size < wid (bt s 0)
  · exact ⟨0, ⟨#[]⟩, 10, fun k _ => get_short s k h, fun e => absurd e (by decide)⟩
  · have h' : wid (bt s 0) ≤ s.size := by omega
    have hb := bt_b s 0
    have hw := wid_b (bt s 0)
    refine ⟨_, _, 0, fun k hk => get_eq s k hk h', fun _ => ?_⟩
    have hv := valF_b s (wid (bt s 0) - 1) 1 (bt s 0 % 64) 64 (by omega) (by omega)
    have hz : (s.extract (wid (bt s 0)) s.size).size = s.size - wid (bt s 0) := by
      rw [ByteArray.size_extract]; omega
    refine ⟨hv.1, ?_, by omega⟩
    have hm : wid (bt s 0) - 1 ≤ 7 := by omega
    have hp : (64 : Int) * 256 ^ (wid (bt s 0) - 1) ≤ 4611686018427387904 := by
      generalize wid (bt s 0) - 1 = m at hm
      have hh : m = 0 ∨ m = 1 ∨ m = 2 ∨ m = 3 ∨ m = 4 ∨ m = 5 ∨ m = 6 ∨ m = 7 := by omega
      rcases hh with rfl | rfl | rfl | rfl | rfl | rfl | rfl | rfl <;> decide
    omega
theorem gets_info (s : ByteArray) : ∃ L r e, (∀ k, 13 ≤ k → varint_Gets.f k s 2 = some (L, r, e)) ∧ (e = 0 → ∃ a b, L = [a, b] ∧ 0 ≤ a ∧ a < 4611686018427387904 ∧ 0 ≤ b ∧ b < 4611686018427387904 ∧ r.size + 2 ≤ s.size) := by
  obtain ⟨a, r, e, h1, h2⟩ := get_info s
  by_cases he : e = 0
  · obtain ⟨b, r', e', h3, h4⟩ := get_info r
    by_cases he' : e' = 0
    · refine ⟨[a, b], r', 0, fun k hk => ?_, fun _ => ⟨a, b, rfl, ?_⟩⟩
      · obtain ⟨j, rfl⟩ : ∃ j, k = j + 1 + 1 + 1 := ⟨k - 3, by omega⟩
        unfold varint_Gets.f
        rw [varint_Gets.l0, if_pos (by omega), h1 _ (by omega), Option.bind_some]
        dsimp only
        rw [if_pos he, if_pos (by simp), w64 (by omega) (by omega), varint_Gets.l0, if_pos (by omega), h3 _ (by omega), Option.bind_some]
        dsimp only
        rw [if_pos he', if_pos (by simp), w64 (by omega) (by omega), varint_Gets.l0, if_neg (by omega)]
        rfl
      · have := h2 he
        have := h4 he'
        omega
    · refine ⟨[], ⟨#[]⟩, e', fun k hk => ?_, fun h => absurd h he'⟩
      obtain ⟨j, rfl⟩ : ∃ j, k = j + 1 + 1 + 1 := ⟨k - 3, by omega⟩
      unfold varint_Gets.f
      rw [varint_Gets.l0, if_pos (by omega), h1 _ (by omega), Option.bind_some]
      dsimp only
      rw [if_pos he, if_pos (by simp), w64 (by omega) (by omega), varint_Gets.l0, if_pos (by omega), h3 _ (by omega), Option.bind_some]
      dsimp only
      rw [if_neg he']
  · refine ⟨[], ⟨#[]⟩, e, fun k hk => ?_, fun h => absurd h he⟩
    obtain ⟨j, rfl⟩ : ∃ j, k = j + 1 := ⟨k - 1, by omega⟩
    unfold varint_Gets.f
    rw [varint_Gets.l0, if_pos (by omega), h1 _ (by omega), Option.bind_some]
    dsimp only
    rw [if_neg he]
theorem ext_size_r (a : ByteArray) (n : Nat) : (a.extract n a.size).size = a.size - n := by
  rw [ByteArray.size_extract]; omega
/-- Any text's pairs. -/
theorem prs_total : ∀ (m : Nat) (s : ByteArray), s.size ≤ m → m ≤ 100000 → ∃ xs, (∀ k, m + 20 ≤ k → prsL k s = some xs) ∧ xs.length ≤ m + 1 ∧ ∀ x ∈ xs, 0 ≤ x.1 ∧ x.1 < 4611686018427387904 := by
  intro m
  induction m with
  | zero =>
    intro s hs _
    obtain rfl : s = ⟨#[]⟩ := ba_ext (((empty_iff s).2 (by omega)).trans ((empty_iff _).2 rfl).symm)
    refine ⟨[], fun k hk => ?_, by simp, by simp⟩
    obtain ⟨j, rfl⟩ : ∃ j, k = j + 1 := ⟨k - 1, by omega⟩
    exact prs_nil j
  | succ m ih =>
    intro s hs hm
    by_cases hz : s.size = 0
    · obtain rfl : s = ⟨#[]⟩ := ba_ext (((empty_iff s).2 hz).trans ((empty_iff _).2 rfl).symm)
      refine ⟨[], fun k hk => ?_, by simp, by simp⟩
      obtain ⟨j, rfl⟩ : ∃ j, k = j + 1 := ⟨k - 1, by omega⟩
      exact prs_nil j
    have hne : ¬ s.toList = ([] : List UInt8) := fun e => hz ((empty_iff s).1 e)
    obtain ⟨L, r, e, h1, h2⟩ := gets_info s
    by_cases he : e = 0
    · obtain ⟨a, b, rfl, a0, a1, b0, b1, hr⟩ := h2 he
      have r0 : rd [a, b] 0 = a := rfl
      have r1 : rd [a, b] 1 = b := rfl
      by_cases hb : b > (r.size : Int)
      · refine ⟨[(0, none)], fun k hk => ?_, by simp, by simp⟩
        obtain ⟨j, rfl⟩ : ∃ j, k = j + 1 := ⟨k - 1, by omega⟩
        rw [prsL, if_neg hne, h1 _ (by omega), Option.bind_some]
        dsimp only
        rw [if_pos he, if_pos (by simp), r1, if_pos (by omega), if_pos hb]
      · obtain ⟨xs, i1, i2, i3⟩ := ih (r.extract b.toNat r.size) (by rw [ext_size_r]; omega) (by omega)
        refine ⟨(a, some (r.extract 0 b.toNat)) :: xs, fun k hk => ?_, by simp; omega, ?_⟩
        · obtain ⟨j, rfl⟩ : ∃ j, k = j + 1 := ⟨k - 1, by omega⟩
          rw [prsL, if_neg hne, h1 _ (by omega), Option.bind_some]
          dsimp only
          rw [if_pos he, if_pos (by simp), r1, r0, if_pos (by omega), if_neg hb, i1 _ (by omega)]
          rfl
        · intro x hx
          rcases List.mem_cons.1 hx with rfl | hx
          · exact ⟨a0, a1⟩
          · exact i3 x hx
    · refine ⟨[(0, none)], fun k hk => ?_, by simp, by simp⟩
      obtain ⟨j, rfl⟩ : ∃ j, k = j + 1 := ⟨k - 1, by omega⟩
      rw [prsL, if_neg hne, h1 _ (by omega), Option.bind_some]
      dsimp only
      rw [if_neg he]
def inR (v : List Int) : Prop := ∀ x ∈ v, 0 ≤ x
theorem step_total (v : List Int) (tok : ByteArray) (had : List Int) (x : Int × Option ByteArray) (hl : v.length = 11) (hv : inR v) : ∃ R, (∀ k, 10 ≤ k → getStep k v tok had x = some R) ∧ ∀ q, R = some q → q.1.length = 11 ∧ inR q.1 := by
  obtain ⟨z, _ | s⟩ := x
  · exact ⟨none, fun _ _ => rfl, fun _ h => by cases h⟩
  by_cases hc : cntT z had = 0
  case neg => exact ⟨none, fun k _ => by rw [getStep]; dsimp only; rw [if_neg hc], fun _ h => by cases h⟩
  by_cases h2 : z = 2
  · by_cases h16 : (s.size : Int) = 16
    · exact ⟨some (v, s), fun k _ => by rw [getStep]; dsimp only; rw [if_pos hc, if_pos h2, if_pos h16], fun q h => by cases h; exact ⟨hl, hv⟩⟩
    · exact ⟨none, fun k _ => by rw [getStep]; dsimp only; rw [if_pos hc, if_pos h2, if_neg h16], fun _ h => by cases h⟩
  cases hf : fldOf z with
  | none => exact ⟨some (v, tok), fun k _ => by rw [getStep]; dsimp only; rw [if_pos hc, if_neg h2, hf], fun q h => by cases h; exact ⟨hl, hv⟩⟩
  | some i =>
    obtain ⟨n, r, e, h1, hn⟩ := get_info s
    by_cases he : e = 0
    · by_cases hr : r.toList = ([] : List UInt8)
      · refine ⟨some (v.set i n, tok), fun k hk => ?_, fun q h => ?_⟩
        · rw [getStep]; dsimp only; rw [if_pos hc, if_neg h2, hf]; dsimp only; rw [h1 k hk, Option.bind_some]; dsimp only; rw [if_pos he, if_pos hr]
        · cases h
          refine ⟨by rw [List.length_set]; exact hl, fun y hy => ?_⟩
          rcases List.mem_or_eq_of_mem_set hy with h | h
          · exact hv y h
          · rw [h]; exact (hn he).1
      · exact ⟨none, fun k hk => by rw [getStep]; dsimp only; rw [if_pos hc, if_neg h2, hf]; dsimp only; rw [h1 k hk, Option.bind_some]; dsimp only; rw [if_pos he, if_neg hr], fun _ h => by cases h⟩
    · exact ⟨none, fun k hk => by rw [getStep]; dsimp only; rw [if_pos hc, if_neg h2, hf]; dsimp only; rw [h1 k hk, Option.bind_some]; dsimp only; rw [if_neg he], fun _ h => by cases h⟩
theorem fold_total : ∀ (xs : List (Int × Option ByteArray)) (v : List Int) (tok : ByteArray) (had : List Int), (∀ x ∈ xs, 0 ≤ x.1 ∧ x.1 < 4611686018427387904) → v.length = 11 → inR v → ∃ R, (∀ k, 10 ≤ k → getFold k xs v tok had = some R) ∧ ∀ q, R = some q → q.1.length = 11 ∧ inR q.1
  | [], v, tok, had, _, hl, hv => ⟨some (v, tok), fun _ _ => rfl, fun q h => by cases h; exact ⟨hl, hv⟩⟩
  | x :: t, v, tok, had, hx, hl, hv => by
    obtain ⟨S, s1, s2⟩ := step_total v tok had x hl hv
    have hw := hx x (List.mem_cons_self)
    cases S with
    | none =>
      refine ⟨none, fun k hk => ?_, fun _ h => by cases h⟩
      rw [getFold, if_pos (u64_wf hw.1 (by omega)), s1 k hk]
      rfl
    | some q =>
      obtain ⟨R, r1, r2⟩ := fold_total t q.1 q.2 (had ++ [x.1]) (fun y hy => hx y (List.mem_cons_of_mem _ hy)) (s2 q rfl).1 (s2 q rfl).2
      refine ⟨R, fun k hk => ?_, r2⟩
      rw [getFold, if_pos (u64_wf hw.1 (by omega)), s1 k hk, Option.bind_some]
      exact r1 k hk
theorem v0_in : inR v0L := by
  unfold inR v0L
  simp
theorem get_total (s : ByteArray) (hs : s.size ≤ 1000) : ∃ R, (∀ k, 1020 ≤ k → params_Get.f k s = fin R) ∧ ∀ q, R = some q → q.1.length = 11 ∧ inR q.1 := by
  obtain ⟨xs, h1, h2, h3⟩ := prs_total 1000 s hs (by omega)
  obtain ⟨R, r1, r2⟩ := fold_total xs v0L ⟨#[]⟩ [] h3 rfl v0_in
  exact ⟨R, fun k hk => get_fin k s (h1 k hk) (by omega) (r1 k (by omega)), r2⟩
theorem eleven {v : List Int} (h : v.length = 11) (hv : inR v) : ∃ x0 x1 x2 x3 x4 x5 x6 x7 x8 x9 x10, v = [x0, x1, x2, x3, x4, x5, x6, x7, x8, x9, x10] ∧ nonN x0 x1 x2 x3 x4 x5 x6 x7 x8 x9 x10 := by
  match v, h with
  | [x0, x1, x2, x3, x4, x5, x6, x7, x8, x9, x10], _ =>
    refine ⟨x0, x1, x2, x3, x4, x5, x6, x7, x8, x9, x10, rfl, ?_⟩
    unfold inR at hv
    simp only [List.mem_cons, List.not_mem_nil, or_false, forall_eq_or_imp, forall_eq] at hv
    exact hv
/-- What Get tells of any text: refused, or parameters that may be. -/
theorem get_says (s : ByteArray) (hs : s.size ≤ 1000) : (∃ e, e ≠ 0 ∧ ∀ k, 1020 ≤ k → params_Get.f k s = some (0, 0, 0, 0, 0, 0, 0, 0, 0, 0, 0, ⟨#[]⟩, e)) ∨
    ∃ x0 x1 x2 x3 x4 x5 x6 x7 x8 x9 x10 tok, prmOk x0 x1 x2 x3 x4 x5 x6 x7 x8 x9 x10 tok ∧ nonN x0 x1 x2 x3 x4 x5 x6 x7 x8 x9 x10 ∧ ∀ k, 1020 ≤ k → params_Get.f k s = some (x0, x1, x2, x3, x4, x5, x6, x7, x8, x9, x10, tok, 0) := by
  obtain ⟨R, h1, h2⟩ := get_total s hs
  cases R with
  | none => exact Or.inl ⟨50, by decide, fun k hk => (h1 k hk).trans rfl⟩
  | some q =>
    obtain ⟨v, tok⟩ := q
    obtain ⟨a1, a2⟩ := h2 _ rfl
    obtain ⟨x0, x1, x2, x3, x4, x5, x6, x7, x8, x9, x10, rfl, hn⟩ := eleven a1 a2
    by_cases ho : prmOk x0 x1 x2 x3 x4 x5 x6 x7 x8 x9 x10 tok
    · exact Or.inr ⟨x0, x1, x2, x3, x4, x5, x6, x7, x8, x9, x10, tok, ho, hn, fun k hk => (h1 k hk).trans (fin_ok ho)⟩
    · refine Or.inl ⟨50, by decide, fun k hk => (h1 k hk).trans ?_⟩
      show (params_Check.f x0 x1 x2 x3 x4 x5 x6 x7 x8 x9 x10 tok).bind _ = _
      rw [params_Check.f, if_neg ho]
      rfl
theorem back_two (k : Nat) (hk : 1021 ≤ k) (s : ByteArray) (hs : s.size ≤ 600) : dominolaw05_ParamsBack.j1 (k + 1) s = some true := by
  rw [dominolaw05_ParamsBack.j1]
  rcases get_says s (by omega) with ⟨e, he, h⟩ | ⟨x0, x1, x2, x3, x4, x5, x6, x7, x8, x9, x10, tok, ho, hn, h⟩
  · rw [h k (by omega), Option.bind_some]
    dsimp only
    rw [if_neg he]
    have en : ((⟨#[]⟩ : ByteArray).toList == ([] : List UInt8)) = true := by rw [(empty_iff _).2 rfl]; rfl
    simp only [beq_self_eq_true, Bool.and_true, en]
  · have hc : params_Check.f x0 x1 x2 x3 x4 x5 x6 x7 x8 x9 x10 tok = some 0 := by rw [params_Check.f, if_pos ho]
    rw [h k (by omega), Option.bind_some]
    dsimp only
    rw [if_pos rfl, put_ok ho hn, Option.bind_some]
    dsimp only
    rw [get_put k (by omega) ho hn, Option.bind_some, hc, Option.bind_some]
    simp only [if_true, beq_self_eq_true, Bool.and_true]
theorem ParamsBack : dominolaw05_ParamsBack.Pure := by
  intro x0 x1 x2 x3 x4 x5 x6 x7 x8 x9 x10 tok s w0 w1 w2 w3 w4 w5 w6 w7 w8 w9 w10 w11 w12
  have hn : nonN x0 x1 x2 x3 x4 x5 x6 x7 x8 x9 x10 := ⟨(u64b w0).1, (u64b w1).1, (u64b w2).1, (u64b w3).1, (u64b w4).1, (u64b w5).1, (u64b w6).1, (u64b w7).1, (u64b w8).1, (u64b w9).1, (u64b w10).1⟩
  refine ⟨1030, ?_⟩
  have hd : dominolaw05_ParamsBack.j0 1030 s true x0 x1 x2 x3 x4 x5 x6 x7 x8 x9 x10 tok = some true := by
    rw [dominolaw05_ParamsBack.j0, if_pos rfl, shown_all 1029 (by omega)]
    rfl
  unfold dominolaw05_ParamsBack.f
  by_cases h1 : (tok.size : Int) > 100
  · rw [if_pos h1]; exact hd
  rw [if_neg h1]
  by_cases h2 : (s.size : Int) > 600
  · rw [if_pos h2]; exact hd
  rw [if_neg h2, shown_all 1030 (by omega), Option.bind_some, dominolaw05_ParamsBack.j0, if_neg (by simp)]
  have hj := back_two 1028 (by omega) s (by omega)
  by_cases ho : prmOk x0 x1 x2 x3 x4 x5 x6 x7 x8 x9 x10 tok
  · rw [put_ok ho hn, Option.bind_some]
    dsimp only
    rw [if_pos rfl, get_put 1029 (by omega) ho hn, Option.bind_some]
    dsimp only
    rw [if_pos rfl, if_neg (by simp)]
    exact hj
  · rw [put_no ho, Option.bind_some]
    dsimp only
    rw [if_neg (by decide)]
    exact hj

end Go.Proofs.YthbnedjcaflofaaDoor.Pure
