/- The law ParamsTells of the claim in plain Lean: the document's functions are the program's. -/
import Derived.Test.YthbnedjcaflofaaDoorPPaxx12
import Derived.Lib.Bytes
import Derived.Lib.EndianBits
namespace Go.Proofs.YthbnedjcaflofaaDoor.Pure
open Go.RowKit Go.Proofs.YthbnedjcaflofaaDoor.PPax Go.Proofs.YthbnedjcaflofaaDoorW.PrintWords Go.Proofs.YthbnedjcaflofaaDoorW.PrintLast
set_option linter.unusedVariables false
set_option linter.unusedSimpArgs false
set_option linter.unusedVariables false
set_option linter.unusedSimpArgs false
theorem u64b {n : Int} (h : (Lit.int .u64 n).wf = true) : 0 ≤ n ∧ n < 18446744073709551616 := by
  simp [Lit.wf, IntKind.min, IntKind.max, IntKind.signed, IntKind.bits] at h
  omega
theorem wU (n : Int) : IntKind.u64.wrap n = n % 18446744073709551616 := IntKind.wrap_u64 n
theorem wUb (n : Int) : 0 ≤ IntKind.u64.wrap n ∧ IntKind.u64.wrap n < 18446744073709551616 := by rw [wU]; omega
theorem wUi {n : Int} (h0 : 0 ≤ n) (h1 : n < 18446744073709551616) : IntKind.u64.wrap n = n := by rw [wU]; omega
theorem hk64 : ∀ n : Int, 0 ≤ n → n < 2 ^ 64 → IntKind.u64.wrap n = n := fun n a b => wUi a (by simpa using b)
theorem spB_eq (n : Int) (h0 : 0 ≤ n) (h1 : n < 18446744073709551616) (i : Nat) (hi : i < 8) : spB n i = n / 2 ^ (56 - 8 * i) % 256 := by
  have : i = 0 ∨ i = 1 ∨ i = 2 ∨ i = 3 ∨ i = 4 ∨ i = 5 ∨ i = 6 ∨ i = 7 := by omega
  unfold spB bits_RotateLeft64.f
  rcases this with rfl | rfl | rfl | rfl | rfl | rfl | rfl | rfl
  · rw [show Go.bits .and .u64 (IntKind.u64.wrap (8 * ((0 : Nat) : Int) + 8)) 63 = 8 by decide +kernel, show IntKind.u64.wrap (64 - 8) = 56 by decide, if_pos (by decide), if_pos (by decide), Option.getD_some, show shl .u64 n 8 = n * 2 ^ 8 % 18446744073709551616 from wU _, show shr .u64 n 56 = n / 2 ^ 56 from rfl, bits_join .u64 64 (by decide) hk64 8 _ _ (by omega) (by omega) (by omega) (by omega) (by omega) (by omega)]
    simp only [Nat.mul_zero, Nat.sub_zero]
    omega
  · rw [show Go.bits .and .u64 (IntKind.u64.wrap (8 * ((1 : Nat) : Int) + 8)) 63 = 16 by decide +kernel, show IntKind.u64.wrap (64 - 16) = 48 by decide, if_pos (by decide), if_pos (by decide), Option.getD_some, show shl .u64 n 16 = n * 2 ^ 16 % 18446744073709551616 from wU _, show shr .u64 n 48 = n / 2 ^ 48 from rfl, bits_join .u64 64 (by decide) hk64 16 _ _ (by omega) (by omega) (by omega) (by omega) (by omega) (by omega)]
    simp only [Nat.reduceMul, Nat.reduceSub]
    omega
  · rw [show Go.bits .and .u64 (IntKind.u64.wrap (8 * ((2 : Nat) : Int) + 8)) 63 = 24 by decide +kernel, show IntKind.u64.wrap (64 - 24) = 40 by decide, if_pos (by decide), if_pos (by decide), Option.getD_some, show shl .u64 n 24 = n * 2 ^ 24 % 18446744073709551616 from wU _, show shr .u64 n 40 = n / 2 ^ 40 from rfl, bits_join .u64 64 (by decide) hk64 24 _ _ (by omega) (by omega) (by omega) (by omega) (by omega) (by omega)]
    simp only [Nat.reduceMul, Nat.reduceSub]
    omega
  · rw [show Go.bits .and .u64 (IntKind.u64.wrap (8 * ((3 : Nat) : Int) + 8)) 63 = 32 by decide +kernel, show IntKind.u64.wrap (64 - 32) = 32 by decide, if_pos (by decide), if_pos (by decide), Option.getD_some, show shl .u64 n 32 = n * 2 ^ 32 % 18446744073709551616 from wU _, show shr .u64 n 32 = n / 2 ^ 32 from rfl, bits_join .u64 64 (by decide) hk64 32 _ _ (by omega) (by omega) (by omega) (by omega) (by omega) (by omega)]
    simp only [Nat.reduceMul, Nat.reduceSub]
    omega
  · rw [show Go.bits .and .u64 (IntKind.u64.wrap (8 * ((4 : Nat) : Int) + 8)) 63 = 40 by decide +kernel, show IntKind.u64.wrap (64 - 40) = 24 by decide, if_pos (by decide), if_pos (by decide), Option.getD_some, show shl .u64 n 40 = n * 2 ^ 40 % 18446744073709551616 from wU _, show shr .u64 n 24 = n / 2 ^ 24 from rfl, bits_join .u64 64 (by decide) hk64 40 _ _ (by omega) (by omega) (by omega) (by omega) (by omega) (by omega)]
    simp only [Nat.reduceMul, Nat.reduceSub]
    omega
  · rw [show Go.bits .and .u64 (IntKind.u64.wrap (8 * ((5 : Nat) : Int) + 8)) 63 = 48 by decide +kernel, show IntKind.u64.wrap (64 - 48) = 16 by decide, if_pos (by decide), if_pos (by decide), Option.getD_some, show shl .u64 n 48 = n * 2 ^ 48 % 18446744073709551616 from wU _, show shr .u64 n 16 = n / 2 ^ 16 from rfl, bits_join .u64 64 (by decide) hk64 48 _ _ (by omega) (by omega) (by omega) (by omega) (by omega) (by omega)]
    simp only [Nat.reduceMul, Nat.reduceSub]
    omega
  · rw [show Go.bits .and .u64 (IntKind.u64.wrap (8 * ((6 : Nat) : Int) + 8)) 63 = 56 by decide +kernel, show IntKind.u64.wrap (64 - 56) = 8 by decide, if_pos (by decide), if_pos (by decide), Option.getD_some, show shl .u64 n 56 = n * 2 ^ 56 % 18446744073709551616 from wU _, show shr .u64 n 8 = n / 2 ^ 8 from rfl, bits_join .u64 64 (by decide) hk64 56 _ _ (by omega) (by omega) (by omega) (by omega) (by omega) (by omega)]
    simp only [Nat.reduceMul, Nat.reduceSub]
    omega
  · rw [show Go.bits .and .u64 (IntKind.u64.wrap (8 * ((7 : Nat) : Int) + 8)) 63 = 0 by decide +kernel, show IntKind.u64.wrap (64 - 0) = 64 by decide, if_pos (by decide), if_pos (by decide), Option.getD_some, show shl .u64 n 0 = n * 2 ^ 0 % 18446744073709551616 from wU _, show shr .u64 n 64 = n / 2 ^ 64 from rfl, bits_join .u64 64 (by decide) hk64 0 _ _ (by omega) (by omega) (by omega) (by omega) (by omega) (by omega)]
    simp only [Nat.reduceMul, Nat.reduceSub]
    omega
theorem fixL_eq (n : Int) (h0 : 0 ≤ n) (h1 : n < 18446744073709551616) : fixL n = [n / 2 ^ 56 % 256, n / 2 ^ 48 % 256, n / 2 ^ 40 % 256, n / 2 ^ 32 % 256, n / 2 ^ 24 % 256, n / 2 ^ 16 % 256, n / 2 ^ 8 % 256, n / 2 ^ 0 % 256] := by
  unfold fixL
  rw [show List.range 8 = [0, 1, 2, 3, 4, 5, 6, 7] from rfl]
  simp only [List.map_cons, List.map_nil]
  rw [spB_eq n h0 h1 0 (by decide), spB_eq n h0 h1 1 (by decide), spB_eq n h0 h1 2 (by decide), spB_eq n h0 h1 3 (by decide), spB_eq n h0 h1 4 (by decide), spB_eq n h0 h1 5 (by decide), spB_eq n h0 h1 6 (by decide), spB_eq n h0 h1 7 (by decide)]
theorem u8_eq {a b : Int} (a0 : 0 ≤ a) (a1 : a < 256) (b0 : 0 ≤ b) (b1 : b < 256) (h : UInt8.ofNat a.toNat = UInt8.ofNat b.toNat) : a = b := by
  have := congrArg UInt8.toNat h
  simp only [UInt8.toNat_ofNat', Nat.reducePow] at this
  omega
theorem w64 {n : Int} (h0 : 0 ≤ n) (h1 : n < 9223372036854775808) : wrap64 n = n := by
  unfold wrap64
  first | omega | (simp [IntKind.wrap, IntKind.bits, IntKind.signed]; omega)
theorem hk8 : ∀ n : Int, 0 ≤ n → n < 2 ^ 8 → IntKind.u8.wrap n = n := fun n a b => by
  have : n < 256 := by simpa using b
  simp [IntKind.wrap, IntKind.bits, IntKind.signed]
  omega
theorem sizeL (s : ByteArray) : s.size = s.toList.length := by rw [Go.Lib.toList_data, Go.Lib.size_eq]
theorem appL (a b : ByteArray) : (a ++ b).toList = a.toList ++ b.toList := by
  rw [Go.Lib.toList_data, Go.Lib.toList_data, Go.Lib.toList_data, ByteArray.data_append, Array.toList_append]
theorem numsL (xs : List Int) : (strOfNums xs).toList = xs.map fun n => UInt8.ofNat n.toNat := Go.Lib.strOfNums_toList xs
theorem nums_size (xs : List Int) : (strOfNums xs).size = xs.length := by rw [sizeL, numsL, List.length_map]
theorem ba_ext {a b : ByteArray} (h : a.toList = b.toList) : a = b := by
  rw [Go.Lib.toList_data, Go.Lib.toList_data] at h
  cases a
  cases b
  exact congrArg ByteArray.mk (Array.toList_inj.1 h)
/-- The bytes of a number that is put. -/
def pb (n : Int) : List Int := if n < 64 then [n] else if n < 16384 then [n / 256 + 64, n % 256] else if n < 1073741824 then [n / 16777216 + 128, n / 65536 % 256, n / 256 % 256, n % 256]
  else [n / 72057594037927936 + 192, n / 281474976710656 % 256, n / 1099511627776 % 256, n / 4294967296 % 256, n / 16777216 % 256, n / 65536 % 256, n / 256 % 256, n % 256]
theorem putB_1 (n : Int) (h0 : 0 ≤ n) (h : n < 64) : putB n 1 = n := by
  unfold putB
  rw [spB_eq n h0 (by omega) 7 (by decide), show IntKind.u8.wrap (IntKind.u8.wrap ((tzOf 1 : Nat) : Int) * 64) = 0 by decide +kernel, Go.bits_join_low .u8 8 (by decide) hk8 6 _ _ (by omega) (by omega) (by omega) (by omega) (by omega) (by omega)]
  omega
theorem putB_2 (n : Int) (h0 : 0 ≤ n) (h : n < 16384) : putB n 2 = n / 256 + 64 := by
  unfold putB
  rw [spB_eq n h0 (by omega) 6 (by decide), show IntKind.u8.wrap (IntKind.u8.wrap ((tzOf 2 : Nat) : Int) * 64) = 64 by decide +kernel, Go.bits_join_low .u8 8 (by decide) hk8 6 _ _ (by omega) (by omega) (by omega) (by omega) (by omega) (by omega)]
  omega
theorem putB_4 (n : Int) (h0 : 0 ≤ n) (h : n < 1073741824) : putB n 4 = n / 16777216 + 128 := by
  unfold putB
  rw [spB_eq n h0 (by omega) 4 (by decide), show IntKind.u8.wrap (IntKind.u8.wrap ((tzOf 4 : Nat) : Int) * 64) = 128 by decide +kernel, Go.bits_join_low .u8 8 (by decide) hk8 6 _ _ (by omega) (by omega) (by omega) (by omega) (by omega) (by omega)]
  omega
theorem putB_8 (n : Int) (h0 : 0 ≤ n) (h : n < 4611686018427387904) : putB n 8 = n / 72057594037927936 + 192 := by
  unfold putB
  rw [spB_eq n h0 (by omega) 0 (by decide), show IntKind.u8.wrap (IntKind.u8.wrap ((tzOf 8 : Nat) : Int) * 64) = 192 by decide +kernel, Go.bits_join_low .u8 8 (by decide) hk8 6 _ _ (by omega) (by omega) (by omega) (by omega) (by omega) (by omega)]
  omega
theorem size_eq (n : Int) (h0 : 0 ≤ n) (h1 : n < 18446744073709551616) : varint_Size.f n = some (if n < 4611686018427387904 then ((pb n).length : Int) else 0) := by
  unfold varint_Size.f pb
  rw [if_pos h0]
  (repeat' split) <;> first | rfl | (exfalso; omega)
theorem put_big (n : Int) (h0 : 4611686018427387904 ≤ n) (h1 : n < 18446744073709551616) : varint_Put.f n = some ((⟨#[]⟩ : ByteArray), 1) := by
  unfold varint_Put.f
  rw [size_eq n (by omega) h1, if_neg (by omega), Option.bind_some, if_pos rfl]
theorem put_eq (n : Int) (h0 : 0 ≤ n) (h1 : n < 4611686018427387904) : varint_Put.f n = some (strOfNums (pb n), 0) := by
  unfold varint_Put.f
  rw [size_eq n h0 (by omega), if_pos h1, Option.bind_some]
  unfold pb
  by_cases c1 : n < 64
  · rw [if_pos c1, if_neg (by simp)]
    show some (strOfNums ((putL n 1).drop 7), (0 : Int)) = _
    unfold putL
    rw [putB_1 n h0 c1, fixL_eq n h0 (by omega)]
    rfl
  by_cases c2 : n < 16384
  · rw [if_neg c1, if_pos c2, if_neg (by simp)]
    show some (strOfNums ((putL n 2).drop 6), (0 : Int)) = _
    unfold putL
    rw [putB_2 n h0 c2, fixL_eq n h0 (by omega)]
    show some (strOfNums [n / 256 + 64, n / 2 ^ 0 % 256], (0 : Int)) = _
    simp
  by_cases c4 : n < 1073741824
  · rw [if_neg c1, if_neg c2, if_pos c4, if_neg (by simp)]
    show some (strOfNums ((putL n 4).drop 4), (0 : Int)) = _
    unfold putL
    rw [putB_4 n h0 c4, fixL_eq n h0 (by omega)]
    show some (strOfNums [n / 16777216 + 128, n / 2 ^ 16 % 256, n / 2 ^ 8 % 256, n / 2 ^ 0 % 256], (0 : Int)) = _
    simp
  · rw [if_neg c1, if_neg c2, if_neg c4, if_neg (by simp)]
    show some (strOfNums ((putL n 8).drop 0), (0 : Int)) = _
    unfold putL
    rw [putB_8 n h0 h1, fixL_eq n h0 (by omega)]
    show some (strOfNums [n / 72057594037927936 + 192, n / 2 ^ 48 % 256, n / 2 ^ 40 % 256, n / 2 ^ 32 % 256, n / 2 ^ 24 % 256, n / 2 ^ 16 % 256, n / 2 ^ 8 % 256, n / 2 ^ 0 % 256], (0 : Int)) = _
    simp
/-- What the bytes of s from i on add to a number. -/
def valF (s : ByteArray) : Nat → Nat → Int → Int
  | 0, _, acc => acc
  | m + 1, i, acc => valF s m (i + 1) (acc * 256 + bt s (i : Int))
theorem get_run (s : ByteArray) (w : Nat) (hw : w ≤ 8) (hs : w ≤ s.size) (hb : ∀ i : Nat, 0 ≤ bt s (i : Int) ∧ bt s (i : Int) < 256) : ∀ (m i k : Nat) (acc : Int), i + m = w → 1 ≤ i → 0 ≤ acc → acc < 64 * 256 ^ (i - 1) →
    varint_Get.l0 (k + m + 1) s (w : Int) acc (i : Int) = some (valF s m i acc, s.extract w s.size, 0) := by
  intro m
  induction m with
  | zero =>
    intro i k acc h _ _ _
    unfold varint_Get.l0
    rw [if_neg (by omega), if_pos (by omega), if_pos (by omega), Int.toNat_natCast]
    rfl
  | succ m ih =>
    intro i k acc h hi h0 h1
    have hi8 : i ≤ 7 := by omega
    have hp : acc < 72057594037927936 := by
      have hh : i = 1 ∨ i = 2 ∨ i = 3 ∨ i = 4 ∨ i = 5 ∨ i = 6 ∨ i = 7 := by omega
      rcases hh with rfl | rfl | rfl | rfl | rfl | rfl | rfl <;> (simp only [Nat.reduceSub, Int.reducePow, Int.reduceMul] at h1; omega)
    obtain ⟨b0, b1⟩ := hb i
    unfold varint_Get.l0
    rw [if_pos (by omega), if_pos (by omega), if_pos (by omega), w64 (by omega) (by omega), wUi (n := acc * 256) (by omega) (by omega), wUi (n := bt s (i : Int)) (by omega) (by omega), bits_join .u64 64 (by decide) hk64 8 _ _ (by omega) (by omega) (by omega) (by omega) (by omega) (by omega)]
    refine ih (i + 1) k _ (by omega) (by omega) (by omega) ?_
    have e : i + 1 - 1 = (i - 1) + 1 := by omega
    rw [e, Int.pow_succ]
    omega
def wid (b : Int) : Nat := if b < 64 then 1 else if b < 128 then 2 else if b < 192 then 4 else 8
theorem wid_b (b : Int) : 1 ≤ wid b ∧ wid b ≤ 8 := by
  unfold wid
  (repeat' split) <;> decide
theorem bt_b (s : ByteArray) (i : Int) : 0 ≤ bt s i ∧ bt s i < 256 := by
  have := bt_range s i
  omega
theorem wid_shl (b : Int) (h0 : 0 ≤ b) (h1 : b < 256) : shl .i64 1 (b / 64) = (wid b : Int) := by
  have h : b / 64 = 0 ∨ b / 64 = 1 ∨ b / 64 = 2 ∨ b / 64 = 3 := by omega
  unfold wid
  rcases h with h | h | h | h <;> rw [h]
  · rw [if_pos (by omega)]; decide +kernel
  · rw [if_neg (by omega), if_pos (by omega)]; decide +kernel
  · rw [if_neg (by omega), if_neg (by omega), if_pos (by omega)]; decide +kernel
  · rw [if_neg (by omega), if_neg (by omega), if_neg (by omega)]; decide +kernel
theorem empty_iff (s : ByteArray) : s.toList = ([] : List UInt8) ↔ s.size = 0 := by
  rw [sizeL]
  exact List.length_eq_zero_iff.symm
theorem get_short (s : ByteArray) (k : Nat) (h : s.size < wid (bt s 0)) : varint_Get.f k s = some (0, (⟨#[]⟩ : ByteArray), 10) := by
  obtain ⟨b0, b1⟩ := bt_b s 0
  unfold varint_Get.f
  by_cases hz : s.size = 0
  · rw [if_pos ((empty_iff s).2 hz)]
  · rw [if_neg (fun h => hz ((empty_iff s).1 h)), if_pos (by omega), if_pos (by omega), wid_shl _ b0 b1, if_pos (by omega)]
theorem get_eq (s : ByteArray) (k : Nat) (hk : 10 ≤ k) (h : wid (bt s 0) ≤ s.size) : varint_Get.f k s = some (valF s (wid (bt s 0) - 1) 1 (bt s 0 % 64), s.extract (wid (bt s 0)) s.size, 0) := by
  obtain ⟨b0, b1⟩ := bt_b s 0
  obtain ⟨w1, w8⟩ := wid_b (bt s 0)
  obtain ⟨j, rfl⟩ := Nat.le.dest hk
  have hm : Go.bits .and .u8 (bt s 0) 63 = bt s 0 % 64 := by
    have := bits_mask .u8 8 (by decide) hk8 6 (by decide) (bt s 0) b0 (by omega)
    exact this
  unfold varint_Get.f
  rw [if_neg (fun h => by have := (empty_iff s).1 h; omega), if_pos (by omega), if_pos (by omega), wid_shl _ b0 b1, if_neg (by omega), hm, wUi (by omega) (by omega)]
  have := get_run s (wid (bt s 0)) w8 h (fun i => bt_b s i) (wid (bt s 0) - 1) 1 (10 + j - wid (bt s 0)) (bt s 0 % 64) (by omega) (by decide) (by omega) (by simp; omega)
  rw [show 10 + j - wid (bt s 0) + (wid (bt s 0) - 1) + 1 = 10 + j by omega] at this
  exact this
theorem bt_list (s : ByteArray) (i : Nat) : bt s (i : Int) = ((s.toList.getD i 0).toNat : Int) := by
  unfold bt
  rw [Go.Lib.toList_data, Int.toNat_natCast]
  by_cases h : i < s.size
  · rw [dif_pos h]
    have h2 : i < s.data.toList.length := by rw [← Go.Lib.size_eq]; exact h
    rw [List.getD_eq_getElem?_getD, List.getElem?_eq_getElem h2]
    rfl
  · rw [dif_neg h]
    have h2 : ¬ i < s.data.toList.length := by rw [← Go.Lib.size_eq]; exact h
    rw [List.getD_eq_getElem?_getD, List.getElem?_eq_none (by omega)]
    rfl
theorem u8n {a : Int} (a0 : 0 ≤ a) (a1 : a < 256) : ((UInt8.ofNat a.toNat).toNat : Int) = a := by
  simp only [UInt8.toNat_ofNat', Nat.reducePow]
  omega
theorem pb_b (n : Int) (h0 : 0 ≤ n) (h1 : n < 4611686018427387904) : ∀ x ∈ pb n, 0 ≤ x ∧ x < 256 := by
  unfold pb
  (repeat' split) <;> (intro x hx; simp only [List.mem_cons, List.not_mem_nil, or_false] at hx; omega)
/-- A byte of what begins by given numbers. -/
theorem bt_nums (xs : List Int) (s : ByteArray) (hx : ∀ x ∈ xs, 0 ≤ x ∧ x < 256) (i : Nat) (hi : i < xs.length) : bt (strOfNums xs ++ s) (i : Int) = xs.getD i 0 := by
  rw [bt_list, appL, numsL, List.getD_eq_getElem?_getD, List.getElem?_append_left (by rw [List.length_map]; exact hi), List.getElem?_map, List.getElem?_eq_getElem hi, List.getD_eq_getElem?_getD, List.getElem?_eq_getElem hi]
  have := hx xs[i] (List.getElem_mem hi)
  exact u8n this.1 this.2
theorem put_wid (n : Int) (s : ByteArray) (h0 : 0 ≤ n) (h1 : n < 4611686018427387904) : wid (bt (strOfNums (pb n) ++ s) 0) = (pb n).length ∧ valF (strOfNums (pb n) ++ s) ((pb n).length - 1) 1 (bt (strOfNums (pb n) ++ s) 0 % 64) = n := by
  have hb := pb_b n h0 h1
  have g : ∀ i : Nat, i < (pb n).length → bt (strOfNums (pb n) ++ s) (i : Int) = (pb n).getD i 0 := bt_nums (pb n) s hb
  have g0 := g 0
  have g1 := g 1
  have g2 := g 2
  have g3 := g 3
  have g4 := g 4
  have g5 := g 5
  have g6 := g 6
  have g7 := g 7
  clear g hb
  by_cases c1 : n < 64
  · have e : pb n = [n] := by
      unfold pb
      rw [if_pos c1]
    clear g1 g2 g3 g4 g5 g6 g7
    rw [e] at g0 ⊢
    simp only [List.length_cons, List.length_nil, List.getD_cons_zero, List.getD_cons_succ, Nat.zero_add, Nat.reduceAdd, Nat.reduceSub] at g0 ⊢
    rw [show ((0 : Nat) : Int) = 0 from rfl] at g0
    rw [g0 (by decide)]
    unfold wid
    rw [if_pos (by omega)]
    refine ⟨rfl, ?_⟩
    simp only [valF, Nat.reduceAdd]
    omega
  by_cases c2 : n < 16384
  · have e : pb n = [n / 256 + 64, n % 256] := by
      unfold pb
      rw [if_neg c1, if_pos c2]
    clear g2 g3 g4 g5 g6 g7
    rw [e] at g0 g1 ⊢
    simp only [List.length_cons, List.length_nil, List.getD_cons_zero, List.getD_cons_succ, Nat.zero_add, Nat.reduceAdd, Nat.reduceSub] at g0 g1 ⊢
    rw [show ((0 : Nat) : Int) = 0 from rfl] at g0
    rw [g0 (by decide)]
    unfold wid
    rw [if_neg (by omega), if_pos (by omega)]
    refine ⟨rfl, ?_⟩
    simp only [valF, Nat.reduceAdd]
    rw [g1 (by decide)]
    omega
  by_cases c4 : n < 1073741824
  · have e : pb n = [n / 16777216 + 128, n / 65536 % 256, n / 256 % 256, n % 256] := by
      unfold pb
      rw [if_neg c1, if_neg c2, if_pos c4]
    clear g4 g5 g6 g7
    rw [e] at g0 g1 g2 g3 ⊢
    simp only [List.length_cons, List.length_nil, List.getD_cons_zero, List.getD_cons_succ, Nat.zero_add, Nat.reduceAdd, Nat.reduceSub] at g0 g1 g2 g3 ⊢
    rw [show ((0 : Nat) : Int) = 0 from rfl] at g0
    rw [g0 (by decide)]
    unfold wid
    rw [if_neg (by omega), if_neg (by omega), if_pos (by omega)]
    refine ⟨rfl, ?_⟩
    simp only [valF, Nat.reduceAdd]
    rw [g1 (by decide), g2 (by decide), g3 (by decide)]
    omega
  · have e : pb n = [n / 72057594037927936 + 192, n / 281474976710656 % 256, n / 1099511627776 % 256, n / 4294967296 % 256, n / 16777216 % 256, n / 65536 % 256, n / 256 % 256, n % 256] := by
      unfold pb
      rw [if_neg c1, if_neg c2, if_neg c4]
    rw [e] at g0 g1 g2 g3 g4 g5 g6 g7 ⊢
    simp only [List.length_cons, List.length_nil, List.getD_cons_zero, List.getD_cons_succ, Nat.zero_add, Nat.reduceAdd, Nat.reduceSub] at g0 g1 g2 g3 g4 g5 g6 g7 ⊢
    rw [show ((0 : Nat) : Int) = 0 from rfl] at g0
    rw [g0 (by decide)]
    unfold wid
    rw [if_neg (by omega), if_neg (by omega), if_neg (by omega)]
    refine ⟨rfl, ?_⟩
    simp only [valF, Nat.reduceAdd]
    rw [g1 (by decide), g2 (by decide), g3 (by decide), g4 (by decide), g5 (by decide), g6 (by decide), g7 (by decide)]
    omega
theorem ext_app (a b : ByteArray) : (a ++ b).extract a.size (a ++ b).size = b := by
  apply ba_ext
  rw [Go.Lib.extract_toList, ← Go.Lib.toList_data, appL, sizeL, sizeL, appL, List.length_append, List.drop_left, Nat.add_sub_cancel_left, List.take_length]
theorem put_get (n : Int) (s : ByteArray) (h0 : 0 ≤ n) (h1 : n < 4611686018427387904) (k : Nat) (hk : 10 ≤ k) : varint_Get.f k (strOfNums (pb n) ++ s) = some (n, s, 0) := by
  obtain ⟨w, v⟩ := put_wid n s h0 h1
  have hs : (strOfNums (pb n)).size = (pb n).length := nums_size _
  rw [get_eq _ k hk (by rw [w, ByteArray.size_append, hs]; omega), w, v, ← hs, ext_app]
theorem pb_l (n : Int) : (pb n).length ≤ 8 := by
  unfold pb
  (repeat' split) <;> simp
def cat (s : ByteArray) : List Int → ByteArray
  | [] => s
  | n :: t => cat (s ++ strOfNums (pb n)) t
theorem app_assoc (a b c : ByteArray) : a ++ b ++ c = a ++ (b ++ c) := by
  apply ba_ext
  rw [appL, appL, appL, appL, List.append_assoc]
theorem app_nil (a : ByteArray) : (⟨#[]⟩ : ByteArray) ++ a = a := by
  apply ba_ext
  have e : (⟨#[]⟩ : ByteArray).toList = ([] : List UInt8) := (empty_iff _).2 rfl
  rw [appL, e, List.nil_append]
theorem nil_app (a : ByteArray) : a ++ (⟨#[]⟩ : ByteArray) = a := by
  apply ba_ext
  have e : (⟨#[]⟩ : ByteArray).toList = ([] : List UInt8) := (empty_iff _).2 rfl
  rw [appL, e, List.append_nil]
theorem cat_app : ∀ (l : List Int) (s : ByteArray), cat s l = s ++ cat ⟨#[]⟩ l
  | [], s => (nil_app s).symm
  | n :: t, s => by
    simp only [cat]
    rw [cat_app t (s ++ strOfNums (pb n)), cat_app t ((⟨#[]⟩ : ByteArray) ++ strOfNums (pb n)), app_nil, app_assoc]
theorem gets_cat : ∀ (l : List Int) (acc : List Int) (k : Nat) (rest : ByteArray), (∀ x ∈ l, 0 ≤ x ∧ x < 4611686018427387904) → 10 ≤ k → acc.length + l.length ≤ 1000 →
    varint_Gets.l0 (k + l.length + 1) (l.length : Int) acc (cat ⟨#[]⟩ l ++ rest) = some (acc ++ l, rest, 0)
  | [], acc, k, rest, _, _, _ => by
    unfold varint_Gets.l0
    rw [if_neg (by simp), List.append_nil]
    simp only [cat, app_nil]
  | n :: t, acc, k, rest, hx, hk, hl => by
    have hn := hx n (List.mem_cons_self)
    have ih := gets_cat t (acc ++ [n]) k rest (fun x h => hx x (List.mem_cons_of_mem _ h)) hk (by simp at hl ⊢; omega)
    have e : cat ⟨#[]⟩ (n :: t) ++ rest = strOfNums (pb n) ++ (cat ⟨#[]⟩ t ++ rest) := by
      simp only [cat]
      rw [cat_app, app_nil, app_assoc]
    simp only [List.length_cons] at hl ⊢
    rw [e]
    unfold varint_Gets.l0
    rw [if_pos (by omega), put_get n _ hn.1 hn.2 _ (by omega), Option.bind_some]
    dsimp only
    rw [if_pos rfl, if_pos (by omega), w64 (by omega) (by omega), show (((t.length + 1 : Nat) : Int) - 1) = (t.length : Int) by omega, show k + (t.length + 1) = k + t.length + 1 by omega, ih, List.append_assoc]
    rfl
/-- A number, the length of a text, and the text. -/
def pr (n : Int) (x : ByteArray) : ByteArray := strOfNums (pb n) ++ (strOfNums (pb (x.size : Int)) ++ x)
def cats : List (Int × ByteArray) → ByteArray
  | [] => ⟨#[]⟩
  | p :: t => pr p.1 p.2 ++ cats t
theorem cats_app : ∀ a b : List (Int × ByteArray), cats (a ++ b) = cats a ++ cats b
  | [], b => (app_nil _).symm
  | p :: t, b => by
    simp only [List.cons_append, cats]
    rw [cats_app t b, app_assoc]
theorem baSize (a b : ByteArray) : (a ++ b).size = a.size + b.size := ByteArray.size_append
theorem nil_size : (⟨#[]⟩ : ByteArray).size = 0 := rfl
theorem pr_size (n : Int) (x : ByteArray) : x.size ≤ (pr n x).size ∧ (pr n x).size ≤ x.size + 16 := by
  unfold pr
  rw [baSize, baSize, nums_size, nums_size]
  have h1 := pb_l n
  have h2 := pb_l (x.size : Int)
  omega
theorem pb_pos (n : Int) : 0 < (pb n).length := by
  unfold pb
  repeat' split
  all_goals simp
theorem pr_pos (n : Int) (x : ByteArray) : 2 ≤ (pr n x).size := by
  unfold pr
  rw [baSize, baSize, nums_size, nums_size]
  have h1 := pb_pos n
  have h2 := pb_pos (x.size : Int)
  omega
theorem cat_two (n m : Int) : cat ⟨#[]⟩ [n, m] = strOfNums (pb n) ++ strOfNums (pb m) := by
  simp only [cat]
  rw [app_nil]
theorem pair_eq (n : Int) (x : ByteArray) (h0 : 0 ≤ n) (h1 : n < 4611686018427387904) (hx : x.size ≤ 140737488351232) : params_pair.f n x = some (pr n x) := by
  have e1 := put_eq n h0 h1
  have e2 := put_eq (x.size : Int) (by omega) (by omega)
  have l1 := pb_l n
  have l2 := pb_l (x.size : Int)
  unfold params_pair.f varint_Puts.f
  simp only [putsL, e1, e2, Option.bind_some, app_nil]
  have s1 := nums_size (pb n)
  have s2 := nums_size (pb (x.size : Int))
  rw [if_pos trivial, if_pos (by rw [nil_size]; omega), if_pos trivial, if_pos (by omega), Option.bind_some]
  dsimp only
  rw [if_pos (by rw [baSize]; omega)]
  unfold pr
  rw [app_assoc]
theorem ext_pre (a b : ByteArray) : (a ++ b).extract 0 a.size = a := by
  apply ba_ext
  rw [Go.Lib.toList_data, Go.Lib.toList_data, ByteArray.data_extract, ByteArray.data_append]
  have h : a.size = a.data.toList.length := Go.Lib.size_eq a
  simp
  rw [h, List.take_length]
theorem gets_two (n : Int) (x s : ByteArray) (h0 : 0 ≤ n) (h1 : n < 4611686018427387904) (hx : x.size ≤ 140737488351232) (k : Nat) (hk : 13 ≤ k) : varint_Gets.f k (pr n x ++ s) 2 = some ([n, (x.size : Int)], x ++ s, 0) := by
  obtain ⟨j, rfl⟩ : ∃ j, k = j + 2 + 1 := ⟨k - 3, by omega⟩
  have h := gets_cat [n, (x.size : Int)] [] j (x ++ s) (by intro y hy; simp at hy; omega) (by omega) (by simp)
  rw [cat_two] at h
  unfold varint_Gets.f
  have e : pr n x ++ s = strOfNums (pb n) ++ strOfNums (pb (x.size : Int)) ++ (x ++ s) := by
    unfold pr
    rw [app_assoc, app_assoc, app_assoc]
  rw [e]
  exact h
theorem nonempty_of {s : ByteArray} (h : 0 < s.size) : ¬ s.toList = ([] : List UInt8) := fun e => by have := (empty_iff s).1 e; omega
theorem prs_cons (n : Int) (x s : ByteArray) (h0 : 0 ≤ n) (h1 : n < 4611686018427387904) (hx : x.size + s.size ≤ 140737488351232) (k : Nat) (hk : 13 ≤ k) :
    prsL (k + 1) (pr n x ++ s) = (prsL k s).bind fun t => some ((n, some x) :: t) := by
  have hp := pr_pos n x
  rw [prsL, if_neg (nonempty_of (by rw [baSize]; omega)), gets_two n x s h0 h1 (by omega) k hk, Option.bind_some]
  dsimp only
  have r0 : rd [n, (x.size : Int)] 0 = n := rfl
  have r1 : rd [n, (x.size : Int)] 1 = (x.size : Int) := rfl
  rw [if_pos rfl, if_pos (by simp), r1, r0, if_pos (by rw [baSize]; omega), if_neg (by rw [baSize]; omega)]
  simp only [Int.toNat_natCast]
  rw [ext_app, ext_pre]
theorem prs_nil (k : Nat) : prsL (k + 1) ⟨#[]⟩ = some [] := by
  rw [prsL, if_pos ((empty_iff _).2 rfl)]
def someL (l : List (Int × ByteArray)) : List (Int × Option ByteArray) := l.map fun p => (p.1, some p.2)
theorem prs_cats : ∀ (l : List (Int × ByteArray)) (k : Nat), (∀ p ∈ l, 0 ≤ p.1 ∧ p.1 < 4611686018427387904) → (cats l).size ≤ 140737488351232 → 13 ≤ k → prsL (k + l.length + 1) (cats l) = some (someL l)
  | [], k, _, _, _ => prs_nil _
  | p :: t, k, hl, hs, hk => by
    have hp := hl p (List.mem_cons_self)
    have hz := (pr_size p.1 p.2).1
    simp only [cats, baSize] at hs
    have ih := prs_cats t k (fun q hq => hl q (List.mem_cons_of_mem _ hq)) (by omega) hk
    simp only [cats, List.length_cons]
    rw [show k + (t.length + 1) + 1 = (k + t.length + 1) + 1 by omega, prs_cons p.1 p.2 (cats t) hp.1 hp.2 (by omega) _ (by omega), ih]
    rfl
/-! ### the fold over what was put -/
def itN (n x d : Int) : List (Int × ByteArray) := if x = d then [] else [(n, strOfNums (pb x))]
def itT (tok : ByteArray) : List (Int × ByteArray) := if tok.toList = ([] : List UInt8) then [] else [(2, tok)]
theorem u64_wf {n : Int} (h0 : 0 ≤ n) (h1 : n < 18446744073709551616) : (Lit.int .u64 n).wf = true := by
  have e1 : IntKind.u64.min = 0 := by decide
  have e2 : IntKind.u64.max = 18446744073709551615 := by decide
  simp [Lit.wf, e1, e2]
  omega
theorem cnt_less {n : Int} {had : List Int} (h : ∀ x ∈ had, x < n) : cntT n had = 0 := by
  unfold cntT
  rw [List.filter_eq_nil_iff.2 (fun x hx => by have := h x hx; simp; omega)]
  rfl
theorem set_same {v : List Int} {i : Nat} {d : Int} (h : rd v (i : Int) = d) (hi : i < v.length) : v.set i d = v := by
  subst h
  apply List.ext_getElem (by simp)
  intro j h1 h2
  by_cases e : i = j
  · subst e
    simp [rd, hi]
  · simp [List.getElem_set_ne e]
theorem get_num (x : Int) (h0 : 0 ≤ x) (h1 : x < 4611686018427387904) (k : Nat) (hk : 10 ≤ k) : varint_Get.f k (strOfNums (pb x)) = some (x, ⟨#[]⟩, 0) := by
  have h := put_get x ⟨#[]⟩ h0 h1 k hk
  rwa [nil_app] at h
theorem fold_num (k : Nat) (hk : 10 ≤ k) {n x d : Int} {i : Nat} {v : List Int} {had : List Int} (tok : ByteArray) (rest : List (Int × ByteArray)) (hn0 : 0 ≤ n) (hn1 : n < 100) (hn2 : n ≠ 2) (hx0 : 0 ≤ x) (hx1 : x < 4611686018427387904)
    (hf : fldOf n = some i) (hv : rd v (i : Int) = d) (hi : i < v.length) (hh : ∀ h ∈ had, h < n) :
    ∃ had', (∀ h ∈ had', h ≤ n) ∧ getFold k (someL (itN n x d ++ rest)) v tok had = getFold k (someL rest) (v.set i x) tok had' := by
  unfold itN
  by_cases e : x = d
  · rw [if_pos e]
    refine ⟨had, fun h hh' => Int.le_of_lt (hh h hh'), ?_⟩
    rw [set_same (hv.trans e.symm) hi]
    rfl
  · rw [if_neg e]
    refine ⟨had ++ [n], ?_, ?_⟩
    · intro h hh'
      rcases List.mem_append.1 hh' with h1 | h1
      · exact Int.le_of_lt (hh h h1)
      · simp at h1; omega
    · show getFold k ((n, some (strOfNums (pb x))) :: someL rest) v tok had = _
      rw [getFold, if_pos (u64_wf hn0 (by omega)), getStep]
      dsimp only
      rw [if_pos (cnt_less hh), if_neg hn2, hf]
      dsimp only
      rw [get_num x hx0 hx1 k hk]
      simp only [Option.bind_some, if_true]
      rw [if_pos ((empty_iff _).2 rfl)]
      rfl
theorem fold_tok (k : Nat) {v : List Int} {had : List Int} (tok : ByteArray) (rest : List (Int × ByteArray)) (ht : tok.toList = ([] : List UInt8) ∨ (tok.size : Int) = 16) (hh : ∀ h ∈ had, h < 2) :
    ∃ had', (∀ h ∈ had', h ≤ 2) ∧ getFold k (someL (itT tok ++ rest)) v ⟨#[]⟩ had = getFold k (someL rest) v tok had' := by
  unfold itT
  by_cases e : tok.toList = ([] : List UInt8)
  · rw [if_pos e]
    obtain rfl : tok = ⟨#[]⟩ := ba_ext (e.trans ((empty_iff _).2 rfl).symm)
    exact ⟨had, fun h hh' => Int.le_of_lt (hh h hh'), rfl⟩
  · rw [if_neg e]
    refine ⟨had ++ [2], ?_, ?_⟩
    · intro h hh'
      rcases List.mem_append.1 hh' with h1 | h1
      · exact Int.le_of_lt (hh h h1)
      · simp at h1; omega
    · show getFold k ((2, some tok) :: someL rest) v ⟨#[]⟩ had = _
      rw [getFold, if_pos (u64_wf (n := 2) (by omega) (by omega)), getStep]
      dsimp only
      rw [if_pos (cnt_less hh), if_pos rfl, if_pos (ht.resolve_left e)]
      rfl
theorem prmOk_not {x0 x1 x2 x3 x4 x5 x6 x7 x8 x9 x10 : Int} {tok : ByteArray} (h : prmOk x0 x1 x2 x3 x4 x5 x6 x7 x8 x9 x10 tok) : (x0 ≤ 4611686018427387903 ∧ x1 ≤ 4611686018427387903 ∧ x2 ≤ 4611686018427387903 ∧ x3 ≤ 4611686018427387903 ∧ x4 ≤ 4611686018427387903 ∧ x5 ≤ 4611686018427387903 ∧ x6 ≤ 4611686018427387903 ∧ x7 ≤ 4611686018427387903 ∧ x8 ≤ 4611686018427387903 ∧ x9 ≤ 4611686018427387903 ∧ x10 ≤ 4611686018427387903) ∧ 1200 ≤ x1 ∧ x6 ≤ 1152921504606846976 ∧ x7 ≤ 1152921504606846976 ∧ x8 ≤ 20 ∧ x9 < 16384 ∧ 2 ≤ x10 ∧ (tok.size = 0 ∨ tok.size = 16) := by
  obtain ⟨ha, h1, h2, h3, h4, h5, h6, h7⟩ := h
  simp only [prmL, List.mem_cons, List.not_mem_nil, or_false, forall_eq_or_imp, forall_eq] at ha
  have ht : tok.size = 0 ∨ tok.size = 16 := by
    rcases h7 with h | h
    · exact Or.inl ((empty_iff _).1 h)
    · exact Or.inr (by omega)
  omega
theorem prmOk_of {x0 x1 x2 x3 x4 x5 x6 x7 x8 x9 x10 : Int} {tok : ByteArray} (h : (x0 ≤ 4611686018427387903 ∧ x1 ≤ 4611686018427387903 ∧ x2 ≤ 4611686018427387903 ∧ x3 ≤ 4611686018427387903 ∧ x4 ≤ 4611686018427387903 ∧ x5 ≤ 4611686018427387903 ∧ x6 ≤ 4611686018427387903 ∧ x7 ≤ 4611686018427387903 ∧ x8 ≤ 4611686018427387903 ∧ x9 ≤ 4611686018427387903 ∧ x10 ≤ 4611686018427387903) ∧ 1200 ≤ x1 ∧ x6 ≤ 1152921504606846976 ∧ x7 ≤ 1152921504606846976 ∧ x8 ≤ 20 ∧ x9 < 16384 ∧ 2 ≤ x10 ∧ (tok.size = 0 ∨ tok.size = 16)) : prmOk x0 x1 x2 x3 x4 x5 x6 x7 x8 x9 x10 tok := by
  obtain ⟨ha, h1, h2, h3, h4, h5, h6, h7⟩ := h
  refine ⟨?_, by omega, by omega, by omega, by omega, by omega, by omega, ?_⟩
  · simp only [prmL, List.mem_cons, List.not_mem_nil, or_false, forall_eq_or_imp, forall_eq]
    omega
  · rcases h7 with h | h
    · exact Or.inl ((empty_iff _).2 h)
    · exact Or.inr (by omega)
def itE (tok : ByteArray) : Nat → List (Option (Int × Int)) → List (Int × ByteArray)
  | _, [] => []
  | k, e :: t => (if k = 2 then itT tok else []) ++ ((match e with
      | none => []
      | some (v, d) => itN (k : Int) v d) ++ itE tok (k + 1) t)
theorem itN_b {n x d : Int} (_hx : 0 ≤ x ∧ x < 4611686018427387904) : ∀ p ∈ itN n x d, p.1 = n ∧ p.2.size ≤ 8 := by
  intro p hp
  unfold itN at hp
  by_cases e : x = d
  · rw [if_pos e] at hp; cases hp
  · rw [if_neg e] at hp
    obtain rfl := List.mem_singleton.1 hp
    exact ⟨rfl, by rw [nums_size]; exact pb_l x⟩
theorem itT_b {tok : ByteArray} : ∀ p ∈ itT tok, p.1 = 2 ∧ p.2 = tok := by
  intro p hp
  unfold itT at hp
  by_cases e : tok.toList = ([] : List UInt8)
  · rw [if_pos e] at hp; cases hp
  · rw [if_neg e] at hp
    obtain rfl := List.mem_singleton.1 hp
    exact ⟨rfl, rfl⟩
theorem itN_len (n x d : Int) : (itN n x d).length ≤ 1 := by
  unfold itN; split <;> simp
theorem itT_len (tok : ByteArray) : (itT tok).length ≤ 1 := by
  unfold itT; split <;> simp
theorem cats_size : ∀ (l : List (Int × ByteArray)), (∀ p ∈ l, p.2.size ≤ 16) → (cats l).size ≤ 32 * l.length
  | [], _ => by simp [cats, nil_size]
  | p :: t, h => by
    have h1 := h p (List.mem_cons_self)
    have h2 := (pr_size p.1 p.2).2
    have h3 := cats_size t (fun q hq => h q (List.mem_cons_of_mem _ hq))
    simp only [cats, baSize, List.length_cons]
    omega
theorem cats_one (n : Int) (x : ByteArray) : cats [(n, x)] = pr n x := by
  simp only [cats]
  rw [nil_app]
theorem addS_eq (s q : ByteArray) (h : s.size + q.size ≤ 140737488355328) : addS s q = some (s ++ q) := by
  unfold addS; rw [if_pos h]
theorem tokS_eq (tok : ByteArray) (ht : tok.size ≤ 16) (k : Nat) (s : ByteArray) (hs : s.size ≤ 100000) : tokS tok k s = some (s ++ cats (if k = 2 then itT tok else [])) := by
  unfold tokS itT
  by_cases h : k = 2
  · rw [if_pos h, if_pos h]
    by_cases e : tok.toList = ([] : List UInt8)
    · rw [if_pos e, if_pos e]
      simp only [cats]
      rw [nil_app]
    · have hz := (pr_size 2 tok).2
      rw [if_neg e, if_neg e, pair_eq 2 tok (by decide) (by decide) (by omega), Option.bind_some, addS_eq _ _ (by omega), cats_one]
  · rw [if_neg h, if_neg h]
    simp only [cats]
    rw [nil_app]
theorem numS_eq (k : Nat) (hk : k < 1000) (v d : Int) (hv : 0 ≤ v ∧ v < 4611686018427387904) (s : ByteArray) (hs : s.size ≤ 100000) : numS k (some (v, d)) s = some (s ++ cats (itN (k : Int) v d)) := by
  unfold numS itN
  dsimp only
  by_cases e : v = d
  · rw [if_pos e, if_pos e]
    simp only [cats]
    rw [nil_app]
  · have hl := pb_l v
    have hn := nums_size (pb v)
    have hz := (pr_size (k : Int) (strOfNums (pb v))).2
    rw [if_neg e, if_neg e, put_eq v hv.1 hv.2, Option.bind_some]
    dsimp only
    rw [pair_eq _ _ (by omega) (by omega) (by omega), Option.bind_some, addS_eq _ _ (by omega), cats_one]
theorem putE_eq (tok : ByteArray) (ht : tok.size ≤ 16) : ∀ (E : List (Option (Int × Int))) (k : Nat) (s : ByteArray), (∀ v d, some (v, d) ∈ E → 0 ≤ v ∧ v < 4611686018427387904) → k + E.length < 1000 → s.size + 64 * E.length ≤ 90000 →
    putE tok k E s = some (s ++ cats (itE tok k E))
  | [], k, s, _, _, _ => by
    simp only [putE, itE, cats]
    rw [nil_app]
  | e :: t, k, s, hE, hk, hs => by
    simp only [List.length_cons] at hk hs
    have h1 : (cats (if k = 2 then itT tok else [])).size ≤ 32 := by
      split
      · have := cats_size (itT tok) (fun p hp => by rw [(itT_b p hp).2]; exact ht)
        have := itT_len tok
        omega
      · exact Nat.zero_le _
    rw [putE, tokS_eq tok ht k s (by omega), Option.bind_some]
    cases e with
    | none =>
      show (some (s ++ cats (if k = 2 then itT tok else []))).bind _ = _
      rw [Option.bind_some, putE_eq tok ht t (k + 1) _ (fun v d h => hE v d (List.mem_cons_of_mem _ h)) (by omega) (by rw [baSize]; omega)]
      simp only [itE]
      rw [cats_app, List.nil_append, app_assoc]
    | some q =>
      obtain ⟨v, d⟩ := q
      have hv := hE v d (List.mem_cons_self)
      have h2 : (cats (itN (k : Int) v d)).size ≤ 32 := by
        have := cats_size (itN (k : Int) v d) (fun p hp => by have := (itN_b hv p hp).2; omega)
        have := itN_len (k : Int) v d
        omega
      rw [numS_eq k (by omega) v d hv _ (by rw [baSize]; omega), Option.bind_some, putE_eq tok ht t (k + 1) _ (fun v d h => hE v d (List.mem_cons_of_mem _ h)) (by omega) (by rw [baSize, baSize]; omega)]
      simp only [itE]
      rw [cats_app, cats_app, app_assoc, app_assoc]
def items (x0 x1 x2 x3 x4 x5 x6 x7 x8 x9 x10 : Int) (tok : ByteArray) : List (Int × ByteArray) :=
  itN 1 x0 0 ++ (itT tok ++ (itN 3 x1 65527 ++ (itN 4 x2 0 ++ (itN 5 x3 0 ++ (itN 6 x4 0 ++ (itN 7 x5 0 ++ (itN 8 x6 0 ++ (itN 9 x7 0 ++ (itN 10 x8 3 ++ (itN 11 x9 25 ++ itN 14 x10 2))))))))))
theorem itE_items (x0 x1 x2 x3 x4 x5 x6 x7 x8 x9 x10 : Int) (tok : ByteArray) : itE tok 0 (prmE x0 x1 x2 x3 x4 x5 x6 x7 x8 x9 x10) = items x0 x1 x2 x3 x4 x5 x6 x7 x8 x9 x10 tok := by
  simp [prmE, itE, items]
def nonN (x0 x1 x2 x3 x4 x5 x6 x7 x8 x9 x10 : Int) : Prop := 0 ≤ x0 ∧ 0 ≤ x1 ∧ 0 ≤ x2 ∧ 0 ≤ x3 ∧ 0 ≤ x4 ∧ 0 ≤ x5 ∧ 0 ≤ x6 ∧ 0 ≤ x7 ∧ 0 ≤ x8 ∧ 0 ≤ x9 ∧ 0 ≤ x10
theorem put_ok {x0 x1 x2 x3 x4 x5 x6 x7 x8 x9 x10 : Int} {tok : ByteArray} (h : prmOk x0 x1 x2 x3 x4 x5 x6 x7 x8 x9 x10 tok) (hn : nonN x0 x1 x2 x3 x4 x5 x6 x7 x8 x9 x10) :
    params_Put.f x0 x1 x2 x3 x4 x5 x6 x7 x8 x9 x10 tok = some (cats (items x0 x1 x2 x3 x4 x5 x6 x7 x8 x9 x10 tok), 0) := by
  have ho := prmOk_not h
  obtain ⟨n0, n1, n2, n3, n4, n5, n6, n7, n8, n9, n10⟩ := hn
  rw [params_Put.f, if_pos h, putE_eq tok (by omega) _ 0 ⟨#[]⟩ (by
    intro v d hv
    simp only [prmE, List.mem_cons, List.not_mem_nil, or_false, Option.some.injEq, Prod.mk.injEq, reduceCtorEq, false_or] at hv
    omega) (by simp [prmE]) (by simp [prmE, nil_size]), itE_items, app_nil]
  rfl
theorem put_no {x0 x1 x2 x3 x4 x5 x6 x7 x8 x9 x10 : Int} {tok : ByteArray} (h : ¬ prmOk x0 x1 x2 x3 x4 x5 x6 x7 x8 x9 x10 tok) : params_Put.f x0 x1 x2 x3 x4 x5 x6 x7 x8 x9 x10 tok = some (⟨#[]⟩, 50) := by
  rw [params_Put.f, if_neg h]
/-! ### back -/
def v0L : List Int := [0, 65527, 0, 0, 0, 0, 0, 0, 3, 25, 2]
theorem fold_items (k : Nat) (hk : 10 ≤ k) {x0 x1 x2 x3 x4 x5 x6 x7 x8 x9 x10 : Int} {tok : ByteArray} (h : prmOk x0 x1 x2 x3 x4 x5 x6 x7 x8 x9 x10 tok) (hn : nonN x0 x1 x2 x3 x4 x5 x6 x7 x8 x9 x10) :
    getFold k (someL (items x0 x1 x2 x3 x4 x5 x6 x7 x8 x9 x10 tok)) v0L ⟨#[]⟩ [] = some (some ([x0, x1, x2, x3, x4, x5, x6, x7, x8, x9, x10], tok)) := by
  have ho := prmOk_not h
  obtain ⟨n0, n1, n2, n3, n4, n5, n6, n7, n8, n9, n10⟩ := hn
  have ht : tok.toList = ([] : List UInt8) ∨ (tok.size : Int) = 16 := h.2.2.2.2.2.2.2
  have lt : ∀ {a b : Int} {had : List Int}, (∀ h ∈ had, h ≤ a) → a < b → ∀ h ∈ had, h < b := fun h1 h2 q hq => by have := h1 q hq; omega
  unfold items v0L
  obtain ⟨d1, e1, f1⟩ := fold_num k hk (n := 1) (x := x0) (d := 0) (i := 0) (v := [0, 65527, 0, 0, 0, 0, 0, 0, 3, 25, 2]) (had := []) ⟨#[]⟩ _ (by omega) (by omega) (by omega) n0 (by omega) rfl rfl (by simp) (by simp)
  rw [f1]
  obtain ⟨d2, e2, f2⟩ := fold_tok k (v := [x0, 65527, 0, 0, 0, 0, 0, 0, 3, 25, 2]) tok _ ht (lt e1 (by omega))
  refine Eq.trans f2 ?_
  obtain ⟨d3, e3, f3⟩ := fold_num k hk (n := 3) (x := x1) (d := 65527) (i := 1) (v := [x0, 65527, 0, 0, 0, 0, 0, 0, 3, 25, 2]) tok _ (by omega) (by omega) (by omega) n1 (by omega) rfl rfl (by simp) (lt e2 (by omega))
  refine Eq.trans f3 ?_
  obtain ⟨d4, e4, f4⟩ := fold_num k hk (n := 4) (x := x2) (d := 0) (i := 2) (v := [x0, x1, 0, 0, 0, 0, 0, 0, 3, 25, 2]) tok _ (by omega) (by omega) (by omega) n2 (by omega) rfl rfl (by simp) (lt e3 (by omega))
  refine Eq.trans f4 ?_
  obtain ⟨d5, e5, f5⟩ := fold_num k hk (n := 5) (x := x3) (d := 0) (i := 3) (v := [x0, x1, x2, 0, 0, 0, 0, 0, 3, 25, 2]) tok _ (by omega) (by omega) (by omega) n3 (by omega) rfl rfl (by simp) (lt e4 (by omega))
  refine Eq.trans f5 ?_
  obtain ⟨d6, e6, f6⟩ := fold_num k hk (n := 6) (x := x4) (d := 0) (i := 4) (v := [x0, x1, x2, x3, 0, 0, 0, 0, 3, 25, 2]) tok _ (by omega) (by omega) (by omega) n4 (by omega) rfl rfl (by simp) (lt e5 (by omega))
  refine Eq.trans f6 ?_
  obtain ⟨d7, e7, f7⟩ := fold_num k hk (n := 7) (x := x5) (d := 0) (i := 5) (v := [x0, x1, x2, x3, x4, 0, 0, 0, 3, 25, 2]) tok _ (by omega) (by omega) (by omega) n5 (by omega) rfl rfl (by simp) (lt e6 (by omega))
  refine Eq.trans f7 ?_
  obtain ⟨d8, e8, f8⟩ := fold_num k hk (n := 8) (x := x6) (d := 0) (i := 6) (v := [x0, x1, x2, x3, x4, x5, 0, 0, 3, 25, 2]) tok _ (by omega) (by omega) (by omega) n6 (by omega) rfl rfl (by simp) (lt e7 (by omega))
  refine Eq.trans f8 ?_
  obtain ⟨d9, e9, f9⟩ := fold_num k hk (n := 9) (x := x7) (d := 0) (i := 7) (v := [x0, x1, x2, x3, x4, x5, x6, 0, 3, 25, 2]) tok _ (by omega) (by omega) (by omega) n7 (by omega) rfl rfl (by simp) (lt e8 (by omega))
  refine Eq.trans f9 ?_
  obtain ⟨d10, e10, f10⟩ := fold_num k hk (n := 10) (x := x8) (d := 3) (i := 8) (v := [x0, x1, x2, x3, x4, x5, x6, x7, 3, 25, 2]) tok _ (by omega) (by omega) (by omega) n8 (by omega) rfl rfl (by simp) (lt e9 (by omega))
  refine Eq.trans f10 ?_
  obtain ⟨d11, e11, f11⟩ := fold_num k hk (n := 11) (x := x9) (d := 25) (i := 9) (v := [x0, x1, x2, x3, x4, x5, x6, x7, x8, 25, 2]) tok _ (by omega) (by omega) (by omega) n9 (by omega) rfl rfl (by simp) (lt e10 (by omega))
  refine Eq.trans f11 ?_
  obtain ⟨d12, e12, f12⟩ := fold_num k hk (n := 14) (x := x10) (d := 2) (i := 10) (v := [x0, x1, x2, x3, x4, x5, x6, x7, x8, x9, 2]) tok [] (by omega) (by omega) (by omega) n10 (by omega) rfl rfl (by simp) (lt e11 (by omega))
  rw [List.append_nil] at f12
  exact f12
/-- What is told of the fold's end. -/
def fin (r : Option (List Int × ByteArray)) : Option (Int × Int × Int × Int × Int × Int × Int × Int × Int × Int × Int × ByteArray × Int) := match r with
    | none => some (0, 0, 0, 0, 0, 0, 0, 0, 0, 0, 0, (⟨#[]⟩ : ByteArray), 50)
    | some q => (params_Check.f (rd q.1 0) (rd q.1 1) (rd q.1 2) (rd q.1 3) (rd q.1 4) (rd q.1 5) (rd q.1 6) (rd q.1 7) (rd q.1 8) (rd q.1 9) (rd q.1 10) q.2).bind fun e =>
        if e = 0 then some (rd q.1 0, rd q.1 1, rd q.1 2, rd q.1 3, rd q.1 4, rd q.1 5, rd q.1 6, rd q.1 7, rd q.1 8, rd q.1 9, rd q.1 10, q.2, 0) else some (0, 0, 0, 0, 0, 0, 0, 0, 0, 0, 0, (⟨#[]⟩ : ByteArray), e)
theorem get_fin (k : Nat) (s : ByteArray) {xs : List (Int × Option ByteArray)} (h : prsL k s = some xs) (hl : xs.length < 4611686018427387904) {r : Option (List Int × ByteArray)} (hf : getFold k xs v0L ⟨#[]⟩ [] = some r) : params_Get.f k s = fin r := by
  unfold v0L at hf
  rw [params_Get.f, h, Option.bind_some, if_pos hl, hf, Option.bind_some]
  cases r <;> rfl
theorem get_cats (k : Nat) (l : List (Int × ByteArray)) (hl : ∀ p ∈ l, 0 ≤ p.1 ∧ p.1 < 4611686018427387904) (hs : (cats l).size ≤ 140737488351232) (hk : 14 + l.length ≤ k) (h2 : l.length < 1000) {r : Option (List Int × ByteArray)} (hf : getFold k (someL l) v0L ⟨#[]⟩ [] = some r) :
    params_Get.f k (cats l) = fin r := by
  have h := prs_cats l (k - l.length - 1) hl hs (by omega)
  rw [show k - l.length - 1 + l.length + 1 = k by omega] at h
  exact get_fin k _ h (by simp [someL]; omega) hf
theorem fin_ok {x0 x1 x2 x3 x4 x5 x6 x7 x8 x9 x10 : Int} {tok : ByteArray} (h : prmOk x0 x1 x2 x3 x4 x5 x6 x7 x8 x9 x10 tok) : fin (some ([x0, x1, x2, x3, x4, x5, x6, x7, x8, x9, x10], tok)) = some (x0, x1, x2, x3, x4, x5, x6, x7, x8, x9, x10, tok, 0) := by
  show (params_Check.f x0 x1 x2 x3 x4 x5 x6 x7 x8 x9 x10 tok).bind _ = _
  rw [params_Check.f, if_pos h]
  rfl
theorem items_b {x0 x1 x2 x3 x4 x5 x6 x7 x8 x9 x10 : Int} {tok : ByteArray} (h : prmOk x0 x1 x2 x3 x4 x5 x6 x7 x8 x9 x10 tok) (hn : nonN x0 x1 x2 x3 x4 x5 x6 x7 x8 x9 x10) :
    ∀ p ∈ items x0 x1 x2 x3 x4 x5 x6 x7 x8 x9 x10 tok, (0 ≤ p.1 ∧ p.1 < 100) ∧ p.2.size ≤ 16 := by
  have ho := prmOk_not h
  obtain ⟨n0, n1, n2, n3, n4, n5, n6, n7, n8, n9, n10⟩ := hn
  intro p hp
  unfold items at hp
  simp only [List.mem_append] at hp
  have hN : ∀ {n x d : Int}, 0 ≤ n → n < 100 → 0 ≤ x → x < 4611686018427387904 → p ∈ itN n x d → (0 ≤ p.1 ∧ p.1 < 100) ∧ p.2.size ≤ 16 := fun a b c d e => by
    have := itN_b ⟨c, d⟩ p e
    omega
  rcases hp with hp | hp | hp | hp | hp | hp | hp | hp | hp | hp | hp | hp
  · exact hN (by omega) (by omega) n0 (by omega) hp
  · have := itT_b p hp
    rw [this.1, this.2]
    exact ⟨by omega, by omega⟩
  · exact hN (by omega) (by omega) n1 (by omega) hp
  · exact hN (by omega) (by omega) n2 (by omega) hp
  · exact hN (by omega) (by omega) n3 (by omega) hp
  · exact hN (by omega) (by omega) n4 (by omega) hp
  · exact hN (by omega) (by omega) n5 (by omega) hp
  · exact hN (by omega) (by omega) n6 (by omega) hp
  · exact hN (by omega) (by omega) n7 (by omega) hp
  · exact hN (by omega) (by omega) n8 (by omega) hp
  · exact hN (by omega) (by omega) n9 (by omega) hp
  · exact hN (by omega) (by omega) n10 (by omega) hp
theorem items_len (x0 x1 x2 x3 x4 x5 x6 x7 x8 x9 x10 : Int) (tok : ByteArray) : (items x0 x1 x2 x3 x4 x5 x6 x7 x8 x9 x10 tok).length ≤ 12 := by
  unfold items
  simp only [List.length_append]
  have h0 := itN_len 1 x0 0
  have h1 := itT_len tok
  have h2 := itN_len 3 x1 65527
  have h3 := itN_len 4 x2 0
  have h4 := itN_len 5 x3 0
  have h5 := itN_len 6 x4 0
  have h6 := itN_len 7 x5 0
  have h7 := itN_len 8 x6 0
  have h8 := itN_len 9 x7 0
  have h9 := itN_len 10 x8 3
  have h10 := itN_len 11 x9 25
  have h11 := itN_len 14 x10 2
  omega
theorem get_put (k : Nat) (hk : 30 ≤ k) {x0 x1 x2 x3 x4 x5 x6 x7 x8 x9 x10 : Int} {tok : ByteArray} (h : prmOk x0 x1 x2 x3 x4 x5 x6 x7 x8 x9 x10 tok) (hn : nonN x0 x1 x2 x3 x4 x5 x6 x7 x8 x9 x10) :
    params_Get.f k (cats (items x0 x1 x2 x3 x4 x5 x6 x7 x8 x9 x10 tok)) = some (x0, x1, x2, x3, x4, x5, x6, x7, x8, x9, x10, tok, 0) := by
  have hl := items_len x0 x1 x2 x3 x4 x5 x6 x7 x8 x9 x10 tok
  have hb := items_b h hn
  have hs := cats_size _ (fun p hp => (hb p hp).2)
  rw [get_cats k _ (fun p hp => by have := (hb p hp).1; omega) (by omega) (by omega) (by omega) (fold_items k (by omega) h hn), fin_ok h]
theorem ok_dflt (x2 : Int) (h0 : 0 ≤ x2) (h1 : x2 < 4611686018427387904) : prmOk 0 65527 x2 0 0 0 0 0 3 25 2 ⟨#[]⟩ ∧ nonN 0 65527 x2 0 0 0 0 0 3 25 2 := by
  refine ⟨prmOk_of ?_, by unfold nonN; omega⟩
  rw [nil_size]
  omega
theorem itN_same (n d : Int) : itN n d d = [] := if_pos rfl
theorem itN_diff (n x d : Int) (h : x ≠ d) : itN n x d = [(n, strOfNums (pb x))] := if_neg h
theorem itT_nil : itT ⟨#[]⟩ = [] := if_pos ((empty_iff _).2 rfl)
theorem items_data (x2 : Int) : items 0 65527 x2 0 0 0 0 0 3 25 2 ⟨#[]⟩ = itN 4 x2 0 := by
  unfold items
  rw [itN_same, itT_nil, itN_same, itN_same, itN_same, itN_same, itN_same, itN_same, itN_same, itN_same, itN_same]
  simp
theorem dflt_eq : params_Default.f = some (0, 65527, 0, 0, 0, 0, 0, 0, 3, 25, 2, ⟨#[]⟩) := rfl
theorem shown_all (k : Nat) (hk : 40 ≤ k) : dominolaw05_shown.f k = some true := by
  have ho := ok_dflt 64 (by decide) (by decide)
  have hp := put_ok ho.1 ho.2
  have hg := get_put k (by omega) ho.1 ho.2
  have hs : (cats (items 0 65527 64 0 0 0 0 0 3 25 2 ⟨#[]⟩)).toList = ([4, 2, 64, 64] : List UInt8) := by
    rw [items_data, itN_diff _ _ _ (by decide), cats_one]
    unfold pr
    rw [appL, appL, nums_size, numsL, numsL, numsL]
    decide
  have hc : params_Check.f 0 0 0 0 0 0 0 0 0 0 0 ⟨#[]⟩ = some 50 := by
    rw [params_Check.f, if_neg (fun h => by have := prmOk_not h; omega)]
  unfold dominolaw05_shown.f
  simp only [dflt_eq, Option.bind_some, hp, hg, hs, hc, if_true, beq_self_eq_true, Bool.and_true]
theorem valF_b (s : ByteArray) : ∀ (m i : Nat) (acc B : Int), 0 ≤ acc → acc < B → 0 ≤ valF s m i acc ∧ valF s m i acc < B * 256 ^ m
  | 0, i, acc, B, h0, h1 => by
    simp only [valF, Int.pow_zero, Int.mul_one]
    exact ⟨h0, h1⟩
  | m + 1, i, acc, B, h0, h1 => by
    have hb := bt_b s (i : Int)
    have ih := valF_b s m (i + 1) (acc * 256 + bt s (i : Int)) (B * 256) (by omega) (by omega)
    simp only [valF]
    rw [Int.pow_succ, Int.mul_comm (256 ^ m) 256, ← Int.mul_assoc]
    exact ih
theorem get_info (s : ByteArray) : ∃ v r e, (∀ k, 10 ≤ k → varint_Get.f k s = some (v, r, e)) ∧ (e = 0 → 0 ≤ v ∧ v < 4611686018427387904 ∧ r.size < s.size) := by
  by_cases h : s.size < wid (bt s 0)
  · exact ⟨0, ⟨#[]⟩, 10, fun k _ => get_short s k h, fun e => absurd e (by decide)⟩
  · have h' : wid (bt s 0) ≤ s.size := by omega
    have hb := bt_b s 0
    have hw := wid_b (bt s 0)
    refine ⟨_, _, 0, fun k hk => get_eq s k hk h', fun _ => ?_⟩
    have hv := valF_b s (wid (bt s 0) - 1) 1 (bt s 0 % 64) 64 (by omega) (by omega)
    have hz : (s.extract (wid (bt s 0)) s.size).size = s.size - wid (bt s 0) := by
      rw [ByteArray.size_extract]; omega
    refine ⟨hv.1, ?_, by omega⟩
    have hm : wid (bt s 0) - 1 ≤ 7 := by omega
    have hp : (64 : Int) * 256 ^ (wid (bt s 0) - 1) ≤ 4611686018427387904 := by
      generalize wid (bt s 0) - 1 = m at hm
      have hh : m = 0 ∨ m = 1 ∨ m = 2 ∨ m = 3 ∨ m = 4 ∨ m = 5 ∨ m = 6 ∨ m = 7 := by omega
      rcases hh with rfl | rfl | rfl | rfl | rfl | rfl | rfl | rfl <;> decide
    omega
theorem gets_info (s : ByteArray) : ∃ L r e, (∀ k, 13 ≤ k → varint_Gets.f k s 2 = some (L, r, e)) ∧ (e = 0 → ∃ a b, L = [a, b] ∧ 0 ≤ a ∧ a < 4611686018427387904 ∧ 0 ≤ b ∧ b < 4611686018427387904 ∧ r.size + 2 ≤ s.size) := by
  obtain ⟨a, r, e, h1, h2⟩ := get_info s
  by_cases he : e = 0
  · obtain ⟨b, r', e', h3, h4⟩ := get_info r
    by_cases he' : e' = 0
    · refine ⟨[a, b], r', 0, fun k hk => ?_, fun _ => ⟨a, b, rfl, ?_⟩⟩
      · obtain ⟨j, rfl⟩ : ∃ j, k = j + 1 + 1 + 1 := ⟨k - 3, by omega⟩
        unfold varint_Gets.f
        rw [varint_Gets.l0, if_pos (by omega), h1 _ (by omega), Option.bind_some]
        dsimp only
        rw [if_pos he, if_pos (by simp), w64 (by omega) (by omega), varint_Gets.l0, if_pos (by omega), h3 _ (by omega), Option.bind_some]
        dsimp only
        rw [if_pos he', if_pos (by simp), w64 (by omega) (by omega), varint_Gets.l0, if_neg (by omega)]
        rfl
      · have := h2 he
        have := h4 he'
        omega
    · refine ⟨[], ⟨#[]⟩, e', fun k hk => ?_, fun h => absurd h he'⟩
      obtain ⟨j, rfl⟩ : ∃ j, k = j + 1 + 1 + 1 := ⟨k - 3, by omega⟩
      unfold varint_Gets.f
      rw [varint_Gets.l0, if_pos (by omega), h1 _ (by omega), Option.bind_some]
      dsimp only
      rw [if_pos he, if_pos (by simp), w64 (by omega) (by omega), varint_Gets.l0, if_pos (by omega), h3 _ (by omega), Option.bind_some]
      dsimp only
      rw [if_neg he']
  · refine ⟨[], ⟨#[]⟩, e, fun k hk => ?_, fun h => absurd h he⟩
    obtain ⟨j, rfl⟩ : ∃ j, k = j + 1 := ⟨k - 1, by omega⟩
    unfold varint_Gets.f
    rw [varint_Gets.l0, if_pos (by omega), h1 _ (by omega), Option.bind_some]
    dsimp only
    rw [if_neg he]
theorem ext_size_r (a : ByteArray) (n : Nat) : (a.extract n a.size).size = a.size - n := by
  rw [ByteArray.size_extract]; omega
/-- Any text's pairs. -/
theorem prs_total : ∀ (m : Nat) (s : ByteArray), s.size ≤ m → m ≤ 100000 → ∃ xs, (∀ k, m + 20 ≤ k → prsL k s = some xs) ∧ xs.length ≤ m + 1 ∧ ∀ x ∈ xs, 0 ≤ x.1 ∧ x.1 < 4611686018427387904 := by
  intro m
  induction m with
  | zero =>
    intro s hs _
    obtain rfl : s = ⟨#[]⟩ := ba_ext (((empty_iff s).2 (by omega)).trans ((empty_iff _).2 rfl).symm)
    refine ⟨[], fun k hk => ?_, by simp, by simp⟩
    obtain ⟨j, rfl⟩ : ∃ j, k = j + 1 := ⟨k - 1, by omega⟩
    exact prs_nil j
  | succ m ih =>
    intro s hs hm
    by_cases hz : s.size = 0
    · obtain rfl : s = ⟨#[]⟩ := ba_ext (((empty_iff s).2 hz).trans ((empty_iff _).2 rfl).symm)
      refine ⟨[], fun k hk => ?_, by simp, by simp⟩
      obtain ⟨j, rfl⟩ : ∃ j, k = j + 1 := ⟨k - 1, by omega⟩
      exact prs_nil j
    have hne : ¬ s.toList = ([] : List UInt8) := fun e => hz ((empty_iff s).1 e)
    obtain ⟨L, r, e, h1, h2⟩ := gets_info s
    by_cases he : e = 0
    · obtain ⟨a, b, rfl, a0, a1, b0, b1, hr⟩ := h2 he
      have r0 : rd [a, b] 0 = a := rfl
      have r1 : rd [a, b] 1 = b := rfl
      by_cases hb : b > (r.size : Int)
      · refine ⟨[(0, none)], fun k hk => ?_, by simp, by simp⟩
        obtain ⟨j, rfl⟩ : ∃ j, k = j + 1 := ⟨k - 1, by omega⟩
        rw [prsL, if_neg hne, h1 _ (by omega), Option.bind_some]
        dsimp only
        rw [if_pos he, if_pos (by simp), r1, if_pos (by omega), if_pos hb]
      · obtain ⟨xs, i1, i2, i3⟩ := ih (r.extract b.toNat r.size) (by rw [ext_size_r]; omega) (by omega)
        refine ⟨(a, some (r.extract 0 b.toNat)) :: xs, fun k hk => ?_, by simp; omega, ?_⟩
        · obtain ⟨j, rfl⟩ : ∃ j, k = j + 1 := ⟨k - 1, by omega⟩
          rw [prsL, if_neg hne, h1 _ (by omega), Option.bind_some]
          dsimp only
          rw [if_pos he, if_pos (by simp), r1, r0, if_pos (by omega), if_neg hb, i1 _ (by omega)]
          rfl
        · intro x hx
          rcases List.mem_cons.1 hx with rfl | hx
          · exact ⟨a0, a1⟩
          · exact i3 x hx
    · refine ⟨[(0, none)], fun k hk => ?_, by simp, by simp⟩
      obtain ⟨j, rfl⟩ : ∃ j, k = j + 1 := ⟨k - 1, by omega⟩
      rw [prsL, if_neg hne, h1 _ (by omega), Option.bind_some]
      dsimp only
      rw [if_neg he]
def inR (v : List Int) : Prop := ∀ x ∈ v, 0 ≤ x
theorem step_total (v : List Int) (tok : ByteArray) (had : List Int) (x : Int × Option ByteArray) (hl : v.length = 11) (hv : inR v) : ∃ R, (∀ k, 10 ≤ k → getStep k v tok had x = some R) ∧ ∀ q, R = some q → q.1.length = 11 ∧ inR q.1 := by
  obtain ⟨z, _ | s⟩ := x
  · exact ⟨none, fun _ _ => rfl, fun _ h => by cases h⟩
  by_cases hc : cntT z had = 0
  case neg => exact ⟨none, fun k _ => by rw [getStep]; dsimp only; rw [if_neg hc], fun _ h => by cases h⟩
  by_cases h2 : z = 2
  · by_cases h16 : (s.size : Int) = 16
    · exact ⟨some (v, s), fun k _ => by rw [getStep]; dsimp only; rw [if_pos hc, if_pos h2, if_pos h16], fun q h => by cases h; exact ⟨hl, hv⟩⟩
    · exact ⟨none, fun k _ => by rw [getStep]; dsimp only; rw [if_pos hc, if_pos h2, if_neg h16], fun _ h => by cases h⟩
  cases hf : fldOf z with
  | none => exact ⟨some (v, tok), fun k _ => by rw [getStep]; dsimp only; rw [if_pos hc, if_neg h2, hf], fun q h => by cases h; exact ⟨hl, hv⟩⟩
  | some i =>
    obtain ⟨n, r, e, h1, hn⟩ := get_info s
    by_cases he : e = 0
    · by_cases hr : r.toList = ([] : List UInt8)
      · refine ⟨some (v.set i n, tok), fun k hk => ?_, fun q h => ?_⟩
        · rw [getStep]; dsimp only; rw [if_pos hc, if_neg h2, hf]; dsimp only; rw [h1 k hk, Option.bind_some]; dsimp only; rw [if_pos he, if_pos hr]
        · cases h
          refine ⟨by rw [List.length_set]; exact hl, fun y hy => ?_⟩
          rcases List.mem_or_eq_of_mem_set hy with h | h
          · exact hv y h
          · rw [h]; exact (hn he).1
      · exact ⟨none, fun k hk => by rw [getStep]; dsimp only; rw [if_pos hc, if_neg h2, hf]; dsimp only; rw [h1 k hk, Option.bind_some]; dsimp only; rw [if_pos he, if_neg hr], fun _ h => by cases h⟩
    · exact ⟨none, fun k hk => by rw [getStep]; dsimp only; rw [if_pos hc, if_neg h2, hf]; dsimp only; rw [h1 k hk, Option.bind_some]; dsimp only; rw [if_neg he], fun _ h => by cases h⟩
theorem fold_total : ∀ (xs : List (Int × Option ByteArray)) (v : List Int) (tok : ByteArray) (had : List Int), (∀ x ∈ xs, 0 ≤ x.1 ∧ x.1 < 4611686018427387904) → v.length = 11 → inR v → ∃ R, (∀ k, 10 ≤ k → getFold k xs v tok had = some R) ∧ ∀ q, R = some q → q.1.length = 11 ∧ inR q.1
  | [], v, tok, had, _, hl, hv => ⟨some (v, tok), fun _ _ => rfl, fun q h => by cases h; exact ⟨hl, hv⟩⟩
  | x :: t, v, tok, had, hx, hl, hv => by
    obtain ⟨S, s1, s2⟩ := step_total v tok had x hl hv
    have hw := hx x (List.mem_cons_self)
    cases S with
    | none =>
      refine ⟨none, fun k hk => ?_, fun _ h => by cases h⟩
      rw [getFold, if_pos (u64_wf hw.1 (by omega)), s1 k hk]
      rfl
    | some q =>
      obtain ⟨R, r1, r2⟩ := fold_total t q.1 q.2 (had ++ [x.1]) (fun y hy => hx y (List.mem_cons_of_mem _ hy)) (s2 q rfl).1 (s2 q rfl).2
      refine ⟨R, fun k hk => ?_, r2⟩
      rw [getFold, if_pos (u64_wf hw.1 (by omega)), s1 k hk, Option.bind_some]
      exact r1 k hk
theorem v0_in : inR v0L := by
  unfold inR v0L
  simp
theorem get_total (s : ByteArray) (hs : s.size ≤ 1000) : ∃ R, (∀ k, 1020 ≤ k → params_Get.f k s = fin R) ∧ ∀ q, R = some q → q.1.length = 11 ∧ inR q.1 := by
  obtain ⟨xs, h1, h2, h3⟩ := prs_total 1000 s hs (by omega)
  obtain ⟨R, r1, r2⟩ := fold_total xs v0L ⟨#[]⟩ [] h3 rfl v0_in
  exact ⟨R, fun k hk => get_fin k s (h1 k hk) (by omega) (r1 k (by omega)), r2⟩
theorem eleven {v : List Int} (h : v.length = 11) (hv : inR v) : ∃ x0 x1 x2 x3 x4 x5 x6 x7 x8 x9 x10, v = [x0, x1, x2, x3, x4, x5, x6, x7, x8, x9, x10] ∧ nonN x0 x1 x2 x3 x4 x5 x6 x7 x8 x9 x10 := by
  match v, h with
  | [x0, x1, x2, x3, x4, x5, x6, x7, x8, x9, x10], _ =>
    refine ⟨x0, x1, x2, x3, x4, x5, x6, x7, x8, x9, x10, rfl, ?_⟩
    unfold inR at hv
    simp only [List.mem_cons, List.not_mem_nil, or_false, forall_eq_or_imp, forall_eq] at hv
    exact hv
/-- What Get tells of any text: refused, or parameters that may be. -/
theorem get_says (s : ByteArray) (hs : s.size ≤ 1000) : (∃ e, e ≠ 0 ∧ ∀ k, 1020 ≤ k → params_Get.f k s = some (0, 0, 0, 0, 0, 0, 0, 0, 0, 0, 0, ⟨#[]⟩, e)) ∨
    ∃ x0 x1 x2 x3 x4 x5 x6 x7 x8 x9 x10 tok, prmOk x0 x1 x2 x3 x4 x5 x6 x7 x8 x9 x10 tok ∧ nonN x0 x1 x2 x3 x4 x5 x6 x7 x8 x9 x10 ∧ ∀ k, 1020 ≤ k → params_Get.f k s = some (x0, x1, x2, x3, x4, x5, x6, x7, x8, x9, x10, tok, 0) := by
  obtain ⟨R, h1, h2⟩ := get_total s hs
  cases R with
  | none => exact Or.inl ⟨50, by decide, fun k hk => (h1 k hk).trans rfl⟩
  | some q =>
    obtain ⟨v, tok⟩ := q
    obtain ⟨a1, a2⟩ := h2 _ rfl
    obtain ⟨x0, x1, x2, x3, x4, x5, x6, x7, x8, x9, x10, rfl, hn⟩ := eleven a1 a2
    by_cases ho : prmOk x0 x1 x2 x3 x4 x5 x6 x7 x8 x9 x10 tok
    · exact Or.inr ⟨x0, x1, x2, x3, x4, x5, x6, x7, x8, x9, x10, tok, ho, hn, fun k hk => (h1 k hk).trans (fin_ok ho)⟩
    · refine Or.inl ⟨50, by decide, fun k hk => (h1 k hk).trans ?_⟩
      show (params_Check.f x0 x1 x2 x3 x4 x5 x6 x7 x8 x9 x10 tok).bind _ = _
      rw [params_Check.f, if_neg ho]
      rfl
theorem tdn {a b : Int} (h : 0 ≤ a) : Int.tdiv a b = a / b := Int.tdiv_eq_ediv_of_nonneg h
theorem rpow : ∀ i : Nat, i < 64 → dominoref01_power.f 70 (i : Int) = some (2 ^ i) := by
  have h : ∀ i : Fin 64, dominoref01_power.f 70 (i.val : Int) = some (2 ^ i.val) := by decide +kernel
  exact fun i hi => h ⟨i, hi⟩
theorem rpow_at (i : Nat) (h : i < 64) (k : Nat) (hk : 70 ≤ k) : dominoref01_power.f k (i : Int) = some (2 ^ i) :=
  at_rounds (dominoref01_power.mono _) hk (rpow i h)
theorem rpow_all (i : Nat) (h : i < 8) (k : Nat) (hk : 70 ≤ k) : dominoref01_power.f k (wrap64 (8 * (i : Int))) = some (2 ^ (8 * i)) := by
  rw [w64 (by omega) (by omega)]
  exact rpow_at (8 * i) (by omega) k hk
theorem rfix_step (k : Nat) (n : Int) (h0 : 0 ≤ n) (h1 : n < 18446744073709551616) (i : Nat) (hi : i < 8) (xs : List Int) (hx : xs.length < 100) (hk : 70 ≤ k) :
    dominoref01_Fixed.l0 (k + 1) n xs (i : Int) = dominoref01_Fixed.l0 k n (xs ++ [n / 2 ^ (8 * i) % 256]) ((i : Int) - 1) := by
  have hp : (0 : Int) < 2 ^ (8 * i) := Int.pow_pos (by decide)
  have g0 : 0 ≤ n / 2 ^ (8 * i) := Int.ediv_nonneg h0 (by omega)
  have g1 : n / 2 ^ (8 * i) ≤ n := Int.ediv_le_self _ h0
  have e : (Int.tmod (IntKind.u64.wrap (Int.tdiv n (2 ^ (8 * i)))) 256) % 256 = n / 2 ^ (8 * i) % 256 := by
    rw [tdn h0, wUi g0 (by omega), Int.tmod_eq_emod_of_nonneg g0]
    omega
  have w : wrap64 ((i : Int) - 1) = (i : Int) - 1 := by
    have : i = 0 ∨ i = 1 ∨ i = 2 ∨ i = 3 ∨ i = 4 ∨ i = 5 ∨ i = 6 ∨ i = 7 := by omega
    rcases this with rfl | rfl | rfl | rfl | rfl | rfl | rfl | rfl <;> decide +kernel
  conv => lhs; unfold dominoref01_Fixed.l0
  rw [if_pos (by omega), rpow_all i hi k hk, Option.bind_some, if_neg (by omega), if_pos (by omega), e, w]
theorem rfix1 (k : Nat) (n : Int) (h0 : 0 ≤ n) (h1 : n < 18446744073709551616) (hk : 70 ≤ k) : dominoref01_Fixed.f (k + 9) n 1 = some (strOfNums [n % 256]) := by
  unfold dominoref01_Fixed.f
  rw [show mx (mn 1 8) 0 - 1 = ((0 : Nat) : Int) by decide]
  rw [rfix_step (k + 8) n h0 h1 0 (by decide) _ (by simp) (by omega)]
  unfold dominoref01_Fixed.l0
  rw [if_neg (by decide)]
  simp
theorem rfix2 (k : Nat) (n : Int) (h0 : 0 ≤ n) (h1 : n < 18446744073709551616) (hk : 70 ≤ k) : dominoref01_Fixed.f (k + 9) n 2 = some (strOfNums [n / 256 % 256, n % 256]) := by
  unfold dominoref01_Fixed.f
  rw [show mx (mn 2 8) 0 - 1 = ((1 : Nat) : Int) by decide]
  rw [rfix_step (k + 8) n h0 h1 1 (by decide) _ (by simp) (by omega), show (((1 : Nat) : Int) - 1) = ((0 : Nat) : Int) by decide]
  rw [rfix_step (k + 7) n h0 h1 0 (by decide) _ (by simp) (by omega)]
  unfold dominoref01_Fixed.l0
  rw [if_neg (by decide)]
  simp
theorem rfix4 (k : Nat) (n : Int) (h0 : 0 ≤ n) (h1 : n < 18446744073709551616) (hk : 70 ≤ k) : dominoref01_Fixed.f (k + 9) n 4 = some (strOfNums [n / 16777216 % 256, n / 65536 % 256, n / 256 % 256, n % 256]) := by
  unfold dominoref01_Fixed.f
  rw [show mx (mn 4 8) 0 - 1 = ((3 : Nat) : Int) by decide]
  rw [rfix_step (k + 8) n h0 h1 3 (by decide) _ (by simp) (by omega), show (((3 : Nat) : Int) - 1) = ((2 : Nat) : Int) by decide]
  rw [rfix_step (k + 7) n h0 h1 2 (by decide) _ (by simp) (by omega), show (((2 : Nat) : Int) - 1) = ((1 : Nat) : Int) by decide]
  rw [rfix_step (k + 6) n h0 h1 1 (by decide) _ (by simp) (by omega), show (((1 : Nat) : Int) - 1) = ((0 : Nat) : Int) by decide]
  rw [rfix_step (k + 5) n h0 h1 0 (by decide) _ (by simp) (by omega)]
  unfold dominoref01_Fixed.l0
  rw [if_neg (by decide)]
  simp
theorem rfix8 (k : Nat) (n : Int) (h0 : 0 ≤ n) (h1 : n < 18446744073709551616) (hk : 70 ≤ k) : dominoref01_Fixed.f (k + 9) n 8 = some (strOfNums [n / 72057594037927936 % 256, n / 281474976710656 % 256, n / 1099511627776 % 256, n / 4294967296 % 256, n / 16777216 % 256, n / 65536 % 256, n / 256 % 256, n % 256]) := by
  unfold dominoref01_Fixed.f
  rw [show mx (mn 8 8) 0 - 1 = ((7 : Nat) : Int) by decide]
  rw [rfix_step (k + 8) n h0 h1 7 (by decide) _ (by decide) (by omega), show (((7 : Nat) : Int) - 1) = ((6 : Nat) : Int) by decide]
  rw [rfix_step (k + 7) n h0 h1 6 (by decide) _ (by simp) (by omega), show (((6 : Nat) : Int) - 1) = ((5 : Nat) : Int) by decide]
  rw [rfix_step (k + 6) n h0 h1 5 (by decide) _ (by simp) (by omega), show (((5 : Nat) : Int) - 1) = ((4 : Nat) : Int) by decide]
  rw [rfix_step (k + 5) n h0 h1 4 (by decide) _ (by simp) (by omega), show (((4 : Nat) : Int) - 1) = ((3 : Nat) : Int) by decide]
  rw [rfix_step (k + 4) n h0 h1 3 (by decide) _ (by simp) (by omega), show (((3 : Nat) : Int) - 1) = ((2 : Nat) : Int) by decide]
  rw [rfix_step (k + 3) n h0 h1 2 (by decide) _ (by simp) (by omega), show (((2 : Nat) : Int) - 1) = ((1 : Nat) : Int) by decide]
  rw [rfix_step (k + 2) n h0 h1 1 (by decide) _ (by simp) (by omega), show (((1 : Nat) : Int) - 1) = ((0 : Nat) : Int) by decide]
  rw [rfix_step (k + 1) n h0 h1 0 (by decide) _ (by simp) (by omega)]
  unfold dominoref01_Fixed.l0
  rw [if_neg (by decide)]
  simp
theorem p6 (k : Nat) (hk : 70 ≤ k) : dominoref01_power.f k 6 = some 64 := rpow_at 6 (by decide) k hk
theorem p14 (k : Nat) (hk : 70 ≤ k) : dominoref01_power.f k 14 = some 16384 := rpow_at 14 (by decide) k hk
theorem p30 (k : Nat) (hk : 70 ≤ k) : dominoref01_power.f k 30 = some 1073741824 := rpow_at 30 (by decide) k hk
theorem p62 (k : Nat) (hk : 70 ≤ k) : dominoref01_power.f k 62 = some 4611686018427387904 := rpow_at 62 (by decide) k hk
theorem rsize (n : Int) (h0 : 0 ≤ n) (k : Nat) (hk : 70 ≤ k) : dominoref01_Size.f k n = some (if n < 4611686018427387904 then ((pb n).length : Int) else 0) := by
  unfold dominoref01_Size.f pb
  rw [p6 k hk, Option.bind_some, p14 k hk, Option.bind_some, p30 k hk, Option.bind_some, p62 k hk, Option.bind_some]
  (repeat' split) <;> first | rfl | (exfalso; omega)
theorem rput_big (n : Int) (h0 : 4611686018427387904 ≤ n) (k : Nat) (hk : 70 ≤ k) : dominoref01_Put.f k n = some ((⟨#[]⟩ : ByteArray), 1) := by
  unfold dominoref01_Put.f
  rw [rsize n (by omega) k hk, if_neg (by omega), Option.bind_some, if_neg (by decide), if_neg (by decide), if_neg (by decide), if_neg (by decide)]
theorem rput (n : Int) (h0 : 0 ≤ n) (h1 : n < 4611686018427387904) (k : Nat) (hk : 70 ≤ k) : dominoref01_Put.f (k + 9) n = some (strOfNums (pb n), 0) := by
  unfold dominoref01_Put.f
  rw [rsize n h0 (k + 9) (by omega), if_pos h1, Option.bind_some]
  unfold pb
  by_cases c1 : n < 64
  · rw [if_pos c1, if_pos (by simp), rfix1 k n h0 (by omega) hk, Option.bind_some, show n % 256 = n by omega]
  by_cases c2 : n < 16384
  · rw [if_neg c1, if_pos c2, if_neg (by simp), if_pos (by simp), p14 (k + 9) (by omega), Option.bind_some, wUi (by omega) (by omega), rfix2 k _ (by omega) (by omega) hk, Option.bind_some, show (n + 16384) / 256 % 256 = n / 256 + 64 by omega, show (n + 16384) % 256 = n % 256 by omega]
  by_cases c4 : n < 1073741824
  · rw [if_neg c1, if_neg c2, if_pos c4, if_neg (by simp), if_neg (by simp), if_pos (by simp), p30 (k + 9) (by omega), Option.bind_some, wUi (n := 2 * 1073741824) (by omega) (by omega), wUi (by omega) (by omega), rfix4 k _ (by omega) (by omega) hk, Option.bind_some, show (n + 2 * 1073741824) / 16777216 % 256 = n / 16777216 + 128 by omega, show (n + 2 * 1073741824) / 65536 % 256 = n / 65536 % 256 by omega, show (n + 2 * 1073741824) / 256 % 256 = n / 256 % 256 by omega, show (n + 2 * 1073741824) % 256 = n % 256 by omega]
  · rw [if_neg c1, if_neg c2, if_neg c4, if_neg (by simp), if_neg (by simp), if_neg (by simp), if_pos (by simp), p62 (k + 9) (by omega), Option.bind_some, wUi (n := 3 * 4611686018427387904) (by omega) (by omega), wUi (by omega) (by omega), rfix8 k _ (by omega) (by omega) hk, Option.bind_some, show (n + 3 * 4611686018427387904) / 72057594037927936 % 256 = n / 72057594037927936 + 192 by omega, show (n + 3 * 4611686018427387904) / 281474976710656 % 256 = n / 281474976710656 % 256 by omega, show (n + 3 * 4611686018427387904) / 1099511627776 % 256 = n / 1099511627776 % 256 by omega, show (n + 3 * 4611686018427387904) / 4294967296 % 256 = n / 4294967296 % 256 by omega, show (n + 3 * 4611686018427387904) / 16777216 % 256 = n / 16777216 % 256 by omega, show (n + 3 * 4611686018427387904) / 65536 % 256 = n / 65536 % 256 by omega, show (n + 3 * 4611686018427387904) / 256 % 256 = n / 256 % 256 by omega, show (n + 3 * 4611686018427387904) % 256 = n % 256 by omega]
theorem back_run (s : ByteArray) (w : Nat) (hw : w ≤ 8) (hs : s.size = w) : ∀ (m i k : Nat) (acc : Int), i + m = w → 0 ≤ acc → acc < 256 ^ i →
    dominoref01_Back.l0 (k + m + 1) s acc (i : Int) = some (valF s m i acc) := by
  intro m
  induction m with
  | zero =>
    intro i k acc h _ _
    unfold dominoref01_Back.l0
    rw [if_neg (by omega)]
    rfl
  | succ m ih =>
    intro i k acc h h0 h1
    have hp : acc < 72057594037927936 := by
      have hh : i = 0 ∨ i = 1 ∨ i = 2 ∨ i = 3 ∨ i = 4 ∨ i = 5 ∨ i = 6 ∨ i = 7 := by omega
      rcases hh with rfl | rfl | rfl | rfl | rfl | rfl | rfl | rfl <;> (simp only [Int.reducePow] at h1; omega)
    obtain ⟨b0, b1⟩ := bt_b s (i : Int)
    unfold dominoref01_Back.l0
    rw [if_pos (by omega), if_pos (by omega), w64 (by omega) (by omega), wUi (n := acc * 256) (by omega) (by omega), wUi (n := bt s (i : Int)) (by omega) (by omega), wUi (by omega) (by omega)]
    refine ih (i + 1) k _ (by omega) (by omega) ?_
    rw [Int.pow_succ]
    omega
theorem bt_take (s : ByteArray) (c i : Nat) (hi : i < c) : bt (s.extract 0 c) (i : Int) = bt s (i : Int) := by
  rw [bt_list, bt_list, Go.Lib.extract_toList, ← Go.Lib.toList_data, List.getD_eq_getElem?_getD, List.getD_eq_getElem?_getD, List.getElem?_take, if_pos (by omega), List.drop_zero]
theorem valF_take (s : ByteArray) (c : Nat) : ∀ (m i : Nat) (acc : Int), i + m ≤ c → valF (s.extract 0 c) m i acc = valF s m i acc := by
  intro m
  induction m with
  | zero => intro i acc _; rfl
  | succ m ih =>
    intro i acc h
    simp only [valF]
    rw [bt_take s c i (by omega), ih (i + 1) _ (by omega)]
theorem take_size (s : ByteArray) (c : Nat) (hc : c ≤ s.size) : (s.extract 0 c).size = c := by
  rw [sizeL, Go.Lib.extract_toList, List.length_take, List.length_drop, ← Go.Lib.size_eq]
  omega
theorem ref_wid (b : Int) (h0 : 0 ≤ b) (h1 : b < 256) (k : Nat) (hk : 70 ≤ k) : dominoref01_power.f k (Int.tdiv b 64 % 256) = some (wid b : Int) := by
  rw [tdn h0]
  have h : b / 64 = 0 ∨ b / 64 = 1 ∨ b / 64 = 2 ∨ b / 64 = 3 := by omega
  unfold wid
  rcases h with h | h | h | h <;> rw [h]
  · rw [if_pos (by omega)]; exact rpow_at 0 (by decide) k hk
  · rw [if_neg (by omega), if_pos (by omega)]; exact rpow_at 1 (by decide) k hk
  · rw [if_neg (by omega), if_neg (by omega), if_pos (by omega)]; exact rpow_at 2 (by decide) k hk
  · rw [if_neg (by omega), if_neg (by omega), if_neg (by omega)]; exact rpow_at 3 (by decide) k hk
theorem rget_short (s : ByteArray) (k : Nat) (hk : 70 ≤ k) (h : s.size < wid (bt s 0)) : dominoref01_Get.f k s = some (0, (⟨#[]⟩ : ByteArray), 10) := by
  obtain ⟨b0, b1⟩ := bt_b s 0
  obtain ⟨w1, w8⟩ := wid_b (bt s 0)
  unfold dominoref01_Get.f
  by_cases hz : s.size = 0
  · rw [if_pos ((empty_iff s).2 hz)]
  · rw [if_neg (fun h => hz ((empty_iff s).1 h)), if_pos (by omega), ref_wid _ b0 b1 k hk, Option.bind_some, w64 (by omega) (by omega), if_pos (by omega)]
theorem ref_val (s : ByteArray) (w : Nat) (hw : wid (bt s 0) = w) : Int.tmod (valF s w 0 0) (2 ^ (8 * w - 2)) = valF s (w - 1) 1 (bt s 0 % 64) := by
  have b := fun i : Nat => bt_b s (i : Int)
  have b0 := b 0
  have b1 := b 1
  have b2 := b 2
  have b3 := b 3
  have b4 := b 4
  have b5 := b 5
  have b6 := b 6
  have b7 := b 7
  clear b
  rw [show ((0 : Nat) : Int) = 0 from rfl] at b0
  unfold wid at hw
  by_cases c1 : bt s 0 < 64
  · rw [if_pos c1] at hw
    subst hw
    simp only [valF, Nat.reduceSub, Nat.reduceMul, Int.reducePow, Int.zero_mul, Int.zero_add, show ((0 : Nat) : Int) = 0 from rfl]
    rw [Int.tmod_eq_emod_of_nonneg (by omega)]
  by_cases c2 : bt s 0 < 128
  · rw [if_neg c1, if_pos c2] at hw
    subst hw
    simp only [valF, Nat.reduceSub, Nat.reduceMul, Nat.reduceAdd, Int.reducePow, Int.zero_mul, Int.zero_add, show ((0 : Nat) : Int) = 0 from rfl]
    rw [Int.tmod_eq_emod_of_nonneg (by omega)]
    omega
  by_cases c4 : bt s 0 < 192
  · rw [if_neg c1, if_neg c2, if_pos c4] at hw
    subst hw
    simp only [valF, Nat.reduceSub, Nat.reduceMul, Nat.reduceAdd, Int.reducePow, Int.zero_mul, Int.zero_add, show ((0 : Nat) : Int) = 0 from rfl]
    rw [Int.tmod_eq_emod_of_nonneg (by omega)]
    omega
  · rw [if_neg c1, if_neg c2, if_neg c4] at hw
    subst hw
    simp only [valF, Nat.reduceSub, Nat.reduceMul, Nat.reduceAdd, Int.reducePow, Int.zero_mul, Int.zero_add, show ((0 : Nat) : Int) = 0 from rfl]
    rw [Int.tmod_eq_emod_of_nonneg (by omega)]
    omega
theorem rget_eq (s : ByteArray) (k : Nat) (hk : 80 ≤ k) (h : wid (bt s 0) ≤ s.size) : dominoref01_Get.f k s = some (valF s (wid (bt s 0) - 1) 1 (bt s 0 % 64), s.extract (wid (bt s 0)) s.size, 0) := by
  obtain ⟨b0, b1⟩ := bt_b s 0
  obtain ⟨w1, w8⟩ := wid_b (bt s 0)
  obtain ⟨j, rfl⟩ := Nat.le.dest hk
  have hv := ref_val s (wid (bt s 0)) rfl
  have hb : dominoref01_Back.f (80 + j) (s.extract 0 (wid (bt s 0))) = some (valF s (wid (bt s 0)) 0 0) := by
    have := back_run (s.extract 0 (wid (bt s 0))) (wid (bt s 0)) w8 (take_size s _ h) (wid (bt s 0)) 0 (79 + j - wid (bt s 0)) 0 (by omega) (by decide) (by decide)
    rw [show 79 + j - wid (bt s 0) + wid (bt s 0) + 1 = 80 + j by omega, valF_take s _ _ _ _ (by omega)] at this
    exact this
  have hp : dominoref01_power.f (80 + j) (wrap64 (wrap64 (8 * (wid (bt s 0) : Int)) - 2)) = some (2 ^ (8 * wid (bt s 0) - 2)) := by
    rw [w64 (n := 8 * (wid (bt s 0) : Int)) (by omega) (by omega), w64 (by omega) (by omega)]
    have := rpow_at (8 * wid (bt s 0) - 2) (by omega) (80 + j) (by omega)
    rw [show ((8 * wid (bt s 0) - 2 : Nat) : Int) = 8 * (wid (bt s 0) : Int) - 2 by omega] at this
    exact this
  have hne : ¬ ((2 : Int) ^ (8 * wid (bt s 0) - 2)) = 0 := by
    have : (0 : Int) < 2 ^ (8 * wid (bt s 0) - 2) := Int.pow_pos (by decide)
    omega
  unfold dominoref01_Get.f
  rw [if_neg (fun h => by have := (empty_iff s).1 h; omega), if_pos (by omega), ref_wid _ b0 b1 _ (by omega), Option.bind_some, w64 (n := (wid (bt s 0) : Int)) (by omega) (by omega), if_neg (by omega), if_pos (by omega), if_pos (by omega), Int.toNat_natCast, hb, Option.bind_some, hp, Option.bind_some, if_neg hne, hv]
theorem both_put (n : Int) (h0 : 0 ≤ n) (h1 : n < 18446744073709551616) : ∃ p e, varint_Put.f n = some (p, e) ∧ (∀ q, 80 ≤ q → dominoref01_Put.f q n = some (p, e)) ∧ ((e = 0 ∧ n < 4611686018427387904 ∧ p = strOfNums (pb n)) ∨ e = 1) := by
  by_cases c : 4611686018427387904 ≤ n
  · exact ⟨_, _, put_big n c h1, fun q hq => rput_big n c q (by omega), Or.inr rfl⟩
  · refine ⟨_, _, put_eq n h0 (by omega), fun q hq => ?_, Or.inl ⟨rfl, by omega, rfl⟩⟩
    obtain ⟨j, rfl⟩ := Nat.le.dest hq
    rw [show 80 + j = 71 + j + 9 by omega]
    exact rput n h0 (by omega) (71 + j) (by omega)
theorem both_get (s : ByteArray) : ∃ v r e, (∀ q, 10 ≤ q → varint_Get.f q s = some (v, r, e)) ∧ (∀ q, 80 ≤ q → dominoref01_Get.f q s = some (v, r, e)) := by
  by_cases c : s.size < wid (bt s 0)
  · exact ⟨_, _, _, fun q _ => get_short s q c, fun q hq => rget_short s q (by omega) c⟩
  · exact ⟨_, _, _, fun q hq => get_eq s q hq (by omega), fun q hq => rget_eq s q hq (by omega)⟩
theorem gets_run : ∀ (m : Nat) (acc : List Int) (s : ByteArray), acc.length + m ≤ 1000 → ∃ L r e, (∀ k, 10 ≤ k → varint_Gets.l0 (k + m + 1) (m : Int) acc s = some (L, r, e)) ∧
    (∀ k, 80 ≤ k → ∀ n i : Int, 0 ≤ i → i + m = n → n ≤ 1000 → dominoref01_Gets.l0 (k + m + 1) s n acc i = some (L, r, e)) := by
  intro m
  induction m with
  | zero =>
    intro acc s _
    refine ⟨acc, s, 0, fun k _ => ?_, fun k _ n i h0 h1 _ => ?_⟩
    · unfold varint_Gets.l0
      rw [if_neg (by omega)]
    · unfold dominoref01_Gets.l0
      rw [if_neg (by omega)]
  | succ m ih =>
    intro acc s ha
    obtain ⟨v, r, e, g1, g2⟩ := both_get s
    by_cases he : e = 0
    · obtain ⟨L, r', e', i1, i2⟩ := ih (acc ++ [v]) r (by simp; omega)
      refine ⟨L, r', e', fun k hk => ?_, fun k hk n i h0 h1 hn => ?_⟩
      · unfold varint_Gets.l0
        rw [if_pos (by omega), g1 _ (by omega), Option.bind_some]
        dsimp only
        rw [if_pos he, if_pos (by omega), w64 (by omega) (by omega), show (((m + 1 : Nat) : Int) - 1) = (m : Int) by omega, show k + (m + 1) = k + m + 1 by omega]
        exact i1 k hk
      · unfold dominoref01_Gets.l0
        rw [if_pos (by omega), g2 _ (by omega), Option.bind_some]
        dsimp only
        rw [if_pos he, if_pos (by omega), w64 (by omega) (by omega), show k + (m + 1) = k + m + 1 by omega]
        exact i2 k hk n (i + 1) (by omega) (by omega) hn
    · refine ⟨[], ⟨#[]⟩, e, fun k hk => ?_, fun k hk n i h0 h1 hn => ?_⟩
      · unfold varint_Gets.l0
        rw [if_pos (by omega), g1 _ (by omega), Option.bind_some]
        dsimp only
        rw [if_neg he]
      · unfold dominoref01_Gets.l0
        rw [if_pos (by omega), g2 _ (by omega), Option.bind_some]
        dsimp only
        rw [if_neg he]
theorem wadd (n : Int) (h0 : 0 ≤ n) (h1 : n < 100) : IntKind.u64.wrap (n + 1) = n + 1 := wUi (by omega) (by omega)
theorem check_step (k : Nat) {x0 x1 x2 x3 x4 x5 x6 x7 x8 x9 x10 : Int} {tok : ByteArray} {n v : Int} {b : Bool} (h0 : 0 ≤ n) (h1 : n ≤ 14) (hv : dominoref05_value.f x0 x1 x2 x3 x4 x5 x6 x7 x8 x9 x10 tok n = some (v, b)) :
    dominoref05_Check.l0 (k + 1) n x0 x1 x2 x3 x4 x5 x6 x7 x8 x9 x10 tok = if v > 4611686018427387903 then some 50 else dominoref05_Check.l0 k (n + 1) x0 x1 x2 x3 x4 x5 x6 x7 x8 x9 x10 tok := by
  rw [dominoref05_Check.l0, if_pos h1, hv, Option.bind_some, wadd n h0 (by omega)]
theorem check_ref (k : Nat) (x0 x1 x2 x3 x4 x5 x6 x7 x8 x9 x10 : Int) (tok : ByteArray) : dominoref05_Check.f (k + 15) x0 x1 x2 x3 x4 x5 x6 x7 x8 x9 x10 tok = params_Check.f x0 x1 x2 x3 x4 x5 x6 x7 x8 x9 x10 tok := by
  have hno : ∀ {p : Prop} [Decidable p] {L : Option Int}, (p → ¬ prmOk x0 x1 x2 x3 x4 x5 x6 x7 x8 x9 x10 tok) → (¬ p → L = params_Check.f x0 x1 x2 x3 x4 x5 x6 x7 x8 x9 x10 tok) → (if p then some 50 else L) = params_Check.f x0 x1 x2 x3 x4 x5 x6 x7 x8 x9 x10 tok := by
    intro p _ L h1 h2
    by_cases hp : p
    · rw [if_pos hp, params_Check.f, if_neg (h1 hp)]
    · rw [if_neg hp]; exact h2 hp
  unfold dominoref05_Check.f
  have st : ∀ {j : Nat} {n v : Int} {b : Bool}, 0 ≤ n → n ≤ 14 → dominoref05_value.f x0 x1 x2 x3 x4 x5 x6 x7 x8 x9 x10 tok n = some (v, b) → ((v > 4611686018427387903) → ¬ prmOk x0 x1 x2 x3 x4 x5 x6 x7 x8 x9 x10 tok) → (¬ v > 4611686018427387903 → dominoref05_Check.l0 j (n + 1) x0 x1 x2 x3 x4 x5 x6 x7 x8 x9 x10 tok = params_Check.f x0 x1 x2 x3 x4 x5 x6 x7 x8 x9 x10 tok) → dominoref05_Check.l0 (j + 1) n x0 x1 x2 x3 x4 x5 x6 x7 x8 x9 x10 tok = params_Check.f x0 x1 x2 x3 x4 x5 x6 x7 x8 x9 x10 tok := by
    intro j n v b h0 h1 hv h2 h3
    rw [check_step j h0 h1 hv]
    exact hno h2 h3
  refine st (n := 1) (by omega) (by omega) rfl (fun h hp => by have := (prmOk_not hp).1; omega) fun a1 => ?_
  refine st (n := 2) (by omega) (by omega) rfl (fun h hp => by omega) fun a2 => ?_
  refine st (n := 3) (by omega) (by omega) rfl (fun h hp => by have := (prmOk_not hp).1; omega) fun a3 => ?_
  refine st (n := 4) (by omega) (by omega) rfl (fun h hp => by have := (prmOk_not hp).1; omega) fun a4 => ?_
  refine st (n := 5) (by omega) (by omega) rfl (fun h hp => by have := (prmOk_not hp).1; omega) fun a5 => ?_
  refine st (n := 6) (by omega) (by omega) rfl (fun h hp => by have := (prmOk_not hp).1; omega) fun a6 => ?_
  refine st (n := 7) (by omega) (by omega) rfl (fun h hp => by have := (prmOk_not hp).1; omega) fun a7 => ?_
  refine st (n := 8) (by omega) (by omega) rfl (fun h hp => by have := (prmOk_not hp).1; omega) fun a8 => ?_
  refine st (n := 9) (by omega) (by omega) rfl (fun h hp => by have := (prmOk_not hp).1; omega) fun a9 => ?_
  refine st (n := 10) (by omega) (by omega) rfl (fun h hp => by have := (prmOk_not hp).1; omega) fun a10 => ?_
  refine st (n := 11) (by omega) (by omega) rfl (fun h hp => by have := (prmOk_not hp).1; omega) fun a11 => ?_
  refine st (n := 12) (by omega) (by omega) rfl (fun h hp => by omega) fun a12 => ?_
  refine st (n := 13) (by omega) (by omega) rfl (fun h hp => by omega) fun a13 => ?_
  refine st (n := 14) (by omega) (by omega) rfl (fun h hp => by have := (prmOk_not hp).1; omega) fun a14 => ?_
  rw [dominoref05_Check.l0, if_neg (by omega)]
  refine hno (fun h hp => by have := (prmOk_not hp); omega) fun b1 => ?_
  refine hno (fun h hp => by have := (prmOk_not hp); omega) fun b2 => ?_
  refine hno (fun h hp => by have := (prmOk_not hp); omega) fun b3 => ?_
  refine hno (fun h hp => by have := (prmOk_not hp); omega) fun b4 => ?_
  refine hno (fun h hp => by have := (prmOk_not hp); omega) fun b5 => ?_
  refine hno (fun h hp => by have := (prmOk_not hp); omega) fun b6 => ?_
  by_cases h1 : (tok.size : Int) = 0
  · rw [if_pos h1, params_Check.f, if_pos (prmOk_of (by omega))]
  rw [if_neg h1]
  by_cases h2 : (tok.size : Int) = 16
  · rw [if_pos h2, params_Check.f, if_pos (prmOk_of (by omega))]
  · rw [if_neg h2, params_Check.f, if_neg (fun hp => by have := (prmOk_not hp); omega)]
theorem wrap_size {s : ByteArray} (h : s.size ≤ 100000) : IntKind.u64.wrap (s.size : Int) = (s.size : Int) := wUi (by omega) (by omega)
theorem cnt_zero {a : Int} {had : List Int} : cntT a had = 0 ↔ a ∉ had := by
  unfold cntT
  constructor
  · intro h hm
    have h2 : (had.filter (· == a)).length = 0 := by omega
    have h4 := List.filter_eq_nil_iff.1 (List.eq_nil_of_length_eq_zero h2) a hm
    simp at h4
  · intro h
    rw [List.filter_eq_nil_iff.2 (fun y hy => by simp; rintro rfl; exact h hy)]
    rfl
theorem value_none {x0 x1 x2 x3 x4 x5 x6 x7 x8 x9 x10 : Int} {tok : ByteArray} {a : Int} (h : fldOf a = none) : dominoref05_value.f x0 x1 x2 x3 x4 x5 x6 x7 x8 x9 x10 tok a = some (0, false) := by
  have hne : ∀ {n : Int} {i : Nat}, fldOf n = some i → a ≠ n := fun h1 e => by rw [e, h1] at h; cases h
  unfold dominoref05_value.f
  rw [if_neg (hne (n := 1) rfl), if_neg (hne (n := 3) rfl), if_neg (hne (n := 4) rfl), if_neg (hne (n := 5) rfl), if_neg (hne (n := 6) rfl), if_neg (hne (n := 7) rfl), if_neg (hne (n := 8) rfl), if_neg (hne (n := 9) rfl), if_neg (hne (n := 10) rfl), if_neg (hne (n := 11) rfl), if_neg (hne (n := 14) rfl)]
theorem fld_cases {a : Int} {i : Nat} (h : fldOf a = some i) : (a = 1 ∧ i = 0) ∨ (a = 3 ∧ i = 1) ∨ (a = 4 ∧ i = 2) ∨ (a = 5 ∧ i = 3) ∨ (a = 6 ∧ i = 4) ∨ (a = 7 ∧ i = 5) ∨ (a = 8 ∧ i = 6) ∨ (a = 9 ∧ i = 7) ∨ (a = 10 ∧ i = 8) ∨ (a = 11 ∧ i = 9) ∨ (a = 14 ∧ i = 10) := by
  unfold fldOf at h
  repeat' split at h
  all_goals first | (cases h; omega) | cases h
theorem value_some {x0 x1 x2 x3 x4 x5 x6 x7 x8 x9 x10 : Int} {tok : ByteArray} {a : Int} {i : Nat} (h : fldOf a = some i) : ∃ y, dominoref05_value.f x0 x1 x2 x3 x4 x5 x6 x7 x8 x9 x10 tok a = some (y, true) := by
  rcases fld_cases h with ⟨rfl, rfl⟩ | ⟨rfl, rfl⟩ | ⟨rfl, rfl⟩ | ⟨rfl, rfl⟩ | ⟨rfl, rfl⟩ | ⟨rfl, rfl⟩ | ⟨rfl, rfl⟩ | ⟨rfl, rfl⟩ | ⟨rfl, rfl⟩ | ⟨rfl, rfl⟩ | ⟨rfl, rfl⟩ <;> exact ⟨_, rfl⟩
theorem set_some {x0 x1 x2 x3 x4 x5 x6 x7 x8 x9 x10 n : Int} {tok : ByteArray} {a : Int} {i : Nat} (h : fldOf a = some i) : ∃ y0 y1 y2 y3 y4 y5 y6 y7 y8 y9 y10, dominoref05_set.f x0 x1 x2 x3 x4 x5 x6 x7 x8 x9 x10 tok a n = some (y0, y1, y2, y3, y4, y5, y6, y7, y8, y9, y10, tok) ∧ [x0, x1, x2, x3, x4, x5, x6, x7, x8, x9, x10].set i n = [y0, y1, y2, y3, y4, y5, y6, y7, y8, y9, y10] := by
  rcases fld_cases h with ⟨rfl, rfl⟩ | ⟨rfl, rfl⟩ | ⟨rfl, rfl⟩ | ⟨rfl, rfl⟩ | ⟨rfl, rfl⟩ | ⟨rfl, rfl⟩ | ⟨rfl, rfl⟩ | ⟨rfl, rfl⟩ | ⟨rfl, rfl⟩ | ⟨rfl, rfl⟩ | ⟨rfl, rfl⟩ <;> exact ⟨_, _, _, _, _, _, _, _, _, _, _, rfl, rfl⟩
theorem l1_run (had : List Int) (hh : had.length ≤ 2000) (a b : Int) (r : ByteArray) (x0 x1 x2 x3 x4 x5 x6 x7 x8 x9 x10 : Int) (tok : ByteArray) : ∀ (j i k : Nat), i + j = had.length →
    dominoref05_Get.l1 (k + j + 1) had [a, b] r (i : Int) x0 x1 x2 x3 x4 x5 x6 x7 x8 x9 x10 tok = if a ∈ had.drop i then some (0, 0, 0, 0, 0, 0, 0, 0, 0, 0, 0, (⟨#[]⟩ : ByteArray), 50) else dominoref05_Get.l1 (k + 1) had [a, b] r (had.length : Int) x0 x1 x2 x3 x4 x5 x6 x7 x8 x9 x10 tok := by
  intro j
  induction j with
  | zero =>
    intro i k h
    obtain rfl : i = had.length := by omega
    rw [List.drop_length, if_neg (by simp)]
  | succ j ih =>
    intro i k h
    have hlt : i < had.length := by omega
    have r0 : rd [a, b] 0 = a := rfl
    have ri : rd had (i : Int) = had[i] := by simp [rd, hlt]
    have e : k + (j + 1) + 1 = (k + j + 1) + 1 := by omega
    rw [e, dominoref05_Get.l1, if_pos (by omega), if_pos (by omega), if_pos (by simp), r0, ri, List.drop_eq_getElem_cons hlt]
    by_cases hc : had[i] = a
    · rw [if_pos hc, if_pos (by rw [hc]; exact List.mem_cons_self)]
    · rw [if_neg hc, w64 (by omega) (by omega), show ((i : Int) + 1) = ((i + 1 : Nat) : Int) by omega, ih (i + 1) k (by omega)]
      have hm : (a ∈ had[i] :: had.drop (i + 1)) ↔ a ∈ had.drop (i + 1) := by
        rw [List.mem_cons]
        exact ⟨fun h => h.resolve_left (fun e => hc e.symm), Or.inr⟩
      by_cases hd : a ∈ had.drop (i + 1)
      · rw [if_pos hd, if_pos (hm.2 hd)]
      · rw [if_neg hd, if_neg (fun h => hd (hm.1 h))]
theorem fin_fail : fin none = some (0, 0, 0, 0, 0, 0, 0, 0, 0, 0, 0, (⟨#[]⟩ : ByteArray), 50) := rfl
theorem gets_both (s : ByteArray) : ∃ L r e, (∀ k, 13 ≤ k → varint_Gets.f k s 2 = some (L, r, e)) ∧ (∀ k, 90 ≤ k → dominoref01_Gets.f k s 2 = some (L, r, e)) ∧ (e = 0 → ∃ a b, L = [a, b] ∧ 0 ≤ a ∧ a < 4611686018427387904 ∧ 0 ≤ b ∧ b < 4611686018427387904 ∧ r.size + 2 ≤ s.size) := by
  obtain ⟨L, r, e, h1, h2⟩ := gets_info s
  obtain ⟨L', r', e', g1, g2⟩ := gets_run 2 [] s (by simp)
  have h3 := h1 13 (Nat.le_refl _)
  have g3 := g1 10 (Nat.le_refl _)
  have : some (L, r, e) = some (L', r', e') := h3.symm.trans g3
  simp only [Option.some.injEq, Prod.mk.injEq] at this
  obtain ⟨rfl, rfl, rfl⟩ := this
  refine ⟨L, r, e, h1, fun k hk => ?_, h2⟩
  obtain ⟨j, rfl⟩ : ∃ j, k = j + 2 + 1 := ⟨k - 3, by omega⟩
  exact g2 j (by omega) 2 0 (by omega) (by omega) (by omega)
theorem rcheck (k : Nat) (hk : 15 ≤ k) (x0 x1 x2 x3 x4 x5 x6 x7 x8 x9 x10 : Int) (tok : ByteArray) : dominoref05_Check.f k x0 x1 x2 x3 x4 x5 x6 x7 x8 x9 x10 tok = params_Check.f x0 x1 x2 x3 x4 x5 x6 x7 x8 x9 x10 tok := by
  have h := check_ref (k - 15) x0 x1 x2 x3 x4 x5 x6 x7 x8 x9 x10 tok
  rwa [show k - 15 + 15 = k by omega] at h
theorem fuel_ (j m hl : Nat) (hk : 300 + 2010 * (m + 1 + 1) ≤ j + 1 + 1) (hh : hl + (m + 1) ≤ 2000) : ∃ q, j = q + 1 + hl + 1 ∧ 300 + 2010 * (m + 1) ≤ q := by
  rw [Nat.mul_succ 2010 (m + 1)] at hk
  generalize 2010 * (m + 1) = c at hk ⊢
  exact ⟨j - hl - 2, by omega, by omega⟩
theorem rget_run : ∀ (m : Nat) (s : ByteArray) (xs : List (Int × Option ByteArray)) (had : List Int) (x0 x1 x2 x3 x4 x5 x6 x7 x8 x9 x10 : Int) (tok : ByteArray) (R : Option (List Int × ByteArray)), s.size ≤ m → m ≤ 1000 → had.length + m ≤ 2000 → prsL (m + 20) s = some xs → getFold 10 xs [x0, x1, x2, x3, x4, x5, x6, x7, x8, x9, x10] tok had = some R →
    ∀ k, 300 + 2010 * (m + 1) ≤ k → dominoref05_Get.l0 k s had x0 x1 x2 x3 x4 x5 x6 x7 x8 x9 x10 tok = fin R := by
  intro m
  induction m with
  | zero =>
    intro s xs had x0 x1 x2 x3 x4 x5 x6 x7 x8 x9 x10 tok R hs _ hh hp hf k hk
    obtain rfl : s = ⟨#[]⟩ := ba_ext (((empty_iff s).2 (by omega)).trans ((empty_iff _).2 rfl).symm)
    rw [prs_nil] at hp
    obtain rfl := Option.some.inj hp
    rw [getFold] at hf
    obtain rfl := Option.some.inj hf
    obtain ⟨j, rfl⟩ : ∃ j, k = j + 1 := ⟨k - 1, by omega⟩
    rw [dominoref05_Get.l0, if_pos ((empty_iff _).2 rfl), rcheck j (by omega)]
    show _ = (params_Check.f x0 x1 x2 x3 x4 x5 x6 x7 x8 x9 x10 tok).bind _
    unfold params_Check.f
    split <;> rfl
  | succ m ih =>
    intro s xs had x0 x1 x2 x3 x4 x5 x6 x7 x8 x9 x10 tok R hs hm hh hp hf k hk
    by_cases hz : s.size = 0
    · obtain rfl : s = ⟨#[]⟩ := ba_ext (((empty_iff s).2 hz).trans ((empty_iff _).2 rfl).symm)
      rw [show m + 1 + 20 = (m + 20) + 1 by omega, prs_nil] at hp
      obtain rfl := Option.some.inj hp
      rw [getFold] at hf
      obtain rfl := Option.some.inj hf
      obtain ⟨j, rfl⟩ : ∃ j, k = j + 1 := ⟨k - 1, by omega⟩
      rw [dominoref05_Get.l0, if_pos ((empty_iff _).2 rfl), rcheck j (by omega)]
      show _ = (params_Check.f x0 x1 x2 x3 x4 x5 x6 x7 x8 x9 x10 tok).bind _
      unfold params_Check.f
      split <;> rfl
    have hne : ¬ s.toList = ([] : List UInt8) := fun e => hz ((empty_iff s).1 e)
    obtain ⟨L, r, e, h1, h1r, h2⟩ := gets_both s
    obtain ⟨j, rfl⟩ : ∃ j, k = j + 1 + 1 := ⟨k - 2, by omega⟩
    have failed : xs = [(0, none)] → R = none := fun h => by
      subst h
      rw [getFold, if_pos (u64_wf (n := 0) (by omega) (by omega))] at hf
      exact (Option.some.inj hf).symm
    rw [show m + 1 + 20 = (m + 20) + 1 by omega, prsL, if_neg hne, h1 _ (by omega), Option.bind_some] at hp
    dsimp only at hp
    rw [dominoref05_Get.l0, if_neg hne, h1r _ (by omega), Option.bind_some]
    dsimp only
    by_cases he : e = 0
    case neg =>
      rw [if_neg he] at hp
      rw [if_neg he, dominoref05_Get.j1, if_pos rfl, failed (Option.some.inj hp).symm]
      rfl
    obtain ⟨a, b, rfl, a0, a1, b0, b1, hr⟩ := h2 he
    have r0 : rd [a, b] 0 = a := rfl
    have r1 : rd [a, b] 1 = b := rfl
    rw [if_pos he, if_pos (by simp), r1, r0, if_pos (by omega)] at hp
    rw [if_pos he, if_pos (by simp), r1, wrap_size (by omega), dominoref05_Get.j1]
    by_cases hb : b > (r.size : Int)
    · rw [if_pos hb] at hp
      rw [if_pos (decide_eq_true hb), failed (Option.some.inj hp).symm]
      rfl
    rw [if_neg hb] at hp
    rw [if_neg (by simp; omega)]
    replace hp := Option.bind_eq_some_iff.mp hp
    obtain ⟨xs', hp', hp⟩ := hp
    obtain rfl := Option.some.inj hp
    rw [getFold, if_pos (u64_wf a0 (by omega))] at hf
    replace hf := Option.bind_eq_some_iff.mp hf
    obtain ⟨S, hS, hf⟩ := hf
    rw [getStep] at hS
    dsimp only at hS
    obtain ⟨q, hqj, hq2⟩ := fuel_ j m had.length hk hh
    have hrun := l1_run had (by omega) a b r x0 x1 x2 x3 x4 x5 x6 x7 x8 x9 x10 tok had.length 0 (q + 1) (by omega)
    rw [← hqj, List.drop_zero, show (((0 : Nat) : Int)) = 0 from rfl] at hrun
    rw [hrun]
    by_cases hc : a ∈ had
    · rw [if_pos hc]
      rw [if_neg (fun h => cnt_zero.1 h hc)] at hS
      obtain rfl := Option.some.inj hS
      obtain rfl := Option.some.inj hf
      rfl
    rw [if_pos (cnt_zero.2 hc)] at hS
    rw [if_neg hc, dominoref05_Get.l1, if_neg (by omega), if_pos (by simp), if_pos (by omega), Option.bind_some, if_pos (by simp), r1, r0, if_pos b0, if_pos (by omega)]
    have hszx : (r.extract b.toNat r.size).size ≤ m := by rw [ext_size_r]; omega
    -- what is behind: the next round at a state
    have next : ∀ (y0 y1 y2 y3 y4 y5 y6 y7 y8 y9 y10 : Int) (tok' : ByteArray), getFold 10 xs' [y0, y1, y2, y3, y4, y5, y6, y7, y8, y9, y10] tok' (had ++ [a]) = some R → dominoref05_Get.l0 q (r.extract b.toNat r.size) (had ++ [a]) y0 y1 y2 y3 y4 y5 y6 y7 y8 y9 y10 tok' = fin R := fun y0 y1 y2 y3 y4 y5 y6 y7 y8 y9 y10 tok' hg =>
      ih _ xs' _ y0 y1 y2 y3 y4 y5 y6 y7 y8 y9 y10 tok' R hszx (by omega) (by rw [List.length_append]; show had.length + 1 + m ≤ 2000; omega) hp' hg q hq2
    by_cases h22 : a = 2
    · subst h22
      rw [value_none (a := 2) rfl, Option.bind_some]
      dsimp only
      rw [if_neg (by simp), dominoref05_Get.j3, if_pos (by simp), r0, if_pos rfl]
      rw [if_pos rfl] at hS
      by_cases h16 : ((r.extract 0 b.toNat).size : Int) = 16
      · rw [if_pos h16] at hS ⊢
        obtain rfl := Option.some.inj hS
        exact next _ _ _ _ _ _ _ _ _ _ _ _ hf
      · rw [if_neg h16] at hS ⊢
        obtain rfl := Option.some.inj hS
        obtain rfl := Option.some.inj hf
        rfl
    rw [if_neg h22] at hS
    cases hfl : fldOf a with
    | none =>
      rw [hfl] at hS
      dsimp only at hS
      obtain rfl := Option.some.inj hS
      rw [value_none hfl, Option.bind_some]
      dsimp only
      rw [if_neg (by simp), dominoref05_Get.j3, if_pos (by simp), r0, if_neg h22]
      exact next _ _ _ _ _ _ _ _ _ _ _ _ hf
    | some i =>
      rw [hfl] at hS
      dsimp only at hS
      obtain ⟨y, hy⟩ := value_some (x0 := x0) (x1 := x1) (x2 := x2) (x3 := x3) (x4 := x4) (x5 := x5) (x6 := x6) (x7 := x7) (x8 := x8) (x9 := x9) (x10 := x10) (tok := tok) hfl
      obtain ⟨n, rr, ee, g1, g2⟩ := both_get (r.extract 0 b.toNat)
      rw [g1 10 (Nat.le_refl _), Option.bind_some] at hS
      dsimp only at hS
      rw [hy, Option.bind_some]
      dsimp only
      rw [if_pos rfl, g2 _ (by omega), Option.bind_some]
      dsimp only
      by_cases hee : ee = 0
      · rw [if_pos hee] at hS ⊢
        by_cases hrr : rr.toList = ([] : List UInt8)
        · rw [if_pos hrr] at hS ⊢
          obtain rfl := Option.some.inj hS
          obtain ⟨y0, y1, y2, y3, y4, y5, y6, y7, y8, y9, y10, s1, s2⟩ := set_some (x0 := x0) (x1 := x1) (x2 := x2) (x3 := x3) (x4 := x4) (x5 := x5) (x6 := x6) (x7 := x7) (x8 := x8) (x9 := x9) (x10 := x10) (n := n) (tok := tok) hfl
          rw [s1, Option.bind_some]
          dsimp only
          rw [dominoref05_Get.j3, if_pos (by simp), r0, if_neg h22]
          refine next _ _ _ _ _ _ _ _ _ _ _ _ ?_
          rw [← s2]
          exact hf
        · rw [if_neg hrr] at hS ⊢
          obtain rfl := Option.some.inj hS
          obtain rfl := Option.some.inj hf
          rfl
      · rw [if_neg hee] at hS ⊢
        obtain rfl := Option.some.inj hS
        obtain rfl := Option.some.inj hf
        rfl
theorem rget_same (s : ByteArray) (hs : s.size ≤ 1000) : ∃ r, (∀ k, 1020 ≤ k → params_Get.f k s = some r) ∧ (∀ k, 3000000 ≤ k → dominoref05_Get.f k s = some r) := by
  obtain ⟨xs, h1, h2, h3⟩ := prs_total 1000 s hs (by omega)
  obtain ⟨R, q1, q2⟩ := fold_total xs v0L ⟨#[]⟩ [] h3 rfl v0_in
  have hg : ∀ k, 1020 ≤ k → params_Get.f k s = fin R := fun k hk => get_fin k s (h1 k hk) (by omega) (q1 k (by omega))
  have hr : ∀ k, 3000000 ≤ k → dominoref05_Get.f k s = fin R := fun k hk => by
    unfold dominoref05_Get.f
    rw [show dominoref05_Default.f = some (0, 65527, 0, 0, 0, 0, 0, 0, 3, 25, 2, ⟨#[]⟩) from rfl, Option.bind_some]
    exact rget_run 1000 s xs [] 0 65527 0 0 0 0 0 0 3 25 2 ⟨#[]⟩ R hs (by omega) (by simp) (h1 _ (by omega)) (q1 10 (by omega)) k (by omega)
  obtain ⟨r, hfr⟩ : ∃ r, fin R = some r := by
    cases R with
    | none => exact ⟨_, rfl⟩
    | some q =>
      show ∃ r, (params_Check.f _ _ _ _ _ _ _ _ _ _ _ _).bind _ = some r
      unfold params_Check.f
      split <;> exact ⟨_, rfl⟩
  exact ⟨r, fun k hk => (hg k hk).trans hfr, fun k hk => (hr k hk).trans hfr⟩
theorem rv (n : Int) (h0 : 0 ≤ n) (h1 : n < 4611686018427387904) (k : Nat) (hk : 79 ≤ k) : dominoref05_v.f k n = some (strOfNums (pb n)) := by
  obtain ⟨j, rfl⟩ : ∃ j, k = j + 9 := ⟨k - 9, by omega⟩
  unfold dominoref05_v.f
  rw [rput n h0 h1 j (by omega)]
  rfl
theorem rdflt : dominoref05_Default.f = some (0, 65527, 0, 0, 0, 0, 0, 0, 3, 25, 2, ⟨#[]⟩) := rfl
theorem pr_app (s : ByteArray) (n : Int) (x : ByteArray) : s ++ pr n x = ((s ++ strOfNums (pb n)) ++ strOfNums (pb (x.size : Int))) ++ x := by
  unfold pr
  rw [app_assoc, app_assoc]
section
variable {x0 x1 x2 x3 x4 x5 x6 x7 x8 x9 x10 : Int} {tok : ByteArray}
theorem j23 (k : Nat) (s : ByteArray) (n : Int) (h0 : 0 ≤ n) (h1 : n ≤ 14) (h2 : n ≠ 2) : dominoref05_Put.j2 (k + 2) s n x0 x1 x2 x3 x4 x5 x6 x7 x8 x9 x10 tok = dominoref05_Put.l0 k s (n + 1) x0 x1 x2 x3 x4 x5 x6 x7 x8 x9 x10 tok := by
  rw [dominoref05_Put.j2, if_neg h2, dominoref05_Put.j3, if_neg (by simp), wadd n h0 (by omega)]
theorem rput_num (k : Nat) (hk : 90 ≤ k) (s : ByteArray) (n x d : Int) (h0 : 0 ≤ n) (h1 : n ≤ 14) (h2 : n ≠ 2) (hx : 0 ≤ x ∧ x < 4611686018427387904) (hs : s.size ≤ 100000)
    (hv : dominoref05_value.f x0 x1 x2 x3 x4 x5 x6 x7 x8 x9 x10 tok n = some (x, true)) (hd : dominoref05_value.f 0 65527 0 0 0 0 0 0 3 25 2 ⟨#[]⟩ n = some (d, true)) :
    dominoref05_Put.l0 (k + 4) s n x0 x1 x2 x3 x4 x5 x6 x7 x8 x9 x10 tok = dominoref05_Put.l0 k (s ++ cats (itN n x d)) (n + 1) x0 x1 x2 x3 x4 x5 x6 x7 x8 x9 x10 tok := by
  rw [dominoref05_Put.l0, if_pos h1, hv, Option.bind_some, rdflt, Option.bind_some]
  dsimp only
  rw [hd, Option.bind_some, if_pos rfl]
  dsimp only
  by_cases e : x = d
  · subst e
    rw [itN_same, dominoref05_Put.j1, if_neg (by simp), j23 k s n h0 h1 h2]
    simp only [cats]
    rw [nil_app]
  · have l1 := pb_l n
    have l2 := pb_l x
    have z1 := nums_size (pb n)
    have z2 := nums_size (pb x)
    have l3 := pb_l ((strOfNums (pb x)).size : Int)
    have z3 := nums_size (pb ((strOfNums (pb x)).size : Int))
    rw [itN_diff _ _ _ e, cats_one, pr_app, dominoref05_Put.j1, if_pos (by simpa using e), rv n h0 (by omega) _ (by omega), Option.bind_some, if_pos (by omega), rv x hx.1 hx.2 _ (by omega), Option.bind_some, rv _ (by omega) (by omega) _ (by omega), Option.bind_some, if_pos (by rw [baSize]; omega), if_pos (by rw [baSize, baSize]; omega), j23 k _ n h0 h1 h2]
theorem rput_none (k : Nat) (hk : 90 ≤ k) (s : ByteArray) (n : Int) (h0 : 0 ≤ n) (h1 : n ≤ 14) (h2 : n ≠ 2) (hf : fldOf n = none) :
    dominoref05_Put.l0 (k + 4) s n x0 x1 x2 x3 x4 x5 x6 x7 x8 x9 x10 tok = dominoref05_Put.l0 k s (n + 1) x0 x1 x2 x3 x4 x5 x6 x7 x8 x9 x10 tok := by
  rw [dominoref05_Put.l0, if_pos h1, value_none hf, Option.bind_some, rdflt, Option.bind_some]
  dsimp only
  rw [value_none hf, Option.bind_some, if_neg (by simp), dominoref05_Put.j1, if_neg (by simp), j23 k s n h0 h1 h2]
theorem rput_tok (k : Nat) (hk : 90 ≤ k) (s : ByteArray) (ht : tok.toList = ([] : List UInt8) ∨ (tok.size : Int) = 16) (hs : s.size ≤ 100000) :
    dominoref05_Put.l0 (k + 4) s 2 x0 x1 x2 x3 x4 x5 x6 x7 x8 x9 x10 tok = dominoref05_Put.l0 k (s ++ cats (itT tok)) 3 x0 x1 x2 x3 x4 x5 x6 x7 x8 x9 x10 tok := by
  rw [dominoref05_Put.l0, if_pos (by omega), value_none (a := 2) rfl, Option.bind_some, rdflt, Option.bind_some]
  dsimp only
  rw [value_none (a := 2) rfl, Option.bind_some, if_neg (by simp), dominoref05_Put.j1, if_neg (by simp), dominoref05_Put.j2, if_pos rfl, dominoref05_Put.j3, wadd 2 (by omega) (by omega)]
  unfold itT
  by_cases e : tok.toList = ([] : List UInt8)
  · rw [if_neg (by simp [e]), if_pos e]
    simp only [cats]
    rw [nil_app]
    rfl
  · have h16 := ht.resolve_left e
    have l1 := pb_l 2
    have z1 := nums_size (pb 2)
    have l2 := pb_l 16
    have z2 := nums_size (pb 16)
    rw [if_pos (by simpa using e), if_neg e, cats_one, pr_app, h16, rv 2 (by omega) (by omega) _ (by omega), Option.bind_some, if_pos (by omega), rv 16 (by omega) (by omega) _ (by omega), Option.bind_some, if_pos (by rw [baSize]; omega), if_pos (by rw [baSize, baSize]; omega)]
    rfl
end
theorem szapp {s : ByteArray} {l : List (Int × ByteArray)} {B : Nat} (hs : s.size ≤ B) (hl : l.length ≤ 1) (hb : ∀ p ∈ l, p.2.size ≤ 16) : (s ++ cats l).size ≤ B + 32 := by
  have := cats_size l hb
  rw [baSize]
  omega
theorem put_ref (k : Nat) (x0 x1 x2 x3 x4 x5 x6 x7 x8 x9 x10 : Int) (tok : ByteArray) (hn : nonN x0 x1 x2 x3 x4 x5 x6 x7 x8 x9 x10) : dominoref05_Put.f (k + 200) x0 x1 x2 x3 x4 x5 x6 x7 x8 x9 x10 tok = params_Put.f x0 x1 x2 x3 x4 x5 x6 x7 x8 x9 x10 tok := by
  unfold dominoref05_Put.f
  rw [rcheck (k + 200) (by omega)]
  by_cases h : prmOk x0 x1 x2 x3 x4 x5 x6 x7 x8 x9 x10 tok
  case neg =>
    rw [put_no h, params_Check.f, if_neg h, Option.bind_some, if_neg (by decide)]
  rw [put_ok h hn, params_Check.f, if_pos h, Option.bind_some, if_pos rfl]
  have ho := prmOk_not h
  have ht : tok.toList = ([] : List UInt8) ∨ (tok.size : Int) = 16 := h.2.2.2.2.2.2.2
  obtain ⟨n0, n1, n2, n3, n4, n5, n6, n7, n8, n9, n10⟩ := hn
  have hb : ∀ {n x d : Int}, 0 ≤ x → x < 4611686018427387904 → ∀ p ∈ itN n x d, p.2.size ≤ 16 := fun a b p hp => by have := (itN_b ⟨a, b⟩ p hp).2; omega
  have hbT : ∀ p ∈ itT tok, p.2.size ≤ 16 := fun p hp => by rw [(itT_b p hp).2]; omega
  have s1 := szapp (B := 0) (s := ⟨#[]⟩) (l := itN 1 x0 0) (by rw [nil_size]; exact Nat.le_refl _) (itN_len _ _ _) (hb n0 (by omega))
  rw [show k + 200 = (k + 196) + 4 by omega, rput_num (k + 196) (by omega) ⟨#[]⟩ 1 x0 0 (by omega) (by omega) (by omega) ⟨n0, by omega⟩ (by rw [nil_size]; omega) rfl rfl, show (1 : Int) + 1 = 2 from rfl]
  have s2 := szapp s1 (itT_len tok) hbT
  rw [show k + 196 = (k + 192) + 4 by omega, rput_tok (k + 192) (by omega) _ ht (by omega)]
  have s3 := szapp s2 (itN_len 3 x1 65527) (hb n1 (by omega))
  rw [show k + 192 = (k + 188) + 4 by omega, rput_num (k + 188) (by omega) _ 3 x1 65527 (by omega) (by omega) (by omega) ⟨n1, by omega⟩ (by omega) rfl rfl, show (3 : Int) + 1 = 4 from rfl]
  have s4 := szapp s3 (itN_len 4 x2 0) (hb n2 (by omega))
  rw [show k + 188 = (k + 184) + 4 by omega, rput_num (k + 184) (by omega) _ 4 x2 0 (by omega) (by omega) (by omega) ⟨n2, by omega⟩ (by omega) rfl rfl, show (4 : Int) + 1 = 5 from rfl]
  have s5 := szapp s4 (itN_len 5 x3 0) (hb n3 (by omega))
  rw [show k + 184 = (k + 180) + 4 by omega, rput_num (k + 180) (by omega) _ 5 x3 0 (by omega) (by omega) (by omega) ⟨n3, by omega⟩ (by omega) rfl rfl, show (5 : Int) + 1 = 6 from rfl]
  have s6 := szapp s5 (itN_len 6 x4 0) (hb n4 (by omega))
  rw [show k + 180 = (k + 176) + 4 by omega, rput_num (k + 176) (by omega) _ 6 x4 0 (by omega) (by omega) (by omega) ⟨n4, by omega⟩ (by omega) rfl rfl, show (6 : Int) + 1 = 7 from rfl]
  have s7 := szapp s6 (itN_len 7 x5 0) (hb n5 (by omega))
  rw [show k + 176 = (k + 172) + 4 by omega, rput_num (k + 172) (by omega) _ 7 x5 0 (by omega) (by omega) (by omega) ⟨n5, by omega⟩ (by omega) rfl rfl, show (7 : Int) + 1 = 8 from rfl]
  have s8 := szapp s7 (itN_len 8 x6 0) (hb n6 (by omega))
  rw [show k + 172 = (k + 168) + 4 by omega, rput_num (k + 168) (by omega) _ 8 x6 0 (by omega) (by omega) (by omega) ⟨n6, by omega⟩ (by omega) rfl rfl, show (8 : Int) + 1 = 9 from rfl]
  have s9 := szapp s8 (itN_len 9 x7 0) (hb n7 (by omega))
  rw [show k + 168 = (k + 164) + 4 by omega, rput_num (k + 164) (by omega) _ 9 x7 0 (by omega) (by omega) (by omega) ⟨n7, by omega⟩ (by omega) rfl rfl, show (9 : Int) + 1 = 10 from rfl]
  have s10 := szapp s9 (itN_len 10 x8 3) (hb n8 (by omega))
  rw [show k + 164 = (k + 160) + 4 by omega, rput_num (k + 160) (by omega) _ 10 x8 3 (by omega) (by omega) (by omega) ⟨n8, by omega⟩ (by omega) rfl rfl, show (10 : Int) + 1 = 11 from rfl]
  have s11 := szapp s10 (itN_len 11 x9 25) (hb n9 (by omega))
  rw [show k + 160 = (k + 156) + 4 by omega, rput_num (k + 156) (by omega) _ 11 x9 25 (by omega) (by omega) (by omega) ⟨n9, by omega⟩ (by omega) rfl rfl, show (11 : Int) + 1 = 12 from rfl]
  rw [show k + 156 = (k + 152) + 4 by omega, rput_none (k + 152) (by omega) _ 12 (by omega) (by omega) (by omega) rfl, show (12 : Int) + 1 = 13 from rfl]
  rw [show k + 152 = (k + 148) + 4 by omega, rput_none (k + 148) (by omega) _ 13 (by omega) (by omega) (by omega) rfl, show (13 : Int) + 1 = 14 from rfl]
  rw [show k + 148 = (k + 144) + 4 by omega, rput_num (k + 144) (by omega) _ 14 x10 2 (by omega) (by omega) (by omega) ⟨n10, by omega⟩ (by omega) rfl rfl, show (14 : Int) + 1 = 15 from rfl]
  rw [show k + 144 = (k + 143) + 1 by omega, dominoref05_Put.l0, if_neg (by omega)]
  unfold items
  simp only [cats_app]
  rw [app_nil]
  simp only [app_assoc]
theorem ParamsTells : dominolaw05_ParamsTells.Pure := by
  intro x0 x1 x2 x3 x4 x5 x6 x7 x8 x9 x10 tok s w0 w1 w2 w3 w4 w5 w6 w7 w8 w9 w10 w11 w12
  have hn : nonN x0 x1 x2 x3 x4 x5 x6 x7 x8 x9 x10 := ⟨(u64b w0).1, (u64b w1).1, (u64b w2).1, (u64b w3).1, (u64b w4).1, (u64b w5).1, (u64b w6).1, (u64b w7).1, (u64b w8).1, (u64b w9).1, (u64b w10).1⟩
  obtain ⟨q, hq⟩ : ∃ q : Nat, q = 3000000 := ⟨_, rfl⟩
  refine ⟨q + 201, ?_⟩
  have hd : dominolaw05_ParamsTells.j0 (q + 201) s true x0 x1 x2 x3 x4 x5 x6 x7 x8 x9 x10 tok = some true := by
    rw [show q + 201 = (q + 200) + 1 by omega, dominolaw05_ParamsTells.j0, if_pos rfl, shown_all (q + 200) (by omega)]
    rfl
  unfold dominolaw05_ParamsTells.f
  by_cases h1 : (tok.size : Int) > 100
  · rw [if_pos h1]; exact hd
  rw [if_neg h1]
  by_cases h2 : (s.size : Int) > 600
  · rw [if_pos h2]; exact hd
  obtain ⟨r, g1, g2⟩ := rget_same s (by omega)
  obtain ⟨p, hp⟩ : ∃ p, params_Put.f x0 x1 x2 x3 x4 x5 x6 x7 x8 x9 x10 tok = some p := by
    by_cases ho : prmOk x0 x1 x2 x3 x4 x5 x6 x7 x8 x9 x10 tok
    · exact ⟨_, put_ok ho hn⟩
    · exact ⟨_, put_no ho⟩
  obtain ⟨c, hc⟩ : ∃ c, params_Check.f x0 x1 x2 x3 x4 x5 x6 x7 x8 x9 x10 tok = some c := by
    unfold params_Check.f
    split <;> exact ⟨_, rfl⟩
  have hp2 := (put_ref q x0 x1 x2 x3 x4 x5 x6 x7 x8 x9 x10 tok hn).trans hp
  have hc2 := (rcheck (q + 200) (by omega) x0 x1 x2 x3 x4 x5 x6 x7 x8 x9 x10 tok).trans hc
  rw [if_neg h2, shown_all (q + 201) (by omega), Option.bind_some, show q + 201 = (q + 200) + 1 by omega, dominolaw05_ParamsTells.j0, if_neg (by simp), hp, Option.bind_some, hp2, Option.bind_some, g1 (q + 200) (by omega), Option.bind_some, g2 (q + 200) (by omega), Option.bind_some, hc, Option.bind_some, hc2, Option.bind_some, if_pos rfl, if_pos rfl, if_pos rfl, if_pos (by simp), if_pos rfl, dflt_eq, rdflt]
  simp only [Option.bind_some, beq_self_eq_true, Bool.and_true]

end Go.Proofs.YthbnedjcaflofaaDoor.Pure
