/- The bytes are combined as the document says; twice is nothing. -/
import Derived.Test.YtmkpphcnafklbaaPDgxx7
namespace Go.Proofs.Ytmkpphcnafklbaa.Pure
open Go.RowKit Go.Proofs.Ytmkpphcnafklbaa.PDgx Go.Proofs.YtmkpphcnafklbaaW.PrintWords Go.Proofs.YtmkpphcnafklbaaW.PrintLast
/-! ### the laws' common part -/
theorem shaF_size (s : ByteArray) : (shaF s).size = 32 := by
  unfold shaF
  rw [strOfNums_size]
  rfl
theorem sum_f (l : List ByteArray) (h1 : (joinB l).size ≤ 1099511627776) (h2 : l.length ≤ 1099511627776) : digest_Sum.f l = some (shaF (joinB l)) := if_pos ⟨h1, h2⟩
theorem hex_f (s : ByteArray) (h : s.size ≤ 1099511627776) : digest_Hex.f s = some (hexF s) := if_pos h
theorem xor_f (a b : ByteArray) (h1 : a.size ≤ 9223372036854775807) (h2 : b.size ≤ 9223372036854775807) : digest_Xor.f a b = some (xorF a b) := if_pos ⟨h1, h2⟩
theorem shown_ : dominolaw07_shown.f = some true := by
  have e1 : (hexF (shaF (joinB [(⟨#[97]⟩ : ByteArray), (⟨#[98, 99]⟩ : ByteArray)]))).data.toList = [98, 97, 55, 56, 49, 54, 98, 102, 56, 102, 48, 49, 99, 102, 101, 97, 52, 49, 52, 49, 52, 48, 100, 101, 53, 100, 97, 101, 50, 50, 50, 51, 98, 48, 48, 51, 54, 49, 97, 51, 57, 54, 49, 55, 55, 97, 57, 99, 98, 52, 49, 48, 102, 102, 54, 49, 102, 50, 48, 48, 49, 53, 97, 100] := by decide +kernel
  have e2 : (xorF (⟨#[97, 98]⟩ : ByteArray) (⟨#[98]⟩ : ByteArray)).data.toList = [3] := by decide +kernel
  unfold dominolaw07_shown.f
  rw [sum_f _ (by decide +kernel) (by decide), Option.bind_some, hex_f _ (by rw [shaF_size]; decide), Option.bind_some, if_pos (by rw [Go.Lib.toList_data]; exact e1), xor_f _ _ (by decide) (by decide), Option.bind_some, Go.Lib.toList_data, e2]
  rfl
theorem joinB_nil : joinB [] = ⟨#[]⟩ := rfl
theorem join_nil : ∀ l : List (List UInt8), Lib.join l [] = l.flatten
  | [] => rfl
  | [a] => by simp [Lib.join]
  | a :: b :: l => by
    have ih := join_nil (b :: l)
    have e : ([] : List UInt8).intercalate (a :: b :: l) = a ++ ([] ++ ([] : List UInt8).intercalate (b :: l)) := by simp [List.intercalate]
    show ([] : List UInt8).intercalate (a :: b :: l) = _
    rw [e, show ([] : List UInt8).intercalate (b :: l) = (b :: l).flatten from ih]
    simp
theorem joinB_data (l : List ByteArray) : (joinB l).data.toList = (l.map (·.data.toList)).flatten := by
  show (Lib.join (l.map (·.data.toList)) []).toArray.toList = _
  rw [join_nil]
theorem ba_ext {a b : ByteArray} (h : a.data.toList = b.data.toList) : a = b := ByteArray.ext (Array.toList_inj.mp h)
theorem joinB_size (l : List ByteArray) : (joinB l).size = (l.map ByteArray.size).sum := by
  have h := congrArg List.length (joinB_data l)
  rw [List.length_flatten, List.map_map] at h
  exact h
theorem app_nil (a : ByteArray) : a ++ ⟨#[]⟩ = a := by
  apply ba_ext
  rw [ByteArray.data_append, Array.toList_append]
  exact List.append_nil _
theorem nil_app (a : ByteArray) : (⟨#[]⟩ : ByteArray) ++ a = a := by
  apply ba_ext
  rw [ByteArray.data_append, Array.toList_append]
  rfl
theorem wf_u8 {a : Int} (h : (Lit.int .u8 a).wf = true) : 0 ≤ a ∧ a < 256 := by
  simp [Lit.wf, IntKind.min, IntKind.max, IntKind.signed, IntKind.bits] at h
  omega
theorem wf_u16 {a : Int} (h : (Lit.int .u16 a).wf = true) : 0 ≤ a ∧ a < 65536 := by
  simp [Lit.wf, IntKind.min, IntKind.max, IntKind.signed, IntKind.bits] at h
  omega
theorem xo8 (a b : Nat) (ha : a < 256) (hb : b < 256) : Go.bits .xor .u8 (a : Int) (b : Int) = ((a ^^^ b : Nat) : Int) ∧ a ^^^ b < 256 := by
  have hx : a ^^^ b < 2 ^ 8 := Nat.xor_lt_two_pow (by omega) (by omega)
  have o : ∀ n : Nat, n < 2 ^ 8 → (BitVec.ofInt 8 (n : Int)).toNat = n := fun n h => by
    rw [BitVec.ofInt_natCast, BitVec.toNat_ofNat]; exact Nat.mod_eq_of_lt h
  refine ⟨?_, hx⟩
  show IntKind.u8.wrap ((BitVec.ofInt 8 (a : Int) ^^^ BitVec.ofInt 8 (b : Int)).toNat : Int) = _
  rw [BitVec.toNat_xor, o a (by omega), o b (by omega), IntKind.wrap_u8]
  omega
def xb (a b : ByteArray) (j : Nat) : Int := (((bt a (j : Int)).toNat ^^^ (bt b (j : Int)).toNat : Nat) : Int)
def xs (a b : ByteArray) (n : Nat) : List Int := (List.range n).map (xb a b)
theorem bt_n (s : ByteArray) (i : Int) : (bt s i).toNat < 256 ∧ bt s i = ((bt s i).toNat : Int) := by have := bt_range s i; omega
theorem xb_range (a b : ByteArray) (j : Nat) : 0 ≤ xb a b j ∧ xb a b j < 256 := by
  have := (xo8 _ _ (bt_n a j).1 (bt_n b j).1).2
  unfold xb
  omega
theorem bits_xb (a b : ByteArray) (j : Nat) : Go.bits .xor .u8 (bt a (j : Int)) (bt b (j : Int)) = xb a b j := by
  have h := (xo8 _ _ (bt_n a j).1 (bt_n b j).1).1
  rw [← (bt_n a j).2, ← (bt_n b j).2] at h
  exact h
theorem getD_set (l : List Int) (k j : Nat) (v : Int) : (l.set k v).getD j 0 = if k = j ∧ k < l.length then v else l.getD j 0 := by
  simp only [List.getD_eq_getElem?_getD, List.getElem?_set]
  by_cases h : k = j
  · subst h
    by_cases h2 : k < l.length
    · simp [h2]
    · simp [h2]
  · simp [h]
theorem xorL_get (b : ByteArray) : ∀ (r i : Nat) (m : List Int), (xorL b r i m).length = m.length ∧ ∀ j, j < m.length → (xorL b r i m).getD j 0 = if i ≤ j ∧ j < i + r then Go.bits .xor .u8 (m.getD j 0) (bt b (j : Int)) else m.getD j 0
  | 0, i, m => ⟨rfl, fun j _ => by rw [if_neg (by omega)]; rfl⟩
  | r + 1, i, m => by
    obtain ⟨h1, h2⟩ := xorL_get b r (i + 1) (m.set i (Go.bits .xor .u8 (m.getD i 0) (bt b (i : Int))))
    rw [xorL]
    refine ⟨by rw [h1, List.length_set], fun j hj => ?_⟩
    rw [h2 j (by rw [List.length_set]; exact hj), getD_set]
    by_cases e : i = j
    · subst e
      rw [if_neg (by omega), if_pos ⟨rfl, hj⟩, if_pos (by omega)]
    · rw [if_neg (c := i = j ∧ i < m.length) (fun x => e x.1)]
      by_cases c : i + 1 ≤ j ∧ j < i + 1 + r
      · rw [if_pos c, if_pos (by omega)]
      · rw [if_neg c, if_neg (by omega)]
theorem list_ext (l m : List Int) (h : l.length = m.length) (e : ∀ j, j < l.length → l.getD j 0 = m.getD j 0) : l = m := by
  apply List.ext_getElem h
  intro j h1 h2
  have := e j h1
  simpa [List.getD_eq_getElem?_getD, h1, h2] using this
theorem range_getD (n : Nat) (f : Nat → Int) (j : Nat) (h : j < n) : ((List.range n).map f).getD j 0 = f j := by
  simp [List.getD_eq_getElem?_getD, h]
theorem bytes_getD (s : ByteArray) (j : Nat) (h : j < s.size) : (bytesOf s).getD j 0 = bt s (j : Int) := by
  unfold bytesOf bt
  rw [Int.toNat_natCast, dif_pos h]
  simp [List.getD_eq_getElem?_getD, h]
  rfl
theorem bt_ext0 (t : ByteArray) (n j : Nat) (hj : j < n) (hn : n ≤ t.size) : bt (t.extract 0 n) (j : Int) = bt t (j : Int) := by
  unfold bt
  simp only [Int.toNat_natCast]
  have h1 : j < (t.extract 0 n).size := by rw [ByteArray.size_extract]; omega
  rw [dif_pos h1, dif_pos (by omega)]
  have h := ByteArray.getElem_extract h1
  simp only [Nat.zero_add] at h
  rw [h]
theorem xorF_eq (a b : ByteArray) (n : Nat) (hn : n = min a.size b.size) : xorF a b = strOfNums (xs a b n) := by
  unfold xorF
  rw [← hn]
  congr 1
  obtain ⟨h1, h2⟩ := xorL_get b n 0 (bytesOf (a.extract 0 n))
  have hl : (bytesOf (a.extract 0 n)).length = n := by rw [bytesOf_length, ByteArray.size_extract]; omega
  apply list_ext
  · rw [h1, hl]
    simp [xs]
  · intro j hj
    rw [h1, hl] at hj
    rw [h2 j (by omega), if_pos (by omega), bytes_getD _ _ (by rw [ByteArray.size_extract]; omega), bt_ext0 a n j hj (by omega), bits_xb]
    exact (range_getD n (xb a b) j hj).symm
theorem xs_comm (a b : ByteArray) (n : Nat) : xs a b n = xs b a n := by
  unfold xs
  apply List.map_congr_left
  intro j _
  unfold xb
  rw [Nat.xor_comm]
theorem bt_strs (l : List Int) (j : Nat) (h : j < l.length) (h0 : 0 ≤ l.getD j 0) (h1 : l.getD j 0 < 256) : bt (strOfNums l) (j : Int) = l.getD j 0 := by
  have hs : j < (strOfNums l).size := by rw [strOfNums_size]; exact h
  unfold bt
  rw [Int.toNat_natCast, dif_pos hs]
  have e : (strOfNums l)[j]'hs = UInt8.ofNat (l.getD j 0).toNat := by
    show ((l.map fun n => UInt8.ofNat n.toNat).toArray)[j]'(by simpa using h) = _
    simp [List.getD_eq_getElem?_getD, h]
  rw [e, UInt8.toNat_ofNat']
  omega
theorem bytesOf_nums (s : ByteArray) : strOfNums (bytesOf s) = s := by
  apply ByteArray.ext
  apply Array.toList_inj.mp
  simp [strOfNums, bytesOf, Function.comp_def]
theorem xor_twice (a b : ByteArray) (n : Nat) (hn : n = min a.size b.size) : xorF (xorF a b) b = a.extract 0 n := by
  have hz : (xorF a b).size = n := by rw [xorF_eq a b n hn, strOfNums_size]; simp [xs]
  rw [xorF_eq (xorF a b) b n (by omega), ← bytesOf_nums (a.extract 0 n)]
  congr 1
  have hl : (xs (xorF a b) b n).length = n := by simp [xs]
  apply list_ext
  · rw [hl, bytesOf_length, ByteArray.size_extract]; omega
  · intro j hj
    rw [hl] at hj
    rw [bytes_getD _ _ (by rw [ByteArray.size_extract]; omega), bt_ext0 a n j hj (by omega)]
    have e1 : (xs a b n).getD j 0 = xb a b j := range_getD n _ j hj
    have e2 := xb_range a b j
    have e3 : bt (xorF a b) (j : Int) = xb a b j := by
      rw [xorF_eq a b n hn, bt_strs _ j (by simp [xs]; exact hj) (by rw [e1]; exact e2.1) (by rw [e1]; exact e2.2), e1]
    refine (range_getD n (xb (xorF a b) b) j hj).trans ?_
    unfold xb
    rw [e3]
    unfold xb
    rw [Int.toNat_natCast, Nat.xor_assoc, Nat.xor_self, Nat.xor_zero]
    exact (bt_n a j).2.symm
/-! ### the document's, bit by bit -/
theorem bit_step (x T : Nat) : x % (2 * T) = x % T + T * (x / T % 2) := by
  rw [Nat.mul_comm 2 T, Nat.mod_mul]
theorem bit_xor (p q t T : Nat) (hT : 2 ^ t = T) : (p ^^^ q) / T % 2 = if p / T % 2 = q / T % 2 then 0 else 1 := by
  have h := Nat.testBit_xor p q t
  rw [Nat.testBit_eq_decide_div_mod_eq, Nat.testBit_eq_decide_div_mod_eq, Nat.testBit_eq_decide_div_mod_eq, hT] at h
  have h1 := Nat.mod_two_eq_zero_or_one ((p ^^^ q) / T)
  have h2 := Nat.mod_two_eq_zero_or_one (p / T)
  have h3 := Nat.mod_two_eq_zero_or_one (q / T)
  rcases h1 with h1 | h1 <;> rcases h2 with h2 | h2 <;> rcases h3 with h3 | h3 <;> simp [h1, h2, h3] at h ⊢
theorem half (x T : Nat) (hx : x < 256) : Int.tmod (wrap64 (Int.tdiv (wrap64 (x : Int)) (T : Int))) 2 = ((x / T % 2 : Nat) : Int) := by
  have e : wrap64 (x : Int) = (x : Int) := by unfold wrap64; omega
  have h1 : x / T ≤ x := Nat.div_le_self x T
  have e2 : Int.tdiv (x : Int) (T : Int) = ((x / T : Nat) : Int) := rfl
  rw [e, e2]
  generalize x / T = y at h1
  have e3 : wrap64 (y : Int) = (y : Int) := by unfold wrap64; omega
  rw [e3]
  rfl
theorem l1_run (a b : ByteArray) (i : Nat) (h1 : i < a.size) (h2 : i < b.size) (acc : List Int) (hi : i < 1000) : ∀ (m t k : Nat), t + m = 8 →
    dominoref07_Xor.l1 (k + m + 1) a b acc (i : Int) ((((bt a (i : Int)).toNat ^^^ (bt b (i : Int)).toNat) % 2 ^ t : Nat) : Int) ((2 ^ t : Nat) : Int) =
      if acc.length < 140737488355328 then dominoref07_Xor.l0 k a b (acc ++ [xb a b i]) ((i + 1 : Nat) : Int) else none := by
  intro m
  induction m with
  | zero =>
    intro t k ht
    obtain rfl : t = 8 := by omega
    have hx := (xo8 _ _ (bt_n a i).1 (bt_n b i).1).2
    rw [dominoref07_Xor.l1, if_neg (by decide)]
    have e : wrap64 ((i : Int) + 1) = ((i + 1 : Nat) : Int) := by unfold wrap64; omega
    have e2 : ((((bt a (i : Int)).toNat ^^^ (bt b (i : Int)).toNat) % 2 ^ 8 : Nat) : Int) % 256 = xb a b i := by unfold xb; omega
    rw [e, e2]
  | succ m ih =>
    intro t k ht
    have h := ih (t + 1) k (by omega)
    obtain ⟨T, hT⟩ : ∃ T, 2 ^ t = T := ⟨_, rfl⟩
    have hT2 : 2 ^ (t + 1) = 2 * T := by rw [Nat.pow_succ, hT]; omega
    have hT0 : 0 < T := by rw [← hT]; exact Nat.two_pow_pos t
    have hT7 : T ≤ 128 := by rw [← hT]; exact Nat.pow_le_pow_right (n := 2) (by decide) (show t ≤ 7 by omega)
    rw [hT, show k + (m + 1) + 1 = (k + m + 1) + 1 by omega, dominoref07_Xor.l1, if_pos (by omega), if_pos (by omega), if_pos (by omega), if_neg (by omega), if_pos (by omega)]
    rw [hT2, bit_step _ T, bit_xor _ _ t T hT] at h
    have ha := half _ T (bt_n a i).1
    have hb := half _ T (bt_n b i).1
    rw [← (bt_n a i).2] at ha
    rw [← (bt_n b i).2] at hb
    rw [ha, hb]
    have hw : wrap64 (2 * (T : Int)) = ((2 * T : Nat) : Int) := by unfold wrap64; omega
    have hm : ((bt a (i : Int)).toNat ^^^ (bt b (i : Int)).toNat) % T < T := Nat.mod_lt _ hT0
    rw [hw]
    by_cases c : (bt a (i : Int)).toNat / T % 2 = (bt b (i : Int)).toNat / T % 2
    · rw [if_pos c] at h
      rw [if_pos (by rw [c])]
      exact h
    · rw [if_neg c] at h
      rw [if_neg (by omega)]
      have hw2 : wrap64 (((((bt a (i : Int)).toNat ^^^ (bt b (i : Int)).toNat) % T : Nat) : Int) + (T : Int)) = ((((bt a (i : Int)).toNat ^^^ (bt b (i : Int)).toNat) % T + T * 1 : Nat) : Int) := by unfold wrap64; omega
      rw [hw2]
      exact h
theorem l0_run (a b : ByteArray) (n : Nat) (hn : n = min a.size b.size) (hs : n ≤ 300) : ∀ (m i k : Nat), i + m = n →
    dominoref07_Xor.l0 (k + 11 * m + 2) a b (xs a b i) (i : Int) = some (strOfNums (xs a b n)) := by
  intro m
  induction m with
  | zero =>
    intro i k hi
    obtain rfl : i = n := by omega
    rw [show k + 11 * 0 + 2 = (k + 1) + 1 by omega, dominoref07_Xor.l0]
    by_cases c : (i : Int) < (a.size : Int)
    · rw [if_pos c, decide_eq_false (show ¬ (i : Int) < (b.size : Int) by omega), dominoref07_Xor.j1, if_neg (by decide)]
    · rw [if_neg c, dominoref07_Xor.j1, if_neg (by decide)]
  | succ m ih =>
    intro i k hi
    rw [show k + 11 * (m + 1) + 2 = ((k + 11 * m + 2) + 8 + 1) + 1 + 1 by omega, dominoref07_Xor.l0, if_pos (by omega), decide_eq_true (show (i : Int) < (b.size : Int) by omega), dominoref07_Xor.j1, if_pos rfl]
    have h := l1_run a b i (by omega) (by omega) (xs a b i) (by omega) 8 0 (k + 11 * m + 2) (by omega)
    have e : xs a b i ++ [xb a b i] = xs a b (i + 1) := by
      unfold xs
      rw [List.range_succ, List.map_append]
      rfl
    rw [Nat.pow_zero, Nat.mod_one, e, if_pos (by simp [xs]; omega), ih (i + 1) k (by omega)] at h
    exact h
theorem DigestXors : dominolaw07_DigestXors.Pure := by
  intro a b ha hb
  obtain ⟨n, hn⟩ : ∃ n, n = min a.size b.size := ⟨_, rfl⟩
  refine ⟨11 * n + 3, ?_⟩
  unfold dominolaw07_DigestXors.f
  have hT : dominolaw07_DigestXors.j0 (11 * n + 3) a b true = some true := by
    rw [dominolaw07_DigestXors.j0, if_pos rfl, shown_]
    rfl
  by_cases c : (a.size : Int) > 300
  · rw [if_pos c]
    exact hT
  rw [if_neg c]
  by_cases c2 : (b.size : Int) > 300
  · rw [if_pos c2]
    exact hT
  rw [if_neg c2, shown_, Option.bind_some]
  show dominolaw07_DigestXors.j0 (11 * n + 3) a b false = some true
  rw [dominolaw07_DigestXors.j0, if_neg (by decide)]
  have hr : dominoref07_Xor.f (11 * n + 2) a b = some (xorF a b) := by
    have h := l0_run a b n hn (by omega) n 0 0 (by omega)
    unfold dominoref07_Xor.f
    rw [xorF_eq a b n hn, ← h, show 0 + 11 * n + 2 = 11 * n + 2 by omega]
    rfl
  have hz : (xorF a b).size = n := by rw [xorF_eq a b n hn, strOfNums_size]; simp [xs]
  have hc : xorF b a = xorF a b := by rw [xorF_eq b a n (by omega), xorF_eq a b n hn, xs_comm]
  have hm : mn (a.size : Int) (b.size : Int) = (n : Int) := by unfold mn; split <;> omega
  rw [xor_f a b (by omega) (by omega), Option.bind_some, hr, Option.bind_some, if_pos rfl, xor_f b a (by omega) (by omega), Option.bind_some, hc, if_pos rfl, xor_f (xorF a b) b (by omega) (by omega), Option.bind_some, hm, if_pos (by omega), if_pos (by omega), xor_twice a b n hn, Int.toNat_natCast, if_pos rfl, hz]
  simp

end Go.Proofs.Ytmkpphcnafklbaa.Pure
