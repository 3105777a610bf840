/- Hex and back, as the document says. -/
import Derived.Test.YtmkpphcnafklbaaPDgxx9
namespace Go.Proofs.Ytmkpphcnafklbaa.Pure
open Go.RowKit Go.Proofs.Ytmkpphcnafklbaa.PDgx Go.Proofs.YtmkpphcnafklbaaW.PrintWords Go.Proofs.YtmkpphcnafklbaaW.PrintLast
/-! ### the laws' common part -/
theorem shaF_size (s : ByteArray) : (shaF s).size = 32 := by
  unfold shaF
  rw [strOfNums_size]
  rfl
theorem sum_f (l : List ByteArray) (h1 : (joinB l).size ≤ 1099511627776) (h2 : l.length ≤ 1099511627776) : digest_Sum.f l = some (shaF (joinB l)) := if_pos ⟨h1, h2⟩
theorem hex_f (s : ByteArray) (h : s.size ≤ 1099511627776) : digest_Hex.f s = some (hexF s) := if_pos h
theorem xor_f (a b : ByteArray) (h1 : a.size ≤ 9223372036854775807) (h2 : b.size ≤ 9223372036854775807) : digest_Xor.f a b = some (xorF a b) := if_pos ⟨h1, h2⟩
theorem shown_ : dominolaw07_shown.f = some true := by
  have e1 : (hexF (shaF (joinB [(⟨#[97]⟩ : ByteArray), (⟨#[98, 99]⟩ : ByteArray)]))).data.toList = [98, 97, 55, 56, 49, 54, 98, 102, 56, 102, 48, 49, 99, 102, 101, 97, 52, 49, 52, 49, 52, 48, 100, 101, 53, 100, 97, 101, 50, 50, 50, 51, 98, 48, 48, 51, 54, 49, 97, 51, 57, 54, 49, 55, 55, 97, 57, 99, 98, 52, 49, 48, 102, 102, 54, 49, 102, 50, 48, 48, 49, 53, 97, 100] := by decide +kernel
  have e2 : (xorF (⟨#[97, 98]⟩ : ByteArray) (⟨#[98]⟩ : ByteArray)).data.toList = [3] := by decide +kernel
  unfold dominolaw07_shown.f
  rw [sum_f _ (by decide +kernel) (by decide), Option.bind_some, hex_f _ (by rw [shaF_size]; decide), Option.bind_some, if_pos (by rw [Go.Lib.toList_data]; exact e1), xor_f _ _ (by decide) (by decide), Option.bind_some, Go.Lib.toList_data, e2]
  rfl
theorem joinB_nil : joinB [] = ⟨#[]⟩ := rfl
theorem join_nil : ∀ l : List (List UInt8), Lib.join l [] = l.flatten
  | [] => rfl
  | [a] => by simp [Lib.join]
  | a :: b :: l => by
    have ih := join_nil (b :: l)
    have e : ([] : List UInt8).intercalate (a :: b :: l) = a ++ ([] ++ ([] : List UInt8).intercalate (b :: l)) := by simp [List.intercalate]
    show ([] : List UInt8).intercalate (a :: b :: l) = _
    rw [e, show ([] : List UInt8).intercalate (b :: l) = (b :: l).flatten from ih]
    simp
theorem joinB_data (l : List ByteArray) : (joinB l).data.toList = (l.map (·.data.toList)).flatten := by
  show (Lib.join (l.map (·.data.toList)) []).toArray.toList = _
  rw [join_nil]
theorem ba_ext {a b : ByteArray} (h : a.data.toList = b.data.toList) : a = b := ByteArray.ext (Array.toList_inj.mp h)
theorem joinB_size (l : List ByteArray) : (joinB l).size = (l.map ByteArray.size).sum := by
  have h := congrArg List.length (joinB_data l)
  rw [List.length_flatten, List.map_map] at h
  exact h
theorem app_nil (a : ByteArray) : a ++ ⟨#[]⟩ = a := by
  apply ba_ext
  rw [ByteArray.data_append, Array.toList_append]
  exact List.append_nil _
theorem nil_app (a : ByteArray) : (⟨#[]⟩ : ByteArray) ++ a = a := by
  apply ba_ext
  rw [ByteArray.data_append, Array.toList_append]
  rfl
theorem wf_u8 {a : Int} (h : (Lit.int .u8 a).wf = true) : 0 ≤ a ∧ a < 256 := by
  simp [Lit.wf, IntKind.min, IntKind.max, IntKind.signed, IntKind.bits] at h
  omega
theorem wf_u16 {a : Int} (h : (Lit.int .u16 a).wf = true) : 0 ≤ a ∧ a < 65536 := by
  simp [Lit.wf, IntKind.min, IntKind.max, IntKind.signed, IntKind.bits] at h
  omega
theorem bt_n (s : ByteArray) (i : Int) : (bt s i).toNat < 256 ∧ bt s i = ((bt s i).toNat : Int) := by have := bt_range s i; omega
theorem nums_cat (a b : List Int) : strOfNums (a ++ b) = strOfNums a ++ strOfNums b := by
  apply ByteArray.ext
  apply Array.toList_inj.mp
  simp [strOfNums]
theorem bytesOf_nums (s : ByteArray) : strOfNums (bytesOf s) = s := by
  apply ByteArray.ext
  apply Array.toList_inj.mp
  simp [strOfNums, bytesOf, Function.comp_def]
theorem list_ext (l m : List Int) (h : l.length = m.length) (e : ∀ j, j < l.length → l.getD j 0 = m.getD j 0) : l = m := by
  apply List.ext_getElem h
  intro j h1 h2
  have := e j h1
  simpa [List.getD_eq_getElem?_getD, h1, h2] using this
theorem bytes_getD' (s : ByteArray) (j : Nat) (h : j < s.size) : (bytesOf s).getD j 0 = bt s (j : Int) := by
  unfold bytesOf bt
  rw [Int.toNat_natCast, dif_pos h]
  simp [List.getD_eq_getElem?_getD, h]
  rfl
theorem ba_bt_ext (a b : ByteArray) (h : a.size = b.size) (e : ∀ j, j < a.size → bt a (j : Int) = bt b (j : Int)) : a = b := by
  rw [← bytesOf_nums a, ← bytesOf_nums b]
  congr 1
  apply list_ext
  · rw [bytesOf_length, bytesOf_length, h]
  · intro j hj
    rw [bytesOf_length] at hj
    rw [bytes_getD' a j hj, bytes_getD' b j (by omega), e j hj]
theorem bt_strs (l : List Int) (j : Nat) (h : j < l.length) (h0 : 0 ≤ l.getD j 0) (h1 : l.getD j 0 < 256) : bt (strOfNums l) (j : Int) = l.getD j 0 := by
  have hs : j < (strOfNums l).size := by rw [strOfNums_size]; exact h
  unfold bt
  rw [Int.toNat_natCast, dif_pos hs]
  have e : (strOfNums l)[j]'hs = UInt8.ofNat (l.getD j 0).toNat := by
    show ((l.map fun n => UInt8.ofNat n.toNat).toArray)[j]'(by simpa using h) = _
    simp [List.getD_eq_getElem?_getD, h]
  rw [e, UInt8.toNat_ofNat']
  omega
theorem bt_cut (t : ByteArray) (a b j : Nat) (hj : a + j < b) (hb : b ≤ t.size) : bt (t.extract a b) (j : Int) = bt t ((a + j : Nat) : Int) := by
  unfold bt
  simp only [Int.toNat_natCast]
  have h1 : j < (t.extract a b).size := by rw [ByteArray.size_extract]; omega
  rw [dif_pos h1, dif_pos (by omega)]
  congr 2
  exact ByteArray.getElem_extract h1
def hx2 (p : Nat) : List Int := [bt hxBA ((p / 16 : Nat) : Int), bt hxBA ((p % 16 : Nat) : Int)]
def hexX (s : ByteArray) : Nat → Nat → List Int
  | 0, _ => []
  | r + 1, i => hx2 (bt s (i : Int)).toNat ++ hexX s r (i + 1)
theorem hexX_length (s : ByteArray) : ∀ r i, (hexX s r i).length = 2 * r
  | 0, _ => rfl
  | r + 1, i => by
    rw [hexX, List.length_append, hexX_length s r]
    simp [hx2]
    omega
theorem hexL_eq (s : ByteArray) : ∀ (r i : Nat) (acc : ByteArray), hexL s r i acc = acc ++ strOfNums (hexX s r i)
  | 0, _, acc => (app_nil acc).symm
  | r + 1, i, acc => by
    obtain ⟨p, hp, hpe⟩ : ∃ p : Nat, p < 256 ∧ bt s (i : Int) = (p : Int) := ⟨_, bt_n s i⟩
    rw [hexL, hexL_eq s r, hexX, nums_cat, hpe, Int.toNat_natCast]
    have e1 : strOfNums (hx2 p) = strOfNums [bt hxBA ((p : Int) / 16)] ++ strOfNums [bt hxBA (Go.bits .and .u8 (p : Int) 15)] := by
      rw [and15 ⟨p, hp⟩, ← nums_cat]
      rfl
    rw [e1]
    simp only [ByteArray.append_assoc]
theorem hexF_eq (s : ByteArray) : hexF s = strOfNums (hexX s s.size 0) := by
  unfold hexF
  rw [hexL_eq, nil_app]
theorem td16 (p : Nat) (hp : p < 256) : Int.tdiv (p : Int) 16 % 256 = ((p / 16 : Nat) : Int) := by
  rw [Int.tdiv_eq_ediv_of_nonneg (by omega)]
  omega
theorem tm16 (p : Nat) : Int.tmod (p : Int) 16 = ((p % 16 : Nat) : Int) := rfl
theorem wrap_next (i : Nat) (h : i < 4611686018427387904) : wrap64 ((i : Int) + 1) = ((i + 1 : Nat) : Int) := by unfold wrap64; omega
theorem len_two (acc : List Int) (n : Nat) (ha : acc.length ≤ 2 * n) (hn : n ≤ 1000) : ∀ x y : Int, acc.length + [x, y].length < 140737488355328 := fun x y => by
  have h : [x, y].length = 2 := rfl
  generalize [x, y].length = z at h ⊢
  omega
theorem rhex_run (s : ByteArray) (hs : s.size ≤ 1000) : ∀ (m i k : Nat) (acc : List Int), i + m = s.size → acc.length ≤ 2 * i →
    dominoref07_Hex.l0 (k + m + 1) s acc (i : Int) = some (strOfNums (acc ++ hexX s m i)) := by
  intro m
  induction m with
  | zero =>
    intro i k acc hi _
    rw [dominoref07_Hex.l0, if_neg (by omega), hexX, List.append_nil]
  | succ m ih =>
    intro i k acc hi ha
    obtain ⟨p, hp, hpe⟩ : ∃ p : Nat, p < 256 ∧ bt s (i : Int) = (p : Int) := ⟨_, bt_n s i⟩
    have hlen := len_two acc i ha (by omega)
    rw [show k + (m + 1) + 1 = (k + m + 1) + 1 by omega, dominoref07_Hex.l0, if_pos (by omega), if_pos (by omega), hpe, td16 p hp, tm16, if_pos (by omega), if_pos (by omega), if_pos (by omega), if_pos (by omega), Option.bind_some, if_pos (hlen _ _), wrap_next i (by omega), hexX, hpe, Int.toNat_natCast, ← List.append_assoc]
    exact ih (i + 1) k _ (by omega) (by simp; omega)
theorem rhex_f (s : ByteArray) (hs : s.size ≤ 1000) (k : Nat) : dominoref07_Hex.f (k + s.size + 1) s = some (hexF s) := by
  have h := rhex_run s hs s.size 0 k [] (by omega) (by simp)
  rw [List.nil_append, ← hexF_eq] at h
  exact h
theorem rhex_one (t k : Nat) (ht : t < 256) : dominoref07_Hex.f (k + 2) (strOfNums [(t : Int) % 256]) = some (strOfNums (hx2 t)) := by
  have e : (t : Int) % 256 = (t : Int) := by omega
  rw [e]
  have h := rhex_f (strOfNums [(t : Int)]) (by rw [strOfNums_size]; simp) k
  rw [strOfNums_size] at h
  refine h.trans ?_
  rw [hexF_eq, strOfNums_size]
  have e2 : bt (strOfNums [(t : Int)]) ((0 : Nat) : Int) = (t : Int) := bt_strs [(t : Int)] 0 (by simp) (by simp) (by simp; omega)
  show some (strOfNums (hx2 (bt (strOfNums [(t : Int)]) ((0 : Nat) : Int)).toNat ++ [])) = _
  rw [e2, List.append_nil, Int.toNat_natCast]
/-! ### back -/
theorem ix_hx : ∀ (c : Fin 256) (n : Fin 16), bt hxBA (n.val : Int) = (c.val : Int) ↔ ixB (c.val : Int) = (n.val : Int) := by decide +kernel
theorem ix_iff (s : ByteArray) (i : Int) (n : Nat) (hn : n < 16) : bt hxBA (n : Int) = bt s i ↔ ixB (bt s i) = (n : Int) := by
  obtain ⟨h1, h2⟩ := bt_n s i
  have := ix_hx ⟨_, h1⟩ ⟨n, hn⟩
  simp only at this
  rw [← h2] at this
  exact this
theorem match_iff (b : ByteArray) (i t : Nat) (hi : i + 2 ≤ b.size) (ht : t < 256) :
    (strOfNums (hx2 t)).toList = (b.extract i (i + 2)).toList ↔ ixB (bt b (i : Int)) = ((t / 16 : Nat) : Int) ∧ ixB (bt b ((i + 1 : Nat) : Int)) = ((t % 16 : Nat) : Int) := by
  have r0 := bt_range hxBA ((t / 16 : Nat) : Int)
  have r1 := bt_range hxBA ((t % 16 : Nat) : Int)
  have a0 : bt (strOfNums (hx2 t)) ((0 : Nat) : Int) = bt hxBA ((t / 16 : Nat) : Int) := bt_strs (hx2 t) 0 (by simp [hx2]) r0.1 (by show bt hxBA ((t / 16 : Nat) : Int) < 256; omega)
  have a1 : bt (strOfNums (hx2 t)) ((1 : Nat) : Int) = bt hxBA ((t % 16 : Nat) : Int) := bt_strs (hx2 t) 1 (by simp [hx2]) r1.1 (by show bt hxBA ((t % 16 : Nat) : Int) < 256; omega)
  have b0 : bt (b.extract i (i + 2)) ((0 : Nat) : Int) = bt b (i : Int) := bt_cut b i (i + 2) 0 (by omega) hi
  have b1 : bt (b.extract i (i + 2)) ((1 : Nat) : Int) = bt b ((i + 1 : Nat) : Int) := bt_cut b i (i + 2) 1 (by omega) hi
  rw [← ix_iff b _ _ (by omega), ← ix_iff b _ _ (by omega), Go.Lib.toList_data, Go.Lib.toList_data]
  constructor
  · intro h
    have e := ba_ext h
    rw [← a0, ← a1, ← b0, ← b1, e]
    exact ⟨rfl, rfl⟩
  · rintro ⟨h0, h1⟩
    rw [ba_bt_ext (strOfNums (hx2 t)) (b.extract i (i + 2)) (by rw [strOfNums_size, ByteArray.size_extract]; simp [hx2]; omega) (fun j hj => by
      rw [strOfNums_size] at hj
      have hj2 : j < 2 := hj
      rcases (show j = 0 ∨ j = 1 by omega) with rfl | rfl
      · rw [a0, b0, h0]
      · rw [a1, b1, h1])]
def found (p q x : Int) (t : Nat) : Int := if 0 ≤ p ∧ 0 ≤ q ∧ (t : Int) ≤ p * 16 + q then p * 16 + q else x
theorem inner_run (b : ByteArray) (i : Nat) (hi : i + 2 ≤ b.size) (hb : b.size ≤ 1000) (acc : List Int) : ∀ (m t k : Nat) (x : Int), t + m = 256 →
    dominoref07_Unhex.l1 (k + m + 3) b acc (i : Int) x (t : Int) =
      if found (ixB (bt b (i : Int))) (ixB (bt b ((i + 1 : Nat) : Int))) x t < 0 then some ((⟨#[]⟩ : ByteArray), false)
      else if acc.length < 140737488355328 then dominoref07_Unhex.l0 (k + 2) b (acc ++ [found (ixB (bt b (i : Int))) (ixB (bt b ((i + 1 : Nat) : Int))) x t % 256]) ((i + 2 : Nat) : Int) else none := by
  have hp := ixB_range b (i : Int)
  have hq := ixB_range b ((i + 1 : Nat) : Int)
  have e3 : wrap64 ((i : Int) + 2) = ((i + 2 : Nat) : Int) := by unfold wrap64; omega
  have hmm := match_iff b i
  generalize ixB (bt b (i : Int)) = p at *
  generalize ixB (bt b ((i + 1 : Nat) : Int)) = q at *
  intro m
  induction m with
  | zero =>
    intro t k x ht
    obtain rfl : t = 256 := by omega
    have e : found p q x 256 = x := if_neg (by omega)
    rw [e, show k + 0 + 3 = (k + 2) + 1 by omega, dominoref07_Unhex.l1, if_neg (by decide), e3]
  | succ m ih =>
    intro t k x ht
    have e4 : wrap64 ((t : Int) + 1) = ((t + 1 : Nat) : Int) := by unfold wrap64; omega
    have hm := hmm t hi (by omega)
    rw [show k + (m + 1) + 3 = (k + m + 3) + 1 by omega, dominoref07_Unhex.l1, if_pos (by omega), show k + m + 3 = (k + m + 1) + 2 by omega, rhex_one t (k + m + 1) (by omega), Option.bind_some, e3, if_pos (by omega), if_pos (by omega), if_pos (by omega), Int.toNat_natCast, Int.toNat_natCast, e4, show (k + m + 1) + 2 = k + m + 3 by omega]
    by_cases c : (strOfNums (hx2 t)).toList = (b.extract i (i + 2)).toList
    · obtain ⟨h0, h1⟩ := hm.1 c
      rw [if_pos c, ih (t + 1) k (t : Int) (by omega)]
      have f1 : found p q (t : Int) (t + 1) = (t : Int) := if_neg (by omega)
      have f2 : found p q x t = (t : Int) := by
        unfold found
        rw [if_pos (by omega)]
        omega
      rw [f1, f2]
    · have hne : ¬ (p = ((t / 16 : Nat) : Int) ∧ q = ((t % 16 : Nat) : Int)) := fun h => c (hm.2 h)
      rw [if_neg c, ih (t + 1) k x (by omega)]
      have f : found p q x (t + 1) = found p q x t := by
        unfold found
        by_cases d : 0 ≤ p ∧ 0 ≤ q ∧ ((t + 1 : Nat) : Int) ≤ p * 16 + q
        · rw [if_pos d, if_pos (by omega)]
        · rw [if_neg d, if_neg (by omega)]
      rw [f]
theorem back_run (b : ByteArray) (hb : b.size ≤ 1000) : ∀ (m i k : Nat) (acc : List Int), i + 2 * m = b.size → acc.length ≤ i →
    dominoref07_Unhex.l0 (k + 260 * m + 1) b acc (i : Int) = some (unhexL m (b.extract i b.size) (strOfNums acc)) := by
  intro m
  induction m with
  | zero =>
    intro i k acc hi _
    rw [show k + 260 * 0 + 1 = k + 1 by omega, dominoref07_Unhex.l0, if_neg (by omega)]
    rfl
  | succ m ih =>
    intro i k acc hi ha
    have h := inner_run b i (by omega) hb acc 256 0 (k + 260 * m + 1) (-1) (by omega)
    rw [show k + 260 * (m + 1) + 1 = (k + 260 * m + 1 + 256 + 3) + 1 by omega, dominoref07_Unhex.l0, if_pos (by omega)]
    refine h.trans ?_
    have hp := ixB_range b (i : Int)
    have hq := ixB_range b ((i + 1 : Nat) : Int)
    have b0 : bt (b.extract i b.size) 0 = bt b (i : Int) := bt_cut b i b.size 0 (by omega) (by omega)
    have b1 : bt (b.extract i b.size) 1 = bt b ((i + 1 : Nat) : Int) := bt_cut b i b.size 1 (by omega) (by omega)
    rw [unhexL, b0, b1]
    generalize ixB (bt b (i : Int)) = p at *
    generalize ixB (bt b ((i + 1 : Nat) : Int)) = q at *
    by_cases c : p < 0 ∨ q < 0
    · have f : found p q (-1) 0 = -1 := if_neg (by omega)
      rw [f, if_pos (by decide), if_pos c]
    · have f : found p q (-1) 0 = p * 16 + q := if_pos (by omega)
      have f2 : (p * 16 + q) % 256 = p * 16 + q := by omega
      have e : (b.extract i b.size).extract 2 (b.extract i b.size).size = b.extract (i + 2) b.size := by
        rw [ByteArray.size_extract, ByteArray.extract_extract]
        congr 1
        omega
      rw [f, if_neg (by omega), if_neg c, if_pos (by omega), f2, e, show k + 260 * m + 1 + 2 = (k + 2) + 260 * m + 1 by omega, ih (i + 2) (k + 2) _ (by omega) (by simp; omega), nums_cat]
theorem back_f (b : ByteArray) (hb : b.size ≤ 1000) (k : Nat) : dominoref07_Unhex.f (k + 260 * (b.size / 2) + 1) b = some (unhexF b) := by
  unfold dominoref07_Unhex.f unhexF
  by_cases c : b.size % 2 = 1
  · rw [if_pos c, if_neg (by omega)]
  · rw [if_neg c, if_pos (by omega)]
    have h := back_run b hb (b.size / 2) 0 k [] (by omega) (by simp)
    have e : b.extract 0 b.size = b := by simp
    rw [e] at h
    exact h
theorem there (a : ByteArray) : ∀ (r i : Nat) (acc : ByteArray), i + r = a.size → unhexL r (strOfNums (hexX a r i)) acc = (acc ++ a.extract i a.size, true)
  | 0, i, acc, hi => by
    have e : a.extract i a.size = ⟨#[]⟩ := ba_bt_ext _ _ (by rw [ByteArray.size_extract]; show _ = 0; omega) (fun j hj => by rw [ByteArray.size_extract] at hj; omega)
    rw [e, app_nil]
    rfl
  | r + 1, i, acc, hi => by
    obtain ⟨p, hp, hpe⟩ : ∃ p : Nat, p < 256 ∧ bt a (i : Int) = (p : Int) := ⟨_, bt_n a i⟩
    have r0 := bt_range hxBA ((p / 16 : Nat) : Int)
    have r1 := bt_range hxBA ((p % 16 : Nat) : Int)
    have hX : hexX a (r + 1) i = bt hxBA ((p / 16 : Nat) : Int) :: bt hxBA ((p % 16 : Nat) : Int) :: hexX a r (i + 1) := by
      rw [hexX, hpe, Int.toNat_natCast]
      rfl
    have c0 : bt (strOfNums (hexX a (r + 1) i)) ((0 : Nat) : Int) = bt hxBA ((p / 16 : Nat) : Int) := by
      rw [hX]
      exact bt_strs _ 0 (by simp) r0.1 (by show bt hxBA ((p / 16 : Nat) : Int) < 256; omega)
    have c1 : bt (strOfNums (hexX a (r + 1) i)) ((1 : Nat) : Int) = bt hxBA ((p % 16 : Nat) : Int) := by
      rw [hX]
      exact bt_strs _ 1 (by simp) r1.1 (by show bt hxBA ((p % 16 : Nat) : Int) < 256; omega)
    have i0 : ixB (bt (strOfNums (hexX a (r + 1) i)) 0) = ((p / 16 : Nat) : Int) := (ix_iff _ ((0 : Nat) : Int) (p / 16) (by omega)).1 c0.symm
    have i1 : ixB (bt (strOfNums (hexX a (r + 1) i)) 1) = ((p % 16 : Nat) : Int) := (ix_iff _ ((1 : Nat) : Int) (p % 16) (by omega)).1 c1.symm
    have e : (strOfNums (hexX a (r + 1) i)).extract 2 (strOfNums (hexX a (r + 1) i)).size = strOfNums (hexX a r (i + 1)) := by
      rw [strOfNums_size]
      apply ba_ext
      rw [ByteArray.data_extract, Array.toList_extract, hX]
      show List.extract (List.map _ (_ :: _ :: _)) 2 _ = List.map _ _
      simp only [List.extract_eq_take_drop, List.map_cons, List.drop_succ_cons, List.drop_zero]
      exact List.take_of_length_le (by simp)
    rw [unhexL, i0, i1, if_neg (by omega), e, there a r (i + 1) _ (by omega), ByteArray.append_assoc]
    have ev : ((p / 16 : Nat) : Int) * 16 + ((p % 16 : Nat) : Int) = (p : Int) := by omega
    rw [ev]
    congr 2
    refine ba_bt_ext _ _ (by rw [ByteArray.size_append, strOfNums_size, ByteArray.size_extract, ByteArray.size_extract]; simp; omega) (fun j hj => ?_)
    rw [ByteArray.size_append, strOfNums_size, ByteArray.size_extract] at hj
    simp at hj
    rw [bt_cut a i a.size j (by omega) (by omega)]
    have hl : ∀ (x y : ByteArray) (n : Nat), n < x.size → bt (x ++ y) (n : Int) = bt x (n : Int) := fun x y n hn => by
      unfold bt
      simp only [Int.toNat_natCast]
      rw [dif_pos (by rw [ByteArray.size_append]; omega), dif_pos hn, ByteArray.getElem_append_left hn]
    have hr : ∀ (x y : ByteArray) (n : Nat), x.size ≤ n → n < x.size + y.size → bt (x ++ y) (n : Int) = bt y ((n - x.size : Nat) : Int) := fun x y n hn hn2 => by
      unfold bt
      simp only [Int.toNat_natCast]
      rw [dif_pos (by rw [ByteArray.size_append]; omega), dif_pos (by omega), ByteArray.getElem_append_right hn]
    by_cases c : j = 0
    · subst c
      rw [hl _ _ 0 (by rw [strOfNums_size]; simp), bt_strs [(p : Int)] 0 (by simp) (by simp) (by simp; omega)]
      exact hpe.symm
    · rw [hr _ _ j (by rw [strOfNums_size]; simp; omega) (by rw [strOfNums_size, ByteArray.size_extract]; simp; omega), strOfNums_size, bt_cut a (i + 1) a.size _ (by simp; omega) (by omega)]
      congr 2
      simp
      omega
theorem DigestHex : dominolaw07_DigestHex.Pure := by
  intro a b _ _
  refine ⟨260 * (b.size / 2) + a.size + 2, ?_⟩
  unfold dominolaw07_DigestHex.f
  have hT : dominolaw07_DigestHex.j0 (260 * (b.size / 2) + a.size + 2) a b true = some true := by
    rw [dominolaw07_DigestHex.j0, if_pos rfl, shown_]
    rfl
  by_cases c : (a.size : Int) > 300
  · rw [if_pos c]
    exact hT
  rw [if_neg c]
  by_cases c2 : (b.size : Int) > 100
  · rw [if_pos c2]
    exact hT
  rw [if_neg c2, shown_, Option.bind_some]
  show dominolaw07_DigestHex.j0 (260 * (b.size / 2) + a.size + 2) a b false = some true
  rw [dominolaw07_DigestHex.j0, if_neg (by decide)]
  have h1 : dominoref07_Unhex.f (260 * (b.size / 2) + a.size + 1) b = some (unhexF b) := by
    rw [show 260 * (b.size / 2) + a.size + 1 = a.size + 260 * (b.size / 2) + 1 by omega]
    exact back_f b (by omega) a.size
  have h2 : dominoref07_Hex.f (260 * (b.size / 2) + a.size + 1) a = some (hexF a) := rhex_f a (by omega) _
  have hz : (hexF a).size = 2 * a.size := by rw [hexF_eq, strOfNums_size, hexX_length]
  have h3 : unhexF (hexF a) = (a, true) := by
    unfold unhexF
    rw [hz, if_neg (by omega), show 2 * a.size / 2 = a.size by omega, hexF_eq, there a a.size 0 _ (by omega), nil_app]
    simp
  have hU : ∀ s : ByteArray, s.size ≤ 1000 → digest_Unhex.f s = some (unhexF s) := fun s hs => if_pos (by omega)
  rw [hU b (by omega), Option.bind_some, h1, Option.bind_some, hex_f a (by omega), Option.bind_some, hU (hexF a) (by omega), Option.bind_some, h2, Option.bind_some, if_pos rfl, if_pos rfl, if_pos (by simp), h3, if_pos rfl]

end Go.Proofs.Ytmkpphcnafklbaa.Pure
