/- How the parts are cut does not matter. -/
import Derived.Test.YtmkpphcnafklbaaPDgxx6
namespace Go.Proofs.Ytmkpphcnafklbaa.Pure
open Go.RowKit Go.Proofs.Ytmkpphcnafklbaa.PDgx Go.Proofs.YtmkpphcnafklbaaW.PrintWords Go.Proofs.YtmkpphcnafklbaaW.PrintLast
/-! ### the laws' common part -/
theorem shaF_size (s : ByteArray) : (shaF s).size = 32 := by
  unfold shaF
  rw [strOfNums_size]
  rfl
theorem sum_f (l : List ByteArray) (h1 : (joinB l).size ≤ 1099511627776) (h2 : l.length ≤ 1099511627776) : digest_Sum.f l = some (shaF (joinB l)) := if_pos ⟨h1, h2⟩
theorem hex_f (s : ByteArray) (h : s.size ≤ 1099511627776) : digest_Hex.f s = some (hexF s) := if_pos h
theorem xor_f (a b : ByteArray) (h1 : a.size ≤ 9223372036854775807) (h2 : b.size ≤ 9223372036854775807) : digest_Xor.f a b = some (xorF a b) := if_pos ⟨h1, h2⟩
theorem shown_ : dominolaw07_shown.f = some true := by
  have e1 : (hexF (shaF (joinB [(⟨#[97]⟩ : ByteArray), (⟨#[98, 99]⟩ : ByteArray)]))).data.toList = [98, 97, 55, 56, 49, 54, 98, 102, 56, 102, 48, 49, 99, 102, 101, 97, 52, 49, 52, 49, 52, 48, 100, 101, 53, 100, 97, 101, 50, 50, 50, 51, 98, 48, 48, 51, 54, 49, 97, 51, 57, 54, 49, 55, 55, 97, 57, 99, 98, 52, 49, 48, 102, 102, 54, 49, 102, 50, 48, 48, 49, 53, 97, 100] := by decide +kernel
  have e2 : (xorF (⟨#[97, 98]⟩ : ByteArray) (⟨#[98]⟩ : ByteArray)).data.toList = [3] := by decide +kernel
  unfold dominolaw07_shown.f
  rw [sum_f _ (by decide +kernel) (by decide), Option.bind_some, hex_f _ (by rw [shaF_size]; decide), Option.bind_some, if_pos (by rw [Go.Lib.toList_data]; exact e1), xor_f _ _ (by decide) (by decide), Option.bind_some, Go.Lib.toList_data, e2]
  rfl
theorem joinB_nil : joinB [] = ⟨#[]⟩ := rfl
theorem join_nil : ∀ l : List (List UInt8), Lib.join l [] = l.flatten
  | [] => rfl
  | [a] => by simp [Lib.join]
  | a :: b :: l => by
    have ih := join_nil (b :: l)
    have e : ([] : List UInt8).intercalate (a :: b :: l) = a ++ ([] ++ ([] : List UInt8).intercalate (b :: l)) := by simp [List.intercalate]
    show ([] : List UInt8).intercalate (a :: b :: l) = _
    rw [e, show ([] : List UInt8).intercalate (b :: l) = (b :: l).flatten from ih]
    simp
theorem joinB_data (l : List ByteArray) : (joinB l).data.toList = (l.map (·.data.toList)).flatten := by
  show (Lib.join (l.map (·.data.toList)) []).toArray.toList = _
  rw [join_nil]
theorem ba_ext {a b : ByteArray} (h : a.data.toList = b.data.toList) : a = b := ByteArray.ext (Array.toList_inj.mp h)
theorem joinB_size (l : List ByteArray) : (joinB l).size = (l.map ByteArray.size).sum := by
  have h := congrArg List.length (joinB_data l)
  rw [List.length_flatten, List.map_map] at h
  exact h
theorem app_nil (a : ByteArray) : a ++ ⟨#[]⟩ = a := by
  apply ba_ext
  rw [ByteArray.data_append, Array.toList_append]
  exact List.append_nil _
theorem nil_app (a : ByteArray) : (⟨#[]⟩ : ByteArray) ++ a = a := by
  apply ba_ext
  rw [ByteArray.data_append, Array.toList_append]
  rfl
theorem wf_u8 {a : Int} (h : (Lit.int .u8 a).wf = true) : 0 ≤ a ∧ a < 256 := by
  simp [Lit.wf, IntKind.min, IntKind.max, IntKind.signed, IntKind.bits] at h
  omega
theorem wf_u16 {a : Int} (h : (Lit.int .u16 a).wf = true) : 0 ≤ a ∧ a < 65536 := by
  simp [Lit.wf, IntKind.min, IntKind.max, IntKind.signed, IntKind.bits] at h
  omega
theorem cut_eq (s : ByteArray) (i j : Nat) (hij : i ≤ j) : joinB [s.extract 0 i, s.extract i j, ⟨#[]⟩, s.extract j s.size] = s := by
  apply ba_ext
  rw [joinB_data]
  have hz : s.size = s.data.toList.length := rfl
  have hx : ∀ a b, (s.extract a b).data.toList = (s.data.toList.drop a).take (b - a) := fun a b => by
    rw [ByteArray.data_extract, Array.toList_extract]
  simp only [List.map_cons, List.map_nil, hx]
  have e1 : (s.data.toList.drop i).take (j - i) ++ s.data.toList.drop j = s.data.toList.drop i := by
    have := List.take_append_drop (j - i) (s.data.toList.drop i)
    rw [List.drop_drop, show i + (j - i) = j by omega] at this
    exact this
  have e2 : (s.data.toList.drop j).take (s.size - j) = s.data.toList.drop j := List.take_of_length_le (by rw [List.length_drop, ← hz]; exact Nat.le_refl _)
  rw [e2]
  simp only [List.flatten_cons, List.flatten_nil, List.append_nil, List.nil_append, List.drop_zero, Nat.sub_zero]
  rw [e1]
  exact List.take_append_drop i _
theorem joinB_one (s : ByteArray) : joinB [s] = s := by
  apply ba_ext
  rw [joinB_data]
  simp
theorem DigestParts : dominolaw07_DigestParts.Pure := by
  intro s a b hs ha hb
  obtain ⟨a0, a1⟩ := wf_u16 ha
  obtain ⟨b0, b1⟩ := wf_u16 hb
  refine ⟨1, ?_⟩
  unfold dominolaw07_DigestParts.f
  have hT : dominolaw07_DigestParts.j0 1 s a b true = some true := by
    rw [dominolaw07_DigestParts.j0, if_pos rfl, shown_]
    rfl
  by_cases c : (s.size : Int) > 2000
  · rw [if_pos c]
    exact hT
  rw [if_neg c, shown_, Option.bind_some]
  show dominolaw07_DigestParts.j0 1 s a b false = some true
  rw [dominolaw07_DigestParts.j0, if_neg (by decide)]
  have e1 : wrap64 ((s.size : Int) + 1) = (s.size : Int) + 1 := by unfold wrap64; omega
  have e2 : wrap64 a = a := by unfold wrap64; omega
  have e3 : wrap64 b = b := by unfold wrap64; omega
  rw [e1, e2, e3, Int.tmod_eq_emod_of_nonneg a0]
  obtain ⟨i, hi⟩ : ∃ i, i = a % ((s.size : Int) + 1) := ⟨_, rfl⟩
  have i0 : 0 ≤ i := by rw [hi]; exact Int.emod_nonneg _ (by omega)
  have i1 : i < (s.size : Int) + 1 := by rw [hi]; exact Int.emod_lt_of_pos _ (by omega)
  rw [← hi]
  have e4 : wrap64 (wrap64 ((s.size : Int) - i) + 1) = (s.size : Int) - i + 1 := by unfold wrap64; omega
  rw [e4, Int.tmod_eq_emod_of_nonneg b0]
  obtain ⟨d, hd⟩ : ∃ d, d = b % ((s.size : Int) - i + 1) := ⟨_, rfl⟩
  have d0 : 0 ≤ d := by rw [hd]; exact Int.emod_nonneg _ (by omega)
  have d1 : d < (s.size : Int) - i + 1 := by rw [hd]; exact Int.emod_lt_of_pos _ (by omega)
  rw [← hd]
  have e5 : wrap64 (i + d) = i + d := by unfold wrap64; omega
  rw [e5, if_neg (by omega), if_neg (by omega), if_pos i0, if_pos (by omega), if_pos (by omega), if_pos (by omega), if_pos (by omega)]
  have hj := cut_eq s i.toNat (i + d).toNat (by omega)
  rw [sum_f _ (by rw [hj]; omega) (by simp), Option.bind_some, hj, sum_f _ (by rw [joinB_one]; omega) (by simp), Option.bind_some, joinB_one]
  simp

end Go.Proofs.Ytmkpphcnafklbaa.Pure
