/- Empty parts add nothing. -/
import Derived.Test.YtmkpphcnafklbaaPDgxx8
namespace Go.Proofs.Ytmkpphcnafklbaa.Pure
open Go.RowKit Go.Proofs.Ytmkpphcnafklbaa.PDgx Go.Proofs.YtmkpphcnafklbaaW.PrintWords Go.Proofs.YtmkpphcnafklbaaW.PrintLast
/-! ### the laws' common part -/
theorem shaF_size (s : ByteArray) : (shaF s).size = 32 := by
  unfold shaF
  rw [strOfNums_size]
  rfl
theorem sum_f (l : List ByteArray) (h1 : (joinB l).size ≤ 1099511627776) (h2 : l.length ≤ 1099511627776) : digest_Sum.f l = some (shaF (joinB l)) := if_pos ⟨h1, h2⟩
theorem hex_f (s : ByteArray) (h : s.size ≤ 1099511627776) : digest_Hex.f s = some (hexF s) := if_pos h
theorem xor_f (a b : ByteArray) (h1 : a.size ≤ 9223372036854775807) (h2 : b.size ≤ 9223372036854775807) : digest_Xor.f a b = some (xorF a b) := if_pos ⟨h1, h2⟩
theorem shown_ : dominolaw07_shown.f = some true := by
  have e1 : (hexF (shaF (joinB [(⟨#[97]⟩ : ByteArray), (⟨#[98, 99]⟩ : ByteArray)]))).data.toList = [98, 97, 55, 56, 49, 54, 98, 102, 56, 102, 48, 49, 99, 102, 101, 97, 52, 49, 52, 49, 52, 48, 100, 101, 53, 100, 97, 101, 50, 50, 50, 51, 98, 48, 48, 51, 54, 49, 97, 51, 57, 54, 49, 55, 55, 97, 57, 99, 98, 52, 49, 48, 102, 102, 54, 49, 102, 50, 48, 48, 49, 53, 97, 100] := by decide +kernel
  have e2 : (xorF (⟨#[97, 98]⟩ : ByteArray) (⟨#[98]⟩ : ByteArray)).data.toList = [3] := by decide +kernel
  unfold dominolaw07_shown.f
  rw [sum_f _ (by decide +kernel) (by decide), Option.bind_some, hex_f _ (by rw [shaF_size]; decide), Option.bind_some, if_pos (by rw [Go.Lib.toList_data]; exact e1), xor_f _ _ (by decide) (by decide), Option.bind_some, Go.Lib.toList_data, e2]
  rfl
theorem joinB_nil : joinB [] = ⟨#[]⟩ := rfl
theorem join_nil : ∀ l : List (List UInt8), Lib.join l [] = l.flatten
  | [] => rfl
  | [a] => by simp [Lib.join]
  | a :: b :: l => by
    have ih := join_nil (b :: l)
    have e : ([] : List UInt8).intercalate (a :: b :: l) = a ++ ([] ++ ([] : List UInt8).intercalate (b :: l)) := by simp [List.intercalate]
    show ([] : List UInt8).intercalate (a :: b :: l) = _
    rw [e, show ([] : List UInt8).intercalate (b :: l) = (b :: l).flatten from ih]
    simp
theorem joinB_data (l : List ByteArray) : (joinB l).data.toList = (l.map (·.data.toList)).flatten := by
  show (Lib.join (l.map (·.data.toList)) []).toArray.toList = _
  rw [join_nil]
theorem ba_ext {a b : ByteArray} (h : a.data.toList = b.data.toList) : a = b := ByteArray.ext (Array.toList_inj.mp h)
theorem joinB_size (l : List ByteArray) : (joinB l).size = (l.map ByteArray.size).sum := by
  have h := congrArg List.length (joinB_data l)
  rw [List.length_flatten, List.map_map] at h
  exact h
theorem app_nil (a : ByteArray) : a ++ ⟨#[]⟩ = a := by
  apply ba_ext
  rw [ByteArray.data_append, Array.toList_append]
  exact List.append_nil _
theorem nil_app (a : ByteArray) : (⟨#[]⟩ : ByteArray) ++ a = a := by
  apply ba_ext
  rw [ByteArray.data_append, Array.toList_append]
  rfl
theorem wf_u8 {a : Int} (h : (Lit.int .u8 a).wf = true) : 0 ≤ a ∧ a < 256 := by
  simp [Lit.wf, IntKind.min, IntKind.max, IntKind.signed, IntKind.bits] at h
  omega
theorem wf_u16 {a : Int} (h : (Lit.int .u16 a).wf = true) : 0 ≤ a ∧ a < 65536 := by
  simp [Lit.wf, IntKind.min, IntKind.max, IntKind.signed, IntKind.bits] at h
  omega
theorem joinB_one (s : ByteArray) : joinB [s] = s := by
  apply ba_ext
  rw [joinB_data]
  simp
theorem joinB_empties (n : Nat) (t : List ByteArray) : joinB (List.replicate n ⟨#[]⟩ ++ t) = joinB t := by
  apply ba_ext
  rw [joinB_data, joinB_data]
  induction n with
  | zero => rfl
  | succ n ih => rw [List.replicate_succ, List.cons_append, List.map_cons, List.flatten_cons, ih]; rfl
theorem hexL_size (s : ByteArray) : ∀ (r i : Nat) (acc : ByteArray), (hexL s r i acc).size = acc.size + 2 * r
  | 0, _, _ => rfl
  | r + 1, i, acc => by
    rw [hexL, hexL_size s r, ByteArray.size_append, ByteArray.size_append, strOfNums_size, strOfNums_size]
    simp
    omega
theorem none_hex : (hexF (shaF ⟨#[]⟩)).data.toList = [101, 51, 98, 48, 99, 52, 52, 50, 57, 56, 102, 99, 49, 99, 49, 52, 57, 97, 102, 98, 102, 52, 99, 56, 57, 57, 54, 102, 98, 57, 50, 52, 50, 55, 97, 101, 52, 49, 101, 52, 54, 52, 57, 98, 57, 51, 52, 99, 97, 52, 57, 53, 57, 57, 49, 98, 55, 56, 53, 50, 98, 56, 53, 53] := by decide +kernel
theorem DigestNone : dominolaw07_DigestNone.Pure := by
  intro a s ha hs
  obtain ⟨a0, a1⟩ := wf_u8 ha
  refine ⟨1, ?_⟩
  unfold dominolaw07_DigestNone.f
  have hT : dominolaw07_DigestNone.j0 1 a s true = some true := by
    rw [dominolaw07_DigestNone.j0, if_pos rfl, shown_]
    rfl
  by_cases c : (s.size : Int) > 500
  · rw [if_pos c]
    exact hT
  rw [if_neg c, shown_, Option.bind_some]
  show dominolaw07_DigestNone.j0 1 a s false = some true
  rw [dominolaw07_DigestNone.j0, if_neg (by decide)]
  have e2 : wrap64 a = a := by unfold wrap64; omega
  rw [e2, Int.tmod_eq_emod_of_nonneg a0]
  obtain ⟨n, hn⟩ : ∃ n, n = (a % 20).toNat := ⟨_, rfl⟩
  have hn2 : n < 20 := by omega
  have h1 : joinB (List.replicate n (⟨#[]⟩ : ByteArray)) = ⟨#[]⟩ := by
    have := joinB_empties n []
    rw [List.append_nil] at this
    exact this
  have h2 : joinB (List.replicate n (⟨#[]⟩ : ByteArray) ++ [s]) = s := by rw [joinB_empties, joinB_one]
  have h3 : (hexF (shaF s)).size = 64 := by
    unfold hexF
    rw [hexL_size, shaF_size]
    rfl
  rw [if_pos (by omega), ← hn, if_pos (by omega), Option.bind_some, sum_f _ (by rw [h1]; decide) (by rw [List.length_replicate]; omega), Option.bind_some, h1, hex_f _ (by rw [shaF_size]; decide), Option.bind_some, if_pos (by rw [Go.Lib.toList_data]; exact none_hex),
    sum_f _ (by rw [joinB_one]; omega) (by simp), Option.bind_some, joinB_one, hex_f _ (by rw [shaF_size]; decide), Option.bind_some, h3, if_pos (by rfl), if_pos (by rw [List.length_replicate]; omega), sum_f _ (by rw [h2]; omega) (by rw [List.length_append, List.length_replicate]; simp; omega), Option.bind_some, h2, Option.bind_some]
  simp

end Go.Proofs.Ytmkpphcnafklbaa.Pure
