-- printed for this claim by a program of the claim (wip/tools/pp.py over the kit's print)
import Derived.Test.YtghdmlcmoeoohaaPKfxx0
namespace Go.Proofs.Ytghdmlcmoeoohaa.PKfx
open Go.RowKit Go.Proofs.YtghdmlcmoeoohaaW.PrintWords Go.Proofs.YtghdmlcmoeoohaaW.PrintLast Go.Proofs.YtghdmlcmoeoohaaW.PrintMore
attribute [local go_sem] max2_int min2_int max_two min_two max_three min_three max_four min_four   -- for this text's walks alone
set_option linter.unusedVariables false
set_option linter.unusedSimpArgs false

attribute [local go_sem] isSome_setCell_
-- NOT PRINTED: function 41 (strings_Builder_String)

-- NOT PRINTED: function 64 (abi_NoEscape)

-- NOT PRINTED: function 53 (strings_Builder_copyCheck)

-- NOT PRINTED: function 65 (bytealg_MakeNoZero)

-- NOT PRINTED: function 54 (strings_Builder_grow)

-- NOT PRINTED: function 42 (strings_Builder_Grow)

-- NOT PRINTED: function 43 (strings_Builder_WriteString)

/-! ### a list of strings, read; joined -/
def joinS (l : List ByteArray) (sep : ByteArray) : ByteArray := ⟨(Lib.join (l.map (·.data.toList)) sep.data.toList).toArray⟩
def joinB (l : List ByteArray) : ByteArray := ⟨(Lib.join (l.map (·.data.toList)) []).toArray⟩
theorem strs_at {w : World} {A : Option Addr} {xs : List ByteArray} (h : Kd.C Kd.string w A xs.length xs) (h0 : 0 < xs.length) :
    ∃ bk o, A = some ⟨bk, o, none⟩ ∧ bk < w.heap.size ∧ ∀ (j : Nat) x, xs[j]? = some x → w.cell? ⟨bk, o + j, none⟩ = some (.string x) := by
  have hx (j : Nat) (hj : j < xs.length) : ∃ ad : Addr, A = some ad ∧ w.cell? (ad.add j) = some (.string (xs.getD j ByteArray.empty)) := by
    obtain ⟨ad, e, hc⟩ := Kd.at_string h (j : Int) (by omega) (by omega)
    rw [Int.toNat_natCast] at hc
    refine ⟨ad, e, ?_⟩
    rw [hc]
    unfold rdOf
    rw [Int.toNat_natCast]
  obtain ⟨ad, rfl, hc⟩ := hx 0 h0
  have hspot : ad.spot = none := by
    have : (ad.add 0).spot = none := by
      cases hs : (ad.add 0).spot with
      | none => rfl
      | some z =>
        unfold World.cell? at hc
        rw [hs] at hc
        revert hc
        simp only [Option.isSome_some, if_true]
        split <;> simp
    unfold Addr.add at this
    split at this <;> simp_all
  obtain ⟨bk, o, sp⟩ := ad
  simp only at hspot
  subst hspot
  refine ⟨bk, o, rfl, ?_, fun j x hj => ?_⟩
  · have := World.block_lt_of_cell? _ _ hc
    simpa [Addr.add_mid] using this
  · have hl := (List.getElem?_eq_some_iff.1 hj).1
    obtain ⟨ad, e, hc⟩ := hx j hl
    obtain rfl := Option.some.inj e
    rw [Addr.add_mid, List.getD_eq_getElem?_getD, hj] at hc
    exact hc
theorem join_s (A : Option Addr) (c : Nat) (l : List ByteArray) (sep : ByteArray) (w : World) (hr : Kd.C Kd.string w A l.length l) (hc : l.length ≤ c) (hlen : (joinS l sep).size ≤ 140737488355328) (hl : l.length ≤ 140737488355328) :
    Calls Try.prog 29 #[.slice A l.length c, .string sep] w fun e w' => e = .returned (.string (joinS l sep)) ∧ Below w.heap.size w w' := by
  by_cases h0 : 0 < l.length
  · obtain ⟨bk, o, rfl, hlt, hcells⟩ := strs_at hr h0
    exact Try.strings_Join bk o c l sep w hcells hlt hl hc (by simpa [joinS, ByteArray.size] using hlen)
  · obtain rfl : l = [] := List.eq_nil_of_length_eq_zero (by omega)
    exact (Try.strings_Join_none A c sep w).mono fun e w' ⟨he, hw⟩ => ⟨he, hw ▸ Below.refl _ _⟩
theorem join_c (A : Option Addr) (c : Nat) (l : List ByteArray) (w : World) (hr : Kd.C Kd.string w A l.length l) (hc : l.length ≤ c) (hlen : (joinB l).size ≤ 140737488355328) (hl : l.length ≤ 140737488355328) :
    Calls Try.prog 29 #[.slice A l.length c, .string (⟨#[]⟩ : ByteArray)] w fun e w' => e = .returned (.string (joinB l)) ∧ Below w.heap.size w w' :=
  join_s A c l ⟨#[]⟩ w hr hc hlen hl

/-! ### strings_Join: function 29 -/
def strings_Join.f (l0 : List ByteArray) (a1 : ByteArray) : Option (ByteArray) := if (joinS l0 a1).size ≤ 140737488355328 ∧ l0.length ≤ 140737488355328 then some (joinS l0 a1) else none
theorem strings_Join.calls (A0 : Option Addr) (c0 : Nat) (l0 : List ByteArray) (a1 : ByteArray) (r : ByteArray) (w : World) (hr0 : Kd.C Kd.string w A0 l0.length l0) (hc0 : l0.length ≤ c0) (h : strings_Join.f l0 a1 = some r) :
    Calls Try.prog 29 #[.slice A0 l0.length c0, .string a1] w fun e w' => e = .returned (.string r) ∧ Below w.heap.size w w' := by
  unfold strings_Join.f at h
  by_cases c : (joinS l0 a1).size ≤ 140737488355328 ∧ l0.length ≤ 140737488355328
  · rw [if_pos c] at h
    obtain rfl := Option.some.inj h
    exact join_s A0 c0 l0 a1 w hr0 hc0 c.1 c.2
  · rw [if_neg c] at h
    exact absurd h (by simp)

/-! ### bits_Mul32: function 59 -/
def bits_Mul32.f (a0 : Int) (a1 : Int) : Option (Int × Int) := some (((IntKind.u64.wrap ((IntKind.u64.wrap (a0)) * (IntKind.u64.wrap (a1)))) / 4294967296) % 4294967296, (IntKind.u64.wrap ((IntKind.u64.wrap (a0)) * (IntKind.u64.wrap (a1)))) % 4294967296)
set_option maxHeartbeats 8000000 in
set_option maxRecDepth 100000 in
theorem bits_Mul32.calls (a0 : Int) (a1 : Int) (r1 : Int) (r2 : Int) (w : World) (h : bits_Mul32.f a0 a1 = some (r1, r2)) :
    Calls Try.prog 59 #[.int .u32 a0, .int .u32 a1] w fun e w' => e = .returned (.tuple #[.int .u32 r1, .int .u32 r2]) ∧ Drawn0 w w' := by
  have H : (some (((IntKind.u64.wrap ((IntKind.u64.wrap (a0)) * (IntKind.u64.wrap (a1)))) / 4294967296) % 4294967296, (IntKind.u64.wrap ((IntKind.u64.wrap (a0)) * (IntKind.u64.wrap (a1)))) % 4294967296)) = some (r1, r2) := h
  clear h
  simp only [Option.some.injEq, Prod.mk.injEq] at H
  obtain ⟨rfl, rfl⟩ := H
  go_enter Try.func59, Try.ntmps59
  go_wp2
  go_ret2
  exact ⟨by first | rfl | (simp; done) | (simp [*]; done), by repeat (first | exact Drawn0.refl _ | apply Drawn0.step)⟩

/-! ### bits_Mul64: function 60 -/
def bits_Mul64.f (a0 : Int) (a1 : Int) : Option (Int × Int) := some (IntKind.u64.wrap ((IntKind.u64.wrap ((IntKind.u64.wrap ((a0 / 4294967296) * (a1 / 4294967296))) + ((IntKind.u64.wrap ((IntKind.u64.wrap ((a0 / 4294967296) * (Go.bits .and .u64 a1 4294967295))) + ((IntKind.u64.wrap ((Go.bits .and .u64 a0 4294967295) * (Go.bits .and .u64 a1 4294967295))) / 4294967296))) / 4294967296))) + ((IntKind.u64.wrap ((Go.bits .and .u64 (IntKind.u64.wrap ((IntKind.u64.wrap ((a0 / 4294967296) * (Go.bits .and .u64 a1 4294967295))) + ((IntKind.u64.wrap ((Go.bits .and .u64 a0 4294967295) * (Go.bits .and .u64 a1 4294967295))) / 4294967296))) 4294967295) + (IntKind.u64.wrap ((Go.bits .and .u64 a0 4294967295) * (a1 / 4294967296))))) / 4294967296)), IntKind.u64.wrap (a0 * a1))
set_option maxHeartbeats 8000000 in
set_option maxRecDepth 100000 in
theorem bits_Mul64.calls (a0 : Int) (a1 : Int) (r1 : Int) (r2 : Int) (w : World) (h : bits_Mul64.f a0 a1 = some (r1, r2)) :
    Calls Try.prog 60 #[.int .u64 a0, .int .u64 a1] w fun e w' => e = .returned (.tuple #[.int .u64 r1, .int .u64 r2]) ∧ Drawn0 w w' := by
  have H : (some (IntKind.u64.wrap ((IntKind.u64.wrap ((IntKind.u64.wrap ((a0 / 4294967296) * (a1 / 4294967296))) + ((IntKind.u64.wrap ((IntKind.u64.wrap ((a0 / 4294967296) * (Go.bits .and .u64 a1 4294967295))) + ((IntKind.u64.wrap ((Go.bits .and .u64 a0 4294967295) * (Go.bits .and .u64 a1 4294967295))) / 4294967296))) / 4294967296))) + ((IntKind.u64.wrap ((Go.bits .and .u64 (IntKind.u64.wrap ((IntKind.u64.wrap ((a0 / 4294967296) * (Go.bits .and .u64 a1 4294967295))) + ((IntKind.u64.wrap ((Go.bits .and .u64 a0 4294967295) * (Go.bits .and .u64 a1 4294967295))) / 4294967296))) 4294967295) + (IntKind.u64.wrap ((Go.bits .and .u64 a0 4294967295) * (a1 / 4294967296))))) / 4294967296)), IntKind.u64.wrap (a0 * a1))) = some (r1, r2) := h
  clear h
  simp only [Option.some.injEq, Prod.mk.injEq] at H
  obtain ⟨rfl, rfl⟩ := H
  go_enter Try.func60, Try.ntmps60
  go_wp2
  go_ret2
  exact ⟨by first | rfl | (simp; done) | (simp [*]; done), by repeat (first | exact Drawn0.refl _ | apply Drawn0.step)⟩

/-! ### bits_Mul: function 46 -/
def bits_Mul.f (a0 : Int) (a1 : Int) : Option (Int × Int) := (bits_Mul64.f a0 a1).bind fun bt101 => (some (bt101.1, bt101.2))
set_option maxHeartbeats 8000000 in
set_option maxRecDepth 100000 in
theorem bits_Mul.calls (a0 : Int) (a1 : Int) (r1 : Int) (r2 : Int) (w : World) (h : bits_Mul.f a0 a1 = some (r1, r2)) :
    Calls Try.prog 46 #[.int .u64 a0, .int .u64 a1] w fun e w' => e = .returned (.tuple #[.int .u64 r1, .int .u64 r2]) ∧ Drawn0 w w' := by
  have H : ((bits_Mul64.f a0 a1).bind fun bt101 => (some (bt101.1, bt101.2))) = some (r1, r2) := h
  clear h
  replace H := Option.bind_eq_some_iff.mp H
  obtain ⟨⟨t101, t102⟩, A30, H⟩ := H
  replace H : (some (t101, t102)) = some (r1, r2) := H
  have A3 := Aside0.mk A30
  clear A30
  simp only [Option.some.injEq, Prod.mk.injEq] at H
  obtain ⟨rfl, rfl⟩ := H
  go_enter Try.func46, Try.ntmps46
  go_wp2_with (first | ((with_reducible refine gate_callee (f := 60) rfl ?_); refine goesL_ (some 25) rfl rfl Try.func60 (by kernel_rfl) rfl #[.int .u64 a0, .int .u64 a1] rfl (by (try simp only [List.map_toArray, List.map_cons, List.map_nil]); first | done | rfl | (simp only [List.length_drop, List.length_take]; rfl)) ?_; (with_reducible refine (bits_Mul64.calls a0 a1 t101 t102 _ A3.out).mono ?_); rintro e w' ⟨rfl, ⟨nd, rfl⟩⟩; refine ⟨_, rfl, ?_⟩))
  go_ret2
  exact ⟨by first | rfl | (simp; done) | (simp [*]; done), by repeat (first | exact Drawn0.refl _ | apply Drawn0.step)⟩

/-! ### stringslite_HasPrefix: function 61 -/
def stringslite_HasPrefix.f (a0 : ByteArray) (a1 : ByteArray) : Option (Bool) := if (a0.size : Int) ≥ (a1.size : Int) then (if 0 ≤ (a1.size : Int) then (if (a1.size : Int) ≤ (a0.size : Int) then (some ((a0.extract 0 ((a1.size : Int) : Int).toNat).toList == a1.toList)) else (none)) else (none)) else (some false)
set_option maxHeartbeats 8000000 in
set_option maxRecDepth 100000 in
theorem stringslite_HasPrefix.calls (a0 : ByteArray) (a1 : ByteArray) (r : Bool) (w : World) (h : stringslite_HasPrefix.f a0 a1 = some r) :
    Calls Try.prog 61 #[.string a0, .string a1] w fun e w' => e = .returned (.bool r) ∧ Drawn0 w w' := by
  have H : (if (a0.size : Int) ≥ (a1.size : Int) then (if 0 ≤ (a1.size : Int) then (if (a1.size : Int) ≤ (a0.size : Int) then (some ((a0.extract 0 ((a1.size : Int) : Int).toNat).toList == a1.toList)) else (none)) else (none)) else (some false)) = some r := h
  clear h
  by_cases c3 : (a0.size : Int) ≥ (a1.size : Int)
  · rw [if_pos c3] at H
    have c3b0 : decide ((a1.size : Int) ≤ (a0.size : Int)) = true := decide_eq_true c3
    have c3b1 : decide (a1.size ≤ a0.size) = true := decide_eq_true (Int.ofNat_le.mp c3)
    clear c3
    by_cases c4 : 0 ≤ (a1.size : Int)
    · rw [if_pos c4] at H
      have c4b0 := eq_true c4
      have c4b1 : decide (0 ≤ (a1.size : Int)) = true := decide_eq_true c4
      clear c4
      by_cases c5 : (a1.size : Int) ≤ (a0.size : Int)
      · rw [if_pos c5] at H
        have c5b0 := eq_true c5
        have c5b1 : decide ((a1.size : Int) ≤ (a0.size : Int)) = true := decide_eq_true c5
        clear c5
        obtain rfl := Option.some.inj H
        go_enter Try.func61, Try.ntmps61
        go_wp2
        go_ret
        exact ⟨by first | rfl | (simp; done) | (simp [*]; done), by repeat (first | exact Drawn0.refl _ | apply Drawn0.step)⟩
      · rw [if_neg c5] at H
        exact absurd H (by simp)
    · rw [if_neg c4] at H
      exact absurd H (by simp)
  · rw [if_neg c3] at H
    have c3b0 : decide ((a1.size : Int) ≤ (a0.size : Int)) = false := decide_eq_false c3
    have c3b1 : decide (a1.size ≤ a0.size) = false := decide_eq_false (fun h => c3 (Int.ofNat_le.mpr h))
    clear c3
    obtain rfl := Option.some.inj H
    go_enter Try.func61, Try.ntmps61
    go_wp2
    go_ret
    exact ⟨by first | rfl | (simp; done) | (simp [*]; done), by repeat (first | exact Drawn0.refl _ | apply Drawn0.step)⟩

/-! ### strings_HasPrefix: function 47 -/
def strings_HasPrefix.f (a0 : ByteArray) (a1 : ByteArray) : Option (Bool) := (stringslite_HasPrefix.f a0 a1).bind fun t103 => (some t103)
set_option maxHeartbeats 8000000 in
set_option maxRecDepth 100000 in
theorem strings_HasPrefix.calls (a0 : ByteArray) (a1 : ByteArray) (r : Bool) (w : World) (h : strings_HasPrefix.f a0 a1 = some r) :
    Calls Try.prog 47 #[.string a0, .string a1] w fun e w' => e = .returned (.bool r) ∧ Drawn0 w w' := by
  have H : ((stringslite_HasPrefix.f a0 a1).bind fun t103 => (some t103)) = some r := h
  clear h
  replace H := Option.bind_eq_some_iff.mp H
  obtain ⟨t103, A30, H⟩ := H
  replace H : (some t103) = some r := H
  have A3 := Aside0.mk A30
  clear A30
  obtain rfl := Option.some.inj H
  go_enter Try.func47, Try.ntmps47
  go_wp2_with (first | ((with_reducible refine gate_callee (f := 61) rfl ?_); refine goesL_ (some 7) rfl rfl Try.func61 (by kernel_rfl) rfl #[.string a0, .string a1] rfl (by (try simp only [List.map_toArray, List.map_cons, List.map_nil]); first | done | rfl | (simp only [List.length_drop, List.length_take]; rfl)) ?_; (with_reducible refine (stringslite_HasPrefix.calls a0 a1 t103 _ A3.out).mono ?_); rintro e w' ⟨rfl, ⟨nd, rfl⟩⟩; refine ⟨_, rfl, ?_⟩))
  go_ret
  exact ⟨by first | rfl | (simp; done) | (simp [*]; done), by repeat (first | exact Drawn0.refl _ | apply Drawn0.step)⟩

-- NOT PRINTED: function 48 (strings_Builder_Len)

/-! ### strings_Repeat: function 34 -/
def repB (s : ByteArray) (n : Nat) : ByteArray := ⟨(Lib.repeatL s.data.toList n).toArray⟩
def strings_Repeat.f (a0 : ByteArray) (a1 : Int) : Option (ByteArray) := if 0 ≤ a1 ∧ a1 ≤ 9223372036854775807 ∧ a0.size * a1.toNat ≤ 140737488355328 then some (repB a0 a1.toNat) else none
theorem strings_Repeat.calls (a0 : ByteArray) (a1 : Int) (r : ByteArray) (w : World) (h : strings_Repeat.f a0 a1 = some r) :
    Calls Try.prog 34 #[.string a0, .int .i64 a1] w fun e w' => e = .returned (.string r) ∧ Below w.heap.size w w' := by
  unfold strings_Repeat.f at h
  by_cases c : 0 ≤ a1 ∧ a1 ≤ 9223372036854775807 ∧ a0.size * a1.toNat ≤ 140737488355328
  · rw [if_pos c] at h
    obtain rfl := Option.some.inj h
    obtain ⟨n, rfl⟩ : ∃ n : Nat, a1 = (n : Int) := ⟨a1.toNat, by omega⟩
    rw [Int.toNat_natCast] at c ⊢
    exact Try.strings_Repeat a0 n w (by omega) c.2.2
  · rw [if_neg c] at h
    exact absurd h (by simp)

-- NOT PRINTED: function 66 (digest_primes)

-- NOT PRINTED: function 67 (digest_greatest)

-- NOT PRINTED: function 55 (digest_roots)

-- NOT PRINTED: function 56 (digest_cube)

-- NOT PRINTED: function 57 (digest_square)

-- NOT PRINTED: function 44 (digest_fresh)

/-! ### bits_RotateLeft32: function 70 -/
def bits_RotateLeft32.f (a0 : Int) (a1 : Int) : Option (Int) := if 0 ≤ (Go.bits .and .u64 (IntKind.u64.wrap (a1)) 31) then (if 0 ≤ (IntKind.u64.wrap (32 - (Go.bits .and .u64 (IntKind.u64.wrap (a1)) 31))) then (some (Go.bits .or .u32 (shl .u32 a0 (Go.bits .and .u64 (IntKind.u64.wrap (a1)) 31)) (shr .u32 a0 (IntKind.u64.wrap (32 - (Go.bits .and .u64 (IntKind.u64.wrap (a1)) 31)))))) else (none)) else (none)
set_option maxHeartbeats 8000000 in
set_option maxRecDepth 100000 in
theorem bits_RotateLeft32.calls (a0 : Int) (a1 : Int) (r : Int) (w : World) (h : bits_RotateLeft32.f a0 a1 = some r) :
    Calls Try.prog 70 #[.int .u32 a0, .int .i64 a1] w fun e w' => e = .returned (.int .u32 r) ∧ Drawn0 w w' := by
  have H : (if 0 ≤ (Go.bits .and .u64 (IntKind.u64.wrap (a1)) 31) then (if 0 ≤ (IntKind.u64.wrap (32 - (Go.bits .and .u64 (IntKind.u64.wrap (a1)) 31))) then (some (Go.bits .or .u32 (shl .u32 a0 (Go.bits .and .u64 (IntKind.u64.wrap (a1)) 31)) (shr .u32 a0 (IntKind.u64.wrap (32 - (Go.bits .and .u64 (IntKind.u64.wrap (a1)) 31)))))) else (none)) else (none)) = some r := h
  clear h
  obtain ⟨ji3, hji3⟩ : ∃ j_ : Int, (Go.bits .and .u64 (IntKind.u64.wrap (a1)) 31) = j_ := ⟨_, rfl⟩
  replace H : (if 0 ≤ (ji3) then (if 0 ≤ (IntKind.u64.wrap (32 - (ji3))) then (some (Go.bits .or .u32 (shl .u32 a0 (ji3)) (shr .u32 a0 (IntKind.u64.wrap (32 - (ji3)))))) else (none)) else (none)) = some r := by first | (rw [hji3] at H; exact H) | (simp only [hji3] at H ⊢; exact H)
  by_cases c4 : 0 ≤ (ji3)
  · rw [if_pos c4] at H
    have c4b0 := eq_true c4
    have c4b1 : decide (0 ≤ (ji3)) = true := decide_eq_true c4
    clear c4
    obtain ⟨ji5, hji5⟩ : ∃ j_ : Int, (shl .u32 a0 (ji3)) = j_ := ⟨_, rfl⟩
    replace H : (if 0 ≤ (IntKind.u64.wrap (32 - (ji3))) then (some (Go.bits .or .u32 (ji5) (shr .u32 a0 (IntKind.u64.wrap (32 - (ji3)))))) else (none)) = some r := by first | (rw [hji5] at H; exact H) | (simp only [hji5] at H ⊢; exact H)
    have hji5_ : (IntKind.u32.wrap (a0 * 2 ^ min (ji3).toNat 32)) = ji5 := hji5
    have hji5z : (ji3) ≤ 32 → (IntKind.u32.wrap (a0 * 2 ^ (ji3).toNat)) = ji5 := shl_small hji5
    have hji5n : 0 ≤ ji5 := by rw [← hji5_]; exact wrap_nn_ rfl _
    have hji5m : ji5 ≤ 4294967295 := by rw [← hji5_]; exact wrap_le_ rfl (by decide) _
    obtain ⟨ji6, hji6⟩ : ∃ j_ : Int, (IntKind.u64.wrap (32 - (ji3))) = j_ := ⟨_, rfl⟩
    replace H : (if 0 ≤ (ji6) then (some (Go.bits .or .u32 (ji5) (shr .u32 a0 (ji6)))) else (none)) = some r := by first | (rw [hji6] at H; exact H) | (simp only [hji6] at H ⊢; exact H)
    by_cases c7 : 0 ≤ (ji6)
    · rw [if_pos c7] at H
      have c7b0 := eq_true c7
      have c7b1 : decide (0 ≤ (ji6)) = true := decide_eq_true c7
      clear c7
      obtain ⟨ji8, hji8⟩ : ∃ j_ : Int, (shr .u32 a0 (ji6)) = j_ := ⟨_, rfl⟩
      replace H : (some (Go.bits .or .u32 (ji5) (ji8))) = some r := by first | (rw [hji8] at H; exact H) | (simp only [hji8] at H ⊢; exact H)
      have hji8_ : (a0 / 2 ^ min (ji6).toNat 32) = ji8 := hji8
      have hji8z : (ji6) ≤ 32 → (a0 / 2 ^ (ji6).toNat) = ji8 := shr_small hji8
      obtain rfl := Option.some.inj H
      go_enter Try.func70, Try.ntmps70
      go_wp2
      go_ret
      exact ⟨by first | rfl | (simp; done) | (simp only [← hji3, ← hji5, ← hji6, ← hji8] <;> (first | rfl | simp)) | (simp [*]; done), by repeat (first | exact Drawn0.refl _ | apply Drawn0.step)⟩
    · rw [if_neg c7] at H
      exact absurd H (by simp)
  · rw [if_neg c4] at H
    exact absurd H (by simp)

/-! ### digest_right: function 58 -/
def digest_right.l0 : Nat → Int → Int → List Int → Int → Int → Option (Int)
  | 0, _, _, _, _, _ => none
  | k + 1, x0, x4, x7, x8, x9 => if x9 < x8 then (if 0 ≤ x9 then (if x9 < (x7.length : Int) then ((bits_RotateLeft32.f x0 (wrap64 (-(rd x7 x9)))).bind fun t105 => (digest_right.l0 k x0 (Go.bits .xor .u32 x4 t105) x7 x8 (wrap64 (x9 + 1)))) else (none)) else (none)) else (some x4)
def digest_right.f (k : Nat) (a0 : Int) (l1 : List Int) : Option (Int) := digest_right.l0 k a0 0 l1 (l1.length : Int) 0
theorem digest_right.mono_l : ∀ k, (∀ y0 y1 y2 y3 y4, LeO (digest_right.l0 k y0 y1 y2 y3 y4) (digest_right.l0 (k + 1) y0 y1 y2 y3 y4))
  | 0 => fun _ _ _ _ _ r h => by simp [digest_right.l0] at h
  | k + 1 => by
    have ih0 := digest_right.mono_l k
    · intro y0 y1 y2 y3 y4
      unfold digest_right.l0
      repeat' first
      | (with_reducible exact ih0 _ _ _ _ _)
      | (with_reducible exact LeO.refl _)
      | (with_reducible exact LeO.none _)
      | (with_reducible refine LeO.ite ?_ ?_)
      | (with_reducible refine LeO.bind ?_ (fun _ => ?_))
      | exact ih0 _ _ _ _ _
      | exact LeO.none _
      | refine LeO.ite ?_ ?_
      | refine LeO.bind ?_ (fun _ => ?_)
theorem digest_right.mono : ∀ a0 a1 k, LeO (digest_right.f k a0 a1) (digest_right.f (k + 1) a0 a1) := by
  intro a0 a1 k
  have ih0 := digest_right.mono_l k
  unfold digest_right.f
  repeat' first
      | (with_reducible exact ih0 _ _ _ _ _)
      | (with_reducible exact LeO.refl _)
      | (with_reducible exact LeO.none _)
      | (with_reducible refine LeO.ite ?_ ?_)
      | (with_reducible refine LeO.bind ?_ (fun _ => ?_))
      | exact ih0 _ _ _ _ _
      | exact LeO.none _
      | refine LeO.ite ?_ ?_
      | refine LeO.bind ?_ (fun _ => ?_)
set_option maxHeartbeats 8000000 in
set_option maxRecDepth 100000 in
theorem digest_right.calls (k : Nat) (a0 : Int) (A1 : Option Addr) (c1 : Nat) (l1 : List Int) (r : Int) (w : World) (hr1 : Kd.C (Kd.int .i64) w A1 l1.length l1) (hc1 : l1.length ≤ c1) (h : digest_right.f k a0 l1 = some r) :
    Calls Try.prog 58 #[.int .u32 a0, .slice A1 l1.length c1] w fun e w' => e = .returned (.int .u32 r) ∧ Drawn0 w w' := by
  have HR1 := Aside0.mk hr1
  have HC1 := Aside0.mk hc1
  clear hr1 hc1
  have H : (digest_right.l0 k a0 0 l1 (l1.length : Int) 0) = some r := h
  clear h
  have H' := Aside0.mk H
  clear H
  go_enter Try.func58, Try.ntmps58
  go_wp2
  go_loopg [4, 9] k (fun kq v4 v9 w' => ∃ (x4_1 : Int) (x9_1 : Int), v4 = .int .u32 x4_1 ∧ v9 = .int .i64 x9_1 ∧ Aside0 (digest_right.l0 kq a0 x4_1 l1 (l1.length : Int) x9_1 = some r) ∧ Aside0 (kq ≤ k) ∧ Drawn0 w w')
  case atStart => exact ⟨(0), (0), (by first | rfl | (simp; done) | (simp [*]; done)), (by first | rfl | (simp; done) | (simp [*]; done)), H', ⟨Nat.le_refl _⟩, by repeat (first | exact Drawn0.refl _ | apply Drawn0.step)⟩
  case round =>
    clear H'
    try clear c1
    try clear p2
    obtain ⟨x4_1, x9_1, rfl, rfl, HA, HK1, ⟨m1, rfl⟩⟩ := hrel
    cases gk with
    | zero => exact absurd HA.out (by simp [digest_right.l0])
    | succ k1 =>
      have H := HA.out
      clear HA
      simp only [digest_right.l0] at H
      by_cases c3 : x9_1 < (l1.length : Int)
      · rw [if_pos c3] at H
        have c3b0 : decide (x9_1 < (l1.length : Int)) = true := decide_eq_true c3
        clear c3
        by_cases c4 : 0 ≤ x9_1
        · rw [if_pos c4] at H
          have c4b0 : decide (0 ≤ x9_1) = true := decide_eq_true c4
          clear c4
          by_cases c5 : x9_1 < (l1.length : Int)
          · rw [if_pos c5] at H
            have c5b0 : decide (x9_1 < (l1.length : Int)) = true := decide_eq_true c5
            clear c5
            replace H := Option.bind_eq_some_iff.mp H
            obtain ⟨t105, A60, H⟩ := H
            replace H : (digest_right.l0 k1 a0 (Go.bits .xor .u32 x4_1 t105) l1 (l1.length : Int) (wrap64 (x9_1 + 1))) = some r := H
            have A6 := Aside0.mk A60
            clear A60
            have H' := Aside0.mk H
            clear H
            have p104 : 0 ≤ (x9_1 : Int) := of_decide_eq_true (by first | (with_reducible assumption) | assumption)
            have q104 : x9_1 < (l1.length : Int) := of_decide_eq_true (by first | (with_reducible assumption) | assumption)
            obtain ⟨ad104, e104, hx104_0⟩ := Kd.at_int HR1.out x9_1 p104 q104
            cases e104
            replace p104 := eq_true p104
            replace q104 := eq_true q104
            go_wp2_with (first | ((with_reducible refine gate_callee (f := 70) rfl ?_); refine goesL_ (some 17) rfl rfl Try.func70 (by kernel_rfl) rfl #[.int .u32 a0, .int .i64 (wrap64 (-(rd l1 x9_1)))] rfl (by (try simp only [List.map_toArray, List.map_cons, List.map_nil]); first | done | rfl | (simp only [List.length_drop, List.length_take]; rfl)) ?_; (with_reducible refine (bits_RotateLeft32.calls a0 (wrap64 (-(rd l1 x9_1))) t105 _ A6.out).mono ?_); rintro e w' ⟨rfl, ⟨nd, rfl⟩⟩; refine ⟨_, rfl, ?_⟩))
            go_roundg k1
            case measure => have := HK1.out; omega
            case rel => exact ⟨(Go.bits .xor .u32 x4_1 t105), (wrap64 (x9_1 + 1)), (by first | rfl | (simp; done) | (simp [*]; done)), (by first | rfl | (simp; done) | (simp [*]; done)), H', ⟨by have := HK1.out; omega⟩, by repeat (first | exact Drawn0.refl _ | apply Drawn0.step)⟩
          · rw [if_neg c5] at H
            exact absurd H (by simp)
        · rw [if_neg c4] at H
          exact absurd H (by simp)
      · rw [if_neg c3] at H
        have c3b0 : decide (x9_1 < (l1.length : Int)) = false := decide_eq_false c3
        clear c3
        obtain rfl := Option.some.inj H
        go_wp2
        go_ret
        exact ⟨by first | rfl | (simp; done) | (simp [*]; done), by repeat (first | exact Drawn0.refl _ | apply Drawn0.step)⟩

-- NOT PRINTED: function 45 (digest_hash_block)

/-! ### roots of primes: function values, and what they answer -/
def squareS (p x : Int) : Bool := match bits_Mul64.f x x with
  | some (hi, lo) => decide (hi < p) || (hi == p && lo == 0)
  | none => false
def cubeT (p h lo : Int) : Bool := decide (h < IntKind.u64.wrap (p * 4294967296)) || (h == IntKind.u64.wrap (p * 4294967296) && lo == 0)
def cubeS (p x : Int) : Bool := match bits_Mul64.f x x with
  | some (hi, lo) => (match bits_Mul64.f lo x with
    | some (ov, low) => cubeT p (IntKind.u64.wrap (IntKind.u64.wrap (hi * x) + ov)) low
    | none => false)
  | none => false
theorem square1_calls (p x : Int) (g : Nat) (w : World) (hc : w.cell? ⟨g, 0, none⟩ = some (.int .u64 p)) :
    Calls Try.prog 69 #[.int .u64 x, .pointer (some ⟨g, 0, none⟩)] w fun e w' => e = .returned (.bool (squareS p x)) ∧ Drawn0 w w' := by
  obtain ⟨hi, lo, hm⟩ : ∃ hi lo, bits_Mul64.f x x = some (hi, lo) := ⟨_, _, rfl⟩
  have hs : squareS p x = (decide (hi < p) || (hi == p && lo == 0)) := by unfold squareS; rw [hm]
  rw [hs]
  have HM := Aside0.mk hm
  clear hm hs
  go_enter Try.func69, Try.ntmps69
  go_wp2_with fail
  refine (bits_Mul64.calls x x hi lo _ HM.out).mono ?_
  rintro e w1 ⟨rfl, ⟨nd, rfl⟩⟩
  go_wp2
  all_goals (go_ret; refine ⟨?_, nd, rfl⟩; simp [*])
theorem cube1_calls (p x : Int) (g : Nat) (w : World) (hc : w.cell? ⟨g, 0, none⟩ = some (.int .u64 p)) :
    Calls Try.prog 68 #[.int .u64 x, .pointer (some ⟨g, 0, none⟩)] w fun e w' => e = .returned (.bool (cubeS p x)) ∧ Drawn0 w w' := by
  obtain ⟨hi, lo, hm⟩ : ∃ hi lo, bits_Mul64.f x x = some (hi, lo) := ⟨_, _, rfl⟩
  obtain ⟨ov, low, hm2⟩ : ∃ ov low, bits_Mul64.f lo x = some (ov, low) := ⟨_, _, rfl⟩
  have hs : cubeS p x = cubeT p (IntKind.u64.wrap (IntKind.u64.wrap (hi * x) + ov)) low := by unfold cubeS; rw [hm]; dsimp only; rw [hm2]
  rw [hs]
  have HM := Aside0.mk hm
  have HM2 := Aside0.mk hm2
  clear hm hs hm2
  go_enter Try.func68, Try.ntmps68
  go_wp2_with fail
  refine (bits_Mul64.calls x x hi lo _ HM.out).mono ?_
  rintro e w1 ⟨rfl, ⟨nd, rfl⟩⟩
  go_wp2_with fail
  refine (bits_Mul64.calls lo x ov low _ HM2.out).mono ?_
  rintro e w1 ⟨rfl, ⟨nd2, rfl⟩⟩
  go_wp2
  all_goals (go_ret; refine ⟨?_, nd + nd2, rfl⟩; unfold cubeT; simp [*])
theorem square_calls (p : Int) (w : World) :
    Calls Try.prog 57 #[.int .u64 p] w fun e w' => e = .returned (.func (.func 69) #[] #[.pointer (some ⟨w.heap.size, 0, none⟩)]) ∧ w' = w.alloc (.cells #[.int .u64 p] 68) := by
  have hmf : ∀ (fn : Fn) (first cap : Array Value) (w : World), (Instr.makeFunc fn first cap).run Try.prog w = .ok (.func fn first cap) w := fun _ _ _ _ => rfl
  go_enter Try.func57, Try.ntmps57
  go_wp2
  go_ret
  exact ⟨rfl, rfl⟩
theorem cube_calls (p : Int) (w : World) :
    Calls Try.prog 56 #[.int .u64 p] w fun e w' => e = .returned (.func (.func 68) #[] #[.pointer (some ⟨w.heap.size, 0, none⟩)]) ∧ w' = w.alloc (.cells #[.int .u64 p] 68) := by
  have hmf : ∀ (fn : Fn) (first cap : Array Value) (w : World), (Instr.makeFunc fn first cap).run Try.prog w = .ok (.func fn first cap) w := fun _ _ _ _ => rfl
  go_enter Try.func56, Try.ntmps56
  go_wp2
  go_ret
  exact ⟨rfl, rfl⟩
/-- The greatest number up to a limit for which so is so. -/
def bitOf : Nat → Int
  | 0 => 0
  | k + 1 => 2 ^ k
def grStep (so : Int → Bool) (limit x b : Int) : Int := if Go.bits .or .u64 x b ≤ limit then (if so (Go.bits .or .u64 x b) = true then Go.bits .or .u64 x b else x) else x
def grF (so : Int → Bool) (limit : Int) : Nat → Int → Int
  | 0, x => x
  | k + 1, x => grF so limit k (grStep so limit x (2 ^ k))
theorem bitOf_half (k : Nat) : bitOf (k + 1) / 2 = bitOf k := by
  cases k with
  | zero => rfl
  | succ k =>
    show (2 : Int) ^ (k + 1) / 2 = 2 ^ k
    rw [Int.pow_succ]
    omega
set_option maxHeartbeats 1000000 in
theorem greatest_square (limit p : Int) (g : Nat) (w : World) (hc : w.cell? ⟨g, 0, none⟩ = some (.int .u64 p)) :
    Calls Try.prog 67 #[.int .u64 limit, .func (.func 69) #[] #[.pointer (some ⟨g, 0, none⟩)]] w fun e w' => e = .returned (.int .u64 (grF (squareS p) limit 36 0)) ∧ Drawn0 w w' := by
  have HC := Aside0.mk hc
  clear hc
  go_enter Try.func67, Try.ntmps67
  go_wp2
  go_loopg [4, 5] 36 (fun k x b wr => ∃ (X : Int), x = .int .u64 X ∧ b = .int .u64 (bitOf k) ∧ Aside0 (grF (squareS p) limit k X = grF (squareS p) limit 36 0) ∧ Aside0 (Drawn0 w wr))
  case atStart => exact ⟨0, rfl, rfl, ⟨rfl⟩, ⟨⟨0, rfl⟩⟩⟩
  case round =>
    obtain ⟨X, rfl, rfl, HG, HD⟩ := hrel
    cases gk with
    | zero =>
      rw [show bitOf 0 = 0 from rfl]
      go_wp2
      go_ret
      have hg := HG.out
      rw [grF] at hg
      exact ⟨by rw [← hg]; rfl, HD.out⟩
    | succ k =>
      have hpos : (0 : Int) < bitOf (k + 1) := by unfold bitOf; exact Int.pow_pos (by decide)
      have hshr : bitOf (k + 1) / 2 = bitOf k := bitOf_half k
      have HS := Aside0.mk hshr
      have hg := HG.out
      rw [grF] at hg
      have e : (2 : Int) ^ k = bitOf (k + 1) := rfl
      rw [e] at hg
      clear e hshr HG
      generalize bitOf (k + 1) = B at hpos HS hg ⊢
      unfold grStep at hg
      have hcw : wr.cell? ⟨g, 0, none⟩ = some (.int .u64 p) := by
        obtain ⟨⟨n, hn⟩⟩ := HD.out
        rw [hn]; simpa using HC.out
      by_cases c1 : Go.bits .or .u64 X B ≤ limit
      · rw [if_pos c1] at hg
        by_cases c2 : squareS p (Go.bits .or .u64 X B) = true
        · rw [if_pos c2] at hg
          have HG := Aside0.mk hg
          have HC2 := Aside0.mk c2
          clear hg c2
          go_wp2_with fail
          refine (square1_calls p _ g _ hcw).mono ?_
          rintro e w1 ⟨rfl, ⟨nd, rfl⟩⟩
          rw [HC2.out]
          go_wp2
          go_roundg k
          case measure => omega
          case rel => exact ⟨_, rfl, by rw [HS.out], HG, ⟨HD.out.step nd⟩⟩
        · rw [if_neg c2] at hg
          have HG := Aside0.mk hg
          have HC2 := Aside0.mk (Bool.eq_false_iff.2 c2)
          clear hg c2
          go_wp2_with fail
          refine (square1_calls p _ g _ hcw).mono ?_
          rintro e w1 ⟨rfl, ⟨nd, rfl⟩⟩
          rw [HC2.out]
          go_wp2
          go_roundg k
          case measure => omega
          case rel => exact ⟨_, rfl, by rw [HS.out], HG, ⟨HD.out.step nd⟩⟩
      · rw [if_neg c1] at hg
        have HG := Aside0.mk hg
        have c1' : limit < Go.bits .or .u64 X B := by omega
        clear hg
        go_wp2
        go_roundg k
        case measure => omega
        case rel => exact ⟨_, rfl, by rw [HS.out], HG, HD⟩
set_option maxHeartbeats 1000000 in
theorem greatest_cube (limit p : Int) (g : Nat) (w : World) (hc : w.cell? ⟨g, 0, none⟩ = some (.int .u64 p)) :
    Calls Try.prog 67 #[.int .u64 limit, .func (.func 68) #[] #[.pointer (some ⟨g, 0, none⟩)]] w fun e w' => e = .returned (.int .u64 (grF (cubeS p) limit 36 0)) ∧ Drawn0 w w' := by
  have HC := Aside0.mk hc
  clear hc
  go_enter Try.func67, Try.ntmps67
  go_wp2
  go_loopg [4, 5] 36 (fun k x b wr => ∃ (X : Int), x = .int .u64 X ∧ b = .int .u64 (bitOf k) ∧ Aside0 (grF (cubeS p) limit k X = grF (cubeS p) limit 36 0) ∧ Aside0 (Drawn0 w wr))
  case atStart => exact ⟨0, rfl, rfl, ⟨rfl⟩, ⟨⟨0, rfl⟩⟩⟩
  case round =>
    obtain ⟨X, rfl, rfl, HG, HD⟩ := hrel
    cases gk with
    | zero =>
      rw [show bitOf 0 = 0 from rfl]
      go_wp2
      go_ret
      have hg := HG.out
      rw [grF] at hg
      exact ⟨by rw [← hg]; rfl, HD.out⟩
    | succ k =>
      have hpos : (0 : Int) < bitOf (k + 1) := by unfold bitOf; exact Int.pow_pos (by decide)
      have hshr : bitOf (k + 1) / 2 = bitOf k := bitOf_half k
      have HS := Aside0.mk hshr
      have hg := HG.out
      rw [grF] at hg
      have e : (2 : Int) ^ k = bitOf (k + 1) := rfl
      rw [e] at hg
      clear e hshr HG
      generalize bitOf (k + 1) = B at hpos HS hg ⊢
      unfold grStep at hg
      have hcw : wr.cell? ⟨g, 0, none⟩ = some (.int .u64 p) := by
        obtain ⟨⟨n, hn⟩⟩ := HD.out
        rw [hn]; simpa using HC.out
      by_cases c1 : Go.bits .or .u64 X B ≤ limit
      · rw [if_pos c1] at hg
        by_cases c2 : cubeS p (Go.bits .or .u64 X B) = true
        · rw [if_pos c2] at hg
          have HG := Aside0.mk hg
          have HC2 := Aside0.mk c2
          clear hg c2
          go_wp2_with fail
          refine (cube1_calls p _ g _ hcw).mono ?_
          rintro e w1 ⟨rfl, ⟨nd, rfl⟩⟩
          rw [HC2.out]
          go_wp2
          go_roundg k
          case measure => omega
          case rel => exact ⟨_, rfl, by rw [HS.out], HG, ⟨HD.out.step nd⟩⟩
        · rw [if_neg c2] at hg
          have HG := Aside0.mk hg
          have HC2 := Aside0.mk (Bool.eq_false_iff.2 c2)
          clear hg c2
          go_wp2_with fail
          refine (cube1_calls p _ g _ hcw).mono ?_
          rintro e w1 ⟨rfl, ⟨nd, rfl⟩⟩
          rw [HC2.out]
          go_wp2
          go_roundg k
          case measure => omega
          case rel => exact ⟨_, rfl, by rw [HS.out], HG, ⟨HD.out.step nd⟩⟩
      · rw [if_neg c1] at hg
        have HG := Aside0.mk hg
        have c1' : limit < Go.bits .or .u64 X B := by omega
        clear hg
        go_wp2
        go_roundg k
        case measure => omega
        case rel => exact ⟨_, rfl, by rw [HS.out], HG, HD⟩

/-- The first n primes: those that there are, and the next number to be looked at. -/
def prStep (l : List Int) (p : Int) : List Int := if l.any (fun q => p % q == 0) then l else l ++ [p]
def prF : Nat → Nat → List Int → Int → Option (List Int)
  | 0, _, _, _ => none
  | k + 1, n, l, p => if l.length < n then prF k n (prStep l p) (p + 1) else some l
theorem any_drop {l : List Int} {f : Int → Bool} {j : Nat} (h : j < l.length) : (l.drop j).any f = (f (l.getD j 0) || (l.drop (j + 1)).any f) := by
  rw [List.drop_eq_getElem_cons h, List.any_cons]
  simp [List.getD_eq_getElem?_getD, h]
set_option maxHeartbeats 2000000 in
set_option maxRecDepth 100000 in
theorem primes_calls (f n : Nat) (r : List Int) (w : World) (hr : prF f n [] 2 = some r) (hf : f ≤ 1000) (hn : n ≤ 1000) :
    Calls Try.prog 66 #[.int .i64 n] w fun e w' => (∃ v, e = .returned v ∧ w'.ownsRow w.heap.size 68 1 v r.length (nums .u64 r)) ∧ Below w.heap.size w w' := by
  have hi5 : (Try.prog.info? 68).map (fun i => (i.zero, i.size, i.bytes)) = some (some (.int .u64 0), 1, 8) := by kernel_rfl
  obtain ⟨i0, hi, hz0, hz1, hz2⟩ := info_parts hi5
  clear hi5
  have HR := Aside0.mk hr
  clear hr
  go_enter Try.func66, Try.ntmps66
  go_wp2
  go_step3
  go_wp2
  go_step3
  go_wp2
  go_loopg [2, 3] f (fun g s2 s3 wx => ∃ (l : List Int) (p : Nat), p + g = f + 2 ∧ 2 ≤ p ∧ s3 = .int .u64 (p : Int) ∧ l.length ≤ 1000 ∧ Aside0 (prF g n l p = some r) ∧ Aside0 (∀ q ∈ l, 2 ≤ q) ∧ Aside0 (wx.ownsRow w.heap.size 68 1 s2 l.length (nums .u64 l)) ∧ Aside0 (Below w.heap.size w wx))
  case atStart => exact ⟨[], 2, by omega, by omega, rfl, by simp, HR, ⟨by simp⟩, ⟨own_nil w w.heap.size _ _⟩, ⟨Below.refl _ _⟩⟩
  case round =>
    obtain ⟨l, p, hpg, hp2, rfl, hl, HP, HQ, HO, HB⟩ := hrel
    cases gk with
    | zero => exact absurd HP.out (by simp [prF])
    | succ g =>
      obtain ⟨A, c, rfl, hreads⟩ := own_reads HO.out
      have HRd := Aside0.mk hreads
      clear hreads
      by_cases hlt : l.length < n
      · have hp := HP.out
        rw [prF, if_pos hlt] at hp
        have HP2 := Aside0.mk hp
        clear hp HP
        go_wp2
        go_loopg [5, 14] l.length (fun g2 s5 s14 wy => ∃ j : Nat, j + g2 = l.length ∧ s14 = .int .i64 (j : Int) ∧ Aside0 ((l.drop j).any (fun q => (p : Int) % q == 0) = l.any (fun q => (p : Int) % q == 0)) ∧ wy = wr)
        case atStart => exact ⟨0, by omega, rfl, ⟨rfl⟩, rfl⟩
        case round =>
          obtain ⟨j, hjg, rfl, HJ, rfl⟩ := hrel
          cases gk with
          | zero =>
            have hjz : l.length ≤ j := by omega
            have hs : prStep l p = l ++ [(p : Int)] := by
              have h := HJ.out
              rw [List.drop_of_length_le hjz] at h
              unfold prStep
              rw [← h]
              simp
            have HP3 := Aside0.mk (hs ▸ HP2.out)
            have HB' := HB.out.size
            have HO' := HO.out
            clear HP2 HJ hs
            go_wp2_with (at_builtin; refine wpList_append_own _ rfl _ _ 101 rfl w.heap.size 68 i0 (.int .u64 0) 1 8 Try.underlying101 hi hz0 hz1 hz2 rfl (by decide) _ _ _ rfl (HO'.alloc _) ⟨wr.heap.size, 0, none⟩ 1 1 [.int .u64 (p : Int)] rfl rfl ?c1 ?c2 ?c3 ?c4 ?c5 ?_)
            case c1 => exact cell_one_new _ _ _
            case c2 => simp [Value.oneCell']
            case c3 => unfold maxLen; omega
            case c4 => omega
            case c5 => simp; omega
            intro v' w1 hown' hgrow _
            have HO2 := Aside0.mk hown'
            have HB2 := Aside0.mk ((below_alloc HB.out _).grown hgrow (by simp; omega) (fun k hk => (HO.out.lt k hk).1))
            clear hown' hgrow HO' HB'
            go_wp2
            go_roundg g
            case measure => omega
            case rel =>
              refine ⟨l ++ [(p : Int)], p + 1, by omega, by omega, by simp, by simp; omega, ⟨by simpa using HP3.out⟩, ⟨?_⟩, ⟨?_⟩, HB2⟩
              · intro q hq
                rcases List.mem_append.1 hq with h | h
                · exact HQ.out q h
                · simp at h; omega
              · have := HO2.out
                rw [List.length_append, nums_append]
                exact this
          | succ g2 =>
            have hjz : j < l.length := by omega
            obtain ⟨ad, rfl, hx⟩ := HRd.out.at_ (j : Int) (by omega) (by omega)
            rw [Int.toNat_natCast] at hx
            have hq : 2 ≤ rd l (j : Int) := HQ.out _ (by unfold rd; rw [Int.toNat_natCast, List.getD_eq_getElem?_getD, List.getElem?_eq_getElem hjz]; exact List.getElem_mem hjz)
            have hrd : rd l (j : Int) = l.getD j 0 := by unfold rd; rw [Int.toNat_natCast]
            have HJ2 := Aside0.mk ((any_drop (f := fun q => (p : Int) % q == 0) hjz).symm.trans HJ.out)
            rw [hrd] at hx hq
            clear HJ hrd
            generalize l.getD j 0 = q at hx hq HJ2
            have hq0 : (q == 0) = false := by simp; omega
            by_cases hc : (p : Int) % q = 0
            · have hs : prStep l p = l := by
                unfold prStep
                rw [← HJ2.out, hc]
                simp
              have HP3 := Aside0.mk (hs ▸ HP2.out)
              clear HP2 HJ2 hs
              go_wp2
              go_roundg g
              case measure => omega
              case rel => exact ⟨l, p + 1, by omega, by omega, by simp, hl, ⟨by simpa using HP3.out⟩, HQ, HO, HB⟩
            · have hcb : ((p : Int) % q == 0) = false := by simpa using hc
              have HJ3 := Aside0.mk HJ2.out
              have hjj : (l.drop (j + 1)).any (fun q => (p : Int) % q == 0) = l.any (fun q => (p : Int) % q == 0) := by
                rw [← HJ2.out, hcb, Bool.false_or]
              have HJ4 := Aside0.mk hjj
              clear hjj HJ2 HJ3
              go_wp2
              go_roundg g2
              case measure => omega
              case rel => exact ⟨j + 1, by omega, by go_num, HJ4, rfl⟩
      · have hp := HP.out
        rw [prF, if_neg hlt] at hp
        have HP2 := Aside0.mk (Option.some.inj hp)
        clear hp HP
        go_wp2
        try rw [Exit.noGoto_ret]
        go_ret
        rw [← HP2.out]
        exact ⟨⟨_, rfl, HO.out⟩, HB.out⟩

theorem cell_one_at_ (w : World) (x : Value) (t : TypeId) (n : Nat) (h : w.heap.size = n) : ∀ (j : Nat) (u : Value), [x][j]? = some u → (w.alloc (.cells #[x] t)).cell? ((⟨n, 0, none⟩ : Addr).add j) = some u := by
  subst h
  exact cell_one_new w x t
theorem own_low_ {w : World} {base base' : Nat} {e : TypeId} {size : Nat} {v : Value} {n : Nat} {xs : List Value} (h : w.ownsRow base e size v n xs) (hb : base' ≤ base) : w.ownsRow base' e size v n xs :=
  ⟨h.1, h.2.imp id fun ⟨g, cap, cur, a, b, r⟩ => ⟨g, cap, cur, a, Nat.le_trans hb b, r⟩⟩
/-- The first 32 bits behind the point of roots. -/
def rootL (S : Int → Int → Bool) (ps : List Int) : List Int := ps.map fun p => (grF (S p) 68719476735 36 0) % 4294967296
theorem rootL_snoc (S : Int → Int → Bool) (ps : List Int) (k : Nat) (h : k < ps.length) : rootL S (ps.take (k + 1)) = rootL S (ps.take k) ++ [(grF (S (rd ps (k : Int))) 68719476735 36 0) % 4294967296] := by
  unfold rootL rd
  rw [List.take_succ_eq_append_getElem h, List.map_append, Int.toNat_natCast, List.getD_eq_getElem?_getD, List.getElem?_eq_getElem h]
  rfl
theorem rootL_length (S : Int → Int → Bool) (ps : List Int) : (rootL S ps).length = ps.length := by unfold rootL; rw [List.length_map]
set_option maxHeartbeats 2000000 in
set_option maxRecDepth 100000 in
theorem roots_square (f n : Nat) (ps : List Int) (w : World) (hp : prF f n [] 2 = some ps) (hf : f ≤ 1000) (hn : n ≤ 1000) (hps : ps.length ≤ 1000) :
    Calls Try.prog 55 #[.int .i64 n, .func (.func 57) #[] #[]] w fun e w' => (∃ v, e = .returned v ∧ w'.ownsRow w.heap.size 72 1 v ps.length (nums .u32 (rootL squareS ps))) ∧ Below w.heap.size w w' := by
  have hi5 : (Try.prog.info? 72).map (fun i => (i.zero, i.size, i.bytes)) = some (some (.int .u32 0), 1, 4) := by kernel_rfl
  obtain ⟨i0, hi, hz0, hz1, hz2⟩ := info_parts hi5
  clear hi5
  have HP := Aside0.mk hp
  clear hp
  go_enter Try.func55, Try.ntmps55
  go_wp2_with fail
  refine (primes_calls f n ps _ HP.out hf hn).mono ?_
  rintro e w1 ⟨⟨v, rfl, ho⟩, hb⟩
  obtain ⟨A, c, rfl, hreads⟩ := own_reads ho
  have HRd := Aside0.mk hreads
  have HB1 := Aside0.mk hb
  clear ho hreads hb HP
  go_wp2
  go_loopg [4, 6, 10] ps.length (fun g s4 s6 s10 wx => ∃ k : Nat, k + g = ps.length ∧ s10 = .int .i64 (k : Int) ∧ Aside0 (wx.ownsRow w1.heap.size 72 1 s4 k (nums .u32 (rootL squareS (ps.take k)))) ∧ Aside0 (Below w1.heap.size w1 wx))
  case atStart => exact ⟨0, by omega, rfl, ⟨own_nil w1 w1.heap.size _ _⟩, ⟨Below.refl _ _⟩⟩
  case round =>
    obtain ⟨k, hkg, rfl, HO, HB⟩ := hrel
    cases gk with
    | zero =>
      have hk : ps.length ≤ k := by omega
      have hk' : k = ps.length := by omega
      have HK := Aside0.mk hk'
      clear hk'
      go_wp2
      go_ret
      have hk := HK.out
      subst hk
      have := HO.out
      rw [List.take_length] at this
      exact ⟨⟨_, rfl, own_low_ this HB1.out.size⟩, HB1.out.trans (HB.out.mono HB1.out.size)⟩
    | succ g =>
      have hk : k < ps.length := by omega
      obtain ⟨ad, rfl, hx⟩ := (HRd.out.below HB.out).at_ (k : Int) (by omega) (by omega)
      rw [Int.toNat_natCast] at hx
      have HS := Aside0.mk (rootL_snoc squareS ps k hk)
      generalize rd ps (k : Int) = p at hx HS
      go_wp2_with fail
      refine (square_calls p _).mono ?_
      rintro e w2 ⟨rfl, rfl⟩
      go_wp2_with fail
      refine (greatest_square 68719476735 p wr.heap.size _ (World.cell?_alloc_at _ _ _ _ rfl)).mono ?_
      rintro e w3 ⟨rfl, ⟨nd, rfl⟩⟩
      have hmod : 0 ≤ grF (squareS p) 68719476735 36 0 % 4294967296 ∧ grF (squareS p) 68719476735 36 0 % 4294967296 < 4294967296 := ⟨Int.emod_nonneg _ (by decide), Int.emod_lt_of_pos _ (by decide)⟩
      generalize grF (squareS p) 68719476735 36 0 = R at hmod HS ⊢
      have HO' := ((HO.out.alloc (.cells #[.int .u64 p] 68)))
      have HO2 := pw_own_drewN HO' nd
      have HZ := HB.out.size
      clear HO'
      go_wp2_with (at_builtin; refine wpList_append_own _ rfl _ _ 74 rfl w1.heap.size 72 i0 (.int .u32 0) 1 4 Try.underlying74 hi hz0 hz1 hz2 rfl (by decide) _ _ _ rfl (HO2.alloc _) ⟨wr.heap.size + 1, 0, none⟩ 1 1 [.int .u32 (R % 4294967296)] rfl rfl ?c1 ?c2 ?c3 ?c4 ?c5 ?_)
      case c1 => exact cell_one_at_ _ _ _ _ (by simp)
      case c2 => simp [Value.oneCell']
      case c3 => unfold maxLen; omega
      case c4 => omega
      case c5 => simp; omega
      intro v' w4 hown' hgrow _
      have HO3 := Aside0.mk hown'
      have HB2 := Aside0.mk ((below_alloc (pw_below_drewN (below_alloc HB.out _) nd) _).grown hgrow (by simp; omega) (fun k hk => (HO.out.lt k hk).1))
      clear hown' hgrow HO2 HZ
      go_wp2
      go_roundg g
      case measure => omega
      case rel =>
        refine ⟨k + 1, by omega, by go_num, ⟨?_⟩, HB2⟩
        rw [HS.out, nums_append]
        exact HO3.out
set_option maxHeartbeats 2000000 in
set_option maxRecDepth 100000 in
theorem roots_cube (f n : Nat) (ps : List Int) (w : World) (hp : prF f n [] 2 = some ps) (hf : f ≤ 1000) (hn : n ≤ 1000) (hps : ps.length ≤ 1000) :
    Calls Try.prog 55 #[.int .i64 n, .func (.func 56) #[] #[]] w fun e w' => (∃ v, e = .returned v ∧ w'.ownsRow w.heap.size 72 1 v ps.length (nums .u32 (rootL cubeS ps))) ∧ Below w.heap.size w w' := by
  have hi5 : (Try.prog.info? 72).map (fun i => (i.zero, i.size, i.bytes)) = some (some (.int .u32 0), 1, 4) := by kernel_rfl
  obtain ⟨i0, hi, hz0, hz1, hz2⟩ := info_parts hi5
  clear hi5
  have HP := Aside0.mk hp
  clear hp
  go_enter Try.func55, Try.ntmps55
  go_wp2_with fail
  refine (primes_calls f n ps _ HP.out hf hn).mono ?_
  rintro e w1 ⟨⟨v, rfl, ho⟩, hb⟩
  obtain ⟨A, c, rfl, hreads⟩ := own_reads ho
  have HRd := Aside0.mk hreads
  have HB1 := Aside0.mk hb
  clear ho hreads hb HP
  go_wp2
  go_loopg [4, 6, 10] ps.length (fun g s4 s6 s10 wx => ∃ k : Nat, k + g = ps.length ∧ s10 = .int .i64 (k : Int) ∧ Aside0 (wx.ownsRow w1.heap.size 72 1 s4 k (nums .u32 (rootL cubeS (ps.take k)))) ∧ Aside0 (Below w1.heap.size w1 wx))
  case atStart => exact ⟨0, by omega, rfl, ⟨own_nil w1 w1.heap.size _ _⟩, ⟨Below.refl _ _⟩⟩
  case round =>
    obtain ⟨k, hkg, rfl, HO, HB⟩ := hrel
    cases gk with
    | zero =>
      have hk : ps.length ≤ k := by omega
      have hk' : k = ps.length := by omega
      have HK := Aside0.mk hk'
      clear hk'
      go_wp2
      go_ret
      have hk := HK.out
      subst hk
      have := HO.out
      rw [List.take_length] at this
      exact ⟨⟨_, rfl, own_low_ this HB1.out.size⟩, HB1.out.trans (HB.out.mono HB1.out.size)⟩
    | succ g =>
      have hk : k < ps.length := by omega
      obtain ⟨ad, rfl, hx⟩ := (HRd.out.below HB.out).at_ (k : Int) (by omega) (by omega)
      rw [Int.toNat_natCast] at hx
      have HS := Aside0.mk (rootL_snoc cubeS ps k hk)
      generalize rd ps (k : Int) = p at hx HS
      go_wp2_with fail
      refine (cube_calls p _).mono ?_
      rintro e w2 ⟨rfl, rfl⟩
      go_wp2_with fail
      refine (greatest_cube 68719476735 p wr.heap.size _ (World.cell?_alloc_at _ _ _ _ rfl)).mono ?_
      rintro e w3 ⟨rfl, ⟨nd, rfl⟩⟩
      have hmod : 0 ≤ grF (cubeS p) 68719476735 36 0 % 4294967296 ∧ grF (cubeS p) 68719476735 36 0 % 4294967296 < 4294967296 := ⟨Int.emod_nonneg _ (by decide), Int.emod_lt_of_pos _ (by decide)⟩
      generalize grF (cubeS p) 68719476735 36 0 = R at hmod HS ⊢
      have HO' := ((HO.out.alloc (.cells #[.int .u64 p] 68)))
      have HO2 := pw_own_drewN HO' nd
      have HZ := HB.out.size
      clear HO'
      go_wp2_with (at_builtin; refine wpList_append_own _ rfl _ _ 74 rfl w1.heap.size 72 i0 (.int .u32 0) 1 4 Try.underlying74 hi hz0 hz1 hz2 rfl (by decide) _ _ _ rfl (HO2.alloc _) ⟨wr.heap.size + 1, 0, none⟩ 1 1 [.int .u32 (R % 4294967296)] rfl rfl ?c1 ?c2 ?c3 ?c4 ?c5 ?_)
      case c1 => exact cell_one_at_ _ _ _ _ (by simp)
      case c2 => simp [Value.oneCell']
      case c3 => unfold maxLen; omega
      case c4 => omega
      case c5 => simp; omega
      intro v' w4 hown' hgrow _
      have HO3 := Aside0.mk hown'
      have HB2 := Aside0.mk ((below_alloc (pw_below_drewN (below_alloc HB.out _) nd) _).grown hgrow (by simp; omega) (fun k hk => (HO.out.lt k hk).1))
      clear hown' hgrow HO2 HZ
      go_wp2
      go_roundg g
      case measure => omega
      case rel =>
        refine ⟨k + 1, by omega, by go_num, ⟨?_⟩, HB2⟩
        rw [HS.out, nums_append]
        exact HO3.out
/-- What a new sum begins with. -/
theorem primes_64 : ∃ ps, prF 1000 64 [] 2 = some ps ∧ ps.length = 64 := by
  refine ⟨(prF 1000 64 [] 2).getD [], ?_, ?_⟩ <;> decide +kernel

end Go.Proofs.Ytghdmlcmoeoohaa.PKfx
