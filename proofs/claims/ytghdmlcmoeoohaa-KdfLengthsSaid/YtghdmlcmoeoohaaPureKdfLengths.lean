/- What is derived has as many bytes as were asked for, or none with an error. -/
import Derived.Test.YtghdmlcmoeoohaaPKfxx12
namespace Go.Proofs.Ytghdmlcmoeoohaa.Pure
open Go.RowKit Go.Proofs.Ytghdmlcmoeoohaa.PKfx Go.Proofs.YtghdmlcmoeoohaaW.PrintWords Go.Proofs.YtghdmlcmoeoohaaW.PrintLast
set_option linter.unusedVariables false
set_option linter.unusedSimpArgs false
/-! ### words of 32 bits -/
def Wd (x : Int) : Prop := 0 ≤ x ∧ x < 4294967296
theorem Wd.nat {x : Int} (h : Wd x) : ∃ n : Nat, n < 4294967296 ∧ x = (n : Int) := by
  obtain ⟨h0, h1⟩ := h
  exact ⟨x.toNat, by omega, by omega⟩
theorem wd_nat (n : Nat) (h : n < 4294967296) : Wd (n : Int) := ⟨by omega, by omega⟩
theorem hk32 (n : Int) (h0 : 0 ≤ n) (h1 : n < 2 ^ 32) : IntKind.u32.wrap n = n := by rw [IntKind.wrap_u32]; omega
theorem hk64 (n : Int) (h0 : 0 ≤ n) (h1 : n < 2 ^ 64) : IntKind.u64.wrap n = n := by rw [IntKind.wrap_u64]; omega
theorem ofi (k a : Nat) (h : a < 2 ^ k) : (BitVec.ofInt k (a : Int)).toNat = a := by
  rw [BitVec.ofInt_natCast, BitVec.toNat_ofNat]; exact Nat.mod_eq_of_lt h
theorem xo (a b : Nat) (ha : a < 4294967296) (hb : b < 4294967296) : Go.bits .xor .u32 (a : Int) (b : Int) = ((a ^^^ b : Nat) : Int) ∧ Go.bits .xor .u64 (a : Int) (b : Int) = ((a ^^^ b : Nat) : Int) ∧ a ^^^ b < 4294967296 := by
  have hx : a ^^^ b < 2 ^ 32 := Nat.xor_lt_two_pow (by omega) (by omega)
  refine ⟨?_, ?_, hx⟩
  · show IntKind.u32.wrap ((BitVec.ofInt 32 (a : Int) ^^^ BitVec.ofInt 32 (b : Int)).toNat : Int) = _
    rw [BitVec.toNat_xor, ofi 32 a (by omega), ofi 32 b (by omega)]
    exact hk32 _ (by omega) (by omega)
  · show IntKind.u64.wrap ((BitVec.ofInt 64 (a : Int) ^^^ BitVec.ofInt 64 (b : Int)).toNat : Int) = _
    rw [BitVec.toNat_xor, ofi 64 a (by omega), ofi 64 b (by omega)]
    exact hk64 _ (by omega) (by omega)
theorem an (a b : Nat) (ha : a < 4294967296) (hb : b < 4294967296) : Go.bits .and .u32 (a : Int) (b : Int) = ((a &&& b : Nat) : Int) ∧ Go.bits .and .u64 (a : Int) (b : Int) = ((a &&& b : Nat) : Int) ∧ a &&& b < 4294967296 := by
  have hx : a &&& b < 2 ^ 32 := Nat.and_lt_two_pow _ (by omega)
  refine ⟨?_, ?_, hx⟩
  · show IntKind.u32.wrap ((BitVec.ofInt 32 (a : Int) &&& BitVec.ofInt 32 (b : Int)).toNat : Int) = _
    rw [BitVec.toNat_and, ofi 32 a (by omega), ofi 32 b (by omega)]
    exact hk32 _ (by omega) (by omega)
  · show IntKind.u64.wrap ((BitVec.ofInt 64 (a : Int) &&& BitVec.ofInt 64 (b : Int)).toNat : Int) = _
    rw [BitVec.toNat_and, ofi 64 a (by omega), ofi 64 b (by omega)]
    exact hk64 _ (by omega) (by omega)
theorem oo (a b : Nat) (ha : a < 4294967296) (hb : b < 4294967296) : Go.bits .or .u32 (a : Int) (b : Int) = ((a ||| b : Nat) : Int) ∧ a ||| b < 4294967296 := by
  have hx : a ||| b < 2 ^ 32 := Nat.or_lt_two_pow (by omega) (by omega)
  refine ⟨?_, hx⟩
  show IntKind.u32.wrap ((BitVec.ofInt 32 (a : Int) ||| BitVec.ofInt 32 (b : Int)).toNat : Int) = _
  rw [BitVec.toNat_or, ofi 32 a (by omega), ofi 32 b (by omega)]
  exact hk32 _ (by omega) (by omega)
theorem xor_wd {x y : Int} (hx : Wd x) (hy : Wd y) : Go.bits .xor .u64 x y = Go.bits .xor .u32 x y ∧ Wd (Go.bits .xor .u32 x y) := by
  obtain ⟨a, ha, rfl⟩ := hx.nat
  obtain ⟨b, hb, rfl⟩ := hy.nat
  obtain ⟨h1, h2, h3⟩ := xo a b ha hb
  rw [h1, h2]
  exact ⟨rfl, wd_nat _ h3⟩
theorem and_wd {x y : Int} (hx : Wd x) (hy : Wd y) : Go.bits .and .u64 x y = Go.bits .and .u32 x y ∧ Wd (Go.bits .and .u32 x y) := by
  obtain ⟨a, ha, rfl⟩ := hx.nat
  obtain ⟨b, hb, rfl⟩ := hy.nat
  obtain ⟨h1, h2, h3⟩ := an a b ha hb
  rw [h1, h2]
  exact ⟨rfl, wd_nat _ h3⟩
theorem xor0 {x : Int} (hx : Wd x) : Go.bits .xor .u32 0 x = x := by
  obtain ⟨a, ha, rfl⟩ := hx.nat
  have h := (xo 0 a (by omega) ha).1
  rw [Nat.zero_xor] at h
  exact h
theorem ch_eq {e f g : Int} (he : Wd e) (hf : Wd f) (hg : Wd g) :
    Go.bits .xor .u64 (Go.bits .and .u64 e f) (Go.bits .and .u64 (IntKind.u64.wrap (4294967295 - e)) g) = Go.bits .xor .u32 g (Go.bits .and .u32 e (Go.bits .xor .u32 f g)) ∧ Wd (Go.bits .xor .u32 g (Go.bits .and .u32 e (Go.bits .xor .u32 f g))) := by
  obtain ⟨a, ha, rfl⟩ := he.nat
  obtain ⟨b, hb, rfl⟩ := hf.nat
  obtain ⟨c, hc, rfl⟩ := hg.nat
  have hn : IntKind.u64.wrap (4294967295 - (a : Int)) = ((4294967295 - a : Nat) : Int) := by rw [IntKind.wrap_u64]; omega
  rw [hn]
  obtain ⟨-, h1, h2⟩ := an a b ha hb
  obtain ⟨-, h3, h4⟩ := an (4294967295 - a) c (by omega) hc
  obtain ⟨h5, -, h6⟩ := xo b c hb hc
  rw [h1, h3, h5]
  obtain ⟨h7, -, h8⟩ := an a (b ^^^ c) ha h6
  rw [h7]
  obtain ⟨h9, -, h10⟩ := xo c (a &&& (b ^^^ c)) hc h8
  rw [h9, (xo _ _ h2 h4).2.1]
  refine ⟨?_, wd_nat _ h10⟩
  congr 1
  apply Nat.eq_of_testBit_eq
  intro i
  have hs : 4294967295 - a = 2 ^ 32 - (a + 1) := by omega
  simp only [Nat.testBit_xor, Nat.testBit_and, hs, Nat.testBit_two_pow_sub_succ (show a < 2 ^ 32 by omega)]
  by_cases hi : i < 32
  · simp only [hi, decide_true, Bool.true_and]
    cases a.testBit i <;> cases b.testBit i <;> cases c.testBit i <;> rfl
  · have hz : ∀ n : Nat, n < 4294967296 → n.testBit i = false := fun n hn => Nat.testBit_lt_two_pow (Nat.lt_of_lt_of_le (show n < 2 ^ 32 by omega) (Nat.pow_le_pow_right (by decide) (by omega)))
    simp [hz a ha, hz b hb, hz c hc]
theorem maj_eq {e f g : Int} (he : Wd e) (hf : Wd f) (hg : Wd g) :
    Go.bits .xor .u64 (Go.bits .xor .u64 (Go.bits .and .u64 e f) (Go.bits .and .u64 e g)) (Go.bits .and .u64 f g) = Go.bits .or .u32 (Go.bits .and .u32 e f) (Go.bits .and .u32 g (Go.bits .or .u32 e f)) ∧ Wd (Go.bits .or .u32 (Go.bits .and .u32 e f) (Go.bits .and .u32 g (Go.bits .or .u32 e f))) := by
  obtain ⟨a, ha, rfl⟩ := he.nat
  obtain ⟨b, hb, rfl⟩ := hf.nat
  obtain ⟨c, hc, rfl⟩ := hg.nat
  obtain ⟨h0, h1, h2⟩ := an a b ha hb
  obtain ⟨-, h3, h4⟩ := an a c ha hc
  obtain ⟨-, h5, h6⟩ := an b c hb hc
  obtain ⟨h7, h8⟩ := oo a b ha hb
  rw [h0, h1, h3, h5, h7]
  obtain ⟨h9, -, h10⟩ := an c (a ||| b) hc h8
  rw [h9]
  obtain ⟨h11, h12⟩ := oo _ _ h2 h10
  obtain ⟨-, h13, h14⟩ := xo _ _ h2 h4
  rw [h11, h13, (xo _ _ h14 h6).2.1]
  refine ⟨?_, wd_nat _ h12⟩
  congr 1
  apply Nat.eq_of_testBit_eq
  intro i
  simp only [Nat.testBit_xor, Nat.testBit_and, Nat.testBit_or]
  cases a.testBit i <;> cases b.testBit i <;> cases c.testBit i <;> rfl
/-! ### turns -/
theorem rt_tn (x : Int) (h : Wd x) (m : Nat) (P Q : Int) (hP : (2 : Int) ^ m = P) (hQ : (2 : Int) ^ (32 - m) = Q) (hP0 : 0 < P) (hQ0 : 0 < Q)
    (h1 : x * Q % 4294967296 = x % P * Q) (h3 : x / P < Q) (h4 : x % P * Q + x / P < 4294967296) : rt x m = tn x m ∧ Wd (tn x m) := by
  obtain ⟨h0, hx⟩ := h
  have hp0 : 0 ≤ x % P := Int.emod_nonneg _ (by omega)
  have hd0 : 0 ≤ x / P := Int.ediv_nonneg h0 (by omega)
  have hm0 : 0 ≤ x % P * Q := Int.mul_nonneg hp0 (by omega)
  have e1 : tn x m = x % P * Q + x / P := by
    unfold tn
    rw [hP, hQ, Int.tdiv_eq_ediv_of_nonneg h0, Int.tmod_eq_emod_of_nonneg h0, IntKind.wrap_u64, IntKind.wrap_u64, IntKind.wrap_u64]
    omega
  have e2 : rt x m = x % P * Q + x / P := by
    unfold rt
    rw [hP, hQ, IntKind.wrap_u32, h1]
    exact Go.bits_join .u32 32 (by decide) hk32 (32 - m) _ _ hm0 (by rw [hQ]; exact Int.mul_emod_left _ _) (by omega) hd0 (by rw [hQ]; exact h3) (by omega)
  rw [e1, e2]
  exact ⟨rfl, by omega, by omega⟩
theorem rt7 {x : Int} (h : Wd x) : rt x 7 = tn x 7 ∧ Wd (tn x 7) := by
  have := h.1; have := h.2
  exact rt_tn x h 7 128 33554432 rfl rfl (by decide) (by decide) (by omega) (by omega) (by omega)
theorem rt18 {x : Int} (h : Wd x) : rt x 18 = tn x 18 ∧ Wd (tn x 18) := by
  have := h.1; have := h.2
  exact rt_tn x h 18 262144 16384 rfl rfl (by decide) (by decide) (by omega) (by omega) (by omega)
theorem rt17 {x : Int} (h : Wd x) : rt x 17 = tn x 17 ∧ Wd (tn x 17) := by
  have := h.1; have := h.2
  exact rt_tn x h 17 131072 32768 rfl rfl (by decide) (by decide) (by omega) (by omega) (by omega)
theorem rt19 {x : Int} (h : Wd x) : rt x 19 = tn x 19 ∧ Wd (tn x 19) := by
  have := h.1; have := h.2
  exact rt_tn x h 19 524288 8192 rfl rfl (by decide) (by decide) (by omega) (by omega) (by omega)
theorem rt6 {x : Int} (h : Wd x) : rt x 6 = tn x 6 ∧ Wd (tn x 6) := by
  have := h.1; have := h.2
  exact rt_tn x h 6 64 67108864 rfl rfl (by decide) (by decide) (by omega) (by omega) (by omega)
theorem rt11 {x : Int} (h : Wd x) : rt x 11 = tn x 11 ∧ Wd (tn x 11) := by
  have := h.1; have := h.2
  exact rt_tn x h 11 2048 2097152 rfl rfl (by decide) (by decide) (by omega) (by omega) (by omega)
theorem rt25 {x : Int} (h : Wd x) : rt x 25 = tn x 25 ∧ Wd (tn x 25) := by
  have := h.1; have := h.2
  exact rt_tn x h 25 33554432 128 rfl rfl (by decide) (by decide) (by omega) (by omega) (by omega)
theorem rt2 {x : Int} (h : Wd x) : rt x 2 = tn x 2 ∧ Wd (tn x 2) := by
  have := h.1; have := h.2
  exact rt_tn x h 2 4 1073741824 rfl rfl (by decide) (by decide) (by omega) (by omega) (by omega)
theorem rt13 {x : Int} (h : Wd x) : rt x 13 = tn x 13 ∧ Wd (tn x 13) := by
  have := h.1; have := h.2
  exact rt_tn x h 13 8192 524288 rfl rfl (by decide) (by decide) (by omega) (by omega) (by omega)
theorem rt22 {x : Int} (h : Wd x) : rt x 22 = tn x 22 ∧ Wd (tn x 22) := by
  have := h.1; have := h.2
  exact rt_tn x h 22 4194304 1024 rfl rfl (by decide) (by decide) (by omega) (by omega) (by omega)
theorem two_eq {x : Int} {p q : Nat} (hp : rt x p = tn x p ∧ Wd (tn x p)) (hq : rt x q = tn x q ∧ Wd (tn x q)) : Go.bits .xor .u64 (tn x p) (tn x q) = rgt x [p, q] ∧ Wd (rgt x [p, q]) := by
  show _ = Go.bits .xor .u32 (Go.bits .xor .u32 0 (rt x p)) (rt x q) ∧ Wd (Go.bits .xor .u32 (Go.bits .xor .u32 0 (rt x p)) (rt x q))
  rw [hp.1, hq.1, xor0 hp.2]
  exact xor_wd hp.2 hq.2
theorem three_eq {x : Int} {p q r : Nat} (hp : rt x p = tn x p ∧ Wd (tn x p)) (hq : rt x q = tn x q ∧ Wd (tn x q)) (hr : rt x r = tn x r ∧ Wd (tn x r)) : Go.bits .xor .u64 (Go.bits .xor .u64 (tn x p) (tn x q)) (tn x r) = rgt x [p, q, r] ∧ Wd (rgt x [p, q, r]) := by
  show _ = Go.bits .xor .u32 (Go.bits .xor .u32 (Go.bits .xor .u32 0 (rt x p)) (rt x q)) (rt x r) ∧ Wd (Go.bits .xor .u32 (Go.bits .xor .u32 (Go.bits .xor .u32 0 (rt x p)) (rt x q)) (rt x r))
  rw [hp.1, hq.1, hr.1, xor0 hp.2]
  obtain ⟨h1, h2⟩ := xor_wd hp.2 hq.2
  rw [h1]
  exact xor_wd h2 hr.2
/-! ### a round -/
structure WdS (v : S8) : Prop where
  a : Wd v.a
  b : Wd v.b
  c : Wd v.c
  d : Wd v.d
  e : Wd v.e
  f : Wd v.f
  g : Wd v.g
  h : Wd v.h
theorem sums (h s c k w t m d : Int) (hh : Wd h) (hs : Wd s) (hc : Wd c) (hk : Wd k) (hw : Wd w) (ht : Wd t) (hm : Wd m) (hd : Wd d) :
    IntKind.u32.wrap (IntKind.u32.wrap (IntKind.u32.wrap (IntKind.u32.wrap (IntKind.u32.wrap (h + s) + c) + k) + w) + IntKind.u32.wrap (t + m))
      = Int.tmod (IntKind.u64.wrap (IntKind.u64.wrap (IntKind.u64.wrap (IntKind.u64.wrap (IntKind.u64.wrap (h + s) + c) + k) + w) + IntKind.u64.wrap (t + m))) 4294967296
    ∧ IntKind.u32.wrap (d + IntKind.u32.wrap (IntKind.u32.wrap (IntKind.u32.wrap (IntKind.u32.wrap (h + s) + c) + k) + w)) = Int.tmod (IntKind.u64.wrap (d + IntKind.u64.wrap (IntKind.u64.wrap (IntKind.u64.wrap (IntKind.u64.wrap (h + s) + c) + k) + w))) 4294967296 := by
  obtain ⟨h0, h1⟩ := hh
  obtain ⟨s0, s1⟩ := hs
  obtain ⟨c0, c1⟩ := hc
  obtain ⟨k0, k1⟩ := hk
  obtain ⟨w0, w1⟩ := hw
  obtain ⟨t0, t1⟩ := ht
  obtain ⟨m0, m1⟩ := hm
  obtain ⟨d0, d1⟩ := hd
  have e1 : IntKind.u64.wrap (IntKind.u64.wrap (IntKind.u64.wrap (IntKind.u64.wrap (h + s) + c) + k) + w) = h + s + c + k + w := by
    simp only [IntKind.wrap_u64]; omega
  have e2 : IntKind.u64.wrap (t + m) = t + m := by rw [IntKind.wrap_u64]; omega
  have e3 : IntKind.u64.wrap (h + s + c + k + w + (t + m)) = h + s + c + k + w + (t + m) := by rw [IntKind.wrap_u64]; omega
  have e4 : IntKind.u64.wrap (d + (h + s + c + k + w)) = d + (h + s + c + k + w) := by rw [IntKind.wrap_u64]; omega
  rw [e1, e2, e3, e4, Int.tmod_eq_emod_of_nonneg (by omega), Int.tmod_eq_emod_of_nonneg (by omega)]
  simp only [IntKind.wrap_u32]
  constructor <;> omega
theorem wd_wrap (n : Int) : Wd (IntKind.u32.wrap n) := by rw [IntKind.wrap_u32]; exact ⟨by omega, by omega⟩
theorem rnd_eq (kk ww : Int) (v : S8) (hk : Wd kk) (hw : Wd ww) (hv : WdS v) : rnd kk ww v = rrnd kk ww v ∧ WdS (rnd kk ww v) := by
  refine ⟨?_, ⟨wd_wrap _, hv.a, hv.b, hv.c, wd_wrap _, hv.e, hv.f, hv.g⟩⟩
  obtain ⟨p1, p2⟩ := three_eq (rt6 hv.e) (rt11 hv.e) (rt25 hv.e)
  obtain ⟨q1, q2⟩ := three_eq (rt2 hv.a) (rt13 hv.a) (rt22 hv.a)
  obtain ⟨c1, c2⟩ := ch_eq hv.e hv.f hv.g
  obtain ⟨m1, m2⟩ := maj_eq hv.a hv.b hv.c
  obtain ⟨z1, z2⟩ := sums v.h _ _ kk ww _ _ v.d hv.h p2 c2 hk hw q2 m2 hv.d
  unfold rnd rrnd rT rU
  rw [p1, q1, c1, m1, z1, z2]
/-! ### the schedule, a block -/
theorem bt_wd (s : ByteArray) (i : Int) : 0 ≤ bt s i ∧ bt s i < 256 := by have := bt_range s i; omega
theorem div_wd {x : Int} (h : Wd x) (d : Int) (hd : 0 < d) : IntKind.u64.wrap (Int.tdiv x d) = x / d ∧ Wd (x / d) := by
  obtain ⟨h0, h1⟩ := h
  have a : 0 ≤ x / d := Int.ediv_nonneg h0 (by omega)
  have b : x / d ≤ x := Int.ediv_le_self d h0
  rw [Int.tdiv_eq_ediv_of_nonneg h0, IntKind.wrap_u64]
  exact ⟨by omega, a, by omega⟩
theorem sum4 (a b c d : Int) (ha : Wd a) (hb : Wd b) (hc : Wd c) (hd : Wd d) :
    IntKind.u32.wrap (IntKind.u32.wrap (IntKind.u32.wrap (a + b) + c) + d) = Int.tmod (IntKind.u64.wrap (IntKind.u64.wrap (IntKind.u64.wrap (a + b) + c) + d)) 4294967296 := by
  obtain ⟨a0, a1⟩ := ha
  obtain ⟨b0, b1⟩ := hb
  obtain ⟨c0, c1⟩ := hc
  obtain ⟨d0, d1⟩ := hd
  have e : IntKind.u64.wrap (IntKind.u64.wrap (IntKind.u64.wrap (a + b) + c) + d) = a + b + c + d := by simp only [IntKind.wrap_u64]; omega
  rw [e, Int.tmod_eq_emod_of_nonneg (by omega)]
  simp only [IntKind.wrap_u32]
  omega
theorem sum2 (a b : Int) (ha : Wd a) (hb : Wd b) : IntKind.u32.wrap (a + b) = Int.tmod (IntKind.u64.wrap (b + a)) 4294967296 := by
  obtain ⟨a0, a1⟩ := ha
  obtain ⟨b0, b1⟩ := hb
  have e : IntKind.u64.wrap (b + a) = a + b := by rw [IntKind.wrap_u64]; omega
  rw [e, Int.tmod_eq_emod_of_nonneg (by omega), IntKind.wrap_u32]
theorem wNext_eq (l : List Int) (k : Nat) (hl : ∀ j, Wd (l.getD j 0)) : wNext l k = rNext l k ∧ Wd (wNext l k) := by
  refine ⟨?_, wd_wrap _⟩
  obtain ⟨p1, p2⟩ := two_eq (rt7 (hl (k - 15))) (rt18 (hl (k - 15)))
  obtain ⟨q1, q2⟩ := two_eq (rt17 (hl (k - 2))) (rt19 (hl (k - 2)))
  obtain ⟨d1, d2⟩ := div_wd (hl (k - 15)) 8 (by decide)
  obtain ⟨f1, f2⟩ := div_wd (hl (k - 2)) 1024 (by decide)
  obtain ⟨x1, x2⟩ := xor_wd p2 d2
  obtain ⟨y1, y2⟩ := xor_wd q2 f2
  unfold wNext rNext
  rw [p1, q1, d1, f1, x1, y1]
  exact sum4 _ _ _ _ (hl _) (hl _) x2 y2
theorem wLoad_eq (s : ByteArray) (k : Nat) : wLoad s k = rLoad s k 0 4 ∧ Wd (wLoad s k) := by
  have e : rLoad s k 0 4 = IntKind.u64.wrap (IntKind.u64.wrap (IntKind.u64.wrap (IntKind.u64.wrap (IntKind.u64.wrap (IntKind.u64.wrap (IntKind.u64.wrap (IntKind.u64.wrap (0 * 256) + bt s (4 * (k : Int))) * 256) + bt s (4 * (k : Int) + 1)) * 256) + bt s (4 * (k : Int) + 2)) * 256) + bt s (4 * (k : Int) + 3)) := by
    simp only [rLoad]
    rw [show 4 * (k : Int) + ((0 : Nat) : Int) = 4 * (k : Int) by omega]
    rfl
  rw [e]
  unfold wLoad
  generalize 4 * (k : Int) = i
  obtain ⟨a0, a1⟩ := bt_wd s i
  obtain ⟨b0, b1⟩ := bt_wd s (i + 1)
  obtain ⟨c0, c1⟩ := bt_wd s (i + 2)
  obtain ⟨d0, d1⟩ := bt_wd s (i + 3)
  generalize bt s i = a at *
  generalize bt s (i + 1) = b at *
  generalize bt s (i + 2) = c at *
  generalize bt s (i + 3) = d at *
  rw [Go.bits_join .u32 32 (by decide) hk32 24 (a * 16777216) (b * 65536) (by omega) (by omega) (by omega) (by omega) (by omega) (by omega),
    Go.bits_join .u32 32 (by decide) hk32 16 _ (c * 256) (by omega) (by omega) (by omega) (by omega) (by omega) (by omega),
    Go.bits_join .u32 32 (by decide) hk32 8 _ d (by omega) (by omega) (by omega) (by omega) (by omega) (by omega)]
  have e : IntKind.u64.wrap (IntKind.u64.wrap (IntKind.u64.wrap (IntKind.u64.wrap (IntKind.u64.wrap (IntKind.u64.wrap (IntKind.u64.wrap (IntKind.u64.wrap (0 * 256) + a) * 256) + b) * 256) + c) * 256) + d) = a * 16777216 + b * 65536 + c * 256 + d := by
    simp only [IntKind.wrap_u64]; omega
  rw [e]
  exact ⟨rfl, by omega, by omega⟩
theorem getD_set (l : List Int) (k j : Nat) (v : Int) : (l.set k v).getD j 0 = if k = j ∧ k < l.length then v else l.getD j 0 := by
  simp only [List.getD_eq_getElem?_getD, List.getElem?_set]
  by_cases h : k = j
  · subst h
    by_cases h2 : k < l.length
    · simp [h2]
    · simp [h2]
  · simp [h]
theorem wF_eq (s : ByteArray) : ∀ k, wF s k = rwF s k ∧ (∀ j, Wd ((wF s k).getD j 0)) ∧ ∀ j, k ≤ j → (rwF s k).getD j 0 = 0
  | 0 => by
    have h0 : ∀ j, (List.replicate 64 (0 : Int)).getD j 0 = 0 := fun j => by
      simp only [List.getD_eq_getElem?_getD, List.getElem?_replicate]
      split <;> rfl
    refine ⟨rfl, fun j => ?_, fun j _ => h0 j⟩
    show Wd ((List.replicate 64 (0 : Int)).getD j 0)
    rw [h0]
    exact ⟨by decide, by decide⟩
  | k + 1 => by
    obtain ⟨h1, h2, h3⟩ := wF_eq s k
    obtain ⟨v, hv⟩ : ∃ v, v = (if k < 16 then wLoad s k else wNext (wF s k) k) := ⟨_, rfl⟩
    have hw : wF s (k + 1) = (wF s k).set k v := by rw [hv]; rfl
    have hr : rwF s (k + 1) = (rwF s k).set k v := by
      rw [hv, rwF, h3 k (Nat.le_refl _), ← (wLoad_eq s k).1, ← h1, (wNext_eq _ k h2).1]
    have hvW : Wd v := by
      rw [hv]
      split
      · exact (wLoad_eq s k).2
      · exact (wNext_eq _ k h2).2
    refine ⟨by rw [hw, hr, h1], fun j => ?_, fun j hj => ?_⟩
    · rw [hw, getD_set]
      split
      · exact hvW
      · exact h2 j
    · rw [hr, getD_set, if_neg (by omega)]
      exact h3 j (by omega)
theorem shaK_eq : shaK = refK := by decide +kernel
theorem refK_wd (j : Nat) : Wd (refK.getD j 0) := by
  have h : refK.all (fun x => decide (0 ≤ x ∧ x < 4294967296)) = true := by decide +kernel
  rw [List.all_eq_true] at h
  simp only [List.getD_eq_getElem?_getD]
  cases hj : refK[j]? with
  | none => exact ⟨by decide, by decide⟩
  | some x =>
    have := h x (List.mem_of_getElem? hj)
    exact of_decide_eq_true (p := 0 ≤ x ∧ x < 4294967296) this
theorem rndF_eq (l : List Int) (v : S8) (hl : ∀ j, Wd (l.getD j 0)) (hv : WdS v) : ∀ k, rndF l v k = rrndF l v k ∧ WdS (rndF l v k)
  | 0 => ⟨rfl, hv⟩
  | k + 1 => by
    obtain ⟨h1, h2⟩ := rndF_eq l v hl hv k
    have hk := refK_wd k
    have := rnd_eq (refK.getD k 0) (l.getD k 0) (rndF l v k) hk (hl k) h2
    rw [rndF, rrndF, shaK_eq, ← h1]
    exact this
theorem blk_eq (s : ByteArray) (v : S8) (hv : WdS v) : blkF s v = rblk s v ∧ WdS (blkF s v) := by
  obtain ⟨w1, w2, -⟩ := wF_eq s 64
  obtain ⟨r1, r2⟩ := rndF_eq (wF s 64) v w2 hv 64
  refine ⟨?_, ⟨wd_wrap _, wd_wrap _, wd_wrap _, wd_wrap _, wd_wrap _, wd_wrap _, wd_wrap _, wd_wrap _⟩⟩
  unfold blkF rblk
  rw [← w1, ← r1]
  simp only
  rw [sum2 _ _ hv.a r2.a, sum2 _ _ hv.b r2.b, sum2 _ _ hv.c r2.c, sum2 _ _ hv.d r2.d, sum2 _ _ hv.e r2.e, sum2 _ _ hv.f r2.f, sum2 _ _ hv.g r2.g, sum2 _ _ hv.h r2.h]
theorem wF_ext {s t : ByteArray} (h : ∀ j : Nat, j < 64 → bt s (j : Int) = bt t (j : Int)) : ∀ k, wF s k = wF t k
  | 0 => rfl
  | k + 1 => by
    rw [wF, wF, wSet, wSet, wF_ext h k]
    by_cases c : k < 16
    · rw [if_pos c, if_pos c]
      have h0 := h (4 * k) (by omega)
      have h1 := h (4 * k + 1) (by omega)
      have h2 := h (4 * k + 2) (by omega)
      have h3 := h (4 * k + 3) (by omega)
      rw [show ((4 * k : Nat) : Int) = 4 * (k : Int) by omega] at h0
      rw [show ((4 * k + 1 : Nat) : Int) = 4 * (k : Int) + 1 by omega] at h1
      rw [show ((4 * k + 2 : Nat) : Int) = 4 * (k : Int) + 2 by omega] at h2
      rw [show ((4 * k + 3 : Nat) : Int) = 4 * (k : Int) + 3 by omega] at h3
      unfold wLoad
      rw [h0, h1, h2, h3]
    · rw [if_neg c, if_neg c]
theorem blkF_ext {s t : ByteArray} (h : ∀ j : Nat, j < 64 → bt s (j : Int) = bt t (j : Int)) (v : S8) : blkF s v = blkF t v := by
  unfold blkF
  rw [wF_ext h]
theorem bt_ext (t : ByteArray) (a b j : Nat) (hj : a + j < b) (hb : b ≤ t.size) : bt (t.extract a b) (j : Int) = bt t ((a + j : Nat) : Int) := by
  unfold bt
  simp only [Int.toNat_natCast]
  have h1 : j < (t.extract a b).size := by rw [ByteArray.size_extract]; omega
  rw [dif_pos h1, dif_pos (by omega)]
  congr 2
  exact ByteArray.getElem_extract h1
theorem blocks_eq : ∀ (k i : Nat) (t : ByteArray) (v : S8), i + 64 * k ≤ t.size → WdS v → blocksF k (t.extract i t.size) v = rblocksF k i t v ∧ WdS (blocksF k (t.extract i t.size) v)
  | 0, _, _, _, _, hv => ⟨rfl, hv⟩
  | k + 1, i, t, v, h, hv => by
    have e1 : (t.extract i t.size).extract 64 (t.extract i t.size).size = t.extract (i + 64) t.size := by
      rw [ByteArray.size_extract, ByteArray.extract_extract]
      congr 1
      omega
    have e2 : blkF (t.extract i t.size) v = blkF (t.extract i (i + 64)) v := blkF_ext (fun j hj => by rw [bt_ext t i t.size j (by omega) (by omega), bt_ext t i (i + 64) j (by omega) (by omega)]) v
    obtain ⟨b1, b2⟩ := blk_eq (t.extract i (i + 64)) v hv
    rw [blocksF, rblocksF, e1, e2, ← b1]
    exact blocks_eq k (i + 64) t _ (by omega) b2
/-! ### the sum -/
theorem nums_cat (a b : List Int) : strOfNums (a ++ b) = strOfNums a ++ strOfNums b := by
  apply ByteArray.ext
  apply Array.toList_inj.mp
  simp [strOfNums]
theorem bytesOf_nums (s : ByteArray) : strOfNums (bytesOf s) = s := by
  apply ByteArray.ext
  apply Array.toList_inj.mp
  simp [strOfNums, bytesOf, Function.comp_def]
theorem repeat_zero (n : Nat) : (⟨(Lib.repeatL [0] n).toArray⟩ : ByteArray) = strOfNums (List.replicate n 0) := by
  have h : Lib.repeatL [0] n = List.replicate n 0 := by
    induction n with
    | zero => rfl
    | succ n ih => rw [Lib.repeatL, ih]; rfl
  rw [h]
  apply ByteArray.ext
  apply Array.toList_inj.mp
  simp [strOfNums]
theorem fill_eq (s : ByteArray) (hs : s.size ≤ 1099511627776) : sumFill s = filF s := by
  unfold sumFill sumPad filF filL filB
  rw [repeat_zero, nums_cat, nums_cat, nums_cat, bytesOf_nums, zn]
  have h1 : (s.size : Int) * 8 / 72057594037927936 = (s.size : Int) * 8 / 72057594037927936 % 256 := by omega
  have h2 : (s.size : Int) * 8 / 281474976710656 = (s.size : Int) * 8 / 281474976710656 % 256 := by omega
  have h3 : (s.size : Int) * 8 / 1099511627776 = (s.size : Int) * 8 / 1099511627776 % 256 := by omega
  rw [← h1, ← h2, ← h3]
  generalize (s.size : Int) * 8 / 72057594037927936 = n0
  generalize (s.size : Int) * 8 / 281474976710656 = n1
  generalize (s.size : Int) * 8 / 1099511627776 = n2
  generalize (s.size : Int) * 8 / 4294967296 % 256 = n3
  generalize (s.size : Int) * 8 / 16777216 % 256 = n4
  generalize (s.size : Int) * 8 / 65536 % 256 = n5
  generalize (s.size : Int) * 8 / 256 % 256 = n6
  generalize (s.size : Int) * 8 % 256 = n7
  have e : strOfNums [n0, n1, n2, n3, n4, n5, n6, n7] = strOfNums [n0] ++ strOfNums [n1] ++ strOfNums [n2] ++ strOfNums [n3] ++ strOfNums [n4] ++ strOfNums [n5] ++ strOfNums [n6] ++ strOfNums [n7] := by
    rw [← nums_cat, ← nums_cat, ← nums_cat, ← nums_cat, ← nums_cat, ← nums_cat, ← nums_cat]
    rfl
  rw [e]
  simp only [ByteArray.append_assoc]
  rfl
theorem wdV0 : WdS rV0 := ⟨⟨by decide, by decide⟩, ⟨by decide, by decide⟩, ⟨by decide, by decide⟩, ⟨by decide, by decide⟩, ⟨by decide, by decide⟩, ⟨by decide, by decide⟩, ⟨by decide, by decide⟩, ⟨by decide, by decide⟩⟩
theorem shaH_eq : shaH = [1779033703, 3144134277, 1013904242, 2773480762, 1359893119, 2600822924, 528734635, 1541459225] := by decide +kernel
theorem shaV_eq : shaV = rV0 := by
  unfold shaV
  rw [shaH_eq]
  rfl
theorem row_eq {x : Int} (h : Wd x) : out4 x = rRow x 4 := by
  obtain ⟨h0, h1⟩ := h
  have e : ∀ (k : Nat) (P : Int), (2 : Int) ^ (8 * (3 - k)) = P → 0 < P → P ≤ 16777216 → IntKind.u8.wrap (rbyte x k) = x / P % 256 := fun k P hP hp hp2 => by
    have a : 0 ≤ x / P := Int.ediv_nonneg h0 (by omega)
    have b : x / P ≤ x := Int.ediv_le_self P h0
    unfold rbyte
    rw [hP, Int.tdiv_eq_ediv_of_nonneg h0, IntKind.wrap_u64, IntKind.wrap_u8, Int.tmod_eq_emod_of_nonneg (by omega)]
    omega
  simp only [rRow, List.nil_append, List.cons_append]
  rw [e 0 16777216 rfl (by decide) (by decide), e 1 65536 rfl (by decide) (by decide), e 2 256 rfl (by decide) (by decide), e 3 1 rfl (by decide) (by decide), Int.ediv_one]
  rfl
theorem out_eq (v : S8) (h : WdS v) : shaOut v = rOut v.list 8 := by
  unfold shaOut
  rw [row_eq h.a, row_eq h.b, row_eq h.c, row_eq h.d, row_eq h.e, row_eq h.f, row_eq h.g, row_eq h.h]
  rfl
theorem sha_eq (s : ByteArray) (hs : s.size ≤ 1099511627776) : shaF s = rsF s := by
  obtain ⟨m, hm, hm2⟩ := filF_size s
  unfold shaF rsF
  rw [fill_eq s hs, shaV_eq, hm, Nat.mul_div_cancel_left _ (by decide)]
  obtain ⟨b1, b2⟩ := blocks_eq m 0 (filF s) rV0 (by omega) wdV0
  have e : (filF s).extract 0 (filF s).size = filF s := by simp
  rw [e] at b1 b2
  rw [← b1, out_eq _ b2]
/-! ### the laws' common part -/
theorem shaF_size (s : ByteArray) : (shaF s).size = 32 := by
  unfold shaF
  rw [strOfNums_size]
  rfl
theorem sum_f (l : List ByteArray) (h1 : (joinB l).size ≤ 1099511627776) (h2 : l.length ≤ 1099511627776) : digest_Sum.f l = some (shaF (joinB l)) := if_pos ⟨h1, h2⟩
theorem hex_f (s : ByteArray) (h : s.size ≤ 1099511627776) : digest_Hex.f s = some (hexF s) := if_pos h
theorem xor_f (a b : ByteArray) (h1 : a.size ≤ 9223372036854775807) (h2 : b.size ≤ 9223372036854775807) : digest_Xor.f a b = some (xorF a b) := if_pos ⟨h1, h2⟩
theorem joinB_nil : joinB [] = ⟨#[]⟩ := rfl
theorem join_nil : ∀ l : List (List UInt8), Lib.join l [] = l.flatten
  | [] => rfl
  | [a] => by simp [Lib.join]
  | a :: b :: l => by
    have ih := join_nil (b :: l)
    have e : ([] : List UInt8).intercalate (a :: b :: l) = a ++ ([] ++ ([] : List UInt8).intercalate (b :: l)) := by simp [List.intercalate]
    show ([] : List UInt8).intercalate (a :: b :: l) = _
    rw [e, show ([] : List UInt8).intercalate (b :: l) = (b :: l).flatten from ih]
    simp
theorem joinB_data (l : List ByteArray) : (joinB l).data.toList = (l.map (·.data.toList)).flatten := by
  show (Lib.join (l.map (·.data.toList)) []).toArray.toList = _
  rw [join_nil]
theorem ba_ext {a b : ByteArray} (h : a.data.toList = b.data.toList) : a = b := ByteArray.ext (Array.toList_inj.mp h)
theorem joinB_size (l : List ByteArray) : (joinB l).size = (l.map ByteArray.size).sum := by
  have h := congrArg List.length (joinB_data l)
  rw [List.length_flatten, List.map_map] at h
  exact h
theorem app_nil (a : ByteArray) : a ++ ⟨#[]⟩ = a := by
  apply ba_ext
  rw [ByteArray.data_append, Array.toList_append]
  exact List.append_nil _
theorem nil_app (a : ByteArray) : (⟨#[]⟩ : ByteArray) ++ a = a := by
  apply ba_ext
  rw [ByteArray.data_append, Array.toList_append]
  rfl
theorem wf_u8 {a : Int} (h : (Lit.int .u8 a).wf = true) : 0 ≤ a ∧ a < 256 := by
  simp [Lit.wf, IntKind.min, IntKind.max, IntKind.signed, IntKind.bits] at h
  omega
theorem wf_u16 {a : Int} (h : (Lit.int .u16 a).wf = true) : 0 ≤ a ∧ a < 65536 := by
  simp [Lit.wf, IntKind.min, IntKind.max, IntKind.signed, IntKind.bits] at h
  omega
theorem joinB_cons (a : ByteArray) (l : List ByteArray) : joinB (a :: l) = a ++ joinB l := by
  apply ba_ext
  rw [joinB_data, ByteArray.data_append, Array.toList_append, joinB_data]
  simp
theorem rd_at (l : List ByteArray) (i : Nat) (h : i < l.length) : rdOf ByteArray.empty l (i : Int) = l[i] := by
  unfold rdOf
  rw [Int.toNat_natCast]
  simp [List.getD_eq_getElem?_getD, h]
theorem wrap_next (i : Nat) (h : i < 4611686018427387904) : wrap64 ((i : Int) + 1) = ((i + 1 : Nat) : Int) := by unfold wrap64; omega
theorem join_run (l : List ByteArray) (hl : l.length < 4611686018427387904) : ∀ (m i k : Nat) (acc : ByteArray), i + m = l.length → acc.size + (joinB (l.drop i)).size ≤ 9223372036854775807 →
    dominoref07_Join.l0 (k + m + 1) l acc (i : Int) = some (acc ++ joinB (l.drop i)) := by
  intro m
  induction m with
  | zero =>
    intro i k acc hi _
    rw [dominoref07_Join.l0, if_neg (by omega), List.drop_of_length_le (by omega), joinB_nil, app_nil]
  | succ m ih =>
    intro i k acc hi hs
    have hlt : i < l.length := by omega
    rw [List.drop_eq_getElem_cons hlt, joinB_cons] at hs ⊢
    rw [ByteArray.size_append] at hs
    rw [show k + (m + 1) + 1 = (k + m + 1) + 1 by omega, dominoref07_Join.l0, if_pos (by omega), if_pos (by omega), rd_at l i hlt, if_pos (by omega), wrap_next i (by omega), ih (i + 1) k _ (by omega) (by rw [ByteArray.size_append]; omega), ByteArray.append_assoc]
/-! ### xor of texts -/
theorem xo8 (a b : Nat) (ha : a < 256) (hb : b < 256) : Go.bits .xor .u8 (a : Int) (b : Int) = ((a ^^^ b : Nat) : Int) ∧ a ^^^ b < 256 := by
  have hx : a ^^^ b < 2 ^ 8 := Nat.xor_lt_two_pow (by omega) (by omega)
  have o : ∀ n : Nat, n < 2 ^ 8 → (BitVec.ofInt 8 (n : Int)).toNat = n := fun n h => by
    rw [BitVec.ofInt_natCast, BitVec.toNat_ofNat]; exact Nat.mod_eq_of_lt h
  refine ⟨?_, hx⟩
  show IntKind.u8.wrap ((BitVec.ofInt 8 (a : Int) ^^^ BitVec.ofInt 8 (b : Int)).toNat : Int) = _
  rw [BitVec.toNat_xor, o a (by omega), o b (by omega), IntKind.wrap_u8]
  omega
def xb (a b : ByteArray) (j : Nat) : Int := (((bt a (j : Int)).toNat ^^^ (bt b (j : Int)).toNat : Nat) : Int)
def xs (a b : ByteArray) (n : Nat) : List Int := (List.range n).map (xb a b)
theorem bt_n (s : ByteArray) (i : Int) : (bt s i).toNat < 256 ∧ bt s i = ((bt s i).toNat : Int) := by have := bt_range s i; omega
theorem xb_range (a b : ByteArray) (j : Nat) : 0 ≤ xb a b j ∧ xb a b j < 256 := by
  have := (xo8 _ _ (bt_n a j).1 (bt_n b j).1).2
  unfold xb
  omega
theorem bits_xb (a b : ByteArray) (j : Nat) : Go.bits .xor .u8 (bt a (j : Int)) (bt b (j : Int)) = xb a b j := by
  have h := (xo8 _ _ (bt_n a j).1 (bt_n b j).1).1
  rw [← (bt_n a j).2, ← (bt_n b j).2] at h
  exact h
theorem xorL_get (b : ByteArray) : ∀ (r i : Nat) (m : List Int), (xorL b r i m).length = m.length ∧ ∀ j, j < m.length → (xorL b r i m).getD j 0 = if i ≤ j ∧ j < i + r then Go.bits .xor .u8 (m.getD j 0) (bt b (j : Int)) else m.getD j 0
  | 0, i, m => ⟨rfl, fun j _ => by rw [if_neg (by omega)]; rfl⟩
  | r + 1, i, m => by
    obtain ⟨h1, h2⟩ := xorL_get b r (i + 1) (m.set i (Go.bits .xor .u8 (m.getD i 0) (bt b (i : Int))))
    rw [xorL]
    refine ⟨by rw [h1, List.length_set], fun j hj => ?_⟩
    rw [h2 j (by rw [List.length_set]; exact hj), getD_set]
    by_cases e : i = j
    · subst e
      rw [if_neg (by omega), if_pos ⟨rfl, hj⟩, if_pos (by omega)]
    · rw [if_neg (c := i = j ∧ i < m.length) (fun x => e x.1)]
      by_cases c : i + 1 ≤ j ∧ j < i + 1 + r
      · rw [if_pos c, if_pos (by omega)]
      · rw [if_neg c, if_neg (by omega)]
theorem list_ext (l m : List Int) (h : l.length = m.length) (e : ∀ j, j < l.length → l.getD j 0 = m.getD j 0) : l = m := by
  apply List.ext_getElem h
  intro j h1 h2
  have := e j h1
  simpa [List.getD_eq_getElem?_getD, h1, h2] using this
theorem range_getD (n : Nat) (f : Nat → Int) (j : Nat) (h : j < n) : ((List.range n).map f).getD j 0 = f j := by
  simp [List.getD_eq_getElem?_getD, h]
theorem bytes_getD (s : ByteArray) (j : Nat) (h : j < s.size) : (bytesOf s).getD j 0 = bt s (j : Int) := by
  unfold bytesOf bt
  rw [Int.toNat_natCast, dif_pos h]
  simp [List.getD_eq_getElem?_getD, h]
  rfl
theorem bt_ext0 (t : ByteArray) (n j : Nat) (hj : j < n) (hn : n ≤ t.size) : bt (t.extract 0 n) (j : Int) = bt t (j : Int) := by
  unfold bt
  simp only [Int.toNat_natCast]
  have h1 : j < (t.extract 0 n).size := by rw [ByteArray.size_extract]; omega
  rw [dif_pos h1, dif_pos (by omega)]
  have h := ByteArray.getElem_extract h1
  simp only [Nat.zero_add] at h
  rw [h]
theorem xorF_eq (a b : ByteArray) (n : Nat) (hn : n = min a.size b.size) : xorF a b = strOfNums (xs a b n) := by
  unfold xorF
  rw [← hn]
  congr 1
  obtain ⟨h1, h2⟩ := xorL_get b n 0 (bytesOf (a.extract 0 n))
  have hl : (bytesOf (a.extract 0 n)).length = n := by rw [bytesOf_length, ByteArray.size_extract]; omega
  apply list_ext
  · rw [h1, hl]
    simp [xs]
  · intro j hj
    rw [h1, hl] at hj
    rw [h2 j (by omega), if_pos (by omega), bytes_getD _ _ (by rw [ByteArray.size_extract]; omega), bt_ext0 a n j hj (by omega), bits_xb]
    exact (range_getD n (xb a b) j hj).symm
theorem xs_comm (a b : ByteArray) (n : Nat) : xs a b n = xs b a n := by
  unfold xs
  apply List.map_congr_left
  intro j _
  unfold xb
  rw [Nat.xor_comm]
theorem bt_strs (l : List Int) (j : Nat) (h : j < l.length) (h0 : 0 ≤ l.getD j 0) (h1 : l.getD j 0 < 256) : bt (strOfNums l) (j : Int) = l.getD j 0 := by
  have hs : j < (strOfNums l).size := by rw [strOfNums_size]; exact h
  unfold bt
  rw [Int.toNat_natCast, dif_pos hs]
  have e : (strOfNums l)[j]'hs = UInt8.ofNat (l.getD j 0).toNat := by
    show ((l.map fun n => UInt8.ofNat n.toNat).toArray)[j]'(by simpa using h) = _
    simp [List.getD_eq_getElem?_getD, h]
  rw [e, UInt8.toNat_ofNat']
  omega
theorem xor_twice (a b : ByteArray) (n : Nat) (hn : n = min a.size b.size) : xorF (xorF a b) b = a.extract 0 n := by
  have hz : (xorF a b).size = n := by rw [xorF_eq a b n hn, strOfNums_size]; simp [xs]
  rw [xorF_eq (xorF a b) b n (by omega), ← bytesOf_nums (a.extract 0 n)]
  congr 1
  have hl : (xs (xorF a b) b n).length = n := by simp [xs]
  apply list_ext
  · rw [hl, bytesOf_length, ByteArray.size_extract]; omega
  · intro j hj
    rw [hl] at hj
    rw [bytes_getD _ _ (by rw [ByteArray.size_extract]; omega), bt_ext0 a n j hj (by omega)]
    have e1 : (xs a b n).getD j 0 = xb a b j := range_getD n _ j hj
    have e2 := xb_range a b j
    have e3 : bt (xorF a b) (j : Int) = xb a b j := by
      rw [xorF_eq a b n hn, bt_strs _ j (by simp [xs]; exact hj) (by rw [e1]; exact e2.1) (by rw [e1]; exact e2.2), e1]
    refine (range_getD n (xb (xorF a b) b) j hj).trans ?_
    unfold xb
    rw [e3]
    unfold xb
    rw [Int.toNat_natCast, Nat.xor_assoc, Nat.xor_self, Nat.xor_zero]
    exact (bt_n a j).2.symm
/-! ### the document's code of a text is the program's -/
def kb (x : ByteArray) (j : Nat) : Int := if j < x.size then bt x (j : Int) else 0
theorem kb_range (x : ByteArray) (j : Nat) : 0 ≤ kb x j ∧ kb x j < 256 := by
  unfold kb
  have := bt_range x (j : Int)
  split <;> omega
theorem bt_left' (x y : ByteArray) (n : Nat) (hn : n < x.size) : bt (x ++ y) (n : Int) = bt x (n : Int) := by
  unfold bt
  simp only [Int.toNat_natCast]
  rw [dif_pos (by rw [ByteArray.size_append]; omega), dif_pos hn, ByteArray.getElem_append_left hn]
theorem bt_right' (x y : ByteArray) (n : Nat) (hn : x.size ≤ n) (hn2 : n < x.size + y.size) : bt (x ++ y) (n : Int) = bt y ((n - x.size : Nat) : Int) := by
  unfold bt
  simp only [Int.toNat_natCast]
  rw [dif_pos (by rw [ByteArray.size_append]; omega), dif_pos (by omega), ByteArray.getElem_append_right hn]
theorem repL_one (b : UInt8) (n : Nat) : Lib.repeatL [b] n = List.replicate n b := by
  induction n with
  | zero => rfl
  | succ n ih => rw [Lib.repeatL, ih]; rfl
theorem repB_one (b : UInt8) (n : Nat) : (repB ⟨#[b]⟩ n).data.toList = List.replicate n b := by
  show (Lib.repeatL [b] n).toArray.toList = _
  rw [repL_one]
theorem bt_repB (b : UInt8) (n j : Nat) (h : j < n) : bt (repB ⟨#[b]⟩ n) (j : Int) = (b.toNat : Int) := by
  have hz : (repB ⟨#[b]⟩ n).size = n := by rw [repB_size]; show n * 1 = n; omega
  unfold bt
  rw [Int.toNat_natCast, dif_pos (by omega)]
  have e : (repB ⟨#[b]⟩ n)[j]'(by omega) = b := by
    have h2 : (repB ⟨#[b]⟩ n).data.toList[j]? = some b := by rw [repB_one]; simp [h]
    have h3 : j < (repB ⟨#[b]⟩ n).data.toList.length := (List.getElem?_eq_some_iff.1 h2).1
    have h4 := (List.getElem?_eq_some_iff.1 h2).2
    exact h4
  rw [e]
theorem bt_key (x : ByteArray) (hx : x.size ≤ 64) (j : Nat) (hj : j < 64) : bt (x ++ repB ⟨#[0]⟩ (64 - x.size)) (j : Int) = kb x j := by
  unfold kb
  by_cases c : j < x.size
  · rw [if_pos c, bt_left' _ _ _ c]
  · have hz : (repB ⟨#[0]⟩ (64 - x.size)).size = 64 - x.size := by rw [repB_size]; show (64 - x.size) * 1 = _; omega
    rw [if_neg c, bt_right' _ _ _ (by omega) (by rw [hz]; omega), bt_repB _ _ _ (by omega)]
    rfl
def kp (x : ByteArray) (v : Int) (i : Nat) : List Int := (List.range i).map fun j => Go.bits .xor .u8 (kb x j) v
theorem pad_eq (x : ByteArray) (hx : x.size ≤ 64) (b : UInt8) : xorF (x ++ repB ⟨#[0]⟩ (64 - x.size)) (repB ⟨#[b]⟩ 64) = strOfNums (kp x (b.toNat : Int) 64) := by
  have hk : (x ++ repB ⟨#[0]⟩ (64 - x.size)).size = 64 := by rw [ByteArray.size_append, repB_size]; show x.size + (64 - x.size) * 1 = 64; omega
  have hr : (repB ⟨#[b]⟩ 64).size = 64 := by rw [repB_size]; rfl
  rw [xorF_eq _ _ 64 (by rw [hk, hr]; rfl)]
  congr 1
  unfold xs kp
  apply List.map_congr_left
  intro j hj
  have hj2 : j < 64 := List.mem_range.1 hj
  rw [← bits_xb, bt_key x hx j hj2, bt_repB b 64 j hj2]
theorem rmac_run (x t : ByteArray) (ht : t.size ≤ 1000000) : ∀ (m i k : Nat), i + m = 64 →
    dominoref08_Mac.l0 (k + m + 1) x t (kp x 54 i) (kp x 92 i) (i : Int) = some (rsF (strOfNums (kp x 92 64) ++ rsF (strOfNums (kp x 54 64) ++ t))) := by
  intro m
  induction m with
  | zero =>
    intro i k hi
    obtain rfl : i = 64 := by omega
    have h1 : (strOfNums (kp x 54 64)).size = 64 := by rw [strOfNums_size]; simp [kp]
    have h2 : (strOfNums (kp x 92 64)).size = 64 := by rw [strOfNums_size]; simp [kp]
    have hs : ∀ s : ByteArray, s.size ≤ 2000000 → dominoref07_Sum.f s = some (rsF s) := fun s h => if_pos (by omega)
    have hz : ∀ s : ByteArray, s.size ≤ 2000000 → (rsF s).size = 32 := fun s h => by rw [← sha_eq s (by omega), shaF_size]
    have ha : (strOfNums (kp x 54 64) ++ t).size ≤ 2000000 := by rw [ByteArray.size_append]; omega
    have hb : (strOfNums (kp x 92 64) ++ rsF (strOfNums (kp x 54 64) ++ t)).size ≤ 2000000 := by rw [ByteArray.size_append, hz _ ha]; omega
    rw [dominoref08_Mac.l0, if_neg (by decide), if_pos (by omega), hs _ ha, Option.bind_some, if_pos (by rw [hz _ ha]; omega), hs _ hb]
    rfl
  | succ m ih =>
    intro i k hi
    have e1 : ∀ v : Int, kp x v i ++ [Go.bits .xor .u8 (kb x i) v] = kp x v (i + 1) := fun v => by
      unfold kp
      rw [List.range_succ, List.map_append]
      rfl
    have hl : ∀ v : Int, (kp x v i).length < 140737488355328 := fun v => by
      unfold kp
      rw [List.length_map, List.length_range]
      omega
    rw [show k + (m + 1) + 1 = (k + m + 1) + 1 by omega, dominoref08_Mac.l0, if_pos (by omega)]
    by_cases c : i < x.size
    · have hk : kb x i = bt x (i : Int) := if_pos c
      rw [if_pos (by omega), if_pos (by omega), if_pos (hl _), if_pos (hl _), ← hk, e1, e1, wrap_next i (by omega)]
      exact ih (i + 1) k (by omega)
    · have hk : kb x i = 0 := if_neg c
      rw [if_neg (by omega), if_pos (hl _), if_pos (hl _)]
      have e54 := e1 54
      have e92 := e1 92
      rw [hk] at e54 e92
      rw [e54, e92, wrap_next i (by omega)]
      exact ih (i + 1) k (by omega)
theorem rmac_f (a t : ByteArray) (k : Nat) (ha : a.size ≤ 1000000) (ht : t.size ≤ 1000000) : dominoref08_Mac.f (k + 66) a t = some (macF a t) := by
  have hs : ∀ s : ByteArray, s.size ≤ 2000000 → dominoref07_Sum.f s = some (rsF s) := fun s h => if_pos (by omega)
  have hR : ∀ x : ByteArray, x.size ≤ 64 → dominoref08_Mac.j0 (k + 66) x t = some (shaF (xorF (x ++ repB ⟨#[0]⟩ (64 - x.size)) (repB ⟨#[92]⟩ 64) ++ shaF (xorF (x ++ repB ⟨#[0]⟩ (64 - x.size)) (repB ⟨#[54]⟩ 64) ++ t))) := fun x hx => by
    have h := rmac_run x t ht 64 0 k (by omega)
    have h54 : (strOfNums (kp x 54 64)).size = 64 := by rw [strOfNums_size]; simp [kp]
    have h92 : (strOfNums (kp x 92 64)).size = 64 := by rw [strOfNums_size]; simp [kp]
    rw [show k + 66 = (k + 64 + 1) + 1 by omega, dominoref08_Mac.j0, pad_eq x hx 92, pad_eq x hx 54]
    refine h.trans ?_
    show some (rsF (strOfNums (kp x 92 64) ++ rsF (strOfNums (kp x 54 64) ++ t))) = some (shaF (strOfNums (kp x 92 64) ++ shaF (strOfNums (kp x 54 64) ++ t)))
    rw [sha_eq (strOfNums (kp x 54 64) ++ t) (by rw [ByteArray.size_append]; omega)]
    rw [sha_eq (strOfNums (kp x 92 64) ++ _) (by rw [ByteArray.size_append, ← sha_eq (strOfNums (kp x 54 64) ++ t) (by rw [ByteArray.size_append]; omega), shaF_size]; omega)]
  unfold dominoref08_Mac.f macF keyF
  by_cases c : a.size > 64
  · rw [if_pos (by omega), hs a (by omega), Option.bind_some, ← sha_eq a (by omega), hR _ (by rw [shaF_size]; decide), if_pos c]
  · rw [if_neg (by omega), hR a (by omega), if_neg c]
/-! ### what a key is expanded to -/
theorem macF_size (a s : ByteArray) : (macF a s).size = 32 := by unfold macF; rw [shaF_size]
def Tn (key info : ByteArray) : Nat → ByteArray
  | 0 => ⟨#[]⟩
  | i + 1 => macF key ((Tn key info i ++ info) ++ strOfNums [((i + 1 : Nat) : Int) % 256])
def bl (key info : ByteArray) : Nat → List ByteArray
  | 0 => []
  | i + 1 => bl key info i ++ [Tn key info (i + 1)]
def outN (key info : ByteArray) (i : Nat) : ByteArray := joinB (bl key info i)
theorem joinB_snoc (l : List ByteArray) (a : ByteArray) : joinB (l ++ [a]) = joinB l ++ a := by
  apply ba_ext
  rw [joinB_data, ByteArray.data_append, Array.toList_append, joinB_data]
  simp
theorem outN_succ (key info : ByteArray) (i : Nat) : outN key info (i + 1) = outN key info i ++ Tn key info (i + 1) := joinB_snoc _ _
theorem Tn_size (key info : ByteArray) (i : Nat) : (Tn key info i).size ≤ 32 := by
  cases i with
  | zero => show 0 ≤ 32; decide
  | succ i => rw [Tn, macF_size]; exact Nat.le_refl _
theorem outN_size (key info : ByteArray) : ∀ i, (outN key info i).size = 32 * i
  | 0 => rfl
  | i + 1 => by
    rw [outN_succ, ByteArray.size_append, outN_size key info i, Tn, macF_size]
    omega
theorem bl_length (key info : ByteArray) : ∀ i, (bl key info i).length = i
  | 0 => rfl
  | i + 1 => by rw [bl, List.length_append, bl_length key info i]; rfl
theorem mac_f (a : ByteArray) (l : List ByteArray) (h1 : a.size ≤ 1000000) (h2 : (joinB l).size ≤ 1000000) (h3 : l.length ≤ 1000) : kdf_Mac.f a l = some (macF a (joinB l)) := if_pos ⟨by omega, by omega, by omega⟩
theorem join_three (a b c : ByteArray) : joinB [a, b, c] = (a ++ b) ++ c := by
  rw [joinB_cons, joinB_cons, joinB_cons, joinB_nil, app_nil, ByteArray.append_assoc]
def exF (key info : ByteArray) (n : Nat) : ByteArray := (outN key info ((n + 31) / 32)).extract 0 n
theorem one_byte (x : Int) : (strOfNums [x]).size = 1 := rfl
theorem ex_run (key info : ByteArray) (n : Nat) (hk : key.size ≤ 100000) (hi : info.size ≤ 100000) (hn : n ≤ 8160) : ∀ (m i k : Nat), i + m = (n + 31) / 32 →
    kdf_Expand.l0 (k + m + 1) key info (n : Int) (bl key info i) (Tn key info i) ((i + 1 : Nat) : Int) = some (exF key info n, 0) := by
  intro m
  induction m with
  | zero =>
    intro i k h
    have hw : wrap64 (((bl key info i).length : Int) * 32) = ((32 * i : Nat) : Int) := by rw [bl_length]; unfold wrap64; omega
    have hj : strings_Join.f (bl key info i) ⟨#[]⟩ = some (outN key info i) := by
      have hz := outN_size key info i
      exact if_pos ⟨by show (outN key info i).size ≤ _; omega, by rw [bl_length]; omega⟩
    rw [show k + 0 + 1 = k + 1 by omega, kdf_Expand.l0, hw, if_neg (by omega), hj, Option.bind_some, if_pos (by omega), if_pos (by rw [outN_size]; omega), Int.toNat_natCast]
    unfold exF
    rw [← h]
    rfl
  | succ m ih =>
    intro i k h
    have hw : wrap64 (((bl key info i).length : Int) * 32) = ((32 * i : Nat) : Int) := by rw [bl_length]; unfold wrap64; omega
    have hT := Tn_size key info i
    have hm := mac_f key [Tn key info i, info, strOfNums [((i + 1 : Nat) : Int) % 256]] (by omega) (by rw [join_three, ByteArray.size_append, ByteArray.size_append, one_byte]; omega) (by simp)
    rw [join_three] at hm
    have hm2 : kdf_Mac.f key [Tn key info i, info, strOfNums [((i + 1 : Nat) : Int) % 256]] = some (Tn key info (i + 1)) := hm
    rw [show k + (m + 1) + 1 = (k + m + 1) + 1 by omega, kdf_Expand.l0, hw, if_pos (by omega), hm2, Option.bind_some, if_pos (by rw [bl_length]; omega), wrap_next (i + 1) (by omega)]
    exact ih (i + 1) k (by omega)
theorem rex_run (key info : ByteArray) (n : Nat) (hk : key.size ≤ 100000) (hi : info.size ≤ 100000) (hn : n ≤ 8160) : ∀ (m i k : Nat), i + m = (n + 31) / 32 →
    dominoref08_Expand.l0 (k + 66 + m + 1) key info (n : Int) (outN key info i) (Tn key info i) ((i + 1 : Nat) : Int) = some (exF key info n, 0) := by
  intro m
  induction m with
  | zero =>
    intro i k h
    have hz := outN_size key info i
    rw [show k + 66 + 0 + 1 = (k + 66) + 1 by omega, dominoref08_Expand.l0, hz, if_neg (by omega), if_pos (by omega), if_pos (by omega), Int.toNat_natCast]
    unfold exF
    rw [← h]
    rfl
  | succ m ih =>
    intro i k h
    have hz := outN_size key info i
    have hT := Tn_size key info i
    have hT1 := Tn_size key info (i + 1)
    have hb : dominoref08_byteOf.f ((i + 1 : Nat) : Int) = some (strOfNums [((i + 1 : Nat) : Int) % 256]) := rfl
    have hm := rmac_f key ((Tn key info i ++ info) ++ strOfNums [((i + 1 : Nat) : Int) % 256]) (k + m + 1) (by omega) (by rw [ByteArray.size_append, ByteArray.size_append, one_byte]; omega)
    have hm2 : dominoref08_Mac.f (k + m + 1 + 66) key ((Tn key info i ++ info) ++ strOfNums [((i + 1 : Nat) : Int) % 256]) = some (Tn key info (i + 1)) := hm
    rw [show k + 66 + (m + 1) + 1 = (k + m + 1 + 66) + 1 by omega, dominoref08_Expand.l0, hz, if_pos (by omega), if_pos (by omega), hb, Option.bind_some, if_pos (by rw [ByteArray.size_append, one_byte]; omega), hm2, Option.bind_some, if_pos (by omega), ← outN_succ, wrap_next (i + 1) (by omega), show k + m + 1 + 66 = k + 66 + m + 1 by omega]
    exact ih (i + 1) k (by omega)
def exO (key info : ByteArray) (n : Int) : ByteArray × Int := if n < 0 ∨ n > 8160 then (⟨#[]⟩, 1) else (exF key info n.toNat, 0)
theorem ex_f (key info : ByteArray) (n : Int) (k : Nat) (hk : key.size ≤ 100000) (hi : info.size ≤ 100000) : kdf_Expand.f (k + 400) key info n = some (exO key info n) := by
  have hT : kdf_Expand.j0 (k + 400) key info n true = some ((⟨#[]⟩ : ByteArray), 1) := by
    rw [show k + 400 = (k + 399) + 1 by omega, kdf_Expand.j0, if_pos rfl]
  unfold kdf_Expand.f exO
  by_cases c : n < 0
  · rw [if_pos c, hT, if_pos (Or.inl c)]
  · rw [if_neg c]
    by_cases c2 : n > 8160
    · rw [decide_eq_true c2, hT, if_pos (Or.inr c2)]
    · obtain ⟨m, rfl⟩ : ∃ m : Nat, n = (m : Int) := ⟨n.toNat, by omega⟩
      rw [decide_eq_false c2, if_neg (by omega), show k + 400 = (k + 399) + 1 by omega, kdf_Expand.j0, if_neg (by decide), Int.toNat_natCast]
      have h := ex_run key info m hk hi (by omega) ((m + 31) / 32) 0 (k + 398 - (m + 31) / 32) (by omega)
      rw [show k + 398 - (m + 31) / 32 + (m + 31) / 32 + 1 = k + 399 by omega] at h
      exact h
theorem rex_f (key info : ByteArray) (n : Int) (k : Nat) (hk : key.size ≤ 100000) (hi : info.size ≤ 100000) : dominoref08_Expand.f (k + 400) key info n = some (exO key info n) := by
  have hT : dominoref08_Expand.j0 (k + 400) key info n true = some ((⟨#[]⟩ : ByteArray), 1) := by
    rw [show k + 400 = (k + 399) + 1 by omega, dominoref08_Expand.j0, if_pos rfl]
  unfold dominoref08_Expand.f exO
  by_cases c : n < 0
  · rw [if_pos c, hT, if_pos (Or.inl c)]
  · rw [if_neg c]
    by_cases c2 : n > 8160
    · rw [decide_eq_true c2, hT, if_pos (Or.inr c2)]
    · obtain ⟨m, rfl⟩ : ∃ m : Nat, n = (m : Int) := ⟨n.toNat, by omega⟩
      rw [decide_eq_false c2, if_neg (by omega), show k + 400 = (k + 399) + 1 by omega, dominoref08_Expand.j0, if_neg (by decide), Int.toNat_natCast]
      have h := rex_run key info m hk hi (by omega) ((m + 31) / 32) 0 (k + 332 - (m + 31) / 32) (by omega)
      rw [show k + 332 - (m + 31) / 32 + 66 + (m + 31) / 32 + 1 = k + 399 by omega] at h
      exact h
/-! ### labels -/
theorem nums_cat' (a b : List Int) : strOfNums (a ++ b) = strOfNums a ++ strOfNums b := nums_cat a b
theorem join_two (a b : ByteArray) : joinB [a, b] = a ++ b := by rw [joinB_cons, joinB_cons, joinB_nil, app_nil]
theorem join_one (a : ByteArray) : joinB [a] = a := by rw [joinB_cons, joinB_nil, app_nil]
theorem joins_f (l : List ByteArray) (h1 : (joinB l).size ≤ 1000000) (h2 : l.length ≤ 1000) : strings_Join.f l ⟨#[]⟩ = some (joinB l) := if_pos ⟨by show (joinB l).size ≤ _; omega, by omega⟩
theorem counted_f (l : List ByteArray) (h1 : (joinB l).size ≤ 1000000) (h2 : l.length ≤ 1000) : kdf_counted.f l = some (strOfNums [((joinB l).size : Int) % 256] ++ joinB l) := by
  unfold kdf_counted.f
  rw [joins_f l h1 h2, Option.bind_some, Option.bind_some, if_pos (by rw [one_byte]; omega)]
def tls : ByteArray := ⟨#[116, 108, 115, 49, 51, 32]⟩
def labIn (label ctx : ByteArray) (n : Int) : ByteArray :=
  (strOfNums [n / 256 % 256, n % 256] ++ (strOfNums [((tls ++ label).size : Int) % 256] ++ (tls ++ label))) ++ (strOfNums [(ctx.size : Int) % 256] ++ ctx)
def labO (key label ctx : ByteArray) (n : Int) : ByteArray × Int := if n < 0 ∨ n > 8160 ∨ label.size > 249 ∨ ctx.size > 255 then (⟨#[]⟩, 1) else exO key (labIn label ctx n) n
theorem tls_size (l : ByteArray) : (tls ++ l).size = 6 + l.size := by rw [ByteArray.size_append]; rfl
theorem two_bytes (x y : Int) : (strOfNums [x, y]).size = 2 := rfl
theorem labIn_size (label ctx : ByteArray) (n : Int) : (labIn label ctx n).size = 10 + label.size + ctx.size := by
  unfold labIn
  have h1 := tls_size label
  simp only [ByteArray.size_append, one_byte, two_bytes] at *
  omega
theorem lab_f (key label ctx : ByteArray) (n : Int) (k : Nat) (hk : key.size ≤ 100000) (hl : label.size ≤ 10000) (hc : ctx.size ≤ 10000) : kdf_Label.f (k + 401) key label ctx n = some (labO key label ctx n) := by
  have hT : kdf_Label.j0 (k + 401) key label ctx n true = some ((⟨#[]⟩ : ByteArray), 1) := by
    rw [show k + 401 = (k + 400) + 1 by omega, kdf_Label.j0, if_pos rfl]
  unfold kdf_Label.f labO
  by_cases c : n < 0
  · rw [if_pos c, hT, if_pos (Or.inl c)]
  rw [if_neg c]
  by_cases c2 : n > 8160
  · rw [if_pos c2, hT, if_pos (Or.inr (Or.inl c2))]
  rw [if_neg c2]
  have hw : wrap64 (6 + (label.size : Int)) = 6 + (label.size : Int) := by unfold wrap64; omega
  rw [hw]
  by_cases c3 : label.size > 249
  · rw [if_pos (by omega), hT, if_pos (Or.inr (Or.inr (Or.inl c3)))]
  rw [if_neg (by omega)]
  by_cases c4 : ctx.size > 255
  · rw [decide_eq_true (show (ctx.size : Int) > 255 by omega), hT, if_pos (Or.inr (Or.inr (Or.inr c4)))]
  rw [decide_eq_false (show ¬ (ctx.size : Int) > 255 by omega), if_neg (by omega), show k + 401 = (k + 400) + 1 by omega, kdf_Label.j0, if_neg (by decide), Option.bind_some]
  have e1 := counted_f [tls, label] (by rw [join_two, tls_size]; omega) (by simp)
  have e2 := counted_f [ctx] (by rw [join_one]; omega) (by simp)
  rw [join_two] at e1
  rw [join_one] at e2
  have e1' : kdf_counted.f [(⟨#[116, 108, 115, 49, 51, 32]⟩ : ByteArray), label] = some (strOfNums [((tls ++ label).size : Int) % 256] ++ (tls ++ label)) := e1
  rw [e1', Option.bind_some, if_pos (by have h1 := tls_size label; simp only [ByteArray.size_append, one_byte, two_bytes] at *; omega), e2, Option.bind_some,
    if_pos (by have h1 := tls_size label; simp only [ByteArray.size_append, one_byte, two_bytes] at *; omega)]
  have h := ex_f key (labIn label ctx n) n k hk (by rw [labIn_size]; omega)
  unfold labIn at h
  rw [h]
  rfl
theorem ar0 (n : Int) (h0 : 0 ≤ n) (h1 : n ≤ 8160) : wrap64 (Int.tdiv n 256) % 256 = n / 256 % 256 := by
  rw [Int.tdiv_eq_ediv_of_nonneg h0]
  unfold wrap64
  omega
theorem ar1 (n : Int) (h0 : 0 ≤ n) : Int.tmod n 256 % 256 = n % 256 := by
  rw [Int.tmod_eq_emod_of_nonneg h0]
  omega
theorem ar2 (m : Nat) (h : m ≤ 10000) : wrap64 ((m : Int) + 6) % 256 = ((6 + m : Nat) : Int) % 256 := by
  unfold wrap64
  omega
theorem rl_j0 (k : Nat) (key label ctx x y z u : ByteArray) (n : Int) (hl : label.size ≤ 10000) (hc : ctx.size ≤ 10000) (hx : x.size = 1) (hy : y.size = 1) (hz : z.size = 1) (hu : u.size = 1)
    (ex : dominoref08_byteOf.f (wrap64 (Int.tdiv n 256)) = some x) (ey : dominoref08_byteOf.f (Int.tmod n 256) = some y) (ez : dominoref08_byteOf.f (wrap64 ((label.size : Int) + 6)) = some z) (eu : dominoref08_byteOf.f (ctx.size : Int) = some u) :
    dominoref08_Label.j0 (k + 1) key label ctx n false = (dominoref08_Expand.f k key ((((((x ++ y) ++ z) ++ (⟨#[116, 108, 115, 49, 51, 32]⟩ : ByteArray)) ++ label) ++ u) ++ ctx) n).bind fun bt => some (bt.1, bt.2) := by
  have h6 : (⟨#[116, 108, 115, 49, 51, 32]⟩ : ByteArray).size = 6 := rfl
  have a1 : x.size + y.size ≤ 9223372036854775807 := by omega
  have a2 : (x ++ y).size + z.size ≤ 9223372036854775807 := by rw [ByteArray.size_append]; omega
  have a3 : ((x ++ y) ++ z).size + 6 ≤ 9223372036854775807 := by rw [ByteArray.size_append, ByteArray.size_append]; omega
  have a4 : (((x ++ y) ++ z) ++ (⟨#[116, 108, 115, 49, 51, 32]⟩ : ByteArray)).size + label.size ≤ 9223372036854775807 := by rw [ByteArray.size_append, ByteArray.size_append, ByteArray.size_append, h6]; omega
  have a5 : ((((x ++ y) ++ z) ++ (⟨#[116, 108, 115, 49, 51, 32]⟩ : ByteArray)) ++ label).size + u.size ≤ 9223372036854775807 := by rw [ByteArray.size_append, ByteArray.size_append, ByteArray.size_append, ByteArray.size_append, h6]; omega
  have a6 : (((((x ++ y) ++ z) ++ (⟨#[116, 108, 115, 49, 51, 32]⟩ : ByteArray)) ++ label) ++ u).size + ctx.size ≤ 9223372036854775807 := by rw [ByteArray.size_append, ByteArray.size_append, ByteArray.size_append, ByteArray.size_append, ByteArray.size_append, h6]; omega
  rw [dominoref08_Label.j0, if_neg (by decide), ex, Option.bind_some, ey, Option.bind_some, if_pos a1, ez, Option.bind_some, if_pos a2, if_pos a3, if_pos a4, eu, Option.bind_some, if_pos a5, if_pos a6]
theorem rlab_f (key label ctx : ByteArray) (n : Int) (k : Nat) (hk : key.size ≤ 100000) (hl : label.size ≤ 10000) (hc : ctx.size ≤ 10000) : dominoref08_Label.f (k + 401) key label ctx n = some (labO key label ctx n) := by
  have hT : dominoref08_Label.j0 (k + 401) key label ctx n true = some ((⟨#[]⟩ : ByteArray), 1) := by
    rw [show k + 401 = (k + 400) + 1 by omega, dominoref08_Label.j0, if_pos rfl]
  unfold dominoref08_Label.f labO
  by_cases c : n < 0
  · rw [if_pos c, hT, if_pos (Or.inl c)]
  rw [if_neg c]
  by_cases c2 : n > 8160
  · rw [if_pos c2, hT, if_pos (Or.inr (Or.inl c2))]
  rw [if_neg c2]
  by_cases c3 : label.size > 249
  · rw [if_pos (by omega), hT, if_pos (Or.inr (Or.inr (Or.inl c3)))]
  rw [if_neg (by omega)]
  by_cases c4 : ctx.size > 255
  · rw [decide_eq_true (show (ctx.size : Int) > 255 by omega), hT, if_pos (Or.inr (Or.inr (Or.inr c4)))]
  rw [decide_eq_false (show ¬ (ctx.size : Int) > 255 by omega), if_neg (by omega), show k + 401 = (k + 400) + 1 by omega]
  rw [rl_j0 (k + 400) key label ctx (strOfNums [n / 256 % 256]) (strOfNums [n % 256]) (strOfNums [((tls ++ label).size : Int) % 256]) (strOfNums [(ctx.size : Int) % 256]) n hl hc rfl rfl rfl rfl
    (by unfold dominoref08_byteOf.f; rw [ar0 n (by omega) (by omega)]) (by unfold dominoref08_byteOf.f; rw [ar1 n (by omega)]) (by unfold dominoref08_byteOf.f; rw [ar2 _ hl, tls_size]) rfl]
  have hin : (((((strOfNums [n / 256 % 256] ++ strOfNums [n % 256]) ++ strOfNums [((tls ++ label).size : Int) % 256]) ++ (⟨#[116, 108, 115, 49, 51, 32]⟩ : ByteArray)) ++ label) ++ strOfNums [(ctx.size : Int) % 256]) ++ ctx = labIn label ctx n := by
    unfold labIn
    rw [show strOfNums [n / 256 % 256, n % 256] = strOfNums [n / 256 % 256] ++ strOfNums [n % 256] from nums_cat [n / 256 % 256] [n % 256]]
    simp only [ByteArray.append_assoc]
    rfl
  rw [hin, rex_f key (labIn label ctx n) n k hk (by rw [labIn_size]; omega)]
  rfl
/-! ### keys -/
theorem exF_size (key info : ByteArray) (n : Nat) : (exF key info n).size = n := by
  unfold exF
  rw [ByteArray.size_extract, outN_size]
  omega
theorem labO_size (s label ctx : ByteArray) (n : Nat) (hn : n ≤ 8160) (hl : label.size ≤ 249) (hc : ctx.size ≤ 255) : (labO s label ctx (n : Int)).1.size = n := by
  unfold labO
  rw [if_neg (by omega)]
  unfold exO
  rw [if_neg (by omega), Int.toNat_natCast]
  exact exF_size _ _ _
theorem derive_f (s label : ByteArray) (n : Int) (l : List ByteArray) (k : Nat) (hs : s.size ≤ 100000) (hl : label.size ≤ 10000) (h1 : (joinB l).size ≤ 10000) (h2 : l.length ≤ 1000) : kdf_secret_derive.f (k + 401) s n label l = some (labO s label (joinB l) n).1 := by
  unfold kdf_secret_derive.f
  rw [joins_f l (by omega) h2, Option.bind_some, lab_f s label (joinB l) n k hs hl h1]
  rfl
def bKu : ByteArray := ⟨#[113, 117, 105, 99, 32, 107, 117]⟩
def nextS (s : ByteArray) : ByteArray := (labO s bKu ⟨#[]⟩ 32).1
theorem nextS_size (s : ByteArray) : (nextS s).size = 32 := labO_size s bKu ⟨#[]⟩ 32 (by decide) (by decide) (by decide)
theorem next_f (s : ByteArray) (k : Nat) (hs : s.size ≤ 100000) : kdf_Next.f (k + 401) s = some (nextS s) := by
  unfold kdf_Next.f
  have h := derive_f s bKu 32 [] k hs (by decide) (by decide) (by decide)
  have h' : kdf_secret_derive.f (k + 401) s 32 (⟨#[113, 117, 105, 99, 32, 107, 117]⟩ : ByteArray) [] = some (nextS s) := h
  rw [h', Option.bind_some]
def exS (salt input : ByteArray) : ByteArray := if salt.toList = ([] : List UInt8) then macF (repB ⟨#[0]⟩ 32) input else macF salt input
theorem exS_size (a b : ByteArray) : (exS a b).size = 32 := by unfold exS; split <;> exact macF_size _ _
theorem mac_one (a t : ByteArray) (h1 : a.size ≤ 1000000) (h2 : t.size ≤ 1000000) : kdf_Mac.f a [t] = some (macF a t) := by
  have h := mac_f a [t] h1 (by rw [join_one]; exact h2) (by simp)
  rw [join_one] at h
  exact h
theorem rep32 : (repB ⟨#[0]⟩ 32).size = 32 := by rw [repB_size]; rfl
theorem rep32_nums : strOfNums (List.replicate 32 0) = repB ⟨#[0]⟩ 32 := by
  apply ba_ext
  rw [repB_one]
  decide
theorem extract_f (a t : ByteArray) (h1 : a.size ≤ 1000000) (h2 : t.size ≤ 1000000) : kdf_Extract.f a t = some (exS a t) := by
  unfold kdf_Extract.f exS
  by_cases c : a.toList = ([] : List UInt8)
  · have hr : strings_Repeat.f (⟨#[0]⟩ : ByteArray) 32 = some (repB ⟨#[0]⟩ 32) := if_pos ⟨by decide, by decide, by decide⟩
    rw [if_pos c, if_pos c, hr, Option.bind_some, mac_one _ _ (by rw [rep32]; decide) h2, Option.bind_some]
  · rw [if_neg c, if_neg c, mac_one _ _ h1 h2, Option.bind_some]
theorem rextract_f (a t : ByteArray) (k : Nat) (h1 : a.size ≤ 1000000) (h2 : t.size ≤ 1000000) : dominoref08_Extract.f (k + 66) a t = some (exS a t) := by
  unfold dominoref08_Extract.f exS
  by_cases c : a.toList = ([] : List UInt8)
  · rw [if_pos c, if_pos c, if_pos (by decide), rep32_nums, rmac_f _ _ _ (by rw [rep32]; decide) h2, Option.bind_some]
  · rw [if_neg c, if_neg c, rmac_f _ _ _ h1 h2, Option.bind_some]
def bKey : ByteArray := ⟨#[113, 117, 105, 99, 32, 107, 101, 121]⟩
def bIv : ByteArray := ⟨#[113, 117, 105, 99, 32, 105, 118]⟩
def bHp : ByteArray := ⟨#[113, 117, 105, 99, 32, 104, 112]⟩
def keysS (s : ByteArray) : ByteArray × ByteArray × ByteArray := ((labO s bKey ⟨#[]⟩ 32).1, (labO s bIv ⟨#[]⟩ 12).1, (labO s bHp ⟨#[]⟩ 32).1)
theorem of_f (s : ByteArray) (k : Nat) (hs : s.size ≤ 100000) : kdf_Of.f (k + 401) s = some (keysS s) := by
  unfold kdf_Of.f
  have h1 : kdf_secret_derive.f (k + 401) s 32 (⟨#[113, 117, 105, 99, 32, 107, 101, 121]⟩ : ByteArray) [] = some (keysS s).1 := derive_f s bKey 32 [] k hs (by decide) (by decide) (by decide)
  have h2 : kdf_secret_derive.f (k + 401) s 12 (⟨#[113, 117, 105, 99, 32, 105, 118]⟩ : ByteArray) [] = some (keysS s).2.1 := derive_f s bIv 12 [] k hs (by decide) (by decide) (by decide)
  have h3 : kdf_secret_derive.f (k + 401) s 32 (⟨#[113, 117, 105, 99, 32, 104, 112]⟩ : ByteArray) [] = some (keysS s).2.2 := derive_f s bHp 32 [] k hs (by decide) (by decide) (by decide)
  rw [h1, Option.bind_some, h2, Option.bind_some, h3, Option.bind_some]
def resetS (key cid : ByteArray) : ByteArray := (macF key cid).extract 0 16
theorem reset_f (a t : ByteArray) (h1 : a.size ≤ 1000000) (h2 : t.size ≤ 1000000) : kdf_Reset.f a t = some (resetS a t) := by
  unfold kdf_Reset.f
  rw [mac_one a t h1 h2, Option.bind_some, if_pos (by decide), if_pos (by rw [macF_size]; decide)]
  rfl
theorem resetS_size (a t : ByteArray) : (resetS a t).size = 16 := by
  unfold resetS
  rw [ByteArray.size_extract, macF_size]
  rfl
/-! ### the laws' anchor -/
theorem jefe : (hexF (macF (⟨#[74, 101, 102, 101]⟩ : ByteArray) (joinB [(⟨#[119, 104, 97, 116, 32, 100, 111, 32, 121, 97, 32, 119, 97, 110, 116, 32]⟩ : ByteArray), (⟨#[102, 111, 114, 32, 110, 111, 116, 104, 105, 110, 103, 63]⟩ : ByteArray)]))).data.toList = [53, 98, 100, 99, 99, 49, 52, 54, 98, 102, 54, 48, 55, 53, 52, 101, 54, 97, 48, 52, 50, 52, 50, 54, 48, 56, 57, 53, 55, 53, 99, 55, 53, 97, 48, 48, 51, 102, 48, 56, 57, 100, 50, 55, 51, 57, 56, 51, 57, 100, 101, 99, 53, 56, 98, 57, 54, 52, 101, 99, 51, 56, 52, 51] := by decide +kernel
theorem shown_ (k : Nat) : dominolaw08_shown.f (k + 401) = some true := by
  unfold dominolaw08_shown.f
  rw [mac_f _ _ (by decide) (by decide +kernel) (by decide), Option.bind_some, hex_f _ (by rw [macF_size]; decide), Option.bind_some, if_pos (by rw [Go.Lib.toList_data]; exact jefe), next_f _ k (by decide), Option.bind_some, nextS_size]
  rfl
theorem exO_two (key info : ByteArray) (n : Int) : ((exO key info n).2 = if 0 ≤ n ∧ n ≤ 8160 then 0 else 1) ∧ ((exO key info n).1.size : Int) = if 0 ≤ n ∧ n ≤ 8160 then n else 0 := by
  unfold exO
  by_cases c : n < 0 ∨ n > 8160
  · rw [if_pos c, if_neg (by omega), if_neg (by omega)]
    exact ⟨rfl, rfl⟩
  · rw [if_neg c, if_pos (by omega), if_pos (by omega)]
    refine ⟨rfl, ?_⟩
    show ((exF key info n.toNat).size : Int) = n
    rw [exF_size]
    omega
theorem labO_two (key l c : ByteArray) (n : Int) (hc : c.size ≤ 255) : ((labO key l c n).2 = if 0 ≤ n ∧ n ≤ 8160 ∧ l.size ≤ 249 then 0 else 1) ∧ ((labO key l c n).1.size : Int) = if 0 ≤ n ∧ n ≤ 8160 ∧ l.size ≤ 249 then n else 0 := by
  unfold labO
  by_cases d : n < 0 ∨ n > 8160 ∨ l.size > 249 ∨ c.size > 255
  · rw [if_pos d, if_neg (by omega), if_neg (by omega)]
    exact ⟨rfl, rfl⟩
  · rw [if_neg d, if_pos (by omega), if_pos (by omega)]
    have h := exO_two key (labIn l c n) n
    rw [if_pos (by omega), if_pos (by omega)] at h
    exact h
theorem no_bytes (s : ByteArray) (h : (s.size : Int) = 0) : s.toList = ([] : List UInt8) := by
  rw [Go.Lib.toList_data]
  exact List.eq_nil_of_length_eq_zero (by have : s.data.toList.length = s.size := rfl; omega)
theorem KdfLengths : dominolaw08_KdfLengths.Pure := by
  intro a l n _ _ _
  refine ⟨500, ?_⟩
  have hS : dominolaw08_shown.f 499 = some true := shown_ 98
  have hS2 : dominolaw08_shown.f 500 = some true := shown_ 99
  have hT : dominolaw08_KdfLengths.j0 500 a l n true = some true := by
    rw [dominolaw08_KdfLengths.j0, if_pos rfl, hS]
    rfl
  unfold dominolaw08_KdfLengths.f
  by_cases c1 : (a.size : Int) > 100
  · rw [if_pos c1, hT]
  rw [if_neg c1]
  by_cases c2 : (l.size : Int) > 300
  · rw [if_pos c2, hT]
  rw [if_neg c2]
  have e1 : kdf_Expand.f 499 a l n = some (exO a l n) := ex_f a l n 99 (by omega) (by omega)
  have e2 : kdf_Label.f 499 a l ⟨#[]⟩ n = some (labO a l ⟨#[]⟩ n) := lab_f a l ⟨#[]⟩ n 98 (by omega) (by omega) (by decide)
  have e3 : kdf_Of.f 499 a = some (keysS a) := of_f a 98 (by omega)
  have e4 : kdf_Reset.f a l = some (resetS a l) := reset_f a l (by omega) (by omega)
  have z1 : (keysS a).1.size = 32 := labO_size a bKey ⟨#[]⟩ 32 (by decide) (by decide) (by decide)
  have z2 : (keysS a).2.1.size = 12 := labO_size a bIv ⟨#[]⟩ 12 (by decide) (by decide) (by decide)
  have z3 : (keysS a).2.2.size = 32 := labO_size a bHp ⟨#[]⟩ 32 (by decide) (by decide) (by decide)
  obtain ⟨p1, p2⟩ := exO_two a l n
  obtain ⟨q1, q2⟩ := labO_two a l ⟨#[]⟩ n (by decide)
  have hF : dominolaw08_KdfLengths.j0 500 a l n (!true) = some true := by
    show dominolaw08_KdfLengths.j0 500 a l n false = some true
    rw [dominolaw08_KdfLengths.j0, if_neg (by decide), e1, Option.bind_some, e2, Option.bind_some, e3, Option.bind_some]
    generalize exO a l n = X at *
    generalize labO a l ⟨#[]⟩ n = Y at *
    generalize keysS a = K at *
    by_cases d1 : 0 ≤ n
    · by_cases d2 : n ≤ 8160
      · rw [if_pos (by omega)] at p1 p2
        by_cases d3 : l.size ≤ 249
        · rw [if_pos (by omega)] at q1 q2
          simp only [if_pos d1, p1, p2, q1, q2, z1, z2, z3, e4, d2, resetS_size, Option.bind_some, if_true, decide_true, show (l.size : Int) ≤ 249 by omega]
          rfl
        · rw [if_neg (by omega)] at q1 q2
          have hy := no_bytes _ q2
          simp only [if_pos d1, p1, p2, q1, hy, z1, z2, z3, e4, d2, resetS_size, Option.bind_some, if_true, decide_true, show ¬ (l.size : Int) ≤ 249 by omega]
          rfl
      · rw [if_neg (by omega)] at p1 p2
        rw [if_neg (by omega)] at q1 q2
        have hx := no_bytes _ p2
        have hy := no_bytes _ q2
        simp only [if_pos d1, p1, q1, hx, hy, z1, z2, z3, e4, d2, resetS_size, Option.bind_some]
        rfl
    · rw [if_neg (by omega)] at p1 p2
      rw [if_neg (by omega)] at q1 q2
      have hx := no_bytes _ p2
      have hy := no_bytes _ q2
      simp only [show ¬ n ≥ 0 from d1, p1, q1, hx, hy, z1, z2, z3, e4, resetS_size, Option.bind_some]
      rfl
  by_cases c5 : n > 500
  · rw [if_pos c5]
    by_cases c6 : n ≤ 8160
    · rw [if_pos c6, hT]
    · rw [if_neg c6, hS2, Option.bind_some, hF]
  · rw [if_neg c5, hS2, Option.bind_some, hF]

end Go.Proofs.Ytghdmlcmoeoohaa.Pure
