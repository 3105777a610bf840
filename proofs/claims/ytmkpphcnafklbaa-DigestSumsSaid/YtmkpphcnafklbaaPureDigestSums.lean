/- The sum of strings is the document's sum of what they are, one behind another. -/
import Derived.Test.YtmkpphcnafklbaaPDgxx6
namespace Go.Proofs.Ytmkpphcnafklbaa.Pure
open Go.RowKit Go.Proofs.Ytmkpphcnafklbaa.PDgx Go.Proofs.YtmkpphcnafklbaaW.PrintWords Go.Proofs.YtmkpphcnafklbaaW.PrintLast
/-! ### words of 32 bits -/
def Wd (x : Int) : Prop := 0 ≤ x ∧ x < 4294967296
theorem Wd.nat {x : Int} (h : Wd x) : ∃ n : Nat, n < 4294967296 ∧ x = (n : Int) := by
  obtain ⟨h0, h1⟩ := h
  exact ⟨x.toNat, by omega, by omega⟩
theorem wd_nat (n : Nat) (h : n < 4294967296) : Wd (n : Int) := ⟨by omega, by omega⟩
theorem hk32 (n : Int) (h0 : 0 ≤ n) (h1 : n < 2 ^ 32) : IntKind.u32.wrap n = n := by rw [IntKind.wrap_u32]; omega
theorem hk64 (n : Int) (h0 : 0 ≤ n) (h1 : n < 2 ^ 64) : IntKind.u64.wrap n = n := by rw [IntKind.wrap_u64]; omega
theorem ofi (k a : Nat) (h : a < 2 ^ k) : (BitVec.ofInt k (a : Int)).toNat = a := by
  rw [BitVec.ofInt_natCast, BitVec.toNat_ofNat]; exact Nat.mod_eq_of_lt h
theorem xo (a b : Nat) (ha : a < 4294967296) (hb : b < 4294967296) : Go.bits .xor .u32 (a : Int) (b : Int) = ((a ^^^ b : Nat) : Int) ∧ Go.bits .xor .u64 (a : Int) (b : Int) = ((a ^^^ b : Nat) : Int) ∧ a ^^^ b < 4294967296 := by
  have hx : a ^^^ b < 2 ^ 32 := Nat.xor_lt_two_pow (by omega) (by omega)
  refine ⟨?_, ?_, hx⟩
  · show IntKind.u32.wrap ((BitVec.ofInt 32 (a : Int) ^^^ BitVec.ofInt 32 (b : Int)).toNat : Int) = _
    rw [BitVec.toNat_xor, ofi 32 a (by omega), ofi 32 b (by omega)]
    exact hk32 _ (by omega) (by omega)
  · show IntKind.u64.wrap ((BitVec.ofInt 64 (a : Int) ^^^ BitVec.ofInt 64 (b : Int)).toNat : Int) = _
    rw [BitVec.toNat_xor, ofi 64 a (by omega), ofi 64 b (by omega)]
    exact hk64 _ (by omega) (by omega)
theorem an (a b : Nat) (ha : a < 4294967296) (hb : b < 4294967296) : Go.bits .and .u32 (a : Int) (b : Int) = ((a &&& b : Nat) : Int) ∧ Go.bits .and .u64 (a : Int) (b : Int) = ((a &&& b : Nat) : Int) ∧ a &&& b < 4294967296 := by
  have hx : a &&& b < 2 ^ 32 := Nat.and_lt_two_pow _ (by omega)
  refine ⟨?_, ?_, hx⟩
  · show IntKind.u32.wrap ((BitVec.ofInt 32 (a : Int) &&& BitVec.ofInt 32 (b : Int)).toNat : Int) = _
    rw [BitVec.toNat_and, ofi 32 a (by omega), ofi 32 b (by omega)]
    exact hk32 _ (by omega) (by omega)
  · show IntKind.u64.wrap ((BitVec.ofInt 64 (a : Int) &&& BitVec.ofInt 64 (b : Int)).toNat : Int) = _
    rw [BitVec.toNat_and, ofi 64 a (by omega), ofi 64 b (by omega)]
    exact hk64 _ (by omega) (by omega)
theorem oo (a b : Nat) (ha : a < 4294967296) (hb : b < 4294967296) : Go.bits .or .u32 (a : Int) (b : Int) = ((a ||| b : Nat) : Int) ∧ a ||| b < 4294967296 := by
  have hx : a ||| b < 2 ^ 32 := Nat.or_lt_two_pow (by omega) (by omega)
  refine ⟨?_, hx⟩
  show IntKind.u32.wrap ((BitVec.ofInt 32 (a : Int) ||| BitVec.ofInt 32 (b : Int)).toNat : Int) = _
  rw [BitVec.toNat_or, ofi 32 a (by omega), ofi 32 b (by omega)]
  exact hk32 _ (by omega) (by omega)
theorem xor_wd {x y : Int} (hx : Wd x) (hy : Wd y) : Go.bits .xor .u64 x y = Go.bits .xor .u32 x y ∧ Wd (Go.bits .xor .u32 x y) := by
  obtain ⟨a, ha, rfl⟩ := hx.nat
  obtain ⟨b, hb, rfl⟩ := hy.nat
  obtain ⟨h1, h2, h3⟩ := xo a b ha hb
  rw [h1, h2]
  exact ⟨rfl, wd_nat _ h3⟩
theorem and_wd {x y : Int} (hx : Wd x) (hy : Wd y) : Go.bits .and .u64 x y = Go.bits .and .u32 x y ∧ Wd (Go.bits .and .u32 x y) := by
  obtain ⟨a, ha, rfl⟩ := hx.nat
  obtain ⟨b, hb, rfl⟩ := hy.nat
  obtain ⟨h1, h2, h3⟩ := an a b ha hb
  rw [h1, h2]
  exact ⟨rfl, wd_nat _ h3⟩
theorem xor0 {x : Int} (hx : Wd x) : Go.bits .xor .u32 0 x = x := by
  obtain ⟨a, ha, rfl⟩ := hx.nat
  have h := (xo 0 a (by omega) ha).1
  rw [Nat.zero_xor] at h
  exact h
theorem ch_eq {e f g : Int} (he : Wd e) (hf : Wd f) (hg : Wd g) :
    Go.bits .xor .u64 (Go.bits .and .u64 e f) (Go.bits .and .u64 (IntKind.u64.wrap (4294967295 - e)) g) = Go.bits .xor .u32 g (Go.bits .and .u32 e (Go.bits .xor .u32 f g)) ∧ Wd (Go.bits .xor .u32 g (Go.bits .and .u32 e (Go.bits .xor .u32 f g))) := by
  obtain ⟨a, ha, rfl⟩ := he.nat
  obtain ⟨b, hb, rfl⟩ := hf.nat
  obtain ⟨c, hc, rfl⟩ := hg.nat
  have hn : IntKind.u64.wrap (4294967295 - (a : Int)) = ((4294967295 - a : Nat) : Int) := by rw [IntKind.wrap_u64]; omega
  rw [hn]
  obtain ⟨-, h1, h2⟩ := an a b ha hb
  obtain ⟨-, h3, h4⟩ := an (4294967295 - a) c (by omega) hc
  obtain ⟨h5, -, h6⟩ := xo b c hb hc
  rw [h1, h3, h5]
  obtain ⟨h7, -, h8⟩ := an a (b ^^^ c) ha h6
  rw [h7]
  obtain ⟨h9, -, h10⟩ := xo c (a &&& (b ^^^ c)) hc h8
  rw [h9, (xo _ _ h2 h4).2.1]
  refine ⟨?_, wd_nat _ h10⟩
  congr 1
  apply Nat.eq_of_testBit_eq
  intro i
  have hs : 4294967295 - a = 2 ^ 32 - (a + 1) := by omega
  simp only [Nat.testBit_xor, Nat.testBit_and, hs, Nat.testBit_two_pow_sub_succ (show a < 2 ^ 32 by omega)]
  by_cases hi : i < 32
  · simp only [hi, decide_true, Bool.true_and]
    cases a.testBit i <;> cases b.testBit i <;> cases c.testBit i <;> rfl
  · have hz : ∀ n : Nat, n < 4294967296 → n.testBit i = false := fun n hn => Nat.testBit_lt_two_pow (Nat.lt_of_lt_of_le (show n < 2 ^ 32 by omega) (Nat.pow_le_pow_right (by decide) (by omega)))
    simp [hz a ha, hz b hb, hz c hc]
theorem maj_eq {e f g : Int} (he : Wd e) (hf : Wd f) (hg : Wd g) :
    Go.bits .xor .u64 (Go.bits .xor .u64 (Go.bits .and .u64 e f) (Go.bits .and .u64 e g)) (Go.bits .and .u64 f g) = Go.bits .or .u32 (Go.bits .and .u32 e f) (Go.bits .and .u32 g (Go.bits .or .u32 e f)) ∧ Wd (Go.bits .or .u32 (Go.bits .and .u32 e f) (Go.bits .and .u32 g (Go.bits .or .u32 e f))) := by
  obtain ⟨a, ha, rfl⟩ := he.nat
  obtain ⟨b, hb, rfl⟩ := hf.nat
  obtain ⟨c, hc, rfl⟩ := hg.nat
  obtain ⟨h0, h1, h2⟩ := an a b ha hb
  obtain ⟨-, h3, h4⟩ := an a c ha hc
  obtain ⟨-, h5, h6⟩ := an b c hb hc
  obtain ⟨h7, h8⟩ := oo a b ha hb
  rw [h0, h1, h3, h5, h7]
  obtain ⟨h9, -, h10⟩ := an c (a ||| b) hc h8
  rw [h9]
  obtain ⟨h11, h12⟩ := oo _ _ h2 h10
  obtain ⟨-, h13, h14⟩ := xo _ _ h2 h4
  rw [h11, h13, (xo _ _ h14 h6).2.1]
  refine ⟨?_, wd_nat _ h12⟩
  congr 1
  apply Nat.eq_of_testBit_eq
  intro i
  simp only [Nat.testBit_xor, Nat.testBit_and, Nat.testBit_or]
  cases a.testBit i <;> cases b.testBit i <;> cases c.testBit i <;> rfl
/-! ### turns -/
theorem rt_tn (x : Int) (h : Wd x) (m : Nat) (P Q : Int) (hP : (2 : Int) ^ m = P) (hQ : (2 : Int) ^ (32 - m) = Q) (hP0 : 0 < P) (hQ0 : 0 < Q)
    (h1 : x * Q % 4294967296 = x % P * Q) (h3 : x / P < Q) (h4 : x % P * Q + x / P < 4294967296) : rt x m = tn x m ∧ Wd (tn x m) := by
  obtain ⟨h0, hx⟩ := h
  have hp0 : 0 ≤ x % P := Int.emod_nonneg _ (by omega)
  have hd0 : 0 ≤ x / P := Int.ediv_nonneg h0 (by omega)
  have hm0 : 0 ≤ x % P * Q := Int.mul_nonneg hp0 (by omega)
  have e1 : tn x m = x % P * Q + x / P := by
    unfold tn
    rw [hP, hQ, Int.tdiv_eq_ediv_of_nonneg h0, Int.tmod_eq_emod_of_nonneg h0, IntKind.wrap_u64, IntKind.wrap_u64, IntKind.wrap_u64]
    omega
  have e2 : rt x m = x % P * Q + x / P := by
    unfold rt
    rw [hP, hQ, IntKind.wrap_u32, h1]
    exact Go.bits_join .u32 32 (by decide) hk32 (32 - m) _ _ hm0 (by rw [hQ]; exact Int.mul_emod_left _ _) (by omega) hd0 (by rw [hQ]; exact h3) (by omega)
  rw [e1, e2]
  exact ⟨rfl, by omega, by omega⟩
theorem rt7 {x : Int} (h : Wd x) : rt x 7 = tn x 7 ∧ Wd (tn x 7) := by
  have := h.1; have := h.2
  exact rt_tn x h 7 128 33554432 rfl rfl (by decide) (by decide) (by omega) (by omega) (by omega)
theorem rt18 {x : Int} (h : Wd x) : rt x 18 = tn x 18 ∧ Wd (tn x 18) := by
  have := h.1; have := h.2
  exact rt_tn x h 18 262144 16384 rfl rfl (by decide) (by decide) (by omega) (by omega) (by omega)
theorem rt17 {x : Int} (h : Wd x) : rt x 17 = tn x 17 ∧ Wd (tn x 17) := by
  have := h.1; have := h.2
  exact rt_tn x h 17 131072 32768 rfl rfl (by decide) (by decide) (by omega) (by omega) (by omega)
theorem rt19 {x : Int} (h : Wd x) : rt x 19 = tn x 19 ∧ Wd (tn x 19) := by
  have := h.1; have := h.2
  exact rt_tn x h 19 524288 8192 rfl rfl (by decide) (by decide) (by omega) (by omega) (by omega)
theorem rt6 {x : Int} (h : Wd x) : rt x 6 = tn x 6 ∧ Wd (tn x 6) := by
  have := h.1; have := h.2
  exact rt_tn x h 6 64 67108864 rfl rfl (by decide) (by decide) (by omega) (by omega) (by omega)
theorem rt11 {x : Int} (h : Wd x) : rt x 11 = tn x 11 ∧ Wd (tn x 11) := by
  have := h.1; have := h.2
  exact rt_tn x h 11 2048 2097152 rfl rfl (by decide) (by decide) (by omega) (by omega) (by omega)
theorem rt25 {x : Int} (h : Wd x) : rt x 25 = tn x 25 ∧ Wd (tn x 25) := by
  have := h.1; have := h.2
  exact rt_tn x h 25 33554432 128 rfl rfl (by decide) (by decide) (by omega) (by omega) (by omega)
theorem rt2 {x : Int} (h : Wd x) : rt x 2 = tn x 2 ∧ Wd (tn x 2) := by
  have := h.1; have := h.2
  exact rt_tn x h 2 4 1073741824 rfl rfl (by decide) (by decide) (by omega) (by omega) (by omega)
theorem rt13 {x : Int} (h : Wd x) : rt x 13 = tn x 13 ∧ Wd (tn x 13) := by
  have := h.1; have := h.2
  exact rt_tn x h 13 8192 524288 rfl rfl (by decide) (by decide) (by omega) (by omega) (by omega)
theorem rt22 {x : Int} (h : Wd x) : rt x 22 = tn x 22 ∧ Wd (tn x 22) := by
  have := h.1; have := h.2
  exact rt_tn x h 22 4194304 1024 rfl rfl (by decide) (by decide) (by omega) (by omega) (by omega)
theorem two_eq {x : Int} {p q : Nat} (hp : rt x p = tn x p ∧ Wd (tn x p)) (hq : rt x q = tn x q ∧ Wd (tn x q)) : Go.bits .xor .u64 (tn x p) (tn x q) = rgt x [p, q] ∧ Wd (rgt x [p, q]) := by
  show _ = Go.bits .xor .u32 (Go.bits .xor .u32 0 (rt x p)) (rt x q) ∧ Wd (Go.bits .xor .u32 (Go.bits .xor .u32 0 (rt x p)) (rt x q))
  rw [hp.1, hq.1, xor0 hp.2]
  exact xor_wd hp.2 hq.2
theorem three_eq {x : Int} {p q r : Nat} (hp : rt x p = tn x p ∧ Wd (tn x p)) (hq : rt x q = tn x q ∧ Wd (tn x q)) (hr : rt x r = tn x r ∧ Wd (tn x r)) : Go.bits .xor .u64 (Go.bits .xor .u64 (tn x p) (tn x q)) (tn x r) = rgt x [p, q, r] ∧ Wd (rgt x [p, q, r]) := by
  show _ = Go.bits .xor .u32 (Go.bits .xor .u32 (Go.bits .xor .u32 0 (rt x p)) (rt x q)) (rt x r) ∧ Wd (Go.bits .xor .u32 (Go.bits .xor .u32 (Go.bits .xor .u32 0 (rt x p)) (rt x q)) (rt x r))
  rw [hp.1, hq.1, hr.1, xor0 hp.2]
  obtain ⟨h1, h2⟩ := xor_wd hp.2 hq.2
  rw [h1]
  exact xor_wd h2 hr.2
/-! ### a round -/
structure WdS (v : S8) : Prop where
  a : Wd v.a
  b : Wd v.b
  c : Wd v.c
  d : Wd v.d
  e : Wd v.e
  f : Wd v.f
  g : Wd v.g
  h : Wd v.h
theorem sums (h s c k w t m d : Int) (hh : Wd h) (hs : Wd s) (hc : Wd c) (hk : Wd k) (hw : Wd w) (ht : Wd t) (hm : Wd m) (hd : Wd d) :
    IntKind.u32.wrap (IntKind.u32.wrap (IntKind.u32.wrap (IntKind.u32.wrap (IntKind.u32.wrap (h + s) + c) + k) + w) + IntKind.u32.wrap (t + m))
      = Int.tmod (IntKind.u64.wrap (IntKind.u64.wrap (IntKind.u64.wrap (IntKind.u64.wrap (IntKind.u64.wrap (h + s) + c) + k) + w) + IntKind.u64.wrap (t + m))) 4294967296
    ∧ IntKind.u32.wrap (d + IntKind.u32.wrap (IntKind.u32.wrap (IntKind.u32.wrap (IntKind.u32.wrap (h + s) + c) + k) + w)) = Int.tmod (IntKind.u64.wrap (d + IntKind.u64.wrap (IntKind.u64.wrap (IntKind.u64.wrap (IntKind.u64.wrap (h + s) + c) + k) + w))) 4294967296 := by
  obtain ⟨h0, h1⟩ := hh
  obtain ⟨s0, s1⟩ := hs
  obtain ⟨c0, c1⟩ := hc
  obtain ⟨k0, k1⟩ := hk
  obtain ⟨w0, w1⟩ := hw
  obtain ⟨t0, t1⟩ := ht
  obtain ⟨m0, m1⟩ := hm
  obtain ⟨d0, d1⟩ := hd
  have e1 : IntKind.u64.wrap (IntKind.u64.wrap (IntKind.u64.wrap (IntKind.u64.wrap (h + s) + c) + k) + w) = h + s + c + k + w := by
    simp only [IntKind.wrap_u64]; omega
  have e2 : IntKind.u64.wrap (t + m) = t + m := by rw [IntKind.wrap_u64]; omega
  have e3 : IntKind.u64.wrap (h + s + c + k + w + (t + m)) = h + s + c + k + w + (t + m) := by rw [IntKind.wrap_u64]; omega
  have e4 : IntKind.u64.wrap (d + (h + s + c + k + w)) = d + (h + s + c + k + w) := by rw [IntKind.wrap_u64]; omega
  rw [e1, e2, e3, e4, Int.tmod_eq_emod_of_nonneg (by omega), Int.tmod_eq_emod_of_nonneg (by omega)]
  simp only [IntKind.wrap_u32]
  constructor <;> omega
theorem wd_wrap (n : Int) : Wd (IntKind.u32.wrap n) := by rw [IntKind.wrap_u32]; exact ⟨by omega, by omega⟩
theorem rnd_eq (kk ww : Int) (v : S8) (hk : Wd kk) (hw : Wd ww) (hv : WdS v) : rnd kk ww v = rrnd kk ww v ∧ WdS (rnd kk ww v) := by
  refine ⟨?_, ⟨wd_wrap _, hv.a, hv.b, hv.c, wd_wrap _, hv.e, hv.f, hv.g⟩⟩
  obtain ⟨p1, p2⟩ := three_eq (rt6 hv.e) (rt11 hv.e) (rt25 hv.e)
  obtain ⟨q1, q2⟩ := three_eq (rt2 hv.a) (rt13 hv.a) (rt22 hv.a)
  obtain ⟨c1, c2⟩ := ch_eq hv.e hv.f hv.g
  obtain ⟨m1, m2⟩ := maj_eq hv.a hv.b hv.c
  obtain ⟨z1, z2⟩ := sums v.h _ _ kk ww _ _ v.d hv.h p2 c2 hk hw q2 m2 hv.d
  unfold rnd rrnd rT rU
  rw [p1, q1, c1, m1, z1, z2]
/-! ### the schedule, a block -/
theorem bt_wd (s : ByteArray) (i : Int) : 0 ≤ bt s i ∧ bt s i < 256 := by have := bt_range s i; omega
theorem div_wd {x : Int} (h : Wd x) (d : Int) (hd : 0 < d) : IntKind.u64.wrap (Int.tdiv x d) = x / d ∧ Wd (x / d) := by
  obtain ⟨h0, h1⟩ := h
  have a : 0 ≤ x / d := Int.ediv_nonneg h0 (by omega)
  have b : x / d ≤ x := Int.ediv_le_self d h0
  rw [Int.tdiv_eq_ediv_of_nonneg h0, IntKind.wrap_u64]
  exact ⟨by omega, a, by omega⟩
theorem sum4 (a b c d : Int) (ha : Wd a) (hb : Wd b) (hc : Wd c) (hd : Wd d) :
    IntKind.u32.wrap (IntKind.u32.wrap (IntKind.u32.wrap (a + b) + c) + d) = Int.tmod (IntKind.u64.wrap (IntKind.u64.wrap (IntKind.u64.wrap (a + b) + c) + d)) 4294967296 := by
  obtain ⟨a0, a1⟩ := ha
  obtain ⟨b0, b1⟩ := hb
  obtain ⟨c0, c1⟩ := hc
  obtain ⟨d0, d1⟩ := hd
  have e : IntKind.u64.wrap (IntKind.u64.wrap (IntKind.u64.wrap (a + b) + c) + d) = a + b + c + d := by simp only [IntKind.wrap_u64]; omega
  rw [e, Int.tmod_eq_emod_of_nonneg (by omega)]
  simp only [IntKind.wrap_u32]
  omega
theorem sum2 (a b : Int) (ha : Wd a) (hb : Wd b) : IntKind.u32.wrap (a + b) = Int.tmod (IntKind.u64.wrap (b + a)) 4294967296 := by
  obtain ⟨a0, a1⟩ := ha
  obtain ⟨b0, b1⟩ := hb
  have e : IntKind.u64.wrap (b + a) = a + b := by rw [IntKind.wrap_u64]; omega
  rw [e, Int.tmod_eq_emod_of_nonneg (by omega), IntKind.wrap_u32]
theorem wNext_eq (l : List Int) (k : Nat) (hl : ∀ j, Wd (l.getD j 0)) : wNext l k = rNext l k ∧ Wd (wNext l k) := by
  refine ⟨?_, wd_wrap _⟩
  obtain ⟨p1, p2⟩ := two_eq (rt7 (hl (k - 15))) (rt18 (hl (k - 15)))
  obtain ⟨q1, q2⟩ := two_eq (rt17 (hl (k - 2))) (rt19 (hl (k - 2)))
  obtain ⟨d1, d2⟩ := div_wd (hl (k - 15)) 8 (by decide)
  obtain ⟨f1, f2⟩ := div_wd (hl (k - 2)) 1024 (by decide)
  obtain ⟨x1, x2⟩ := xor_wd p2 d2
  obtain ⟨y1, y2⟩ := xor_wd q2 f2
  unfold wNext rNext
  rw [p1, q1, d1, f1, x1, y1]
  exact sum4 _ _ _ _ (hl _) (hl _) x2 y2
theorem wLoad_eq (s : ByteArray) (k : Nat) : wLoad s k = rLoad s k 0 4 ∧ Wd (wLoad s k) := by
  have e : rLoad s k 0 4 = IntKind.u64.wrap (IntKind.u64.wrap (IntKind.u64.wrap (IntKind.u64.wrap (IntKind.u64.wrap (IntKind.u64.wrap (IntKind.u64.wrap (IntKind.u64.wrap (0 * 256) + bt s (4 * (k : Int))) * 256) + bt s (4 * (k : Int) + 1)) * 256) + bt s (4 * (k : Int) + 2)) * 256) + bt s (4 * (k : Int) + 3)) := by
    simp only [rLoad]
    rw [show 4 * (k : Int) + ((0 : Nat) : Int) = 4 * (k : Int) by omega]
    rfl
  rw [e]
  unfold wLoad
  generalize 4 * (k : Int) = i
  obtain ⟨a0, a1⟩ := bt_wd s i
  obtain ⟨b0, b1⟩ := bt_wd s (i + 1)
  obtain ⟨c0, c1⟩ := bt_wd s (i + 2)
  obtain ⟨d0, d1⟩ := bt_wd s (i + 3)
  generalize bt s i = a at *
  generalize bt s (i + 1) = b at *
  generalize bt s (i + 2) = c at *
  generalize bt s (i + 3) = d at *
  rw [Go.bits_join .u32 32 (by decide) hk32 24 (a * 16777216) (b * 65536) (by omega) (by omega) (by omega) (by omega) (by omega) (by omega),
    Go.bits_join .u32 32 (by decide) hk32 16 _ (c * 256) (by omega) (by omega) (by omega) (by omega) (by omega) (by omega),
    Go.bits_join .u32 32 (by decide) hk32 8 _ d (by omega) (by omega) (by omega) (by omega) (by omega) (by omega)]
  have e : IntKind.u64.wrap (IntKind.u64.wrap (IntKind.u64.wrap (IntKind.u64.wrap (IntKind.u64.wrap (IntKind.u64.wrap (IntKind.u64.wrap (IntKind.u64.wrap (0 * 256) + a) * 256) + b) * 256) + c) * 256) + d) = a * 16777216 + b * 65536 + c * 256 + d := by
    simp only [IntKind.wrap_u64]; omega
  rw [e]
  exact ⟨rfl, by omega, by omega⟩
theorem getD_set (l : List Int) (k j : Nat) (v : Int) : (l.set k v).getD j 0 = if k = j ∧ k < l.length then v else l.getD j 0 := by
  simp only [List.getD_eq_getElem?_getD, List.getElem?_set]
  by_cases h : k = j
  · subst h
    by_cases h2 : k < l.length
    · simp [h2]
    · simp [h2]
  · simp [h]
theorem wF_eq (s : ByteArray) : ∀ k, wF s k = rwF s k ∧ (∀ j, Wd ((wF s k).getD j 0)) ∧ ∀ j, k ≤ j → (rwF s k).getD j 0 = 0
  | 0 => by
    have h0 : ∀ j, (List.replicate 64 (0 : Int)).getD j 0 = 0 := fun j => by
      simp only [List.getD_eq_getElem?_getD, List.getElem?_replicate]
      split <;> rfl
    refine ⟨rfl, fun j => ?_, fun j _ => h0 j⟩
    show Wd ((List.replicate 64 (0 : Int)).getD j 0)
    rw [h0]
    exact ⟨by decide, by decide⟩
  | k + 1 => by
    obtain ⟨h1, h2, h3⟩ := wF_eq s k
    obtain ⟨v, hv⟩ : ∃ v, v = (if k < 16 then wLoad s k else wNext (wF s k) k) := ⟨_, rfl⟩
    have hw : wF s (k + 1) = (wF s k).set k v := by rw [hv]; rfl
    have hr : rwF s (k + 1) = (rwF s k).set k v := by
      rw [hv, rwF, h3 k (Nat.le_refl _), ← (wLoad_eq s k).1, ← h1, (wNext_eq _ k h2).1]
    have hvW : Wd v := by
      rw [hv]
      split
      · exact (wLoad_eq s k).2
      · exact (wNext_eq _ k h2).2
    refine ⟨by rw [hw, hr, h1], fun j => ?_, fun j hj => ?_⟩
    · rw [hw, getD_set]
      split
      · exact hvW
      · exact h2 j
    · rw [hr, getD_set, if_neg (by omega)]
      exact h3 j (by omega)
theorem shaK_eq : shaK = refK := by decide +kernel
theorem refK_wd (j : Nat) : Wd (refK.getD j 0) := by
  have h : refK.all (fun x => decide (0 ≤ x ∧ x < 4294967296)) = true := by decide +kernel
  rw [List.all_eq_true] at h
  simp only [List.getD_eq_getElem?_getD]
  cases hj : refK[j]? with
  | none => exact ⟨by decide, by decide⟩
  | some x =>
    have := h x (List.mem_of_getElem? hj)
    exact of_decide_eq_true (p := 0 ≤ x ∧ x < 4294967296) this
theorem rndF_eq (l : List Int) (v : S8) (hl : ∀ j, Wd (l.getD j 0)) (hv : WdS v) : ∀ k, rndF l v k = rrndF l v k ∧ WdS (rndF l v k)
  | 0 => ⟨rfl, hv⟩
  | k + 1 => by
    obtain ⟨h1, h2⟩ := rndF_eq l v hl hv k
    have hk := refK_wd k
    have := rnd_eq (refK.getD k 0) (l.getD k 0) (rndF l v k) hk (hl k) h2
    rw [rndF, rrndF, shaK_eq, ← h1]
    exact this
theorem blk_eq (s : ByteArray) (v : S8) (hv : WdS v) : blkF s v = rblk s v ∧ WdS (blkF s v) := by
  obtain ⟨w1, w2, -⟩ := wF_eq s 64
  obtain ⟨r1, r2⟩ := rndF_eq (wF s 64) v w2 hv 64
  refine ⟨?_, ⟨wd_wrap _, wd_wrap _, wd_wrap _, wd_wrap _, wd_wrap _, wd_wrap _, wd_wrap _, wd_wrap _⟩⟩
  unfold blkF rblk
  rw [← w1, ← r1]
  simp only
  rw [sum2 _ _ hv.a r2.a, sum2 _ _ hv.b r2.b, sum2 _ _ hv.c r2.c, sum2 _ _ hv.d r2.d, sum2 _ _ hv.e r2.e, sum2 _ _ hv.f r2.f, sum2 _ _ hv.g r2.g, sum2 _ _ hv.h r2.h]
theorem wF_ext {s t : ByteArray} (h : ∀ j : Nat, j < 64 → bt s (j : Int) = bt t (j : Int)) : ∀ k, wF s k = wF t k
  | 0 => rfl
  | k + 1 => by
    rw [wF, wF, wSet, wSet, wF_ext h k]
    by_cases c : k < 16
    · rw [if_pos c, if_pos c]
      have h0 := h (4 * k) (by omega)
      have h1 := h (4 * k + 1) (by omega)
      have h2 := h (4 * k + 2) (by omega)
      have h3 := h (4 * k + 3) (by omega)
      rw [show ((4 * k : Nat) : Int) = 4 * (k : Int) by omega] at h0
      rw [show ((4 * k + 1 : Nat) : Int) = 4 * (k : Int) + 1 by omega] at h1
      rw [show ((4 * k + 2 : Nat) : Int) = 4 * (k : Int) + 2 by omega] at h2
      rw [show ((4 * k + 3 : Nat) : Int) = 4 * (k : Int) + 3 by omega] at h3
      unfold wLoad
      rw [h0, h1, h2, h3]
    · rw [if_neg c, if_neg c]
theorem blkF_ext {s t : ByteArray} (h : ∀ j : Nat, j < 64 → bt s (j : Int) = bt t (j : Int)) (v : S8) : blkF s v = blkF t v := by
  unfold blkF
  rw [wF_ext h]
theorem bt_ext (t : ByteArray) (a b j : Nat) (hj : a + j < b) (hb : b ≤ t.size) : bt (t.extract a b) (j : Int) = bt t ((a + j : Nat) : Int) := by
  unfold bt
  simp only [Int.toNat_natCast]
  have h1 : j < (t.extract a b).size := by rw [ByteArray.size_extract]; omega
  rw [dif_pos h1, dif_pos (by omega)]
  congr 2
  exact ByteArray.getElem_extract h1
theorem blocks_eq : ∀ (k i : Nat) (t : ByteArray) (v : S8), i + 64 * k ≤ t.size → WdS v → blocksF k (t.extract i t.size) v = rblocksF k i t v ∧ WdS (blocksF k (t.extract i t.size) v)
  | 0, _, _, _, _, hv => ⟨rfl, hv⟩
  | k + 1, i, t, v, h, hv => by
    have e1 : (t.extract i t.size).extract 64 (t.extract i t.size).size = t.extract (i + 64) t.size := by
      rw [ByteArray.size_extract, ByteArray.extract_extract]
      congr 1
      omega
    have e2 : blkF (t.extract i t.size) v = blkF (t.extract i (i + 64)) v := blkF_ext (fun j hj => by rw [bt_ext t i t.size j (by omega) (by omega), bt_ext t i (i + 64) j (by omega) (by omega)]) v
    obtain ⟨b1, b2⟩ := blk_eq (t.extract i (i + 64)) v hv
    rw [blocksF, rblocksF, e1, e2, ← b1]
    exact blocks_eq k (i + 64) t _ (by omega) b2
/-! ### the sum -/
theorem nums_cat (a b : List Int) : strOfNums (a ++ b) = strOfNums a ++ strOfNums b := by
  apply ByteArray.ext
  apply Array.toList_inj.mp
  simp [strOfNums]
theorem bytesOf_nums (s : ByteArray) : strOfNums (bytesOf s) = s := by
  apply ByteArray.ext
  apply Array.toList_inj.mp
  simp [strOfNums, bytesOf, Function.comp_def]
theorem repeat_zero (n : Nat) : (⟨(Lib.repeatL [0] n).toArray⟩ : ByteArray) = strOfNums (List.replicate n 0) := by
  have h : Lib.repeatL [0] n = List.replicate n 0 := by
    induction n with
    | zero => rfl
    | succ n ih => rw [Lib.repeatL, ih]; rfl
  rw [h]
  apply ByteArray.ext
  apply Array.toList_inj.mp
  simp [strOfNums]
theorem fill_eq (s : ByteArray) (hs : s.size ≤ 1099511627776) : sumFill s = filF s := by
  unfold sumFill sumPad filF filL filB
  rw [repeat_zero, nums_cat, nums_cat, nums_cat, bytesOf_nums, zn]
  have h1 : (s.size : Int) * 8 / 72057594037927936 = (s.size : Int) * 8 / 72057594037927936 % 256 := by omega
  have h2 : (s.size : Int) * 8 / 281474976710656 = (s.size : Int) * 8 / 281474976710656 % 256 := by omega
  have h3 : (s.size : Int) * 8 / 1099511627776 = (s.size : Int) * 8 / 1099511627776 % 256 := by omega
  rw [← h1, ← h2, ← h3]
  generalize (s.size : Int) * 8 / 72057594037927936 = n0
  generalize (s.size : Int) * 8 / 281474976710656 = n1
  generalize (s.size : Int) * 8 / 1099511627776 = n2
  generalize (s.size : Int) * 8 / 4294967296 % 256 = n3
  generalize (s.size : Int) * 8 / 16777216 % 256 = n4
  generalize (s.size : Int) * 8 / 65536 % 256 = n5
  generalize (s.size : Int) * 8 / 256 % 256 = n6
  generalize (s.size : Int) * 8 % 256 = n7
  have e : strOfNums [n0, n1, n2, n3, n4, n5, n6, n7] = strOfNums [n0] ++ strOfNums [n1] ++ strOfNums [n2] ++ strOfNums [n3] ++ strOfNums [n4] ++ strOfNums [n5] ++ strOfNums [n6] ++ strOfNums [n7] := by
    rw [← nums_cat, ← nums_cat, ← nums_cat, ← nums_cat, ← nums_cat, ← nums_cat, ← nums_cat]
    rfl
  rw [e]
  simp only [ByteArray.append_assoc]
  rfl
theorem wdV0 : WdS rV0 := ⟨⟨by decide, by decide⟩, ⟨by decide, by decide⟩, ⟨by decide, by decide⟩, ⟨by decide, by decide⟩, ⟨by decide, by decide⟩, ⟨by decide, by decide⟩, ⟨by decide, by decide⟩, ⟨by decide, by decide⟩⟩
theorem shaH_eq : shaH = [1779033703, 3144134277, 1013904242, 2773480762, 1359893119, 2600822924, 528734635, 1541459225] := by decide +kernel
theorem shaV_eq : shaV = rV0 := by
  unfold shaV
  rw [shaH_eq]
  rfl
theorem row_eq {x : Int} (h : Wd x) : out4 x = rRow x 4 := by
  obtain ⟨h0, h1⟩ := h
  have e : ∀ (k : Nat) (P : Int), (2 : Int) ^ (8 * (3 - k)) = P → 0 < P → P ≤ 16777216 → IntKind.u8.wrap (rbyte x k) = x / P % 256 := fun k P hP hp hp2 => by
    have a : 0 ≤ x / P := Int.ediv_nonneg h0 (by omega)
    have b : x / P ≤ x := Int.ediv_le_self P h0
    unfold rbyte
    rw [hP, Int.tdiv_eq_ediv_of_nonneg h0, IntKind.wrap_u64, IntKind.wrap_u8, Int.tmod_eq_emod_of_nonneg (by omega)]
    omega
  simp only [rRow, List.nil_append, List.cons_append]
  rw [e 0 16777216 rfl (by decide) (by decide), e 1 65536 rfl (by decide) (by decide), e 2 256 rfl (by decide) (by decide), e 3 1 rfl (by decide) (by decide), Int.ediv_one]
  rfl
theorem out_eq (v : S8) (h : WdS v) : shaOut v = rOut v.list 8 := by
  unfold shaOut
  rw [row_eq h.a, row_eq h.b, row_eq h.c, row_eq h.d, row_eq h.e, row_eq h.f, row_eq h.g, row_eq h.h]
  rfl
theorem sha_eq (s : ByteArray) (hs : s.size ≤ 1099511627776) : shaF s = rsF s := by
  obtain ⟨m, hm, hm2⟩ := filF_size s
  unfold shaF rsF
  rw [fill_eq s hs, shaV_eq, hm, Nat.mul_div_cancel_left _ (by decide)]
  obtain ⟨b1, b2⟩ := blocks_eq m 0 (filF s) rV0 (by omega) wdV0
  have e : (filF s).extract 0 (filF s).size = filF s := by simp
  rw [e] at b1 b2
  rw [← b1, out_eq _ b2]
theorem shaF_size (s : ByteArray) : (shaF s).size = 32 := by
  unfold shaF
  rw [strOfNums_size]
  rfl
/-! ### the laws' common part -/
theorem sum_f (l : List ByteArray) (h1 : (joinB l).size ≤ 1099511627776) (h2 : l.length ≤ 1099511627776) : digest_Sum.f l = some (shaF (joinB l)) := if_pos ⟨h1, h2⟩
theorem hex_f (s : ByteArray) (h : s.size ≤ 1099511627776) : digest_Hex.f s = some (hexF s) := if_pos h
theorem xor_f (a b : ByteArray) (h1 : a.size ≤ 9223372036854775807) (h2 : b.size ≤ 9223372036854775807) : digest_Xor.f a b = some (xorF a b) := if_pos ⟨h1, h2⟩
theorem shown_ : dominolaw07_shown.f = some true := by
  have e1 : (hexF (shaF (joinB [(⟨#[97]⟩ : ByteArray), (⟨#[98, 99]⟩ : ByteArray)]))).data.toList = [98, 97, 55, 56, 49, 54, 98, 102, 56, 102, 48, 49, 99, 102, 101, 97, 52, 49, 52, 49, 52, 48, 100, 101, 53, 100, 97, 101, 50, 50, 50, 51, 98, 48, 48, 51, 54, 49, 97, 51, 57, 54, 49, 55, 55, 97, 57, 99, 98, 52, 49, 48, 102, 102, 54, 49, 102, 50, 48, 48, 49, 53, 97, 100] := by decide +kernel
  have e2 : (xorF (⟨#[97, 98]⟩ : ByteArray) (⟨#[98]⟩ : ByteArray)).data.toList = [3] := by decide +kernel
  unfold dominolaw07_shown.f
  rw [sum_f _ (by decide +kernel) (by decide), Option.bind_some, hex_f _ (by rw [shaF_size]; decide), Option.bind_some, if_pos (by rw [Go.Lib.toList_data]; exact e1), xor_f _ _ (by decide) (by decide), Option.bind_some, Go.Lib.toList_data, e2]
  rfl
theorem joinB_nil : joinB [] = ⟨#[]⟩ := rfl
theorem join_nil : ∀ l : List (List UInt8), Lib.join l [] = l.flatten
  | [] => rfl
  | [a] => by simp [Lib.join]
  | a :: b :: l => by
    have ih := join_nil (b :: l)
    have e : ([] : List UInt8).intercalate (a :: b :: l) = a ++ ([] ++ ([] : List UInt8).intercalate (b :: l)) := by simp [List.intercalate]
    show ([] : List UInt8).intercalate (a :: b :: l) = _
    rw [e, show ([] : List UInt8).intercalate (b :: l) = (b :: l).flatten from ih]
    simp
theorem joinB_data (l : List ByteArray) : (joinB l).data.toList = (l.map (·.data.toList)).flatten := by
  show (Lib.join (l.map (·.data.toList)) []).toArray.toList = _
  rw [join_nil]
theorem ba_ext {a b : ByteArray} (h : a.data.toList = b.data.toList) : a = b := ByteArray.ext (Array.toList_inj.mp h)
theorem joinB_size (l : List ByteArray) : (joinB l).size = (l.map ByteArray.size).sum := by
  have h := congrArg List.length (joinB_data l)
  rw [List.length_flatten, List.map_map] at h
  exact h
theorem app_nil (a : ByteArray) : a ++ ⟨#[]⟩ = a := by
  apply ba_ext
  rw [ByteArray.data_append, Array.toList_append]
  exact List.append_nil _
theorem nil_app (a : ByteArray) : (⟨#[]⟩ : ByteArray) ++ a = a := by
  apply ba_ext
  rw [ByteArray.data_append, Array.toList_append]
  rfl
theorem wf_u8 {a : Int} (h : (Lit.int .u8 a).wf = true) : 0 ≤ a ∧ a < 256 := by
  simp [Lit.wf, IntKind.min, IntKind.max, IntKind.signed, IntKind.bits] at h
  omega
theorem wf_u16 {a : Int} (h : (Lit.int .u16 a).wf = true) : 0 ≤ a ∧ a < 65536 := by
  simp [Lit.wf, IntKind.min, IntKind.max, IntKind.signed, IntKind.bits] at h
  omega
theorem joinB_cons (a : ByteArray) (l : List ByteArray) : joinB (a :: l) = a ++ joinB l := by
  apply ba_ext
  rw [joinB_data, ByteArray.data_append, Array.toList_append, joinB_data]
  simp
theorem rd_at (l : List ByteArray) (i : Nat) (h : i < l.length) : rdOf ByteArray.empty l (i : Int) = l[i] := by
  unfold rdOf
  rw [Int.toNat_natCast]
  simp [List.getD_eq_getElem?_getD, h]
theorem wrap_next (i : Nat) (h : i < 4611686018427387904) : wrap64 ((i : Int) + 1) = ((i + 1 : Nat) : Int) := by unfold wrap64; omega
theorem join_run (l : List ByteArray) (hl : l.length < 4611686018427387904) : ∀ (m i k : Nat) (acc : ByteArray), i + m = l.length → acc.size + (joinB (l.drop i)).size ≤ 9223372036854775807 →
    dominoref07_Join.l0 (k + m + 1) l acc (i : Int) = some (acc ++ joinB (l.drop i)) := by
  intro m
  induction m with
  | zero =>
    intro i k acc hi _
    rw [dominoref07_Join.l0, if_neg (by omega), List.drop_of_length_le (by omega), joinB_nil, app_nil]
  | succ m ih =>
    intro i k acc hi hs
    have hlt : i < l.length := by omega
    rw [List.drop_eq_getElem_cons hlt, joinB_cons] at hs ⊢
    rw [ByteArray.size_append] at hs
    rw [show k + (m + 1) + 1 = (k + m + 1) + 1 by omega, dominoref07_Join.l0, if_pos (by omega), if_pos (by omega), rd_at l i hlt, if_pos (by omega), wrap_next i (by omega), ih (i + 1) k _ (by omega) (by rw [ByteArray.size_append]; omega), ByteArray.append_assoc]
theorem bounded_run (l : List ByteArray) (hl : l.length < 4611686018427387904) (hz : ∀ s ∈ l, s.size ≤ 140737488351232) : ∀ (m i k : Nat) (x : Int), i + m = l.length →
    ∃ y : Int, dominolaw07_bounded.l0 (k + m + 1) l x (i : Int) = (if l.length ≤ 30 then some (decide (y ≤ 2000)) else some false) ∧ (0 ≤ x → x + 140737488351232 * (m : Int) ≤ 9223372036854775807 → y = x + (joinB (l.drop i)).size) := by
  intro m
  induction m with
  | zero =>
    intro i k x hi
    refine ⟨x, ?_, fun _ _ => ?_⟩
    · rw [dominolaw07_bounded.l0, if_neg (by omega)]
      by_cases c : l.length ≤ 30
      · rw [if_pos c, if_pos (by omega)]
      · rw [if_neg c, if_neg (by omega)]
    · rw [List.drop_of_length_le (by omega), joinB_nil]
      exact (Int.add_zero x).symm
  | succ m ih =>
    intro i k x hi
    have hlt : i < l.length := by omega
    obtain ⟨y, h1, h2⟩ := ih (i + 1) k (wrap64 (x + (l[i].size : Int))) (by omega)
    have hsz := hz l[i] (List.getElem_mem hlt)
    refine ⟨y, ?_, fun hx hx2 => ?_⟩
    · rw [show k + (m + 1) + 1 = (k + m + 1) + 1 by omega, dominolaw07_bounded.l0, if_pos (by omega), if_pos (by omega), rd_at l i hlt, wrap_next i (by omega), h1]
    · have hw : wrap64 (x + (l[i].size : Int)) = x + (l[i].size : Int) := by unfold wrap64; omega
      rw [hw] at h2
      rw [h2 (by omega) (by omega), List.drop_eq_getElem_cons hlt, joinB_cons, ByteArray.size_append]
      omega
theorem DigestSums : dominolaw07_DigestSums.Pure := by
  intro l _ h2 hz
  have hl : l.length < 4611686018427387904 := by omega
  obtain ⟨n, hn⟩ : ∃ n, n = l.length := ⟨_, rfl⟩
  refine ⟨n + 2, ?_⟩
  obtain ⟨y, h3, h4⟩ := bounded_run l hl hz n 0 1 0 (by omega)
  have hb : dominolaw07_bounded.f (n + 2) l = (if l.length ≤ 30 then some (decide (y ≤ 2000)) else some false) := by
    unfold dominolaw07_bounded.f
    rw [show n + 2 = 1 + n + 1 by omega]
    exact h3
  unfold dominolaw07_DigestSums.f
  rw [hb]
  have hT : dominolaw07_DigestSums.j0 (n + 2) l true = some true := by
    rw [show n + 2 = (n + 1) + 1 by omega, dominolaw07_DigestSums.j0, if_pos rfl, shown_]
    rfl
  by_cases c : l.length ≤ 30
  · rw [if_pos c, Option.bind_some]
    by_cases c2 : y ≤ 2000
    · rw [if_pos (decide_eq_true c2), shown_, Option.bind_some]
      have hy := h4 (by decide) (by omega)
      rw [List.drop_zero] at hy
      have hs : (joinB l).size ≤ 2000 := by omega
      have hj : dominoref07_Join.f (n + 1) l = some (joinB l) := by
        have h := join_run l hl n 0 0 ⟨#[]⟩ (by omega) (by rw [List.drop_zero]; show 0 + _ ≤ _; omega)
        rw [List.drop_zero] at h
        unfold dominoref07_Join.f
        rw [show n + 1 = 0 + n + 1 by omega]
        refine h.trans ?_
        rw [nil_app]
      have hr : dominoref07_Sum.f (joinB l) = some (rsF (joinB l)) := if_pos (by omega)
      show dominolaw07_DigestSums.j0 (n + 2) l false = some true
      rw [show n + 2 = (n + 1) + 1 by omega, dominolaw07_DigestSums.j0, if_neg (by decide), sum_f l (by omega) (by omega), Option.bind_some, hj, Option.bind_some, hr, Option.bind_some, sha_eq _ (by omega), if_pos rfl, ← sha_eq _ (by omega), shaF_size]
      rfl
    · rw [if_neg (by simpa using c2)]
      exact hT
  · rw [if_neg c, Option.bind_some, if_neg (by decide)]
    exact hT

end Go.Proofs.Ytmkpphcnafklbaa.Pure
