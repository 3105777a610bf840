-- printed for this claim by a program of the claim (wip/tools/pp.py over the kit's print)
import Derived.Test.YtmkpphcnafklbaaPDgxx0
import Derived.Test.YtmkpphcnafklbaaPDgxx2
namespace Go.Proofs.Ytmkpphcnafklbaa.PDgx
open Go.RowKit Go.Proofs.YtmkpphcnafklbaaW.PrintWords Go.Proofs.YtmkpphcnafklbaaW.PrintLast Go.Proofs.YtmkpphcnafklbaaW.PrintMore
attribute [local go_sem] max2_int min2_int max_two min_two max_three min_three max_four min_four   -- for this text's walks alone
set_option linter.unusedVariables false
set_option linter.unusedSimpArgs false

attribute [local go_sem] isSome_setCell_
/-! ### the sum of texts -/
def joinB (l : List ByteArray) : ByteArray := ⟨(Lib.join (l.map (·.data.toList)) []).toArray⟩
def sumPad (s : ByteArray) : ByteArray := s ++ ((⟨#[128]⟩ : ByteArray) ++ ⟨(Lib.repeatL [0] ((119 - s.size % 64) % 64)).toArray⟩)
theorem strs_at {w : World} {A : Option Addr} {xs : List ByteArray} (h : Kd.C Kd.string w A xs.length xs) (h0 : 0 < xs.length) :
  ∃ bk o, A = some ⟨bk, o, none⟩ ∧ bk < w.heap.size ∧ ∀ (j : Nat) x, xs[j]? = some x → w.cell? ⟨bk, o + j, none⟩ = some (.string x) := by
 have hx (j : Nat) (hj : j < xs.length) : ∃ ad : Addr, A = some ad ∧ w.cell? (ad.add j) = some (.string (xs.getD j ByteArray.empty)) := by
  obtain ⟨ad, e, hc⟩ := Kd.at_string h (j : Int) (by omega) (by omega)
  rw [Int.toNat_natCast] at hc
  refine ⟨ad, e, ?_⟩
  rw [hc]
  unfold rdOf
  rw [Int.toNat_natCast]
 obtain ⟨ad, rfl, hc⟩ := hx 0 h0
 have hspot : ad.spot = none := by
  have : (ad.add 0).spot = none := by
   cases hs : (ad.add 0).spot with
   | none => rfl
   | some z =>
    unfold World.cell? at hc
    rw [hs] at hc
    revert hc
    simp only [Option.isSome_some, if_true]
    split <;> simp
  unfold Addr.add at this
  split at this <;> simp_all
 obtain ⟨bk, o, sp⟩ := ad
 simp only at hspot
 subst hspot
 refine ⟨bk, o, rfl, ?_, fun j x hj => ?_⟩
 ·have := World.block_lt_of_cell? _ _ hc
  simpa [Addr.add_mid] using this
 ·have hl := (List.getElem?_eq_some_iff.1 hj).1
  obtain ⟨ad, e, hc⟩ := hx j hl
  obtain rfl := Option.some.inj e
  rw [Addr.add_mid, List.getD_eq_getElem?_getD, hj] at hc
  exact hc
theorem join_c (A : Option Addr) (c : Nat) (l : List ByteArray) (w : World) (hr : Kd.C Kd.string w A l.length l) (hc : l.length ≤ c) (hlen : (joinB l).size ≤ 140737488355328) (hl : l.length ≤ 140737488355328) :
  Calls Try.prog 19 #[.slice A l.length c, .string (⟨#[]⟩ : ByteArray)] w fun e w' => e = .returned (.string (joinB l)) ∧ Below w.heap.size w w' := by
 by_cases h0 : 0 < l.length
 ·obtain ⟨bk, o, rfl, hlt, hcells⟩ := strs_at hr h0
  exact Try.strings_Join bk o c l ⟨#[]⟩ w hcells hlt hl hc (by simpa [joinB, ByteArray.size] using hlen)
 ·obtain rfl : l = [] := List.eq_nil_of_length_eq_zero (by omega)
  exact (Try.strings_Join_none A c ⟨#[]⟩ w).mono fun e w' ⟨he, hw⟩ => ⟨he, hw ▸ Below.refl _ _⟩
def blocksF : Nat → ByteArray → S8 → S8
 | 0, _, v => v
 | k + 1, t, v => blocksF k (t.extract 64 t.size) (blkF t v)
def out4 (x : Int) : List Int := [x / 16777216 % 256, x / 65536 % 256, x / 256 % 256, x % 256]
def sumFill (s : ByteArray) : ByteArray :=
 sumPad s ++ strOfNums [(s.size : Int) * 8 / 72057594037927936] ++ strOfNums [(s.size : Int) * 8 / 281474976710656] ++ strOfNums [(s.size : Int) * 8 / 1099511627776] ++ strOfNums [(s.size : Int) * 8 / 4294967296 % 256]
  ++ strOfNums [(s.size : Int) * 8 / 16777216 % 256] ++ strOfNums [(s.size : Int) * 8 / 65536 % 256] ++ strOfNums [(s.size : Int) * 8 / 256 % 256] ++ strOfNums [(s.size : Int) * 8 % 256]
def shaOut (v : S8) : List Int := [] ++ out4 v.a ++ out4 v.b ++ out4 v.c ++ out4 v.d ++ out4 v.e ++ out4 v.f ++ out4 v.g ++ out4 v.h
def shaV : S8 := ⟨shaH.getD 0 0, shaH.getD 1 0, shaH.getD 2 0, shaH.getD 3 0, shaH.getD 4 0, shaH.getD 5 0, shaH.getD 6 0, shaH.getD 7 0⟩
def shaF (s : ByteArray) : ByteArray := strOfNums (shaOut (blocksF ((sumFill s).size / 64) (sumFill s) shaV))
theorem shaV_list : shaV.list = shaH := by decide +kernel
theorem strOfNums_one (n : Int) : (strOfNums [n]).size = 1 := rfl
theorem conv_one {P : Program} {src dst e : TypeId} (hs : P.underlying src = some (.slice e)) (he : P.underlying e = some (.int .u8)) (hd : P.underlying dst = some .string) (w : World) (n : Int) :
  (convert src dst (.slice (some ⟨w.heap.size, 0, none⟩) 1 1)).run P (w.alloc (.cells #[.int .u8 n] e)) = .ok (.string (strOfNums [n])) (w.alloc (.cells #[.int .u8 n] e)) :=
 string_of_reads hs he hd ⟨rfl, by decide, fun _ => ⟨_, rfl, fun j hj => by
  obtain rfl : j = 0 := by omega
  exact (cell_one_new w (.int .u8 n) e 0 _ rfl)⟩⟩
set_option maxHeartbeats 4000000 in
set_option maxRecDepth 100000 in
theorem Sum_calls (A : Option Addr) (c : Nat) (l : List ByteArray) (w : World) (hr : Kd.C Kd.string w A l.length l) (hc : l.length ≤ c) (hlen : (joinB l).size ≤ 1099511627776) (hl : l.length ≤ 1099511627776) :
  Calls Try.prog 10 #[.slice A l.length c] w fun e w' => e = .returned (.string (shaF (joinB l))) ∧ Below w.heap.size w w' := by
 go_enter Try.func10, Try.ntmps10
 go_wp2_with fail
 refine (join_c A c l _ hr hc (by omega) (by omega)).mono ?_
 rintro e w1 ⟨rfl, hb⟩
 have HB1 := Aside0.mk hb
 clear hb hr
 obtain ⟨s, hsj⟩ : ∃ s, s = joinB l := ⟨_, rfl⟩
 rw [← hsj] at hlen ⊢
 have HSJ := Aside0.mk hsj
 clear hsj
 obtain ⟨r, hr⟩ : ∃ r, r = (119 - s.size % 64) % 64 := ⟨_, rfl⟩
 have hrz : (119 - (s.size : Int) % 64) % 64 = (r : Int) := by omega
 have HR := Aside0.mk hr
 have HRZ := Aside0.mk hrz
 have HRY : Aside0 ((119 - (s.size : Int)) % 64 = (r : Int)) := ⟨by omega⟩
 have hr64 : r < 64 := by omega
 clear hr hrz
 go_wp2_with fail
 rw [HRY.out]
 try rw [HRZ.out]
 have hrep := Try.strings_Repeat (⟨#[0]⟩ : ByteArray) r w1 (by omega) (by show 1 * r ≤ _; omega)
 with_reducible refine hrep.mono ?_
 clear hrep
 rintro e w2 ⟨rfl, hb⟩
 have HB2 := Aside0.mk (HB1.out.trans (hb.mono HB1.out.size))
 clear hb
 have hz : (⟨(Lib.repeatL (⟨#[0]⟩ : ByteArray).data.toList r).toArray⟩ : ByteArray).size = r := by
  show (Lib.repeatL [0] r).toArray.size = r
  rw [List.size_toArray, Lib.repeatL_length]; simp
 have HS : Aside0 (sumPad s = s ++ ((⟨#[128]⟩ : ByteArray) ++ ⟨(Lib.repeatL (⟨#[0]⟩ : ByteArray).data.toList r).toArray⟩)) := ⟨by unfold sumPad; rw [← HR.out]⟩
 generalize (⟨(Lib.repeatL (⟨#[0]⟩ : ByteArray).data.toList r).toArray⟩ : ByteArray) = z at hz HS ⊢
 go_wp2
 have HZ := Aside0.mk hz
 clear hz
 rw [← HS.out]
 have hps : (sumPad s).size ≤ s.size + 65 := by rw [HS.out, ByteArray.size_append, ByteArray.size_append, HZ.out]; show s.size + (1 + r) ≤ _; omega
 obtain ⟨t0, ht0⟩ : ∃ t, t = sumPad s := ⟨_, rfl⟩
 rw [← ht0] at hps HS ⊢
 have HT0 := Aside0.mk ht0
 clear ht0
 refine wp_loop_rounds 9 ?_
 -- rounds
 have hcz : ∀ n : Int, (strOfNums [n]).size = 1 := fun n => strOfNums_one n
 rw [rounds_succ]
 have hcv := conv_one Try.underlying39 Try.underlying5 Try.underlying9 w2
 go_wp2
 clear hcv
 have HBx := Aside0.mk (below_alloc HB2.out (.cells #[.int .u8 ((s.size : Int) * 8 / 72057594037927936)] 5))
 generalize w2.alloc (.cells #[.int .u8 ((s.size : Int) * 8 / 72057594037927936)] 5) = w3 at HBx ⊢
 have HB3 := HBx
 clear HBx
 have hps1 : (t0 ++ strOfNums [(s.size : Int) * 8 / 72057594037927936]).size ≤ s.size + 66 := by rw [ByteArray.size_append, hcz]; omega
 obtain ⟨t1, ht1⟩ : ∃ t, t = t0 ++ strOfNums [(s.size : Int) * 8 / 72057594037927936] := ⟨_, rfl⟩
 rw [← ht1] at hps1 ⊢
 have HT1 := Aside0.mk ht1
 clear ht1 hps
 rw [rounds_succ]
 have hcv := conv_one Try.underlying39 Try.underlying5 Try.underlying9 w3
 go_wp2
 clear hcv
 have HBx := Aside0.mk (below_alloc HB3.out (.cells #[.int .u8 ((s.size : Int) * 8 / 281474976710656)] 5))
 generalize w3.alloc (.cells #[.int .u8 ((s.size : Int) * 8 / 281474976710656)] 5) = w4 at HBx ⊢
 have HB4 := HBx
 clear HBx
 have hps2 : (t1 ++ strOfNums [(s.size : Int) * 8 / 281474976710656]).size ≤ s.size + 67 := by rw [ByteArray.size_append, hcz]; omega
 obtain ⟨t2, ht2⟩ : ∃ t, t = t1 ++ strOfNums [(s.size : Int) * 8 / 281474976710656] := ⟨_, rfl⟩
 rw [← ht2] at hps2 ⊢
 have HT2 := Aside0.mk ht2
 clear ht2 hps1
 rw [rounds_succ]
 have hcv := conv_one Try.underlying39 Try.underlying5 Try.underlying9 w4
 go_wp2
 clear hcv
 have HBx := Aside0.mk (below_alloc HB4.out (.cells #[.int .u8 ((s.size : Int) * 8 / 1099511627776)] 5))
 generalize w4.alloc (.cells #[.int .u8 ((s.size : Int) * 8 / 1099511627776)] 5) = w5 at HBx ⊢
 have HB5 := HBx
 clear HBx
 have hps3 : (t2 ++ strOfNums [(s.size : Int) * 8 / 1099511627776]).size ≤ s.size + 68 := by rw [ByteArray.size_append, hcz]; omega
 obtain ⟨t3, ht3⟩ : ∃ t, t = t2 ++ strOfNums [(s.size : Int) * 8 / 1099511627776] := ⟨_, rfl⟩
 rw [← ht3] at hps3 ⊢
 have HT3 := Aside0.mk ht3
 clear ht3 hps2
 rw [rounds_succ]
 have hcv := conv_one Try.underlying39 Try.underlying5 Try.underlying9 w5
 go_wp2
 clear hcv
 have HBx := Aside0.mk (below_alloc HB5.out (.cells #[.int .u8 ((s.size : Int) * 8 / 4294967296 % 256)] 5))
 generalize w5.alloc (.cells #[.int .u8 ((s.size : Int) * 8 / 4294967296 % 256)] 5) = w6 at HBx ⊢
 have HB6 := HBx
 clear HBx
 have hps4 : (t3 ++ strOfNums [(s.size : Int) * 8 / 4294967296 % 256]).size ≤ s.size + 69 := by rw [ByteArray.size_append, hcz]; omega
 obtain ⟨t4, ht4⟩ : ∃ t, t = t3 ++ strOfNums [(s.size : Int) * 8 / 4294967296 % 256] := ⟨_, rfl⟩
 rw [← ht4] at hps4 ⊢
 have HT4 := Aside0.mk ht4
 clear ht4 hps3
 rw [rounds_succ]
 have hcv := conv_one Try.underlying39 Try.underlying5 Try.underlying9 w6
 go_wp2
 clear hcv
 have HBx := Aside0.mk (below_alloc HB6.out (.cells #[.int .u8 ((s.size : Int) * 8 / 16777216 % 256)] 5))
 generalize w6.alloc (.cells #[.int .u8 ((s.size : Int) * 8 / 16777216 % 256)] 5) = w7 at HBx ⊢
 have HB7 := HBx
 clear HBx
 have hps5 : (t4 ++ strOfNums [(s.size : Int) * 8 / 16777216 % 256]).size ≤ s.size + 70 := by rw [ByteArray.size_append, hcz]; omega
 obtain ⟨t5, ht5⟩ : ∃ t, t = t4 ++ strOfNums [(s.size : Int) * 8 / 16777216 % 256] := ⟨_, rfl⟩
 rw [← ht5] at hps5 ⊢
 have HT5 := Aside0.mk ht5
 clear ht5 hps4
 rw [rounds_succ]
 have hcv := conv_one Try.underlying39 Try.underlying5 Try.underlying9 w7
 go_wp2
 clear hcv
 have HBx := Aside0.mk (below_alloc HB7.out (.cells #[.int .u8 ((s.size : Int) * 8 / 65536 % 256)] 5))
 generalize w7.alloc (.cells #[.int .u8 ((s.size : Int) * 8 / 65536 % 256)] 5) = w8 at HBx ⊢
 have HB8 := HBx
 clear HBx
 have hps6 : (t5 ++ strOfNums [(s.size : Int) * 8 / 65536 % 256]).size ≤ s.size + 71 := by rw [ByteArray.size_append, hcz]; omega
 obtain ⟨t6, ht6⟩ : ∃ t, t = t5 ++ strOfNums [(s.size : Int) * 8 / 65536 % 256] := ⟨_, rfl⟩
 rw [← ht6] at hps6 ⊢
 have HT6 := Aside0.mk ht6
 clear ht6 hps5
 rw [rounds_succ]
 have hcv := conv_one Try.underlying39 Try.underlying5 Try.underlying9 w8
 go_wp2
 clear hcv
 have HBx := Aside0.mk (below_alloc HB8.out (.cells #[.int .u8 ((s.size : Int) * 8 / 256 % 256)] 5))
 generalize w8.alloc (.cells #[.int .u8 ((s.size : Int) * 8 / 256 % 256)] 5) = w9 at HBx ⊢
 have HB9 := HBx
 clear HBx
 have hps7 : (t6 ++ strOfNums [(s.size : Int) * 8 / 256 % 256]).size ≤ s.size + 72 := by rw [ByteArray.size_append, hcz]; omega
 obtain ⟨t7, ht7⟩ : ∃ t, t = t6 ++ strOfNums [(s.size : Int) * 8 / 256 % 256] := ⟨_, rfl⟩
 rw [← ht7] at hps7 ⊢
 have HT7 := Aside0.mk ht7
 clear ht7 hps6
 rw [rounds_succ]
 have hcv := conv_one Try.underlying39 Try.underlying5 Try.underlying9 w9
 go_wp2
 clear hcv
 have HBx := Aside0.mk (below_alloc HB9.out (.cells #[.int .u8 (((s.size : Int) * 8) % 256)] 5))
 generalize w9.alloc (.cells #[.int .u8 (((s.size : Int) * 8) % 256)] 5) = w10 at HBx ⊢
 have HB10 := HBx
 clear HBx
 have hps8 : (t7 ++ strOfNums [((s.size : Int) * 8) % 256]).size ≤ s.size + 73 := by rw [ByteArray.size_append, hcz]; omega
 obtain ⟨t8, ht8⟩ : ∃ t, t = t7 ++ strOfNums [((s.size : Int) * 8) % 256] := ⟨_, rfl⟩
 rw [← ht8] at hps8 ⊢
 have HT8 := Aside0.mk ht8
 clear ht8 hps7
 rw [rounds_succ]
 go_wp2_with fail
 go_wp2_with fail
 refine (fresh_calls w10).mono ?_
 rintro e w11 ⟨⟨g, rfl, hH⟩, hb⟩
 have HH := Aside0.mk (hH.lower HB10.out.size)
 have HB11 := Aside0.mk (HB10.out.trans (hb.mono HB10.out.size))
 clear hH hb hcz
 obtain ⟨m, hm⟩ : ∃ m, t8.size = 64 * m := by
  have e1 := congrArg ByteArray.size HT8.out
  have e2 := congrArg ByteArray.size HT7.out
  have e3 := congrArg ByteArray.size HT6.out
  have e4 := congrArg ByteArray.size HT5.out
  have e5 := congrArg ByteArray.size HT4.out
  have e6 := congrArg ByteArray.size HT3.out
  have e7 := congrArg ByteArray.size HT2.out
  have e8 := congrArg ByteArray.size HT1.out
  have e9 := congrArg ByteArray.size HS.out
  rw [ByteArray.size_append, strOfNums_one] at e1 e2 e3 e4 e5 e6 e7 e8
  rw [ByteArray.size_append, ByteArray.size_append, HZ.out] at e9
  have e10 : (⟨#[128]⟩ : ByteArray).size = 1 := rfl
  have := HR.out
  exact ⟨t8.size / 64, by omega⟩
 have hlen8 : t8.size ≤ 9223372036854775807 := by omega
 have HM := Aside0.mk hm
 clear hm
 go_wp2_with fail
 go_loopg [3] m (fun r s3 wr => ∃ (t : ByteArray) (v : S8), t.size = 64 * r ∧ t.size ≤ 9223372036854775807 ∧ s3 = .string t ∧ Aside0 (blocksF r t v = blocksF m t8 shaV) ∧ Aside0 (HashAt w.heap.size g v.list wr) ∧ Aside0 (Below w.heap.size w wr))
 case atStart => exact ⟨t8, shaV, HM.out, hlen8, rfl, ⟨rfl⟩, ⟨by rw [shaV_list]; exact HH.out⟩, HB11⟩
 case round =>
  obtain ⟨t, v, ht, htm, rfl, HF, HA, HB⟩ := hrel
  cases gk with
  | zero =>
   have hem : t.toList.isEmpty = true := by
    rw [Go.Lib.toList_data]
    have : t.data.toList.length = 0 := by rw [← Go.Lib.size_eq]; omega
    rw [List.eq_nil_of_length_eq_zero this]; rfl
   have hF := HF.out
   rw [blocksF] at hF
   have HF2 := Aside0.mk hF
   have HT := Aside0.mk ht
   clear hF HF ht
   have hrow := HA.out.row
   obtain ⟨gk, ck, h1, -, -, -⟩ := hrow
   have hrange : wr.rangeAt g 0 (nums .u32 v.list) := by
    intro j u hu
    have hj := (List.getElem?_eq_some_iff.1 hu).1
    have := blk_cell h1 j
    rw [Nat.zero_add, this, List.getElem?_toArray, List.getElem?_append_left hj]
    exact hu
   have HRG := Aside0.mk hrange
   clear hrange h1
   obtain ⟨va, vb, vc, vd, ve, vf, vg, vh⟩ := v
   have q0 : ∀ W : World, (Instr.index 44 (.agg #[.int .u32 va, .int .u32 vb, .int .u32 vc, .int .u32 vd, .int .u32 ve, .int .u32 vf, .int .u32 vg, .int .u32 vh]) (.int .i64 0)).run Try.prog W = .ok (.int .u32 va) W := fun _ => by rfl
   have q1 : ∀ W : World, (Instr.index 44 (.agg #[.int .u32 va, .int .u32 vb, .int .u32 vc, .int .u32 vd, .int .u32 ve, .int .u32 vf, .int .u32 vg, .int .u32 vh]) (.int .i64 1)).run Try.prog W = .ok (.int .u32 vb) W := fun _ => by rfl
   have q2 : ∀ W : World, (Instr.index 44 (.agg #[.int .u32 va, .int .u32 vb, .int .u32 vc, .int .u32 vd, .int .u32 ve, .int .u32 vf, .int .u32 vg, .int .u32 vh]) (.int .i64 2)).run Try.prog W = .ok (.int .u32 vc) W := fun _ => by rfl
   have q3 : ∀ W : World, (Instr.index 44 (.agg #[.int .u32 va, .int .u32 vb, .int .u32 vc, .int .u32 vd, .int .u32 ve, .int .u32 vf, .int .u32 vg, .int .u32 vh]) (.int .i64 3)).run Try.prog W = .ok (.int .u32 vd) W := fun _ => by rfl
   have q4 : ∀ W : World, (Instr.index 44 (.agg #[.int .u32 va, .int .u32 vb, .int .u32 vc, .int .u32 vd, .int .u32 ve, .int .u32 vf, .int .u32 vg, .int .u32 vh]) (.int .i64 4)).run Try.prog W = .ok (.int .u32 ve) W := fun _ => by rfl
   have q5 : ∀ W : World, (Instr.index 44 (.agg #[.int .u32 va, .int .u32 vb, .int .u32 vc, .int .u32 vd, .int .u32 ve, .int .u32 vf, .int .u32 vg, .int .u32 vh]) (.int .i64 5)).run Try.prog W = .ok (.int .u32 vf) W := fun _ => by rfl
   have q6 : ∀ W : World, (Instr.index 44 (.agg #[.int .u32 va, .int .u32 vb, .int .u32 vc, .int .u32 vd, .int .u32 ve, .int .u32 vf, .int .u32 vg, .int .u32 vh]) (.int .i64 6)).run Try.prog W = .ok (.int .u32 vg) W := fun _ => by rfl
   have q7 : ∀ W : World, (Instr.index 44 (.agg #[.int .u32 va, .int .u32 vb, .int .u32 vc, .int .u32 vd, .int .u32 ve, .int .u32 vf, .int .u32 vg, .int .u32 vh]) (.int .i64 7)).run Try.prog W = .ok (.int .u32 vh) W := fun _ => by rfl
   go_wp2_with ((with_reducible refine gate_dst (N := 48) rfl ?_); refine wpList_load_mid rfl 44 (.tmp 47) rfl g 0 rfl [.int .u32 va, .int .u32 vb, .int .u32 vc, .int .u32 vd, .int .u32 ve, .int .u32 vf, .int .u32 vg, .int .u32 vh] _ HRG.out Try.underlying44 rfl (by kernel_rfl) ?_)
   go_wp2
   refine wp_loop_rounds 9 ?_
   have HO0 : Aside0 (wr.ownsRow w.heap.size 5 1 (.slice none 0 0) 0 (nums .u8 [])) := ⟨own_nil wr w.heap.size _ _⟩
   have HC0 := HB
   have hi5 : (Try.prog.info? 5).map (fun i => (i.zero, i.size, i.bytes)) = some (some (.int .u8 0), 1, 1) := by kernel_rfl
   obtain ⟨i0, hi, hz0, hz1, hz2⟩ := info_parts hi5
   clear hi5
   obtain ⟨y0, hy0⟩ : ∃ W, W = wr := ⟨_, rfl⟩
   rw [← hy0] at HO0 HC0 ⊢
   clear hy0
   rw [rounds_succ]
   have hsz := HC0.out.size
   have ho := HO0.out
   go_wp2_with (at_builtin; refine wpList_append_own _ rfl _ _ 39 rfl w.heap.size 5 i0 (.int .u8 0) 1 1 Try.underlying39 hi hz0 hz1 hz2 rfl (by decide) _ _ _ rfl (ho.alloc _) ⟨y0.heap.size, 0, none⟩ 4 4 (nums .u8 (out4 va)) rfl (by rfl) (World.news_of_block (cs := (nums .u8 (out4 va)).toArray) (t := 5) (fr := (0, 0)) (heap_alloc_new y0 _)) (by intro u hu; simp only [nums, List.mem_map] at hu; obtain ⟨n, _, rfl⟩ := hu; rfl) (by decide) (by decide) (by simp; omega) ?_; intro z1 y1 hown' hgrow _)
   have HO1 : Aside0 (y1.ownsRow w.heap.size 5 1 z1 4 (nums .u8 ([] ++ out4 va))) := ⟨by rw [nums_append]; exact hown'⟩
   have HC1 := Aside0.mk ((below_alloc HC0.out _).grown hgrow (by simp; omega) (fun k hk => (HO0.out.lt k hk).1))
   clear hown' hgrow ho hsz
   go_wp2
   rw [rounds_succ]
   have hsz := HC1.out.size
   have ho := HO1.out
   go_wp2_with (at_builtin; refine wpList_append_own _ rfl _ _ 39 rfl w.heap.size 5 i0 (.int .u8 0) 1 1 Try.underlying39 hi hz0 hz1 hz2 rfl (by decide) _ _ _ rfl (ho.alloc _) ⟨y1.heap.size, 0, none⟩ 4 4 (nums .u8 (out4 vb)) rfl (by rfl) (World.news_of_block (cs := (nums .u8 (out4 vb)).toArray) (t := 5) (fr := (0, 0)) (heap_alloc_new y1 _)) (by intro u hu; simp only [nums, List.mem_map] at hu; obtain ⟨n, _, rfl⟩ := hu; rfl) (by decide) (by decide) (by simp; omega) ?_; intro z2 y2 hown' hgrow _)
   have HO2 : Aside0 (y2.ownsRow w.heap.size 5 1 z2 8 (nums .u8 (([] ++ out4 va) ++ out4 vb))) := ⟨by rw [nums_append]; exact hown'⟩
   have HC2 := Aside0.mk ((below_alloc HC1.out _).grown hgrow (by simp; omega) (fun k hk => (HO1.out.lt k hk).1))
   clear hown' hgrow ho hsz
   go_wp2
   rw [rounds_succ]
   have hsz := HC2.out.size
   have ho := HO2.out
   go_wp2_with (at_builtin; refine wpList_append_own _ rfl _ _ 39 rfl w.heap.size 5 i0 (.int .u8 0) 1 1 Try.underlying39 hi hz0 hz1 hz2 rfl (by decide) _ _ _ rfl (ho.alloc _) ⟨y2.heap.size, 0, none⟩ 4 4 (nums .u8 (out4 vc)) rfl (by rfl) (World.news_of_block (cs := (nums .u8 (out4 vc)).toArray) (t := 5) (fr := (0, 0)) (heap_alloc_new y2 _)) (by intro u hu; simp only [nums, List.mem_map] at hu; obtain ⟨n, _, rfl⟩ := hu; rfl) (by decide) (by decide) (by simp; omega) ?_; intro z3 y3 hown' hgrow _)
   have HO3 : Aside0 (y3.ownsRow w.heap.size 5 1 z3 12 (nums .u8 ((([] ++ out4 va) ++ out4 vb) ++ out4 vc))) := ⟨by rw [nums_append]; exact hown'⟩
   have HC3 := Aside0.mk ((below_alloc HC2.out _).grown hgrow (by simp; omega) (fun k hk => (HO2.out.lt k hk).1))
   clear hown' hgrow ho hsz
   go_wp2
   rw [rounds_succ]
   have hsz := HC3.out.size
   have ho := HO3.out
   go_wp2_with (at_builtin; refine wpList_append_own _ rfl _ _ 39 rfl w.heap.size 5 i0 (.int .u8 0) 1 1 Try.underlying39 hi hz0 hz1 hz2 rfl (by decide) _ _ _ rfl (ho.alloc _) ⟨y3.heap.size, 0, none⟩ 4 4 (nums .u8 (out4 vd)) rfl (by rfl) (World.news_of_block (cs := (nums .u8 (out4 vd)).toArray) (t := 5) (fr := (0, 0)) (heap_alloc_new y3 _)) (by intro u hu; simp only [nums, List.mem_map] at hu; obtain ⟨n, _, rfl⟩ := hu; rfl) (by decide) (by decide) (by simp; omega) ?_; intro z4 y4 hown' hgrow _)
   have HO4 : Aside0 (y4.ownsRow w.heap.size 5 1 z4 16 (nums .u8 (((([] ++ out4 va) ++ out4 vb) ++ out4 vc) ++ out4 vd))) := ⟨by rw [nums_append]; exact hown'⟩
   have HC4 := Aside0.mk ((below_alloc HC3.out _).grown hgrow (by simp; omega) (fun k hk => (HO3.out.lt k hk).1))
   clear hown' hgrow ho hsz
   go_wp2
   rw [rounds_succ]
   have hsz := HC4.out.size
   have ho := HO4.out
   go_wp2_with (at_builtin; refine wpList_append_own _ rfl _ _ 39 rfl w.heap.size 5 i0 (.int .u8 0) 1 1 Try.underlying39 hi hz0 hz1 hz2 rfl (by decide) _ _ _ rfl (ho.alloc _) ⟨y4.heap.size, 0, none⟩ 4 4 (nums .u8 (out4 ve)) rfl (by rfl) (World.news_of_block (cs := (nums .u8 (out4 ve)).toArray) (t := 5) (fr := (0, 0)) (heap_alloc_new y4 _)) (by intro u hu; simp only [nums, List.mem_map] at hu; obtain ⟨n, _, rfl⟩ := hu; rfl) (by decide) (by decide) (by simp; omega) ?_; intro z5 y5 hown' hgrow _)
   have HO5 : Aside0 (y5.ownsRow w.heap.size 5 1 z5 20 (nums .u8 ((((([] ++ out4 va) ++ out4 vb) ++ out4 vc) ++ out4 vd) ++ out4 ve))) := ⟨by rw [nums_append]; exact hown'⟩
   have HC5 := Aside0.mk ((below_alloc HC4.out _).grown hgrow (by simp; omega) (fun k hk => (HO4.out.lt k hk).1))
   clear hown' hgrow ho hsz
   go_wp2
   rw [rounds_succ]
   have hsz := HC5.out.size
   have ho := HO5.out
   go_wp2_with (at_builtin; refine wpList_append_own _ rfl _ _ 39 rfl w.heap.size 5 i0 (.int .u8 0) 1 1 Try.underlying39 hi hz0 hz1 hz2 rfl (by decide) _ _ _ rfl (ho.alloc _) ⟨y5.heap.size, 0, none⟩ 4 4 (nums .u8 (out4 vf)) rfl (by rfl) (World.news_of_block (cs := (nums .u8 (out4 vf)).toArray) (t := 5) (fr := (0, 0)) (heap_alloc_new y5 _)) (by intro u hu; simp only [nums, List.mem_map] at hu; obtain ⟨n, _, rfl⟩ := hu; rfl) (by decide) (by decide) (by simp; omega) ?_; intro z6 y6 hown' hgrow _)
   have HO6 : Aside0 (y6.ownsRow w.heap.size 5 1 z6 24 (nums .u8 (((((([] ++ out4 va) ++ out4 vb) ++ out4 vc) ++ out4 vd) ++ out4 ve) ++ out4 vf))) := ⟨by rw [nums_append]; exact hown'⟩
   have HC6 := Aside0.mk ((below_alloc HC5.out _).grown hgrow (by simp; omega) (fun k hk => (HO5.out.lt k hk).1))
   clear hown' hgrow ho hsz
   go_wp2
   rw [rounds_succ]
   have hsz := HC6.out.size
   have ho := HO6.out
   go_wp2_with (at_builtin; refine wpList_append_own _ rfl _ _ 39 rfl w.heap.size 5 i0 (.int .u8 0) 1 1 Try.underlying39 hi hz0 hz1 hz2 rfl (by decide) _ _ _ rfl (ho.alloc _) ⟨y6.heap.size, 0, none⟩ 4 4 (nums .u8 (out4 vg)) rfl (by rfl) (World.news_of_block (cs := (nums .u8 (out4 vg)).toArray) (t := 5) (fr := (0, 0)) (heap_alloc_new y6 _)) (by intro u hu; simp only [nums, List.mem_map] at hu; obtain ⟨n, _, rfl⟩ := hu; rfl) (by decide) (by decide) (by simp; omega) ?_; intro z7 y7 hown' hgrow _)
   have HO7 : Aside0 (y7.ownsRow w.heap.size 5 1 z7 28 (nums .u8 ((((((([] ++ out4 va) ++ out4 vb) ++ out4 vc) ++ out4 vd) ++ out4 ve) ++ out4 vf) ++ out4 vg))) := ⟨by rw [nums_append]; exact hown'⟩
   have HC7 := Aside0.mk ((below_alloc HC6.out _).grown hgrow (by simp; omega) (fun k hk => (HO6.out.lt k hk).1))
   clear hown' hgrow ho hsz
   go_wp2
   rw [rounds_succ]
   have hsz := HC7.out.size
   have ho := HO7.out
   go_wp2_with (at_builtin; refine wpList_append_own _ rfl _ _ 39 rfl w.heap.size 5 i0 (.int .u8 0) 1 1 Try.underlying39 hi hz0 hz1 hz2 rfl (by decide) _ _ _ rfl (ho.alloc _) ⟨y7.heap.size, 0, none⟩ 4 4 (nums .u8 (out4 vh)) rfl (by rfl) (World.news_of_block (cs := (nums .u8 (out4 vh)).toArray) (t := 5) (fr := (0, 0)) (heap_alloc_new y7 _)) (by intro u hu; simp only [nums, List.mem_map] at hu; obtain ⟨n, _, rfl⟩ := hu; rfl) (by decide) (by decide) (by simp; omega) ?_; intro z8 y8 hown' hgrow _)
   have HO8 : Aside0 (y8.ownsRow w.heap.size 5 1 z8 32 (nums .u8 (((((((([] ++ out4 va) ++ out4 vb) ++ out4 vc) ++ out4 vd) ++ out4 ve) ++ out4 vf) ++ out4 vg) ++ out4 vh))) := ⟨by rw [nums_append]; exact hown'⟩
   have HC8 := Aside0.mk ((below_alloc HC7.out _).grown hgrow (by simp; omega) (fun k hk => (HO7.out.lt k hk).1))
   clear hown' hgrow ho hsz
   go_wp2
   rw [rounds_succ]
   obtain ⟨A8, c8, rfl, hreads⟩ := own_reads HO8.out
   have hcv := string_of_reads (src := 39) (dst := 9) (e := 5) (c := c8) Try.underlying39 Try.underlying5 Try.underlying9 hreads
   clear hreads
   go_wp2
   clear hcv
   go_ret
   refine ⟨?_, HC8.out⟩
   have e8 : sumFill s = t8 := by
    unfold sumFill
    rw [← HT0.out, ← HT1.out, ← HT2.out, ← HT3.out, ← HT4.out, ← HT5.out, ← HT6.out, ← HT7.out, ← HT8.out]
   have e : shaF s = strOfNums (out4 va ++ (out4 vb ++ (out4 vc ++ (out4 vd ++ (out4 ve ++ (out4 vf ++ (out4 vg ++ out4 vh))))))) := by
    unfold shaF
    rw [e8, HM.out, Nat.mul_div_cancel_left _ (by decide), ← HF2.out]
    simp only [shaOut, List.nil_append, List.append_assoc]
   rw [← HSJ.out, e]
   rfl
  | succ r =>
   have hem : t.toList.isEmpty = false := by
    rw [Go.Lib.toList_data]
    have : t.data.toList.length ≠ 0 := by rw [← Go.Lib.size_eq]; omega
    cases h : t.data.toList with
    | nil => rw [h] at this; simp at this
    | cons _ _ => rfl
   have h64 : 64 ≤ t.size := by omega
   have h64' : (64 : Int) ≤ (t.size : Int) := by omega
   have HT := Aside0.mk ht
   have HF2 := Aside0.mk HF.out
   clear ht HF
   go_wp2_with fail
   refine (block_calls w.heap.size g v t _ HA.out h64 HB.out.size).mono ?_
   rintro e w12 ⟨rfl, hA, hb⟩
   have HA2 := Aside0.mk hA
   have HB2 := Aside0.mk (HB.out.trans hb)
   clear hA hb
   go_wp2
   go_roundg r
   case measure => omega
   case rel =>
    have ht := HT.out
    exact ⟨t.extract 64 t.size, blkF t v, by rw [ByteArray.size_extract]; omega, by rw [ByteArray.size_extract]; omega, rfl, ⟨by rw [← HF2.out, blocksF]⟩, HA2, HB2⟩


/-! ### digest_Sum: function 10 -/
def digest_Sum.f (l0 : List ByteArray) : Option (ByteArray) := if (joinB l0).size ≤ 1099511627776 ∧ l0.length ≤ 1099511627776 then some (shaF (joinB l0)) else none
theorem digest_Sum.calls (A0 : Option Addr) (c0 : Nat) (l0 : List ByteArray) (r : ByteArray) (w : World) (hr0 : Kd.C Kd.string w A0 l0.length l0) (hc0 : l0.length ≤ c0) (h : digest_Sum.f l0 = some r) :
  Calls Try.prog 10 #[.slice A0 l0.length c0] w fun e w' => e = .returned (.string r) ∧ Below w.heap.size w w' := by
 unfold digest_Sum.f at h
 by_cases c : (joinB l0).size ≤ 1099511627776 ∧ l0.length ≤ 1099511627776
 ·rw [if_pos c] at h
  obtain rfl := Option.some.inj h
  exact Sum_calls A0 c0 l0 w hr0 hc0 c.1 c.2
 ·rw [if_neg c] at h
  exact absurd h (by simp)

/-! ### a row of bytes that a conversion has made, byte by byte -/
structure BRow (g : Nat) (m : List Int) (w0 w : World) : Prop where
 cell : ∀ j, j < m.length → w.cell? ⟨g, j, none⟩ = some (.int .u8 (m.getD j 0))
 free : ∀ j, j < m.length → w.frozen? ⟨g, j, none⟩ = false
 below : Below w0.heap.size w0 w
 low : w0.heap.size ≤ g
theorem below_bytes_ (w : World) (e : TypeId) (s : ByteArray) : Below w.heap.size w (Lib.bytesWorld w e s) :=
 ⟨rfl, rfl, rfl, by rw [Lib.bytesWorld_size]; omega, fun k hk => Lib.bytesWorld_at_old w e s k hk⟩
theorem BRow.new (w : World) (s : ByteArray) : BRow w.heap.size (bytesOf s) w (Lib.bytesWorld w 5 s) := by
 refine ⟨fun j hj => ?_, fun j hj => ?_, below_bytes_ w 5 s, Nat.le_refl _⟩
 ·rw [bytesOf_length] at hj
  rw [Lib.bytesWorld_cell w 5 s j hj]
  unfold bytesOf
  simp [List.getD_eq_getElem?_getD, hj]
 ·rw [bytesOf_length] at hj
  unfold World.frozen?
  rw [Lib.bytesWorld_at_new]
  have : s.size ≤ (Lib.bytesCells w 5 s).size := by simp [Lib.bytesCells]
  simp
  omega
theorem BRow.drew {g : Nat} {m : List Int} {w0 w : World} (h : BRow g m w0 w) : BRow g m w0 w.drew := ⟨h.cell, h.free, below_drew1 h.below, h.low⟩
theorem BRow.put {g : Nat} {m : List Int} {w0 w : World} (h : BRow g m w0 w) (k : Nat) (hk : k < m.length) (x : Int) : BRow g (m.set k x) w0 (w.setCell ⟨g, k, none⟩ (.int .u8 x)) := by
 refine ⟨fun j hj => ?_, fun j hj => ?_, below_set h.below h.low, h.low⟩
 ·rw [List.length_set] at hj
  by_cases e : k = j
  ·subst e
   rw [World.cell?_setCell_same w ⟨g, k, none⟩ (.int .u8 x) (h.cell k hk)]
   simp [List.getD_eq_getElem?_getD, hk]
  ·rw [World.cell?_setCell_other w ⟨g, k, none⟩ ⟨g, j, none⟩ (.int .u8 x) (fun h => e (by injection h)), h.cell j hj]
   simp [List.getD_eq_getElem?_getD, e]
 ·rw [List.length_set] at hj
  exact (World.frozen?_setCell _ _ _ _).trans (h.free j hj)
theorem BRow.reads {g : Nat} {m : List Int} {w0 w : World} (h : BRow g m w0 w) (hm : m.length ≤ 9223372036854775807) : ReadsInt w .u8 (some ⟨g, 0, none⟩) m.length m :=
 ⟨rfl, hm, fun _ => ⟨_, rfl, fun j hj => by
  have e : (⟨g, 0, none⟩ : Addr).add j = ⟨g, j, none⟩ := by unfold Addr.add; split <;> simp_all
  rw [e]; exact h.cell j hj⟩⟩
theorem toNat1_ (i : Nat) : ((1 : Int) + (i : Int)).toNat = 1 + i := by omega
theorem bt1_ (a : ByteArray) (i : Nat) : ∀ h : 1 + i < a.size, ((a[1 + i]'h).toNat : Int) = bt a (1 + (i : Int)) := fun h => by
 have h2 := bt_at a (1 + (i : Int)) (by rw [toNat1_]; exact h)
 simpa only [toNat1_] using h2

/-! ### digest_Xor: function 13 -/
def xorL (b : ByteArray) : Nat → Nat → List Int → List Int
 | 0, _, m => m
 | r + 1, i, m => xorL b r (i + 1) (m.set i (Go.bits .xor .u8 (m.getD i 0) (bt b (i : Int))))
def xorF (a b : ByteArray) : ByteArray := strOfNums (xorL b (min a.size b.size) 0 (bytesOf (a.extract 0 (min a.size b.size))))
theorem extract_full_ (s : ByteArray) : s.extract 0 s.size = s := by simp
def digest_Xor.f (a0 : ByteArray) (a1 : ByteArray) : Option (ByteArray) := if a0.size ≤ 9223372036854775807 ∧ a1.size ≤ 9223372036854775807 then some (xorF a0 a1) else none
set_option maxHeartbeats 1600000 in
set_option maxRecDepth 100000 in
theorem digest_Xor.calls (a0 : ByteArray) (a1 : ByteArray) (r : ByteArray) (w : World) (h : digest_Xor.f a0 a1 = some r) :
  Calls Try.prog 13 #[.string a0, .string a1] w fun e w' => e = .returned (.string r) ∧ Below w.heap.size w w' := by
 unfold digest_Xor.f at h
 by_cases hg : a0.size ≤ 9223372036854775807 ∧ a1.size ≤ 9223372036854775807
 rotate_left
 ·rw [if_neg hg] at h
  simp at h
 rw [if_pos hg] at h
 obtain ⟨hmax, hmax1⟩ := hg
 obtain rfl := Option.some.inj h
 clear h
 obtain ⟨n, hn⟩ : ∃ n, n = min a0.size a1.size := ⟨_, rfl⟩
 have hn0 : n ≤ a0.size := by omega
 have hn1 : n ≤ a1.size := by omega
 have HN := Aside0.mk hn
 obtain ⟨s, hs⟩ : ∃ s, s = a0.extract 0 n := ⟨_, rfl⟩
 have hsz : s.size = n := by rw [hs, ByteArray.size_extract]; omega
 have HSE := Aside0.mk hs
 have HB0 := Aside0.mk (BRow.new w s)
 have HL := Aside0.mk (bytesOf_length s)
 have hcv := Lib.run_convert_string_bytes (P := Try.prog) w 9 39 5 s Try.underlying9 Try.underlying39 Try.underlying5
 have hcase : (¬ a1.size < a0.size ∧ s = a0) ∨ (a1.size < a0.size ∧ s = a0.extract 0 a1.size) := by
  by_cases hlt : a1.size < a0.size
  ·exact Or.inr ⟨hlt, by rw [hs, show n = a1.size by omega]⟩
  ·refine Or.inl ⟨hlt, ?_⟩
   rw [hs, show n = a0.size by omega]
   exact extract_full_ a0
 rw [hsz] at hcv
 have hcv1 : (convert 9 39 (.string (s.extract 0 n))).run Try.prog w = .ok (.slice (some ⟨w.heap.size, 0, none⟩) n (grownCap w n 0 5)) (Lib.bytesWorld w 5 s) := by
  have e : s.extract 0 n = s := by rw [← hsz]; exact extract_full_ s
  rw [e]
  exact hcv
 obtain ⟨gx, hgx⟩ : ∃ g, g = w.heap.size := ⟨_, rfl⟩
 rw [← hgx] at hcv hcv1
 have HGX := Aside0.mk hgx
 have HB1 : Aside0 (BRow gx (bytesOf s) w (Lib.bytesWorld w 5 s)) := ⟨by rw [hgx]; exact HB0.out⟩
 have HXF : Aside0 (xorF a0 a1 = strOfNums (xorL a1 n 0 (bytesOf s))) := ⟨by unfold xorF; rw [← hn, ← hs]⟩
 have hl0 : (bytesOf s).length = n := by rw [HL.out, hsz]
 obtain ⟨m0, hm0⟩ : ∃ m, m = bytesOf s := ⟨_, rfl⟩
 obtain ⟨w1, hw1⟩ : ∃ W, W = Lib.bytesWorld w 5 s := ⟨_, rfl⟩
 rw [← hw1] at hcv hcv1 HB1
 rw [← hm0] at HB1 HXF hl0
 have HL0 := Aside0.mk hl0
 obtain ⟨M, hM⟩ : ∃ M, M = xorL a1 n 0 m0 := ⟨_, rfl⟩
 rw [← hM] at HXF
 have HMM := Aside0.mk hM.symm
 have hnm : n ≤ 9223372036854775807 := by omega
 have HXE := Aside0.mk (show xorF a0 a1 = strOfNums M from HXF.out)
 clear hs hn HB0 hgx hm0 hw1 hl0 hM hsz HSE HL
 rcases hcase with ⟨hlt, hs⟩ | ⟨hlt, hs⟩
 all_goals
  subst hs
  go_enter Try.func13, Try.ntmps13
  go_wp2
  clear hcv hcv1
  go_loopg [6, 17] n (fun r s6 s17 wr => ∃ (i : Nat) (m : List Int), i + r = n ∧ s17 = .int .i64 (i : Int) ∧ m.length = n ∧ Aside0 (xorL a1 r i m = M) ∧ Aside0 (BRow gx m w wr))
  case atStart => exact ⟨0, m0, by omega, rfl, HL0.out, HMM, HB1⟩
  case round =>
   obtain ⟨i, m, hi, rfl, hml, HX, HR⟩ := hrel
   cases gk with
   | zero =>
    have hi2 : n ≤ i := by omega
    have hx := HX.out
    rw [xorL] at hx
    have hcs := string_of_reads (src := 39) (dst := 9) (e := 5) (c := grownCap w n 0 5) Try.underlying39 Try.underlying5 Try.underlying9 (HR.out.reads (by omega))
    rw [hml] at hcs
    have HX2 := Aside0.mk hx
    clear hx HX hml
    go_wp2
    go_ret
    refine ⟨?_, HR.out.below⟩
    rw [HXE.out, ← HX2.out]
    rfl
   | succ r =>
    have hin : i < n := by omega
    have hii : (i : Int) < (n : Int) := by omega
    have hx := HX.out
    rw [xorL] at hx
    have HR2 := Aside0.mk HR.out.drew
    have hc : wr.drew.cell? ⟨gx, i, none⟩ = some (.int .u8 (m.getD i 0)) := HR2.out.cell i (by omega)
    have hf : wr.drew.frozen? ⟨gx, i, none⟩ = false := HR2.out.free i (by omega)
    generalize m.getD i 0 = x0 at hc hx
    have HX2 := Aside0.mk hx
    have hi1 : i < a1.size := by omega
    have hi1' : (i : Int) < (a1.size : Int) := by omega
    have hb := bt_at a1 (i : Int)
    rw [Int.toNat_natCast] at hb
    clear hx HX
    have HML := Aside0.mk hml
    clear hml
    go_wp2_with fail
    go_still_tail 9, (by kernel_rfl)
    change wpList _ _ _ _ _ wr.drew
    generalize wr.drew = w4 at HR2 hc hf ⊢
    have H4 := Aside0.mk (HR2.out.put i (by rw [HML.out]; exact hin) (Go.bits .xor .u8 x0 (bt a1 (i : Int))))
    clear HR2 hb
    go_wp2
    go_roundg r
    case measure => omega
    case rel => exact ⟨i + 1, _, by omega, by go_num, by rw [List.length_set]; exact HML.out, HX2, H4⟩

-- NOT PRINTED: function 26 (strings_Builder_WriteByte)

/-! ### strings.Builder at a place of a block that the call has made -/
/-- Below B all is as it was, but for block g. -/
structure KeptG (B g : Nat) (w w' : World) : Prop where
 os : w'.os = w.os
 tape : w'.tape = w.tape
 output : w'.output = w.output
 size : w.heap.size ≤ w'.heap.size
 block : ∀ k, k < B → k ≠ g → w'.heap[k]? = w.heap[k]?
theorem KeptG.refl (B g : Nat) (w : World) : KeptG B g w w := ⟨rfl, rfl, rfl, Nat.le_refl _, fun _ _ _ => rfl⟩
theorem KeptG.trans {B g : Nat} {a b c : World} (h1 : KeptG B g a b) (h2 : KeptG B g b c) : KeptG B g a c :=
 ⟨h2.os.trans h1.os, h2.tape.trans h1.tape, h2.output.trans h1.output, Nat.le_trans h1.size h2.size, fun k hk hg => (h2.block k hk hg).trans (h1.block k hk hg)⟩
theorem KeptG.grown {B g : Nat} {a w w' : World} {row : Option Nat} (h : KeptG B g a w) (hg : w.grownBy w' row) (hB : B ≤ w.heap.size) (hr : ∀ k, row = some k → B ≤ k ∨ k = g) : KeptG B g a w' :=
 h.trans ⟨hg.os, hg.tape, hg.output, hg.size, fun k hk hkg => hg.block k (by omega) (fun e => by rcases hr k e.symm with h | h <;> omega)⟩
theorem KeptG.alloc {B g : Nat} {a w : World} (h : KeptG B g a w) (hB : B ≤ w.heap.size) (o : Obj) : KeptG B g a (w.alloc o) :=
 h.trans ⟨rfl, rfl, rfl, by simp, fun k hk _ => heap_alloc_old _ _ (by omega)⟩
theorem KeptG.ofBelow {B g : Nat} {a w w' : World} (h : KeptG B g a w) (hb : Below B w w') : KeptG B g a w' :=
 h.trans ⟨hb.os, hb.tape, hb.output, hb.size, fun k hk _ => hb.block k hk⟩
theorem KeptG.below {B g C : Nat} {a w : World} (h : KeptG B g a w) (hB : C ≤ B) (hg : C ≤ g) : Below C a w :=
 ⟨h.os, h.tape, h.output, h.size, fun k hk => h.block k (by omega) (by omega)⟩
theorem KeptG.cell {B g : Nat} {a w : World} (h : KeptG B g a w) (p : Addr) (hp : p.block < B) (hg : p.block ≠ g) : w.cell? p = a.cell? p := by
 unfold World.cell?
 rw [h.block _ hp hg]
/-- In block g, from place o on, there is a strings.Builder that holds the bytes s: its row is its own (from block B on), and no part of g. -/
structure Bldr (B g o : Nat) (t : TypeId) (cs : List Value) (s : ByteArray) (w : World) : Prop where
 blk : w.heap[g]? = some (.cells cs.toArray t (0, 0))
 ptr : cs[o]? = some (.pointer none) ∨ cs[o]? = some (.pointer (some ⟨g, o, none⟩))
 row : ∃ v, cs[o + 1]? = some v ∧ w.ownsRow B 5 1 v s.size (Lib.strCells s) ∧ v.ownBlock ≠ some g
/-- The type of the block has a strings.Builder at o. -/
structure BldrT (t o n : Nat) : Prop where
 len : o + 1 < n
 lies : liesAt Try.prog Try.prog.depth t (n / Try.prog.cellsOf t) o 53 1 = true
 ne : t ≠ 5
theorem bldr_size : (Try.prog.info? 53).map (·.size) = some 2 := by kernel_rfl
theorem bldr_info5 : (Try.prog.info? 5).map (fun i => (i.zero, i.size, i.bytes)) = some (some (.int .u8 0), 1, 1) := by kernel_rfl
theorem Bldr.cell {B g o : Nat} {t : TypeId} {cs : List Value} {s : ByteArray} {w : World} (h : Bldr B g o t cs s w) (i : Nat) : w.cell? ⟨g, i, none⟩ = cs[i]? := by
 have := blk_cell h.blk i
 simpa using this
theorem Bldr.frozen {B g o : Nat} {t : TypeId} {cs : List Value} {s : ByteArray} {w : World} (h : Bldr B g o t cs s w) (i : Nat) : w.frozen? ⟨g, i, none⟩ = false := blk_frozen h.blk i
theorem Bldr.below {B g o : Nat} {t : TypeId} {cs : List Value} {s : ByteArray} {w w' : World} (h : Bldr B g o t cs s w) (hb : Below w.heap.size w w') : Bldr B g o t cs s w' := by
 obtain ⟨v, hv, ho, hne⟩ := h.row
 exact ⟨blk_below h.blk hb, h.ptr, v, hv, ho.kept (grown_of_below hb none) (by cases h1 : v.ownBlock <;> simp), hne⟩
theorem Bldr.drewN {B g o : Nat} {t : TypeId} {cs : List Value} {s : ByteArray} {w : World} (h : Bldr B g o t cs s w) (n : Nat) : Bldr B g o t cs s (w.drewN n) := by
 obtain ⟨v, hv, ho, hne⟩ := h.row
 exact ⟨blk_drewN h.blk n, h.ptr, v, hv, pw_own_drewN ho n, hne⟩
theorem Bldr.drew {B g o : Nat} {t : TypeId} {cs : List Value} {s : ByteArray} {w : World} (h : Bldr B g o t cs s w) : Bldr B g o t cs s w.drew := by
 obtain ⟨v, hv, ho, hne⟩ := h.row
 exact ⟨blk_drew h.blk, h.ptr, v, hv, own_drew ho, hne⟩
theorem strCells_append (a b : ByteArray) : Lib.strCells (a ++ b) = Lib.strCells a ++ Lib.strCells b := by
 simp [Lib.strCells]
set_option maxHeartbeats 1000000 in
set_option maxRecDepth 100000 in
theorem bldr_check (B g o : Nat) (t : TypeId) (cs : List Value) (s : ByteArray) (w : World) (T : BldrT t o cs.length) (h : Bldr B g o t cs s w) :
  Calls Try.prog 40 #[.pointer (some ⟨g, o, none⟩)] w fun e w' => e = .returned (.tuple #[]) ∧ Bldr B g o t (cs.set o (.pointer (some ⟨g, o, none⟩))) s w' ∧ w'.heap.size = w.heap.size ∧ w.grownBy w' (some g) := by
 obtain ⟨j, hj, hjs⟩ := Option.map_eq_some_iff.1 bldr_size
 have hl := T.len
 have hlo : o < cs.length := by omega
 rcases h.ptr with hp | hp
 ·have c0 : w.cell? ⟨g, o, none⟩ = some (.pointer none) := (h.cell o).trans hp
  have hf := h.frozen o
  have hsh : w.shape? g = some (t, cs.length) := by simp [World.shape?, h.blk]
  have HH := Aside0.mk h
  have HP := Aside0.mk hp
  clear h hp
  go_enter Try.func40, Try.ntmps40
  go_wp2
  rw [Lib.run_to_unsafe w ⟨g, o, none⟩ Try.underlying51 Try.underlying83 hj (by rw [hjs]; decide) hsh hlo]
  simp only [Result.andThen]
  rw [Oper.upon_value]
  go_wp2
  rw [run_callFunc_extern Try.func51 (by kernel_rfl) (by kernel_rfl) (by kernel_rfl) (e := Extern.AbiNoEscape.same) (by kernel_rfl)]
  rw [Lib.run_noEscape]
  simp only [Result.andThen]
  rw [Oper.upon_value]
  go_wp2
  rw [Lib.run_from_unsafe w ⟨g, o, none⟩ Try.underlying83 Try.underlying51 hj hsh T.lies]
  simp only [Result.andThen]
  rw [Oper.upon_value]
  go_wp2
  go_end0
  obtain ⟨v, hv, ho, hne⟩ := HH.out.row
  have hg : w.grownBy (w.setCell ⟨g, o, none⟩ (.pointer (some ⟨g, o, none⟩))) (some g) :=
   ⟨rfl, rfl, rfl, by simp [World.setCell], fun k _ hk => Below.heap_setCell _ _ _ _ (fun e => hk (by rw [e]))⟩
  refine ⟨rfl, ⟨blk_put HH.out.blk o _ (by simp), Or.inr (by simp [hlo]), v, ?_, ho.kept hg (Or.inr hne), hne⟩, by simp [World.setCell], hg⟩
  rw [List.getElem?_set_ne (by omega)]; exact hv
 ·have c0 : w.cell? ⟨g, o, none⟩ = some (.pointer (some ⟨g, o, none⟩)) := (h.cell o).trans hp
  have e : cs.set o (.pointer (some ⟨g, o, none⟩)) = cs := by
   apply List.ext_getElem?
   intro i
   rw [List.getElem?_set]
   split
   ·rename_i h1; subst h1; first | exact hp.symm | (rw [if_pos hlo]; exact hp.symm)
   ·rfl
  rw [e]
  have HH := Aside0.mk h
  clear h hp e
  go_enter Try.func40, Try.ntmps40
  go_wp2
  rw [Lib.run_neq_ptr_same w _ Try.underlying51 hj]
  go_wp2
  go_end0
  exact ⟨rfl, HH.out, rfl, ⟨rfl, rfl, rfl, Nat.le_refl _, fun _ _ _ => rfl⟩⟩
set_option maxHeartbeats 2000000 in
set_option maxRecDepth 100000 in
theorem bldr_write (B g o : Nat) (t : TypeId) (cs : List Value) (s x : ByteArray) (w : World) (T : BldrT t o cs.length) (h : Bldr B g o t cs s w) (hlen : s.size + x.size ≤ 140737488355328) (hBw : B ≤ w.heap.size) :
  Calls Try.prog 30 #[.pointer (some ⟨g, o, none⟩), .string x] w fun e w' => e = .returned (.tuple #[.int .i64 x.size, .nilIface]) ∧
   (∃ v, Bldr B g o t ((cs.set o (.pointer (some ⟨g, o, none⟩))).set (o + 1) v) (s ++ x) w') ∧ KeptG B g w w' := by
 obtain ⟨i0, hi, hz0, hz1, hz2⟩ := info_parts bldr_info5
 have hl := T.len
 go_enter Try.func30, Try.ntmps30
 go_wp2_with fail
 refine (bldr_check B g o t cs s _ T h).mono ?_
 rintro e w1 ⟨rfl, h1, hz, hg1⟩
 clear h
 obtain ⟨v, hv, ho, hne⟩ := h1.row
 have c1 : w1.cell? ⟨g, o + 1, none⟩ = some v := (h1.cell (o + 1)).trans hv
 have H1 := Aside0.mk h1
 have HV := Aside0.mk hv
 have HZ := Aside0.mk hz
 clear h1 hv hz
 go_wp2_with (at_builtin; refine Lib.wpList_append_own_string _ rfl _ _ 39 9 rfl B 5 i0 Try.underlying39 Try.underlying9 hi hz0 hz1 hz2 _ _ _ rfl ho x rfl ?c3 ?c4 ?c5 ?_)
 case c3 => unfold maxLen; omega
 case c4 => omega
 case c5 => rw [HZ.out]; exact hBw
 intro v' w2 hown' hgrow _
 have hlt : g < w1.heap.size := blk_lt H1.out.blk
 have hb2 := blk_grown H1.out.blk hgrow (fun e => hne e.symm)
 have d1 : w2.cell? ⟨g, o + 1, none⟩ = some v := by
  have := blk_cell hb2 (o + 1)
  exact this.trans (by simpa using HV.out)
 have f1 : w2.frozen? ⟨g, o + 1, none⟩ = false := blk_frozen hb2 _
 obtain ⟨ao, n', cap, rfl⟩ : ∃ ao n' cap, v' = .slice ao n' cap := by
  rcases hown'.2 with ⟨hv, _⟩ | ⟨g, cap, cur, hv, _⟩
  ·exact ⟨_, _, _, hv⟩
  ·exact ⟨_, _, _, hv⟩
 have HO := Aside0.mk hown'
 have HG := Aside0.mk hgrow
 have HB2 := Aside0.mk hb2
 have HO1 := Aside0.mk ho
 clear hown' hgrow hb2 ho c1
 go_wp2
 go_ret2
 have hg : w2.grownBy (w2.setCell ⟨g, o + 1, none⟩ (.slice ao n' cap)) (some g) :=
  ⟨rfl, rfl, rfl, by simp [World.setCell], fun k _ hk => Below.heap_setCell _ _ _ _ (fun e => hk (by rw [e]))⟩
 have hne2 : (Value.slice ao n' cap).ownBlock ≠ some g := by
  intro e
  rcases HO.out.2 with ⟨hv, _⟩ | ⟨g', cap', cur, hv, _, hh, _⟩
  ·rw [hv] at e; simp [Value.ownBlock] at e
  ·rw [hv] at e
   simp [Value.ownBlock] at e
   subst e
   rw [HB2.out] at hh
   injection hh with hh
   injection hh with _ hh _
   exact T.ne hh
 refine ⟨rfl, ⟨.slice ao n' cap, ?_, ?_, .slice ao n' cap, ?_, ?_, hne2⟩, ?_⟩
 ·exact blk_put HB2.out (o + 1) _ (by simp)
 ·rw [List.getElem?_set_ne (by omega)]; exact Or.inr (by rw [List.getElem?_set_self (by omega)])
 ·rw [List.getElem?_set_self (by simp; omega)]
 ·have := HO.out.kept hg (Or.inr hne2)
  rw [strCells_append]
  have hs : (s ++ x).size = s.size + x.size := ByteArray.size_append
  rw [hs]
  simpa [Lib.strCells_length] using this
 ·exact (((KeptG.refl B g w).grown hg1 hBw (fun k hk => Or.inr (Option.some.inj hk).symm)).grown HG.out (by rw [HZ.out]; exact hBw) (fun k hk => Or.inl (HO1.out.lt k hk).1)).grown hg (Nat.le_trans (by rw [HZ.out]; exact hBw) HG.out.size) (fun k hk => Or.inr (Option.some.inj hk).symm)
theorem strCells_one_ (x : Int) (h : 0 ≤ x ∧ x ≤ 255) : Lib.strCells (strOfNums [x]) = [.int .u8 x] := by
 obtain ⟨n, rfl⟩ : ∃ n : Nat, x = (n : Int) := ⟨x.toNat, by omega⟩
 have hn : n < 256 := by omega
 have e : ((UInt8.ofNat n).toNat : Int) = (n : Int) := by simp; omega
 show [Value.int .u8 ((UInt8.ofNat ((n : Int)).toNat).toNat : Int)] = _
 rw [Int.toNat_natCast, e]
set_option maxHeartbeats 2000000 in
set_option maxRecDepth 100000 in
theorem bldr_byte (B g o : Nat) (t : TypeId) (cs : List Value) (s : ByteArray) (x : Int) (w : World) (T : BldrT t o cs.length) (h : Bldr B g o t cs s w) (hlen : s.size + 1 ≤ 140737488355328) (hBw : B ≤ w.heap.size) (hx : 0 ≤ x ∧ x ≤ 255) :
  Calls Try.prog 26 #[.pointer (some ⟨g, o, none⟩), .int .u8 x] w fun e w' => e = .returned .nilIface ∧
   (∃ v, Bldr B g o t ((cs.set o (.pointer (some ⟨g, o, none⟩))).set (o + 1) v) (s ++ strOfNums [x]) w') ∧ KeptG B g w w' := by
 obtain ⟨i0, hi, hz0, hz1, hz2⟩ := info_parts bldr_info5
 have hl := T.len
 go_enter Try.func26, Try.ntmps26
 go_wp2_with fail
 refine (bldr_check B g o t cs s _ T h).mono ?_
 rintro e w1 ⟨rfl, h1, hz, hg1⟩
 clear h
 obtain ⟨v, hv, ho, hne⟩ := h1.row
 have c1 : w1.cell? ⟨g, o + 1, none⟩ = some v := (h1.cell (o + 1)).trans hv
 have H1 := Aside0.mk h1
 have HV := Aside0.mk hv
 have HZ := Aside0.mk hz
 clear h1 hv hz
 have ho' := ho.alloc (.cells #[.int .u8 x] 5)
 go_wp2_with (at_builtin; refine wpList_append_own _ rfl _ _ 39 rfl B 5 i0 (.int .u8 0) 1 1 Try.underlying39 hi hz0 hz1 hz2 rfl (by decide) _ _ _ rfl ho' ⟨w1.heap.size, 0, none⟩ 1 1 [.int .u8 x] rfl rfl ?c1 ?c2 ?c3 ?c4 ?c5 ?_)
 case c1 => exact cell_one_new _ _ _
 case c2 => simp [Value.oneCell']
 case c3 => unfold maxLen; omega
 case c4 => omega
 case c5 => simp; rw [HZ.out]; omega
 intro v' w2 hown' hgrow _
 have hlt : g < w1.heap.size := blk_lt H1.out.blk
 have hb2 := blk_grown (blk_alloc H1.out.blk _) hgrow (fun e => hne e.symm)
 have d1 : w2.cell? ⟨g, o + 1, none⟩ = some v := by
  have := blk_cell hb2 (o + 1)
  exact this.trans (by simpa using HV.out)
 have f1 : w2.frozen? ⟨g, o + 1, none⟩ = false := blk_frozen hb2 _
 obtain ⟨ao, n', cap, rfl⟩ : ∃ ao n' cap, v' = .slice ao n' cap := by
  rcases hown'.2 with ⟨hv, _⟩ | ⟨g, cap, cur, hv, _⟩
  ·exact ⟨_, _, _, hv⟩
  ·exact ⟨_, _, _, hv⟩
 have HO := Aside0.mk hown'
 have HG := Aside0.mk hgrow
 have HB2 := Aside0.mk hb2
 have HO1 := Aside0.mk ho
 clear hown' hgrow hb2 ho ho' c1
 go_wp2
 go_ret
 have hg : w2.grownBy (w2.setCell ⟨g, o + 1, none⟩ (.slice ao n' cap)) (some g) :=
  ⟨rfl, rfl, rfl, by simp [World.setCell], fun k _ hk => Below.heap_setCell _ _ _ _ (fun e => hk (by rw [e]))⟩
 have hne2 : (Value.slice ao n' cap).ownBlock ≠ some g := by
  intro e
  rcases HO.out.2 with ⟨hv, _⟩ | ⟨g', cap', cur, hv, _, hh, _⟩
  ·rw [hv] at e; simp [Value.ownBlock] at e
  ·rw [hv] at e
   simp [Value.ownBlock] at e
   subst e
   rw [HB2.out] at hh
   injection hh with hh
   injection hh with _ hh _
   exact T.ne hh
 refine ⟨rfl, ⟨.slice ao n' cap, ?_, ?_, .slice ao n' cap, ?_, ?_, hne2⟩, ?_⟩
 ·exact blk_put HB2.out (o + 1) _ (by simp)
 ·rw [List.getElem?_set_ne (by omega)]; exact Or.inr (by rw [List.getElem?_set_self (by omega)])
 ·rw [List.getElem?_set_self (by simp; omega)]
 ·have := HO.out.kept hg (Or.inr hne2)
  rw [strCells_append, strCells_one_ x hx]
  have hs : (s ++ strOfNums [x]).size = s.size + 1 := ByteArray.size_append
  rw [hs]
  exact this
 ·exact ((((KeptG.refl B g w).grown hg1 hBw (fun k hk => Or.inr (Option.some.inj hk).symm)).alloc (by rw [HZ.out]; exact hBw) _).grown HG.out (by simp; rw [HZ.out]; omega) (fun k hk => Or.inl (HO1.out.lt k hk).1)).grown hg (Nat.le_trans (by simp; rw [HZ.out]; omega) HG.out.size) (fun k hk => Or.inr (Option.some.inj hk).symm)
theorem strCells_byteCells (s : ByteArray) : Lib.strCells s = Lib.byteCells s.data.toList := by
 simp [Lib.strCells, Lib.byteCells]
set_option maxHeartbeats 1000000 in
set_option maxRecDepth 100000 in
theorem bldr_string (B g o : Nat) (t : TypeId) (cs : List Value) (s : ByteArray) (w : World) (h : Bldr B g o t cs s w) (hBw : B ≤ w.heap.size) :
  Calls Try.prog 27 #[.pointer (some ⟨g, o, none⟩)] w fun e w' => e = .returned (.string s) ∧ Below B w w' := by
 obtain ⟨v, hv, ho, hne⟩ := h.row
 by_cases h0 : s.size = 0
 ·have hs : s = ⟨#[]⟩ := by
   cases s with
   | mk d =>
    have : d = #[] := Array.eq_empty_of_size_eq_zero h0
    rw [this]
  have hUS : ∀ (W : World) (q : Option Addr), (Builtin.unsafeString_ #[72, 3] 9 #[.pointer q, .int .i64 0]).run Try.prog W = .ok (.string .empty) W := fun W q => Lib.run_unsafeString_none W _ _ _ q
  rcases ho.2 with ⟨rfl, _⟩ | ⟨gr, cap, cur, rfl, hbg, hg, hnc, hcm, hcs, htake⟩
  ·have c1 : w.drew.cell? ⟨g, o + 1, none⟩ = some (.slice none 0 0) := (h.cell (o + 1)).trans hv
   have hSD : (Builtin.unsafeSliceData_ #[39] 72 #[.slice none 0 0]).run Try.prog w.drew = .ok (.pointer none) w.drew := rfl
   clear h hv ho
   subst hs
   go_enter Try.func27, Try.ntmps27
   go_wp2
   go_region
   all_goals (go_wp2; go_ret; exact ⟨rfl, Below.drew (Below.refl B w)⟩)
  ·rw [h0] at hv
   by_cases hc0 : cap = 0
   ·subst hc0
    have hlt : g < w.heap.size := blk_lt h.blk
    have c0 : w.cell? ⟨g, o + 1, none⟩ = some (.slice (some ⟨gr, 0, none⟩) 0 0) := (h.cell (o + 1)).trans hv
    have c1 : w.drew.cell? ⟨g, o + 1, none⟩ = some (.slice (some ⟨gr, 0, none⟩) 0 0) := c0
    have hSD : (Builtin.unsafeSliceData_ #[39] 72 #[.slice (some ⟨gr, 0, none⟩) 0 0]).run Try.prog w.drew = .ok (.pointer (some ⟨w.drew.heap.size, 0, none⟩)) (w.drew.alloc (.view ⟨gr, 0, none⟩ 5)) :=
     Lib.run_unsafeSliceData_zero w.drew _ _ 5 Try.underlying72 ⟨gr, 0, none⟩ 0 (5, cur.size) (by have hg' : w.drew.heap[gr]? = some (.cells cur 5 (0, 0)) := hg; simp [World.shape?, hg'])
    have c2 : (w.drew.alloc (.view ⟨gr, 0, none⟩ 5)).cell? ⟨g, o + 1, none⟩ = some (.slice (some ⟨gr, 0, none⟩) 0 0) := (World.cell?_alloc_lt _ _ _ hlt).trans c1
    have c3 : (w.alloc (.view ⟨gr, 0, none⟩ 5)).drew.cell? ⟨g, o + 1, none⟩ = some (.slice (some ⟨gr, 0, none⟩) 0 0) := c2
    have HB := Aside0.mk hBw
    clear h hv ho hlt hbg hg hnc hcm hcs htake
    subst hs
    go_enter Try.func27, Try.ntmps27
    go_wp2
    go_region
    all_goals (go_wp2; go_ret; exact ⟨rfl, (Below.drew (Below.refl B w)).alloc HB.out _⟩)
   ·have c1 : w.drew.cell? ⟨g, o + 1, none⟩ = some (.slice (some ⟨gr, 0, none⟩) 0 cap) := (h.cell (o + 1)).trans hv
    have hSD : (Builtin.unsafeSliceData_ #[39] 72 #[.slice (some ⟨gr, 0, none⟩) 0 cap]).run Try.prog w.drew = .ok (.pointer (some ⟨gr, 0, none⟩)) w.drew :=
     Lib.run_unsafeSliceData_row _ _ _ _ _ _ hc0
    clear h hv ho hc0 hbg hg hnc hcm hcs htake
    subst hs
    go_enter Try.func27, Try.ntmps27
    go_wp2
    go_region
    all_goals (go_wp2; go_ret; exact ⟨rfl, Below.drew (Below.refl B w)⟩)
 ·obtain ⟨gr, cap, cur, rfl, hbg, hg, hnc, hcm, hcs, htake⟩ : ∃ gr cap cur, v = .slice (some ⟨gr, 0, none⟩) s.size cap ∧ B ≤ gr ∧ w.heap[gr]? = some (.cells cur 5 (0, 0)) ∧ s.size ≤ cap ∧ cap ≤ maxLen ∧ cur.size = cap * 1 ∧ cur.toList.take (s.size * 1) = Lib.strCells s := by
   rcases ho.2 with ⟨_, hz⟩ | ⟨gr, cap, cur, hv, r⟩
   ·exact absurd hz h0
   ·exact ⟨gr, cap, cur, hv, r⟩
  have c1 : w.drew.cell? ⟨g, o + 1, none⟩ = some (.slice (some ⟨gr, 0, none⟩) s.size cap) := (h.cell (o + 1)).trans hv
  have hsz : s.data.toList.length = s.size := Array.length_toList
  have hSD : (Builtin.unsafeSliceData_ #[39] 72 #[.slice (some ⟨gr, 0, none⟩) s.size cap]).run Try.prog w.drew = .ok (.pointer (some ⟨gr, 0, none⟩)) w.drew :=
   Lib.run_unsafeSliceData_row _ _ _ _ _ _ (by omega)
  have hUS : (Builtin.unsafeString_ #[72, 3] 9 #[.pointer (some ⟨gr, 0, none⟩), .int .i64 s.size]).run Try.prog w.drew = .ok (.string s) (w.drew.freeze ⟨gr, 0, none⟩ s.size) := by
   have := Lib.run_unsafeString_row (P := Try.prog) w.drew 72 3 9 5 Try.underlying72 (by kernel_rfl) gr cur.size (by have hg' : w.drew.heap[gr]? = some (.cells cur 5 (0, 0)) := hg; simp [World.shape?, hg']) s.data.toList (by intro e; rw [e] at hsz; simp at hsz; omega) (by omega) (by unfold maxLen at hcm; omega) (by
    intro j x hx
    have := ho.cells (g := gr) rfl j (.int .u8 x.toNat) (by rw [strCells_byteCells]; simp [Lib.byteCells, hx])
    exact this)
   rw [hsz] at this
   have e : (⟨s.data.toList.toArray⟩ : ByteArray) = s := by cases s; simp
   rw [e] at this
   exact this
  have HB := Aside0.mk hbg
  clear h hv ho hbg hg hnc hcm hcs htake hsz
  go_enter Try.func27, Try.ntmps27
  go_wp2
  go_region
  all_goals (go_wp2; go_ret; exact ⟨rfl, Lib.below_freeze (Below.drew (Below.refl B w)) (p := ⟨gr, 0, none⟩) HB.out _⟩)

end Go.Proofs.Ytmkpphcnafklbaa.PDgx
