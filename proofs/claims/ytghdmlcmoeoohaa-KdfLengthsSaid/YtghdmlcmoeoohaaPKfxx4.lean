-- printed for this claim by a program of the claim (wip/tools/pp.py over the kit's print)
import Derived.Test.YtghdmlcmoeoohaaPKfxx0
import Derived.Test.YtghdmlcmoeoohaaPKfxx2
import Derived.Test.YtghdmlcmoeoohaaPKfxx3
namespace Go.Proofs.Ytghdmlcmoeoohaa.PKfx
open Go.RowKit Go.Proofs.YtghdmlcmoeoohaaW.PrintWords Go.Proofs.YtghdmlcmoeoohaaW.PrintLast Go.Proofs.YtghdmlcmoeoohaaW.PrintMore
attribute [local go_sem] max2_int min2_int max_two min_two max_three min_three max_four min_four   -- for this text's walks alone
set_option linter.unusedVariables false
set_option linter.unusedSimpArgs false

attribute [local go_sem] isSome_setCell_
/-! ### the sum of texts -/
def sumPad (s : ByteArray) : ByteArray := s ++ ((⟨#[128]⟩ : ByteArray) ++ ⟨(Lib.repeatL [0] ((119 - s.size % 64) % 64)).toArray⟩)
def blocksF : Nat → ByteArray → S8 → S8
  | 0, _, v => v
  | k + 1, t, v => blocksF k (t.extract 64 t.size) (blkF t v)
def out4 (x : Int) : List Int := [x / 16777216 % 256, x / 65536 % 256, x / 256 % 256, x % 256]
def sumFill (s : ByteArray) : ByteArray :=
  sumPad s ++ strOfNums [(s.size : Int) * 8 / 72057594037927936] ++ strOfNums [(s.size : Int) * 8 / 281474976710656] ++ strOfNums [(s.size : Int) * 8 / 1099511627776] ++ strOfNums [(s.size : Int) * 8 / 4294967296 % 256]
    ++ strOfNums [(s.size : Int) * 8 / 16777216 % 256] ++ strOfNums [(s.size : Int) * 8 / 65536 % 256] ++ strOfNums [(s.size : Int) * 8 / 256 % 256] ++ strOfNums [(s.size : Int) * 8 % 256]
def shaOut (v : S8) : List Int := [] ++ out4 v.a ++ out4 v.b ++ out4 v.c ++ out4 v.d ++ out4 v.e ++ out4 v.f ++ out4 v.g ++ out4 v.h
def shaV : S8 := ⟨shaH.getD 0 0, shaH.getD 1 0, shaH.getD 2 0, shaH.getD 3 0, shaH.getD 4 0, shaH.getD 5 0, shaH.getD 6 0, shaH.getD 7 0⟩
def shaF (s : ByteArray) : ByteArray := strOfNums (shaOut (blocksF ((sumFill s).size / 64) (sumFill s) shaV))
theorem shaV_list : shaV.list = shaH := by decide +kernel
theorem strOfNums_one (n : Int) : (strOfNums [n]).size = 1 := rfl
theorem conv_one {P : Program} {src dst e : TypeId} (hs : P.underlying src = some (.slice e)) (he : P.underlying e = some (.int .u8)) (hd : P.underlying dst = some .string) (w : World) (n : Int) :
    (convert src dst (.slice (some ⟨w.heap.size, 0, none⟩) 1 1)).run P (w.alloc (.cells #[.int .u8 n] e)) = .ok (.string (strOfNums [n])) (w.alloc (.cells #[.int .u8 n] e)) :=
  string_of_reads hs he hd ⟨rfl, by decide, fun _ => ⟨_, rfl, fun j hj => by
    obtain rfl : j = 0 := by omega
    exact (cell_one_new w (.int .u8 n) e 0 _ rfl)⟩⟩
set_option maxHeartbeats 4000000 in
set_option maxRecDepth 100000 in
theorem Sum_calls (A : Option Addr) (c : Nat) (l : List ByteArray) (w : World) (hr : Kd.C Kd.string w A l.length l) (hc : l.length ≤ c) (hlen : (joinB l).size ≤ 1099511627776) (hl : l.length ≤ 1099511627776) :
    Calls Try.prog 33 #[.slice A l.length c] w fun e w' => e = .returned (.string (shaF (joinB l))) ∧ Below w.heap.size w w' := by
  go_enter Try.func33, Try.ntmps33
  go_wp2_with fail
  refine (join_c A c l _ hr hc (by omega) (by omega)).mono ?_
  rintro e w1 ⟨rfl, hb⟩
  have HB1 := Aside0.mk hb
  clear hb hr
  obtain ⟨s, hsj⟩ : ∃ s, s = joinB l := ⟨_, rfl⟩
  rw [← hsj] at hlen ⊢
  have HSJ := Aside0.mk hsj
  clear hsj
  obtain ⟨r, hr⟩ : ∃ r, r = (119 - s.size % 64) % 64 := ⟨_, rfl⟩
  have hrz : (119 - (s.size : Int) % 64) % 64 = (r : Int) := by omega
  have HR := Aside0.mk hr
  have HRZ := Aside0.mk hrz
  have HRY : Aside0 ((119 - (s.size : Int)) % 64 = (r : Int)) := ⟨by omega⟩
  have hr64 : r < 64 := by omega
  clear hr hrz
  go_wp2_with fail
  rw [HRY.out]
  try rw [HRZ.out]
  have hrep := Try.strings_Repeat (⟨#[0]⟩ : ByteArray) r w1 (by omega) (by show 1 * r ≤ _; omega)
  with_reducible refine hrep.mono ?_
  clear hrep
  rintro e w2 ⟨rfl, hb⟩
  have HB2 := Aside0.mk (HB1.out.trans (hb.mono HB1.out.size))
  clear hb
  have hz : (⟨(Lib.repeatL (⟨#[0]⟩ : ByteArray).data.toList r).toArray⟩ : ByteArray).size = r := by
    show (Lib.repeatL [0] r).toArray.size = r
    rw [List.size_toArray, Lib.repeatL_length]; simp
  have HS : Aside0 (sumPad s = s ++ ((⟨#[128]⟩ : ByteArray) ++ ⟨(Lib.repeatL (⟨#[0]⟩ : ByteArray).data.toList r).toArray⟩)) := ⟨by unfold sumPad; rw [← HR.out]⟩
  generalize (⟨(Lib.repeatL (⟨#[0]⟩ : ByteArray).data.toList r).toArray⟩ : ByteArray) = z at hz HS ⊢
  go_wp2
  have HZ := Aside0.mk hz
  clear hz
  rw [← HS.out]
  have hps : (sumPad s).size ≤ s.size + 65 := by rw [HS.out, ByteArray.size_append, ByteArray.size_append, HZ.out]; show s.size + (1 + r) ≤ _; omega
  obtain ⟨t0, ht0⟩ : ∃ t, t = sumPad s := ⟨_, rfl⟩
  rw [← ht0] at hps HS ⊢
  have HT0 := Aside0.mk ht0
  clear ht0
  refine wp_loop_rounds 9 ?_
  -- rounds
  have hcz : ∀ n : Int, (strOfNums [n]).size = 1 := fun n => strOfNums_one n
  rw [rounds_succ]
  have hcv := conv_one Try.underlying46 Try.underlying5 Try.underlying9 w2
  go_wp2
  clear hcv
  have HBx := Aside0.mk (below_alloc HB2.out (.cells #[.int .u8 ((s.size : Int) * 8 / 72057594037927936)] 5))
  generalize w2.alloc (.cells #[.int .u8 ((s.size : Int) * 8 / 72057594037927936)] 5) = w3 at HBx ⊢
  have HB3 := HBx
  clear HBx
  have hps1 : (t0 ++ strOfNums [(s.size : Int) * 8 / 72057594037927936]).size ≤ s.size + 66 := by rw [ByteArray.size_append, hcz]; omega
  obtain ⟨t1, ht1⟩ : ∃ t, t = t0 ++ strOfNums [(s.size : Int) * 8 / 72057594037927936] := ⟨_, rfl⟩
  rw [← ht1] at hps1 ⊢
  have HT1 := Aside0.mk ht1
  clear ht1 hps
  rw [rounds_succ]
  have hcv := conv_one Try.underlying46 Try.underlying5 Try.underlying9 w3
  go_wp2
  clear hcv
  have HBx := Aside0.mk (below_alloc HB3.out (.cells #[.int .u8 ((s.size : Int) * 8 / 281474976710656)] 5))
  generalize w3.alloc (.cells #[.int .u8 ((s.size : Int) * 8 / 281474976710656)] 5) = w4 at HBx ⊢
  have HB4 := HBx
  clear HBx
  have hps2 : (t1 ++ strOfNums [(s.size : Int) * 8 / 281474976710656]).size ≤ s.size + 67 := by rw [ByteArray.size_append, hcz]; omega
  obtain ⟨t2, ht2⟩ : ∃ t, t = t1 ++ strOfNums [(s.size : Int) * 8 / 281474976710656] := ⟨_, rfl⟩
  rw [← ht2] at hps2 ⊢
  have HT2 := Aside0.mk ht2
  clear ht2 hps1
  rw [rounds_succ]
  have hcv := conv_one Try.underlying46 Try.underlying5 Try.underlying9 w4
  go_wp2
  clear hcv
  have HBx := Aside0.mk (below_alloc HB4.out (.cells #[.int .u8 ((s.size : Int) * 8 / 1099511627776)] 5))
  generalize w4.alloc (.cells #[.int .u8 ((s.size : Int) * 8 / 1099511627776)] 5) = w5 at HBx ⊢
  have HB5 := HBx
  clear HBx
  have hps3 : (t2 ++ strOfNums [(s.size : Int) * 8 / 1099511627776]).size ≤ s.size + 68 := by rw [ByteArray.size_append, hcz]; omega
  obtain ⟨t3, ht3⟩ : ∃ t, t = t2 ++ strOfNums [(s.size : Int) * 8 / 1099511627776] := ⟨_, rfl⟩
  rw [← ht3] at hps3 ⊢
  have HT3 := Aside0.mk ht3
  clear ht3 hps2
  rw [rounds_succ]
  have hcv := conv_one Try.underlying46 Try.underlying5 Try.underlying9 w5
  go_wp2
  clear hcv
  have HBx := Aside0.mk (below_alloc HB5.out (.cells #[.int .u8 ((s.size : Int) * 8 / 4294967296 % 256)] 5))
  generalize w5.alloc (.cells #[.int .u8 ((s.size : Int) * 8 / 4294967296 % 256)] 5) = w6 at HBx ⊢
  have HB6 := HBx
  clear HBx
  have hps4 : (t3 ++ strOfNums [(s.size : Int) * 8 / 4294967296 % 256]).size ≤ s.size + 69 := by rw [ByteArray.size_append, hcz]; omega
  obtain ⟨t4, ht4⟩ : ∃ t, t = t3 ++ strOfNums [(s.size : Int) * 8 / 4294967296 % 256] := ⟨_, rfl⟩
  rw [← ht4] at hps4 ⊢
  have HT4 := Aside0.mk ht4
  clear ht4 hps3
  rw [rounds_succ]
  have hcv := conv_one Try.underlying46 Try.underlying5 Try.underlying9 w6
  go_wp2
  clear hcv
  have HBx := Aside0.mk (below_alloc HB6.out (.cells #[.int .u8 ((s.size : Int) * 8 / 16777216 % 256)] 5))
  generalize w6.alloc (.cells #[.int .u8 ((s.size : Int) * 8 / 16777216 % 256)] 5) = w7 at HBx ⊢
  have HB7 := HBx
  clear HBx
  have hps5 : (t4 ++ strOfNums [(s.size : Int) * 8 / 16777216 % 256]).size ≤ s.size + 70 := by rw [ByteArray.size_append, hcz]; omega
  obtain ⟨t5, ht5⟩ : ∃ t, t = t4 ++ strOfNums [(s.size : Int) * 8 / 16777216 % 256] := ⟨_, rfl⟩
  rw [← ht5] at hps5 ⊢
  have HT5 := Aside0.mk ht5
  clear ht5 hps4
  rw [rounds_succ]
  have hcv := conv_one Try.underlying46 Try.underlying5 Try.underlying9 w7
  go_wp2
  clear hcv
  have HBx := Aside0.mk (below_alloc HB7.out (.cells #[.int .u8 ((s.size : Int) * 8 / 65536 % 256)] 5))
  generalize w7.alloc (.cells #[.int .u8 ((s.size : Int) * 8 / 65536 % 256)] 5) = w8 at HBx ⊢
  have HB8 := HBx
  clear HBx
  have hps6 : (t5 ++ strOfNums [(s.size : Int) * 8 / 65536 % 256]).size ≤ s.size + 71 := by rw [ByteArray.size_append, hcz]; omega
  obtain ⟨t6, ht6⟩ : ∃ t, t = t5 ++ strOfNums [(s.size : Int) * 8 / 65536 % 256] := ⟨_, rfl⟩
  rw [← ht6] at hps6 ⊢
  have HT6 := Aside0.mk ht6
  clear ht6 hps5
  rw [rounds_succ]
  have hcv := conv_one Try.underlying46 Try.underlying5 Try.underlying9 w8
  go_wp2
  clear hcv
  have HBx := Aside0.mk (below_alloc HB8.out (.cells #[.int .u8 ((s.size : Int) * 8 / 256 % 256)] 5))
  generalize w8.alloc (.cells #[.int .u8 ((s.size : Int) * 8 / 256 % 256)] 5) = w9 at HBx ⊢
  have HB9 := HBx
  clear HBx
  have hps7 : (t6 ++ strOfNums [(s.size : Int) * 8 / 256 % 256]).size ≤ s.size + 72 := by rw [ByteArray.size_append, hcz]; omega
  obtain ⟨t7, ht7⟩ : ∃ t, t = t6 ++ strOfNums [(s.size : Int) * 8 / 256 % 256] := ⟨_, rfl⟩
  rw [← ht7] at hps7 ⊢
  have HT7 := Aside0.mk ht7
  clear ht7 hps6
  rw [rounds_succ]
  have hcv := conv_one Try.underlying46 Try.underlying5 Try.underlying9 w9
  go_wp2
  clear hcv
  have HBx := Aside0.mk (below_alloc HB9.out (.cells #[.int .u8 (((s.size : Int) * 8) % 256)] 5))
  generalize w9.alloc (.cells #[.int .u8 (((s.size : Int) * 8) % 256)] 5) = w10 at HBx ⊢
  have HB10 := HBx
  clear HBx
  have hps8 : (t7 ++ strOfNums [((s.size : Int) * 8) % 256]).size ≤ s.size + 73 := by rw [ByteArray.size_append, hcz]; omega
  obtain ⟨t8, ht8⟩ : ∃ t, t = t7 ++ strOfNums [((s.size : Int) * 8) % 256] := ⟨_, rfl⟩
  rw [← ht8] at hps8 ⊢
  have HT8 := Aside0.mk ht8
  clear ht8 hps7
  rw [rounds_succ]
  go_wp2_with fail
  go_wp2_with fail
  refine (fresh_calls w10).mono ?_
  rintro e w11 ⟨⟨g, rfl, hH⟩, hb⟩
  have HH := Aside0.mk (hH.lower HB10.out.size)
  have HB11 := Aside0.mk (HB10.out.trans (hb.mono HB10.out.size))
  clear hH hb hcz
  obtain ⟨m, hm⟩ : ∃ m, t8.size = 64 * m := by
    have e1 := congrArg ByteArray.size HT8.out
    have e2 := congrArg ByteArray.size HT7.out
    have e3 := congrArg ByteArray.size HT6.out
    have e4 := congrArg ByteArray.size HT5.out
    have e5 := congrArg ByteArray.size HT4.out
    have e6 := congrArg ByteArray.size HT3.out
    have e7 := congrArg ByteArray.size HT2.out
    have e8 := congrArg ByteArray.size HT1.out
    have e9 := congrArg ByteArray.size HS.out
    rw [ByteArray.size_append, strOfNums_one] at e1 e2 e3 e4 e5 e6 e7 e8
    rw [ByteArray.size_append, ByteArray.size_append, HZ.out] at e9
    have e10 : (⟨#[128]⟩ : ByteArray).size = 1 := rfl
    have := HR.out
    exact ⟨t8.size / 64, by omega⟩
  have hlen8 : t8.size ≤ 9223372036854775807 := by omega
  have HM := Aside0.mk hm
  clear hm
  go_wp2_with fail
  go_loopg [3] m (fun r s3 wr => ∃ (t : ByteArray) (v : S8), t.size = 64 * r ∧ t.size ≤ 9223372036854775807 ∧ s3 = .string t ∧ Aside0 (blocksF r t v = blocksF m t8 shaV) ∧ Aside0 (HashAt w.heap.size g v.list wr) ∧ Aside0 (Below w.heap.size w wr))
  case atStart => exact ⟨t8, shaV, HM.out, hlen8, rfl, ⟨rfl⟩, ⟨by rw [shaV_list]; exact HH.out⟩, HB11⟩
  case round =>
    obtain ⟨t, v, ht, htm, rfl, HF, HA, HB⟩ := hrel
    cases gk with
    | zero =>
      have hem : t.toList.isEmpty = true := by
        rw [Go.Lib.toList_data]
        have : t.data.toList.length = 0 := by rw [← Go.Lib.size_eq]; omega
        rw [List.eq_nil_of_length_eq_zero this]; rfl
      have hF := HF.out
      rw [blocksF] at hF
      have HF2 := Aside0.mk hF
      have HT := Aside0.mk ht
      clear hF HF ht
      have hrow := HA.out.row
      obtain ⟨gk, ck, h1, -, -, -⟩ := hrow
      have hrange : wr.rangeAt g 0 (nums .u32 v.list) := by
        intro j u hu
        have hj := (List.getElem?_eq_some_iff.1 hu).1
        have := blk_cell h1 j
        rw [Nat.zero_add, this, List.getElem?_toArray, List.getElem?_append_left hj]
        exact hu
      have HRG := Aside0.mk hrange
      clear hrange h1
      obtain ⟨va, vb, vc, vd, ve, vf, vg, vh⟩ := v
      have q0 : ∀ W : World, (Instr.index 73 (.agg #[.int .u32 va, .int .u32 vb, .int .u32 vc, .int .u32 vd, .int .u32 ve, .int .u32 vf, .int .u32 vg, .int .u32 vh]) (.int .i64 0)).run Try.prog W = .ok (.int .u32 va) W := fun _ => by rfl
      have q1 : ∀ W : World, (Instr.index 73 (.agg #[.int .u32 va, .int .u32 vb, .int .u32 vc, .int .u32 vd, .int .u32 ve, .int .u32 vf, .int .u32 vg, .int .u32 vh]) (.int .i64 1)).run Try.prog W = .ok (.int .u32 vb) W := fun _ => by rfl
      have q2 : ∀ W : World, (Instr.index 73 (.agg #[.int .u32 va, .int .u32 vb, .int .u32 vc, .int .u32 vd, .int .u32 ve, .int .u32 vf, .int .u32 vg, .int .u32 vh]) (.int .i64 2)).run Try.prog W = .ok (.int .u32 vc) W := fun _ => by rfl
      have q3 : ∀ W : World, (Instr.index 73 (.agg #[.int .u32 va, .int .u32 vb, .int .u32 vc, .int .u32 vd, .int .u32 ve, .int .u32 vf, .int .u32 vg, .int .u32 vh]) (.int .i64 3)).run Try.prog W = .ok (.int .u32 vd) W := fun _ => by rfl
      have q4 : ∀ W : World, (Instr.index 73 (.agg #[.int .u32 va, .int .u32 vb, .int .u32 vc, .int .u32 vd, .int .u32 ve, .int .u32 vf, .int .u32 vg, .int .u32 vh]) (.int .i64 4)).run Try.prog W = .ok (.int .u32 ve) W := fun _ => by rfl
      have q5 : ∀ W : World, (Instr.index 73 (.agg #[.int .u32 va, .int .u32 vb, .int .u32 vc, .int .u32 vd, .int .u32 ve, .int .u32 vf, .int .u32 vg, .int .u32 vh]) (.int .i64 5)).run Try.prog W = .ok (.int .u32 vf) W := fun _ => by rfl
      have q6 : ∀ W : World, (Instr.index 73 (.agg #[.int .u32 va, .int .u32 vb, .int .u32 vc, .int .u32 vd, .int .u32 ve, .int .u32 vf, .int .u32 vg, .int .u32 vh]) (.int .i64 6)).run Try.prog W = .ok (.int .u32 vg) W := fun _ => by rfl
      have q7 : ∀ W : World, (Instr.index 73 (.agg #[.int .u32 va, .int .u32 vb, .int .u32 vc, .int .u32 vd, .int .u32 ve, .int .u32 vf, .int .u32 vg, .int .u32 vh]) (.int .i64 7)).run Try.prog W = .ok (.int .u32 vh) W := fun _ => by rfl
      go_wp2_with ((with_reducible refine gate_dst (N := 48) rfl ?_); refine wpList_load_mid rfl 73 (.tmp 47) rfl g 0 rfl [.int .u32 va, .int .u32 vb, .int .u32 vc, .int .u32 vd, .int .u32 ve, .int .u32 vf, .int .u32 vg, .int .u32 vh] _ HRG.out Try.underlying73 rfl (by kernel_rfl) ?_)
      go_wp2
      refine wp_loop_rounds 9 ?_
      have HO0 : Aside0 (wr.ownsRow w.heap.size 5 1 (.slice none 0 0) 0 (nums .u8 [])) := ⟨own_nil wr w.heap.size _ _⟩
      have HC0 := HB
      have hi5 : (Try.prog.info? 5).map (fun i => (i.zero, i.size, i.bytes)) = some (some (.int .u8 0), 1, 1) := by kernel_rfl
      obtain ⟨i0, hi, hz0, hz1, hz2⟩ := info_parts hi5
      clear hi5
      obtain ⟨y0, hy0⟩ : ∃ W, W = wr := ⟨_, rfl⟩
      rw [← hy0] at HO0 HC0 ⊢
      clear hy0
      rw [rounds_succ]
      have hsz := HC0.out.size
      have ho := HO0.out
      go_wp2_with (at_builtin; refine wpList_append_own _ rfl _ _ 46 rfl w.heap.size 5 i0 (.int .u8 0) 1 1 Try.underlying46 hi hz0 hz1 hz2 rfl (by decide) _ _ _ rfl (ho.alloc _) ⟨y0.heap.size, 0, none⟩ 4 4 (nums .u8 (out4 va)) rfl (by rfl) (World.news_of_block (cs := (nums .u8 (out4 va)).toArray) (t := 5) (fr := (0, 0)) (heap_alloc_new y0 _)) (by intro u hu; simp only [nums, List.mem_map] at hu; obtain ⟨n, _, rfl⟩ := hu; rfl) (by decide) (by decide) (by simp; omega) ?_; intro z1 y1 hown' hgrow _)
      have HO1 : Aside0 (y1.ownsRow w.heap.size 5 1 z1 4 (nums .u8 ([] ++ out4 va))) := ⟨by rw [nums_append]; exact hown'⟩
      have HC1 := Aside0.mk ((below_alloc HC0.out _).grown hgrow (by simp; omega) (fun k hk => (HO0.out.lt k hk).1))
      clear hown' hgrow ho hsz
      go_wp2
      rw [rounds_succ]
      have hsz := HC1.out.size
      have ho := HO1.out
      go_wp2_with (at_builtin; refine wpList_append_own _ rfl _ _ 46 rfl w.heap.size 5 i0 (.int .u8 0) 1 1 Try.underlying46 hi hz0 hz1 hz2 rfl (by decide) _ _ _ rfl (ho.alloc _) ⟨y1.heap.size, 0, none⟩ 4 4 (nums .u8 (out4 vb)) rfl (by rfl) (World.news_of_block (cs := (nums .u8 (out4 vb)).toArray) (t := 5) (fr := (0, 0)) (heap_alloc_new y1 _)) (by intro u hu; simp only [nums, List.mem_map] at hu; obtain ⟨n, _, rfl⟩ := hu; rfl) (by decide) (by decide) (by simp; omega) ?_; intro z2 y2 hown' hgrow _)
      have HO2 : Aside0 (y2.ownsRow w.heap.size 5 1 z2 8 (nums .u8 (([] ++ out4 va) ++ out4 vb))) := ⟨by rw [nums_append]; exact hown'⟩
      have HC2 := Aside0.mk ((below_alloc HC1.out _).grown hgrow (by simp; omega) (fun k hk => (HO1.out.lt k hk).1))
      clear hown' hgrow ho hsz
      go_wp2
      rw [rounds_succ]
      have hsz := HC2.out.size
      have ho := HO2.out
      go_wp2_with (at_builtin; refine wpList_append_own _ rfl _ _ 46 rfl w.heap.size 5 i0 (.int .u8 0) 1 1 Try.underlying46 hi hz0 hz1 hz2 rfl (by decide) _ _ _ rfl (ho.alloc _) ⟨y2.heap.size, 0, none⟩ 4 4 (nums .u8 (out4 vc)) rfl (by rfl) (World.news_of_block (cs := (nums .u8 (out4 vc)).toArray) (t := 5) (fr := (0, 0)) (heap_alloc_new y2 _)) (by intro u hu; simp only [nums, List.mem_map] at hu; obtain ⟨n, _, rfl⟩ := hu; rfl) (by decide) (by decide) (by simp; omega) ?_; intro z3 y3 hown' hgrow _)
      have HO3 : Aside0 (y3.ownsRow w.heap.size 5 1 z3 12 (nums .u8 ((([] ++ out4 va) ++ out4 vb) ++ out4 vc))) := ⟨by rw [nums_append]; exact hown'⟩
      have HC3 := Aside0.mk ((below_alloc HC2.out _).grown hgrow (by simp; omega) (fun k hk => (HO2.out.lt k hk).1))
      clear hown' hgrow ho hsz
      go_wp2
      rw [rounds_succ]
      have hsz := HC3.out.size
      have ho := HO3.out
      go_wp2_with (at_builtin; refine wpList_append_own _ rfl _ _ 46 rfl w.heap.size 5 i0 (.int .u8 0) 1 1 Try.underlying46 hi hz0 hz1 hz2 rfl (by decide) _ _ _ rfl (ho.alloc _) ⟨y3.heap.size, 0, none⟩ 4 4 (nums .u8 (out4 vd)) rfl (by rfl) (World.news_of_block (cs := (nums .u8 (out4 vd)).toArray) (t := 5) (fr := (0, 0)) (heap_alloc_new y3 _)) (by intro u hu; simp only [nums, List.mem_map] at hu; obtain ⟨n, _, rfl⟩ := hu; rfl) (by decide) (by decide) (by simp; omega) ?_; intro z4 y4 hown' hgrow _)
      have HO4 : Aside0 (y4.ownsRow w.heap.size 5 1 z4 16 (nums .u8 (((([] ++ out4 va) ++ out4 vb) ++ out4 vc) ++ out4 vd))) := ⟨by rw [nums_append]; exact hown'⟩
      have HC4 := Aside0.mk ((below_alloc HC3.out _).grown hgrow (by simp; omega) (fun k hk => (HO3.out.lt k hk).1))
      clear hown' hgrow ho hsz
      go_wp2
      rw [rounds_succ]
      have hsz := HC4.out.size
      have ho := HO4.out
      go_wp2_with (at_builtin; refine wpList_append_own _ rfl _ _ 46 rfl w.heap.size 5 i0 (.int .u8 0) 1 1 Try.underlying46 hi hz0 hz1 hz2 rfl (by decide) _ _ _ rfl (ho.alloc _) ⟨y4.heap.size, 0, none⟩ 4 4 (nums .u8 (out4 ve)) rfl (by rfl) (World.news_of_block (cs := (nums .u8 (out4 ve)).toArray) (t := 5) (fr := (0, 0)) (heap_alloc_new y4 _)) (by intro u hu; simp only [nums, List.mem_map] at hu; obtain ⟨n, _, rfl⟩ := hu; rfl) (by decide) (by decide) (by simp; omega) ?_; intro z5 y5 hown' hgrow _)
      have HO5 : Aside0 (y5.ownsRow w.heap.size 5 1 z5 20 (nums .u8 ((((([] ++ out4 va) ++ out4 vb) ++ out4 vc) ++ out4 vd) ++ out4 ve))) := ⟨by rw [nums_append]; exact hown'⟩
      have HC5 := Aside0.mk ((below_alloc HC4.out _).grown hgrow (by simp; omega) (fun k hk => (HO4.out.lt k hk).1))
      clear hown' hgrow ho hsz
      go_wp2
      rw [rounds_succ]
      have hsz := HC5.out.size
      have ho := HO5.out
      go_wp2_with (at_builtin; refine wpList_append_own _ rfl _ _ 46 rfl w.heap.size 5 i0 (.int .u8 0) 1 1 Try.underlying46 hi hz0 hz1 hz2 rfl (by decide) _ _ _ rfl (ho.alloc _) ⟨y5.heap.size, 0, none⟩ 4 4 (nums .u8 (out4 vf)) rfl (by rfl) (World.news_of_block (cs := (nums .u8 (out4 vf)).toArray) (t := 5) (fr := (0, 0)) (heap_alloc_new y5 _)) (by intro u hu; simp only [nums, List.mem_map] at hu; obtain ⟨n, _, rfl⟩ := hu; rfl) (by decide) (by decide) (by simp; omega) ?_; intro z6 y6 hown' hgrow _)
      have HO6 : Aside0 (y6.ownsRow w.heap.size 5 1 z6 24 (nums .u8 (((((([] ++ out4 va) ++ out4 vb) ++ out4 vc) ++ out4 vd) ++ out4 ve) ++ out4 vf))) := ⟨by rw [nums_append]; exact hown'⟩
      have HC6 := Aside0.mk ((below_alloc HC5.out _).grown hgrow (by simp; omega) (fun k hk => (HO5.out.lt k hk).1))
      clear hown' hgrow ho hsz
      go_wp2
      rw [rounds_succ]
      have hsz := HC6.out.size
      have ho := HO6.out
      go_wp2_with (at_builtin; refine wpList_append_own _ rfl _ _ 46 rfl w.heap.size 5 i0 (.int .u8 0) 1 1 Try.underlying46 hi hz0 hz1 hz2 rfl (by decide) _ _ _ rfl (ho.alloc _) ⟨y6.heap.size, 0, none⟩ 4 4 (nums .u8 (out4 vg)) rfl (by rfl) (World.news_of_block (cs := (nums .u8 (out4 vg)).toArray) (t := 5) (fr := (0, 0)) (heap_alloc_new y6 _)) (by intro u hu; simp only [nums, List.mem_map] at hu; obtain ⟨n, _, rfl⟩ := hu; rfl) (by decide) (by decide) (by simp; omega) ?_; intro z7 y7 hown' hgrow _)
      have HO7 : Aside0 (y7.ownsRow w.heap.size 5 1 z7 28 (nums .u8 ((((((([] ++ out4 va) ++ out4 vb) ++ out4 vc) ++ out4 vd) ++ out4 ve) ++ out4 vf) ++ out4 vg))) := ⟨by rw [nums_append]; exact hown'⟩
      have HC7 := Aside0.mk ((below_alloc HC6.out _).grown hgrow (by simp; omega) (fun k hk => (HO6.out.lt k hk).1))
      clear hown' hgrow ho hsz
      go_wp2
      rw [rounds_succ]
      have hsz := HC7.out.size
      have ho := HO7.out
      go_wp2_with (at_builtin; refine wpList_append_own _ rfl _ _ 46 rfl w.heap.size 5 i0 (.int .u8 0) 1 1 Try.underlying46 hi hz0 hz1 hz2 rfl (by decide) _ _ _ rfl (ho.alloc _) ⟨y7.heap.size, 0, none⟩ 4 4 (nums .u8 (out4 vh)) rfl (by rfl) (World.news_of_block (cs := (nums .u8 (out4 vh)).toArray) (t := 5) (fr := (0, 0)) (heap_alloc_new y7 _)) (by intro u hu; simp only [nums, List.mem_map] at hu; obtain ⟨n, _, rfl⟩ := hu; rfl) (by decide) (by decide) (by simp; omega) ?_; intro z8 y8 hown' hgrow _)
      have HO8 : Aside0 (y8.ownsRow w.heap.size 5 1 z8 32 (nums .u8 (((((((([] ++ out4 va) ++ out4 vb) ++ out4 vc) ++ out4 vd) ++ out4 ve) ++ out4 vf) ++ out4 vg) ++ out4 vh))) := ⟨by rw [nums_append]; exact hown'⟩
      have HC8 := Aside0.mk ((below_alloc HC7.out _).grown hgrow (by simp; omega) (fun k hk => (HO7.out.lt k hk).1))
      clear hown' hgrow ho hsz
      go_wp2
      rw [rounds_succ]
      obtain ⟨A8, c8, rfl, hreads⟩ := own_reads HO8.out
      have hcv := string_of_reads (src := 46) (dst := 9) (e := 5) (c := c8) Try.underlying46 Try.underlying5 Try.underlying9 hreads
      clear hreads
      go_wp2
      clear hcv
      go_ret
      refine ⟨?_, HC8.out⟩
      have e8 : sumFill s = t8 := by
        unfold sumFill
        rw [← HT0.out, ← HT1.out, ← HT2.out, ← HT3.out, ← HT4.out, ← HT5.out, ← HT6.out, ← HT7.out, ← HT8.out]
      have e : shaF s = strOfNums (out4 va ++ (out4 vb ++ (out4 vc ++ (out4 vd ++ (out4 ve ++ (out4 vf ++ (out4 vg ++ out4 vh))))))) := by
        unfold shaF
        rw [e8, HM.out, Nat.mul_div_cancel_left _ (by decide), ← HF2.out]
        simp only [shaOut, List.nil_append, List.append_assoc]
      rw [← HSJ.out, e]
      rfl
    | succ r =>
      have hem : t.toList.isEmpty = false := by
        rw [Go.Lib.toList_data]
        have : t.data.toList.length ≠ 0 := by rw [← Go.Lib.size_eq]; omega
        cases h : t.data.toList with
        | nil => rw [h] at this; simp at this
        | cons _ _ => rfl
      have h64 : 64 ≤ t.size := by omega
      have h64' : (64 : Int) ≤ (t.size : Int) := by omega
      have HT := Aside0.mk ht
      have HF2 := Aside0.mk HF.out
      clear ht HF
      go_wp2_with fail
      refine (block_calls w.heap.size g v t _ HA.out h64 HB.out.size).mono ?_
      rintro e w12 ⟨rfl, hA, hb⟩
      have HA2 := Aside0.mk hA
      have HB2 := Aside0.mk (HB.out.trans hb)
      clear hA hb
      go_wp2
      go_roundg r
      case measure => omega
      case rel =>
        have ht := HT.out
        exact ⟨t.extract 64 t.size, blkF t v, by rw [ByteArray.size_extract]; omega, by rw [ByteArray.size_extract]; omega, rfl, ⟨by rw [← HF2.out, blocksF]⟩, HA2, HB2⟩


/-! ### digest_Sum: function 33 -/
def digest_Sum.f (l0 : List ByteArray) : Option (ByteArray) := if (joinB l0).size ≤ 1099511627776 ∧ l0.length ≤ 1099511627776 then some (shaF (joinB l0)) else none
theorem digest_Sum.calls (A0 : Option Addr) (c0 : Nat) (l0 : List ByteArray) (r : ByteArray) (w : World) (hr0 : Kd.C Kd.string w A0 l0.length l0) (hc0 : l0.length ≤ c0) (h : digest_Sum.f l0 = some r) :
    Calls Try.prog 33 #[.slice A0 l0.length c0] w fun e w' => e = .returned (.string r) ∧ Below w.heap.size w w' := by
  unfold digest_Sum.f at h
  by_cases c : (joinB l0).size ≤ 1099511627776 ∧ l0.length ≤ 1099511627776
  · rw [if_pos c] at h
    obtain rfl := Option.some.inj h
    exact Sum_calls A0 c0 l0 w hr0 hc0 c.1 c.2
  · rw [if_neg c] at h
    exact absurd h (by simp)

-- NOT PRINTED: function 49 (slices_Grow_string_string)

-- NOT PRINTED: function 37 (slices_Concat_string_string)

/-! ### a row of bytes that a conversion has made, byte by byte -/
structure BRow (g : Nat) (m : List Int) (w0 w : World) : Prop where
  cell : ∀ j, j < m.length → w.cell? ⟨g, j, none⟩ = some (.int .u8 (m.getD j 0))
  free : ∀ j, j < m.length → w.frozen? ⟨g, j, none⟩ = false
  below : Below w0.heap.size w0 w
  low : w0.heap.size ≤ g
theorem below_bytes_ (w : World) (e : TypeId) (s : ByteArray) : Below w.heap.size w (Lib.bytesWorld w e s) :=
  ⟨rfl, rfl, rfl, by rw [Lib.bytesWorld_size]; omega, fun k hk => Lib.bytesWorld_at_old w e s k hk⟩
theorem BRow.new (w : World) (s : ByteArray) : BRow w.heap.size (bytesOf s) w (Lib.bytesWorld w 5 s) := by
  refine ⟨fun j hj => ?_, fun j hj => ?_, below_bytes_ w 5 s, Nat.le_refl _⟩
  · rw [bytesOf_length] at hj
    rw [Lib.bytesWorld_cell w 5 s j hj]
    unfold bytesOf
    simp [List.getD_eq_getElem?_getD, hj]
  · rw [bytesOf_length] at hj
    unfold World.frozen?
    rw [Lib.bytesWorld_at_new]
    have : s.size ≤ (Lib.bytesCells w 5 s).size := by simp [Lib.bytesCells]
    simp
    omega
theorem BRow.drew {g : Nat} {m : List Int} {w0 w : World} (h : BRow g m w0 w) : BRow g m w0 w.drew := ⟨h.cell, h.free, below_drew1 h.below, h.low⟩
theorem BRow.put {g : Nat} {m : List Int} {w0 w : World} (h : BRow g m w0 w) (k : Nat) (hk : k < m.length) (x : Int) : BRow g (m.set k x) w0 (w.setCell ⟨g, k, none⟩ (.int .u8 x)) := by
  refine ⟨fun j hj => ?_, fun j hj => ?_, below_set h.below h.low, h.low⟩
  · rw [List.length_set] at hj
    by_cases e : k = j
    · subst e
      rw [World.cell?_setCell_same w ⟨g, k, none⟩ (.int .u8 x) (h.cell k hk)]
      simp [List.getD_eq_getElem?_getD, hk]
    · rw [World.cell?_setCell_other w ⟨g, k, none⟩ ⟨g, j, none⟩ (.int .u8 x) (fun h => e (by injection h)), h.cell j hj]
      simp [List.getD_eq_getElem?_getD, e]
  · rw [List.length_set] at hj
    exact (World.frozen?_setCell _ _ _ _).trans (h.free j hj)
theorem BRow.reads {g : Nat} {m : List Int} {w0 w : World} (h : BRow g m w0 w) (hm : m.length ≤ 9223372036854775807) : ReadsInt w .u8 (some ⟨g, 0, none⟩) m.length m :=
  ⟨rfl, hm, fun _ => ⟨_, rfl, fun j hj => by
    have e : (⟨g, 0, none⟩ : Addr).add j = ⟨g, j, none⟩ := by unfold Addr.add; split <;> simp_all
    rw [e]; exact h.cell j hj⟩⟩
theorem toNat1_ (i : Nat) : ((1 : Int) + (i : Int)).toNat = 1 + i := by omega
theorem bt1_ (a : ByteArray) (i : Nat) : ∀ h : 1 + i < a.size, ((a[1 + i]'h).toNat : Int) = bt a (1 + (i : Int)) := fun h => by
  have h2 := bt_at a (1 + (i : Int)) (by rw [toNat1_]; exact h)
  simpa only [toNat1_] using h2

/-! ### digest.Xor -/
def xorL (b : ByteArray) : Nat → Nat → List Int → List Int
  | 0, _, m => m
  | r + 1, i, m => xorL b r (i + 1) (m.set i (Go.bits .xor .u8 (m.getD i 0) (bt b (i : Int))))
def xorF (a b : ByteArray) : ByteArray := strOfNums (xorL b (min a.size b.size) 0 (bytesOf (a.extract 0 (min a.size b.size))))
theorem extract_full_ (s : ByteArray) : s.extract 0 s.size = s := by simp
def digest_Xor.f (a0 : ByteArray) (a1 : ByteArray) : Option (ByteArray) := if a0.size ≤ 9223372036854775807 ∧ a1.size ≤ 9223372036854775807 then some (xorF a0 a1) else none
set_option maxHeartbeats 1600000 in
set_option maxRecDepth 100000 in
theorem digest_Xor.calls (a0 : ByteArray) (a1 : ByteArray) (r : ByteArray) (w : World) (h : digest_Xor.f a0 a1 = some r) :
    Calls Try.prog 36 #[.string a0, .string a1] w fun e w' => e = .returned (.string r) ∧ Below w.heap.size w w' := by
  unfold digest_Xor.f at h
  by_cases hg : a0.size ≤ 9223372036854775807 ∧ a1.size ≤ 9223372036854775807
  rotate_left
  · rw [if_neg hg] at h
    simp at h
  rw [if_pos hg] at h
  obtain ⟨hmax, hmax1⟩ := hg
  obtain rfl := Option.some.inj h
  clear h
  obtain ⟨n, hn⟩ : ∃ n, n = min a0.size a1.size := ⟨_, rfl⟩
  have hn0 : n ≤ a0.size := by omega
  have hn1 : n ≤ a1.size := by omega
  have HN := Aside0.mk hn
  obtain ⟨s, hs⟩ : ∃ s, s = a0.extract 0 n := ⟨_, rfl⟩
  have hsz : s.size = n := by rw [hs, ByteArray.size_extract]; omega
  have HSE := Aside0.mk hs
  have HB0 := Aside0.mk (BRow.new w s)
  have HL := Aside0.mk (bytesOf_length s)
  have hcv := Lib.run_convert_string_bytes (P := Try.prog) w 9 46 5 s Try.underlying9 Try.underlying46 Try.underlying5
  have hcase : (¬ a1.size < a0.size ∧ s = a0) ∨ (a1.size < a0.size ∧ s = a0.extract 0 a1.size) := by
    by_cases hlt : a1.size < a0.size
    · exact Or.inr ⟨hlt, by rw [hs, show n = a1.size by omega]⟩
    · refine Or.inl ⟨hlt, ?_⟩
      rw [hs, show n = a0.size by omega]
      exact extract_full_ a0
  rw [hsz] at hcv
  have hcv1 : (convert 9 46 (.string (s.extract 0 n))).run Try.prog w = .ok (.slice (some ⟨w.heap.size, 0, none⟩) n (grownCap w n 0 5)) (Lib.bytesWorld w 5 s) := by
    have e : s.extract 0 n = s := by rw [← hsz]; exact extract_full_ s
    rw [e]
    exact hcv
  obtain ⟨gx, hgx⟩ : ∃ g, g = w.heap.size := ⟨_, rfl⟩
  rw [← hgx] at hcv hcv1
  have HGX := Aside0.mk hgx
  have HB1 : Aside0 (BRow gx (bytesOf s) w (Lib.bytesWorld w 5 s)) := ⟨by rw [hgx]; exact HB0.out⟩
  have HXF : Aside0 (xorF a0 a1 = strOfNums (xorL a1 n 0 (bytesOf s))) := ⟨by unfold xorF; rw [← hn, ← hs]⟩
  have hl0 : (bytesOf s).length = n := by rw [HL.out, hsz]
  obtain ⟨m0, hm0⟩ : ∃ m, m = bytesOf s := ⟨_, rfl⟩
  obtain ⟨w1, hw1⟩ : ∃ W, W = Lib.bytesWorld w 5 s := ⟨_, rfl⟩
  rw [← hw1] at hcv hcv1 HB1
  rw [← hm0] at HB1 HXF hl0
  have HL0 := Aside0.mk hl0
  obtain ⟨M, hM⟩ : ∃ M, M = xorL a1 n 0 m0 := ⟨_, rfl⟩
  rw [← hM] at HXF
  have HMM := Aside0.mk hM.symm
  have hnm : n ≤ 9223372036854775807 := by omega
  have HXE := Aside0.mk (show xorF a0 a1 = strOfNums M from HXF.out)
  clear hs hn HB0 hgx hm0 hw1 hl0 hM hsz HSE HL
  rcases hcase with ⟨hlt, hs⟩ | ⟨hlt, hs⟩
  all_goals
    subst hs
    go_enter Try.func36, Try.ntmps36
    go_wp2
    clear hcv hcv1
    go_loopg [6, 17] n (fun r s6 s17 wr => ∃ (i : Nat) (m : List Int), i + r = n ∧ s17 = .int .i64 (i : Int) ∧ m.length = n ∧ Aside0 (xorL a1 r i m = M) ∧ Aside0 (BRow gx m w wr))
    case atStart => exact ⟨0, m0, by omega, rfl, HL0.out, HMM, HB1⟩
    case round =>
      obtain ⟨i, m, hi, rfl, hml, HX, HR⟩ := hrel
      cases gk with
      | zero =>
        have hi2 : n ≤ i := by omega
        have hx := HX.out
        rw [xorL] at hx
        have hcs := string_of_reads (src := 46) (dst := 9) (e := 5) (c := grownCap w n 0 5) Try.underlying46 Try.underlying5 Try.underlying9 (HR.out.reads (by omega))
        rw [hml] at hcs
        have HX2 := Aside0.mk hx
        clear hx HX hml
        go_wp2
        go_ret
        refine ⟨?_, HR.out.below⟩
        rw [HXE.out, ← HX2.out]
        rfl
      | succ r =>
        have hin : i < n := by omega
        have hii : (i : Int) < (n : Int) := by omega
        have hx := HX.out
        rw [xorL] at hx
        have HR2 := Aside0.mk HR.out.drew
        have hc : wr.drew.cell? ⟨gx, i, none⟩ = some (.int .u8 (m.getD i 0)) := HR2.out.cell i (by omega)
        have hf : wr.drew.frozen? ⟨gx, i, none⟩ = false := HR2.out.free i (by omega)
        generalize m.getD i 0 = x0 at hc hx
        have HX2 := Aside0.mk hx
        have hi1 : i < a1.size := by omega
        have hi1' : (i : Int) < (a1.size : Int) := by omega
        have hb := bt_at a1 (i : Int)
        rw [Int.toNat_natCast] at hb
        clear hx HX
        have HML := Aside0.mk hml
        clear hml
        go_wp2_with fail
        go_still_tail 9, (by kernel_rfl)
        change wpList _ _ _ _ _ wr.drew
        generalize wr.drew = w4 at HR2 hc hf ⊢
        have H4 := Aside0.mk (HR2.out.put i (by rw [HML.out]; exact hin) (Go.bits .xor .u8 x0 (bt a1 (i : Int))))
        clear HR2 hb
        go_wp2
        go_roundg r
        case measure => omega
        case rel => exact ⟨i + 1, _, by omega, by go_num, by rw [List.length_set]; exact HML.out, HX2, H4⟩

/-! ### slices.Grow of nothing, slices.Concat of two lists of strings -/
theorem strs_one {w : World} {g : Nat} {p : ByteArray} (h : w.cell? ⟨g, 0, none⟩ = some (.string p)) : Kd.C Kd.string w (some ⟨g, 0, none⟩) 1 [p] :=
  ⟨rfl, by decide, fun _ => ⟨_, rfl, fun j x hj => by
    have hj0 : j = 0 := by
      have := (List.getElem?_eq_some_iff.1 hj).1
      simp at this
      omega
    subst hj0
    obtain rfl : p = x := by simpa using hj
    refine ⟨[.string p], rfl, rfl, fun i u hu => ?_⟩
    have hi0 : i = 0 := by
      have := (List.getElem?_eq_some_iff.1 hu).1
      simp at this
      omega
    subst hi0
    obtain rfl : Value.string p = u := by simpa using hu
    exact h⟩⟩
/-- A new row of strings. -/
theorem strs_row {w : World} {g : Nat} {xs : List ByteArray} {T : TypeId} (h : w.heap[g]? = some (.cells (xs.map Value.string).toArray T (0, 0))) (hl : xs.length ≤ 9223372036854775807) : Kd.C Kd.string w (some ⟨g, 0, none⟩) xs.length xs :=
  ⟨rfl, hl, fun _ => ⟨_, rfl, fun j x hj => ⟨[.string x], rfl, rfl, fun i u hu => by
    have hi0 : i = 0 := by
      have := (List.getElem?_eq_some_iff.1 hu).1
      simp at this
      omega
    subst hi0
    obtain rfl : Value.string x = u := by simpa using hu
    have e : (⟨g, 0, none⟩ : Addr).add (j * 1 + 0) = ⟨g, j, none⟩ := by unfold Addr.add; split <;> simp_all
    show w.cell? ((⟨g, 0, none⟩ : Addr).add (j * 1 + 0)) = _
    rw [e, blk_cell h j]
    simp [hj]⟩⟩⟩
theorem jn : ∀ l : List (List UInt8), Lib.join l [] = l.flatten
  | [] => rfl
  | [a] => by simp [Lib.join]
  | a :: b :: l => by
    have ih := jn (b :: l)
    have e : ([] : List UInt8).intercalate (a :: b :: l) = a ++ ([] ++ ([] : List UInt8).intercalate (b :: l)) := by simp [List.intercalate]
    show ([] : List UInt8).intercalate (a :: b :: l) = _
    rw [e, show ([] : List UInt8).intercalate (b :: l) = (b :: l).flatten from ih]
    simp
theorem jB_data (l : List ByteArray) : (joinB l).data.toList = (l.map (·.data.toList)).flatten := by
  show (Lib.join (l.map (·.data.toList)) []).toArray.toList = _
  rw [jn]
theorem jB_cons (a : ByteArray) (l : List ByteArray) : joinB (a :: l) = a ++ joinB l := by
  apply ByteArray.ext
  apply Array.toList_inj.mp
  rw [jB_data, ByteArray.data_append, Array.toList_append, jB_data]
  simp
theorem jB_nil : joinB [] = ⟨#[]⟩ := rfl
theorem jB_one (a : ByteArray) : joinB [a] = a := by
  apply ByteArray.ext
  apply Array.toList_inj.mp
  rw [jB_data]
  simp
theorem jB_two (a b : ByteArray) : joinB [a, b] = a ++ b := by rw [jB_cons, jB_one]
set_option maxHeartbeats 1000000 in
set_option maxRecDepth 100000 in
theorem grow_c (n : Nat) (h0 : 0 < n) (hn : n ≤ 1099511627776) (w : World) :
    Calls Try.prog 49 #[.slice none 0 0, .int .i64 (n : Int)] w fun e w' => ∃ cap, e = .returned (.slice (some ⟨w.heap.size, 0, none⟩) 0 cap) ∧ w'.ownsRow w.heap.size 9 1 (.slice (some ⟨w.heap.size, 0, none⟩) 0 cap) 0 [] ∧ Below w.heap.size w w' := by
  have hi5 : (Try.prog.info? 9).map (fun i => (i.zero, i.size, i.bytes)) = some (some (.string ⟨#[]⟩), 1, 16) := by kernel_rfl
  obtain ⟨i0, hi, hz0, hz1, hz2⟩ := info_parts hi5
  have hcap := grownCap_ge w n 0 9
  have hcap2 := grownCap_le_maxLen w n 0 9 (by simp only [maxLen]; omega)
  have hrun := Lib.run_append_nil_zeros (P := Try.prog) w 34 3 34 9 i0 (.string ⟨#[]⟩) .i64 .i64 Try.underlying34 Try.underlying3 hi hz0 n h0 (by omega) (by omega) (by rw [hz2]; omega)
  have HO : Aside0 ((w.drew.alloc (.cells (Builtin.zeroCells (Value.string ⟨#[]⟩).cells n ++ Builtin.zeroCells (Value.string ⟨#[]⟩).cells (grownCap w n 0 9 - n)) 9)).ownsRow w.heap.size 9 1 (.slice (some ⟨w.heap.size, 0, none⟩) 0 (grownCap w n 0 9)) 0 []) :=
    ⟨⟨rfl, Or.inr ⟨w.heap.size, grownCap w n 0 9, _, rfl, Nat.le_refl _, heap_alloc_new w.drew _, Nat.zero_le _, hcap2, by simp [Builtin.zeroCells, Value.cells]; omega, by simp⟩⟩⟩
  have HB : Aside0 (Below w.heap.size w (w.drew.alloc (.cells (Builtin.zeroCells (Value.string ⟨#[]⟩).cells n ++ Builtin.zeroCells (Value.string ⟨#[]⟩).cells (grownCap w n 0 9 - n)) 9))) := ⟨below_alloc (below_drew1 (Below.refl _ _)) _⟩
  generalize w.drew.alloc _ = w1 at hrun HO HB
  generalize grownCap w n 0 9 = cap at hrun HO hcap hcap2
  have hn0 : (0 : Int) < (n : Int) := by omega
  go_enter Try.func49, Try.ntmps49
  go_wp2_with (at_builtin; refine Lib.wpList_append_run _ rfl _ _ _ _ rfl _ _ rfl rfl _ _ hrun ?_)
  go_ret
  exact ⟨cap, rfl, HO.out, HB.out⟩
set_option maxHeartbeats 2000000 in
set_option maxRecDepth 100000 in
theorem concat_c (gq gp c : Nat) (A : Option Addr) (p : ByteArray) (l : List ByteArray) (w : World) (hq0 : w.cell? ⟨gq, 0, none⟩ = some (.slice (some ⟨gp, 0, none⟩) 1 1)) (hq1 : w.cell? ⟨gq, 1, none⟩ = some (.slice A l.length c))
    (hp : w.cell? ⟨gp, 0, none⟩ = some (.string p)) (hr : Kd.C Kd.string w A l.length l) (hc : l.length ≤ c) (hl : l.length ≤ 549755813888) :
    Calls Try.prog 37 #[.slice (some ⟨gq, 0, none⟩) 2 2] w fun e w' => ∃ A' c', e = .returned (.slice A' (p :: l).length c') ∧ Kd.C Kd.string w' A' (p :: l).length (p :: l) ∧ (p :: l).length ≤ c' ∧ Below w.heap.size w w' := by
  have HP := Aside0.mk (strs_one hp)
  have HR := Aside0.mk hr
  clear hr hp
  have hne : (1 + (l.length : Int)) = ((l.length + 1 : Nat) : Int) := by omega
  have HE := Aside0.mk hne
  clear hne
  go_enter Try.func37, Try.ntmps37
  go_wp2
  refine wp_loop_rounds 3 ?_
  rw [rounds_succ]
  go_wp2
  rw [rounds_succ]
  go_wp2
  rw [rounds_succ]
  go_wp2_with fail
  rw [HE.out]
  refine (grow_c (l.length + 1) (by omega) (by omega) w).mono ?_
  rintro e w1 ⟨cap, rfl, ho, hb⟩
  have HB1 := Aside0.mk hb
  have hq0' := pw_cell_below hb hq0
  have hq1' := pw_cell_below hb hq1
  have HP1 := Aside0.mk (Kd.C_below HP.out hb)
  have HO1 : Aside0 (Kd.R Kd.string 9 w1 w.heap.size (fun _ => True) (.slice (some ⟨w.heap.size, 0, none⟩) 0 cap) []) := ⟨⟨fun _ _ => trivial, [], ho, Reps.none _ _⟩⟩
  have hbs := hb.size
  have HQ1 := Aside0.mk hq1
  clear ho hb hq0 hq1 HP
  go_wp2_with fail
  refine wp_loop_rounds 3 ?_
  rw [rounds_succ]
  go_wp2_with (at_builtin; refine Kd.R_append_rows Kd.string (w0 := w) w.heap.size rfl _ _ 34 9 (.string ⟨#[]⟩) 16 rfl Try.underlying34 (by kernel_rfl) rfl (by decide) (by decide) _ [] [p] _ _ _ (fun _ => True) (fun _ => False) rfl rfl HO1.out HP1.out (fun _ _ h => h) (fun _ h => h.elim) (fun _ _ => trivial) HB1.out hbs (by simp) ?_; intro v2 w2 ho hb _ _; have HO2 := Aside0.mk ho; have HB2 := Aside0.mk hb; clear ho hb)
  clear hq0' hq1' HP1 HO1 HB1 hbs
  have hq1' := pw_cell_below HB2.out HQ1.out
  have HR2 := Aside0.mk (Kd.C_below HR.out HB2.out)
  have hbs := HB2.out.size
  rw [rounds_succ]
  go_wp2_with (at_builtin; refine Kd.R_append_rows Kd.string (w0 := w) w.heap.size rfl _ _ 34 9 (.string ⟨#[]⟩) 16 rfl Try.underlying34 (by kernel_rfl) rfl (by decide) (by decide) _ ([] ++ [p]) l _ _ _ (fun _ => True) (fun _ => False) rfl rfl HO2.out HR2.out (fun _ _ h => h) (fun _ h => h.elim) (fun _ _ => trivial) HB2.out hbs (by simp; omega) ?_; intro v3 w3 ho hb _ _; have HO3 := Aside0.mk ho; have HB3 := Aside0.mk hb; clear ho hb)
  clear hq1' HR2 HO2 HB2 hbs
  rw [rounds_succ]
  obtain ⟨A', c', hv, hl', hC⟩ := Kd.R_reads HO3.out
  subst hv
  have HC := Aside0.mk hC
  clear hC
  go_wp2
  go_ret
  exact ⟨A', c', rfl, HC.out, hl', HB3.out⟩

/-! ### a pad -/
theorem repB_size (s : ByteArray) (n : Nat) : (repB s n).size = n * s.size := by
  unfold repB
  show (Lib.repeatL s.data.toList n).toArray.size = _
  rw [List.size_toArray, Lib.repeatL_length]
  rfl
theorem xorL_len (b : ByteArray) : ∀ (r i : Nat) (m : List Int), (xorL b r i m).length = m.length
  | 0, _, _ => rfl
  | r + 1, i, m => by rw [xorL, xorL_len b r, List.length_set]
theorem xorF_len (a b : ByteArray) : (xorF a b).size = min a.size b.size := by
  unfold xorF
  rw [strOfNums_size, xorL_len, bytesOf_length, ByteArray.size_extract]
  omega
set_option maxHeartbeats 1000000 in
set_option maxRecDepth 100000 in
theorem pad_c (g : Nat) (k b : ByteArray) (w : World) (hk : w.heap[g]? = some (.cells #[.string k] 9 (0, 0))) (h1 : k.size ≤ 1099511627776) (h2 : b.size ≤ 1099511627776) :
    Calls Try.prog 35 #[.string b, .pointer (some ⟨g, 0, none⟩)] w fun e w' => e = .returned (.string (xorF k (repB b 64))) ∧ Below w.heap.size w w' := by
  have hrep := fun w => strings_Repeat.calls b 64 (repB b 64) w (if_pos ⟨by decide, by decide, by show b.size * 64 ≤ _; omega⟩)
  have hz := repB_size b 64
  have hxor := fun w => digest_Xor.calls k (repB b 64) (xorF k (repB b 64)) w (if_pos ⟨by omega, by omega⟩)
  clear hz
  generalize repB b 64 = y at hrep hxor ⊢
  have HB := Aside0.mk (Below.refl w.heap.size w)
  have HK := Aside0.mk hk
  have hlt := blk_lt hk
  clear hk
  go_enter Try.func35, Try.ntmps35
  go_wp2_with fail
  have HT_ : Aside0 (rtab .any (opsOf Try.f35 1) = rtab .any (opsOf Try.f35 1)) := ⟨rfl⟩
  refine start_ (n := 5) (S := fun W => W.heap[g]? = some (.cells #[.string k] 9 (0, 0))) (ds := []) #[false, false, false, false, false] (by kernel_rfl) rfl rfl (blk_drew HK.out) (fun hHeld => ?_)
  have HBd := Aside0.mk (below_drew1 HB.out)
  generalize w.drew = w3 at HBd hHeld ⊢
  refine pure_ (i := 1) (N := some 5) (v := ?_) (a' := ?_) #[false, true, false, false, false] rfl rfl (any_of HT_.out (by kernel_rfl)) (fun _ _ _ h => h) (Or.inl ⟨by rfl, ?_⟩) ?_ ?_
  rotate_left
  · intro w'
    go_simp
    with_reducible rfl
  rotate_left
  · simp only [Act.put, List.setIfInBounds_toArray, List.set_cons_zero, List.set_cons_succ, i64_w, i32_w]
    rfl
  refine take_ (i := 0) (N := some 4) (v := .string k) (a' := ?_) #[true, true, false, false, false] rfl rfl (by kernel_rfl) (fun _ _ _ h => h) (Or.inl ⟨by rfl, ?_⟩) hHeld ?_ ?_
  · intro w' hw'
    have hc : w'.cell? ⟨g, 0, none⟩ = some (.string k) := blk_cell hw' 0
    go_simp
  rotate_left
  · simp only [Act.put, List.setIfInBounds_toArray, List.set_cons_zero, List.set_cons_succ, i64_w, i32_w]
    rfl
  refine one_ (i := 2) (N := some 6) #[true, true, true, false, false] rfl rfl (one_of HT_.out (by kernel_rfl)) (by decide) (fun K hK => ?_)
  refine goes_ (N := some 6) Try.func34 (by kernel_rfl) rfl #[.string b, .int .i64 64] (by rfl) rfl rfl (by (try simp only [List.map_toArray, List.map_cons, List.map_nil]); first | done | rfl) ?_
  refine (hrep _).mono ?_
  rintro e w4 ⟨rfl, hb⟩
  have HB4 := Aside0.mk (HBd.out.trans (hb.mono HBd.out.size))
  have hK4 := blk_below hHeld hb
  clear hb
  refine ⟨_, rfl, ?_⟩
  refine hK.out _ _ hK4 (fun hHeld4 => ?_)
  clear hK K
  refine norm_ (a' := ?_) ?_ ?_
  rotate_left
  · show Act.put _ (some 6) _ = _
    simp only [Act.put, List.setIfInBounds_toArray, List.set_cons_zero, List.set_cons_succ, i64_w, i32_w]
    rfl
  refine one_ (i := 3) (N := some 7) #[true, true, true, true, false] rfl rfl (one_of HT_.out (by kernel_rfl)) (by decide) (fun K hK => ?_)
  refine goes_ (N := some 7) Try.func36 (by kernel_rfl) rfl #[.string k, .string y] (by rfl) rfl rfl (by (try simp only [List.map_toArray, List.map_cons, List.map_nil]); first | done | rfl) ?_
  refine (hxor _).mono ?_
  rintro e w5 ⟨rfl, hb⟩
  have HB5 := Aside0.mk (HB4.out.trans (hb.mono HB4.out.size))
  have hK5 := blk_below hHeld4 hb
  clear hb
  refine ⟨_, rfl, ?_⟩
  refine hK.out _ _ hK5 (fun hHeld5 => ?_)
  clear hK K
  refine norm_ (a' := ?_) ?_ ?_
  rotate_left
  · show Act.put _ (some 7) _ = _
    simp only [Act.put, List.setIfInBounds_toArray, List.set_cons_zero, List.set_cons_succ, i64_w, i32_w]
    rfl
  refine pure_ (i := 4) (N := some 3) (v := ?_) (a' := ?_) #[true, true, true, true, true] rfl rfl (any_of HT_.out (by kernel_rfl)) (fun _ _ _ h => h) (Or.inl ⟨by rfl, ?_⟩) ?_ ?_
  rotate_left
  · intro w'
    go_simp
    with_reducible rfl
  rotate_left
  · simp only [Act.put, List.setIfInBounds_toArray, List.set_cons_zero, List.set_cons_succ, i64_w, i32_w]
    rfl
  refine done_ (done_of HT_.out (by kernel_rfl)) ?_
  go_wp2
  go_ret
  exact ⟨rfl, HB5.out⟩


theorem shaF_len (s : ByteArray) : (shaF s).size = 32 := by
  unfold shaF
  rw [strOfNums_size]
  rfl

end Go.Proofs.Ytghdmlcmoeoohaa.PKfx
