-- printed for this claim by a program of the claim (wip/tools/pp.py over the kit's print)
import Derived.Test.YtjpafikgbnloaaaDoorPHdmx0
import Derived.Test.YtjpafikgbnloaaaDoorPHdmx5
import Derived.Test.YtjpafikgbnloaaaDoorPHdmx9
import Derived.Test.YtjpafikgbnloaaaDoorPHdmx10
namespace Go.Proofs.YtjpafikgbnloaaaDoor.PHdm
open Go.RowKit Go.Proofs.YtjpafikgbnloaaaDoorW.PrintWords Go.Proofs.YtjpafikgbnloaaaDoorW.PrintLast Go.Proofs.YtjpafikgbnloaaaDoorW.PrintMore
attribute [local go_sem] max2_int min2_int max_two min_two max_three min_three max_four min_four   -- for this text's walks alone
set_option linter.unusedVariables false
set_option linter.unusedSimpArgs false

attribute [local go_sem] isSome_setCell_
/-! ### dominoref04_Get: function 15 -/
def gZ : Bool × Bool × Bool × Int × Int × ByteArray × ByteArray × ByteArray × Int × Int × Int × ByteArray × Int := (false, false, false, 0, 0, (⟨#[]⟩ : ByteArray), (⟨#[]⟩ : ByteArray), (⟨#[]⟩ : ByteArray), 0, 0, 0, (⟨#[]⟩ : ByteArray), 40)
def gEnd (k : Nat) (b : Int) (lg sp : Bool) (ty ver : Int) (d c tk : ByteArray) (len : Int) (r : ByteArray) : Option (Bool × Bool × Bool × Int × Int × ByteArray × ByteArray × ByteArray × Int × Int × Int × ByteArray × Int) :=
 if (r.size : Int) < 1 + b % 4 ∨ (if lg = true then b / 4 % 4 else b / 8 % 4) ≠ 0 then some gZ else (dominoref01_Back.f k (r.extract 0 (1 + b % 4).toNat)).bind fun v => some (lg, sp, !lg && (b / 4 % 2 == 1), ty, ver, d, c, tk, len, 1 + b % 4, v, r.extract (1 + b % 4).toNat r.size, 0)
def dominoref04_Get.f (k : Nat) (a0 : ByteArray) : Option (Bool × Bool × Bool × Int × Int × ByteArray × ByteArray × ByteArray × Int × Int × Int × ByteArray × Int) := (dominoref04_ahead.f k a0).bind fun x => match x with
 | (lg, sp, _, ty, ver, d, c, tk, len, _, _, r, is) => if is = true then (if 0 < a0.size ∧ r.size ≤ 9223372036854775807 then gEnd k (bt a0 0) lg sp ty ver d c tk len r else none) else some gZ
theorem gEnd.mono (b : Int) (lg sp : Bool) (ty ver : Int) (d c tk : ByteArray) (len : Int) (r : ByteArray) (k : Nat) : LeO (gEnd k b lg sp ty ver d c tk len r) (gEnd (k + 1) b lg sp ty ver d c tk len r) := LeO.ite (LeO.refl _) (LeO.bind (dominoref01_Back.mono _ _) fun _ => LeO.refl _)
theorem dominoref04_Get.mono : ∀ a0 k, LeO (dominoref04_Get.f k a0) (dominoref04_Get.f (k + 1) a0) := fun a0 k => LeO.bind (dominoref04_ahead.mono a0 k) fun ⟨_, _, _, _, _, _, _, _, _, _, _, _, _⟩ => LeO.ite (LeO.ite (gEnd.mono _ _ _ _ _ _ _ _ _ _ _) (LeO.refl _)) (LeO.refl _)
theorem g_bits (a0 : ByteArray) : Int.tmod (bt a0 0) 4 = bt a0 0 % 4 ∧ (Int.tdiv (bt a0 0) 4 % 256 % 2 = bt a0 0 / 4 % 2 ∧ Int.tdiv (bt a0 0) 4 % 2 = bt a0 0 / 4 % 2) ∧ (Int.tdiv (bt a0 0) 8 % 256 % 4 = bt a0 0 / 8 % 4 ∧ Int.tdiv (bt a0 0) 8 % 4 = bt a0 0 / 8 % 4) ∧ (Int.tdiv (bt a0 0) 4 % 256 % 4 = bt a0 0 / 4 % 4 ∧ Int.tdiv (bt a0 0) 4 % 4 = bt a0 0 / 4 % 4) ∧ wrap64 (1 + wrap64 (bt a0 0 % 4)) = 1 + bt a0 0 % 4 ∧ wrap64 (1 + bt a0 0 % 4) = 1 + bt a0 0 % 4 ∧ wrap64 (bt a0 0 % 4) = bt a0 0 % 4 := by
 have hr := bt_range a0 0
 rw [Int.tdiv_eq_ediv_of_nonneg hr.1, Int.tdiv_eq_ediv_of_nonneg hr.1, Int.tmod_eq_emod_of_nonneg hr.1]
 have w (n : Int) (a : 0 ≤ n) (b : n < 9223372036854775808) : wrap64 n = n := by unfold wrap64; omega
 refine ⟨rfl, ⟨by omega, rfl⟩, ⟨by omega, rfl⟩, ⟨by omega, rfl⟩, ?_, w _ (by omega) (by omega), w _ (by omega) (by omega)⟩
 rw [w (bt a0 0 % 4) (by omega) (by omega), w _ (by omega) (by omega)]
set_option maxHeartbeats 8000000 in
set_option maxRecDepth 100000 in
theorem dominoref04_Get.calls (k : Nat) (a0 : ByteArray) (r1 : Bool) (r2 : Bool) (r3 : Bool) (r4 : Int) (r5 : Int) (r6 : ByteArray) (r7 : ByteArray) (r8 : ByteArray) (r9 : Int) (r10 : Int) (r11 : Int) (r12 : ByteArray) (r13 : Int) (w : World) (h : dominoref04_Get.f k a0 = some (r1, r2, r3, r4, r5, r6, r7, r8, r9, r10, r11, r12, r13)) :
  Calls Tryd.prog 15 #[.string a0] w fun e w' => e = .returned (.tuple #[.agg #[.bool r1, .bool r2, .bool r3, .int .i64 r4, .int .u32 r5, .string r6, .string r7, .string r8, .int .u64 r9, .int .i64 r10, .int .u64 r11], .string r12, .int .i64 r13]) ∧ Below w.heap.size w w' := by
 obtain ⟨⟨lg, sp, ph, ty, ver, d, c, tk, len, wi, nu, r, is⟩, ha, h⟩ := Option.bind_eq_some_iff.1 h
 dsimp only at h
 have HF := Aside0.mk h
 have HA := Aside0.mk ha
 have hu28 := Tryd.underlying28
 clear h ha
 go_enter Tryd.func15, Tryd.ntmps15
 go_wp2_with (((with_reducible refine gate_dst (N := 2) rfl ?_); refine box_event ?hg (N := 2) ?hd (cs := #[.bool false, .bool false, .bool false, .int .i64 0, .int .u32 0, .string (⟨#[]⟩ : ByteArray), .string (⟨#[]⟩ : ByteArray), .string (⟨#[]⟩ : ByteArray), .int .u64 0, .int .i64 0, .int .u64 0]) (t := 28) ?hr ?_; (case hd => rfl); (case hg => rfl); (case hr => first | (go_simp; done) | (go_simp; rfl)); intro gb hg w1 hbox hb; have R1 := Aside0.mk hbox; have B1 := Aside0.mk (below_step (Below.refl _ _) hb); have GB := Aside0.mk (Nat.le_of_eq hg.symm); clear hg hb hbox; obtain ⟨d0, d1, d2, d3, d4, d5, d6, d7, d8, d9, d10, df0, df1, df2, df3, df4, df5, df6, df7, df8, df9, df10⟩ := cs11f_ R1.out))
 refine (dominoref04_ahead.calls k _ _ _ _ _ _ _ _ _ _ _ _ _ _ _ HA.out).mono ?_
 rintro e_ w1' ⟨rfl, hb_⟩
 have R1 := Aside0.mk (blk_below R1.out hb_)
 have B1 := Aside0.mk (below_step B1.out hb_)
 clear hb_ d0 df0 d1 df1 d2 df2 d3 df3 d4 df4 d5 df5 d6 df6 d7 df7 d8 df8 d9 df9 d10 df10
 have d0 : w1'.cell? ⟨gb, 0, none⟩ = some (.bool false) := (blk_cell R1.out 0).trans rfl
 have df0 := blk_frozen R1.out 0
 have d1 : w1'.cell? ⟨gb, 1, none⟩ = some (.bool false) := (blk_cell R1.out 1).trans rfl
 have df1 := blk_frozen R1.out 1
 have d2 : w1'.cell? ⟨gb, 2, none⟩ = some (.bool false) := (blk_cell R1.out 2).trans rfl
 have df2 := blk_frozen R1.out 2
 have d3 : w1'.cell? ⟨gb, 3, none⟩ = some (.int .i64 0) := (blk_cell R1.out 3).trans rfl
 have df3 := blk_frozen R1.out 3
 have d4 : w1'.cell? ⟨gb, 4, none⟩ = some (.int .u32 0) := (blk_cell R1.out 4).trans rfl
 have df4 := blk_frozen R1.out 4
 have d5 : w1'.cell? ⟨gb, 5, none⟩ = some (.string (⟨#[]⟩ : ByteArray)) := (blk_cell R1.out 5).trans rfl
 have df5 := blk_frozen R1.out 5
 have d6 : w1'.cell? ⟨gb, 6, none⟩ = some (.string (⟨#[]⟩ : ByteArray)) := (blk_cell R1.out 6).trans rfl
 have df6 := blk_frozen R1.out 6
 have d7 : w1'.cell? ⟨gb, 7, none⟩ = some (.string (⟨#[]⟩ : ByteArray)) := (blk_cell R1.out 7).trans rfl
 have df7 := blk_frozen R1.out 7
 have d8 : w1'.cell? ⟨gb, 8, none⟩ = some (.int .u64 0) := (blk_cell R1.out 8).trans rfl
 have df8 := blk_frozen R1.out 8
 have d9 : w1'.cell? ⟨gb, 9, none⟩ = some (.int .i64 0) := (blk_cell R1.out 9).trans rfl
 have df9 := blk_frozen R1.out 9
 have d10 : w1'.cell? ⟨gb, 10, none⟩ = some (.int .u64 0) := (blk_cell R1.out 10).trans rfl
 have df10 := blk_frozen R1.out 10
 go_upto_region 2 with (((with_reducible refine gate_dst (N := 5) rfl ?_); refine box_event ?hg (N := 5) ?hd (cs := #[.bool false, .bool false, .bool false, .int .i64 0, .int .u32 0, .string (⟨#[]⟩ : ByteArray), .string (⟨#[]⟩ : ByteArray), .string (⟨#[]⟩ : ByteArray), .int .u64 0, .int .i64 0, .int .u64 0]) (t := 28) ?hr ?_; (case hd => rfl); (case hg => rfl); (case hr => first | (go_simp; done) | (go_simp; rfl)); intro gh hg w2 hbox hb; have R2 := Aside0.mk (blk_below R1.out hb); have H2 := Aside0.mk hbox; have B2 := Aside0.mk (below_step B1.out hb); have GH := Aside0.mk (show w.heap.size ≤ gh from Nat.le_trans B1.out.size (Nat.le_of_eq hg.symm)); have n1 : gb ≠ gh := Nat.ne_of_lt (Nat.lt_of_lt_of_le (blk_lt R1.out) (Nat.le_of_eq hg.symm)); have n2 : gh ≠ gb := n1.symm; clear hg hb hbox d0 df0 d1 df1 d2 df2 d3 df3 d4 df4 d5 df5 d6 df6 d7 df7 d8 df8 d9 df9 d10 df10; obtain ⟨d0, d1, d2, d3, d4, d5, d6, d7, d8, d9, d10, df0, df1, df2, df3, df4, df5, df6, df7, df8, df9, df10⟩ := cs11f_ R2.out; obtain ⟨e0, e1, e2, e3, e4, e5, e6, e7, e8, e9, e10, ef0, ef1, ef2, ef3, ef4, ef5, ef6, ef7, ef8, ef9, ef10⟩ := cs11f_ H2.out))
 have h_ := (blk_put (cs' := #[.bool lg, .bool sp, .bool ph, .int .i64 ty, .int .u32 ver, .string d, .string c, .string tk, .int .u64 len, .int .i64 wi, .int .u64 nu]) (blk_put (cs' := #[.bool lg, .bool sp, .bool ph, .int .i64 ty, .int .u32 ver, .string d, .string c, .string tk, .int .u64 len, .int .i64 wi, .int .u64 0]) (blk_put (cs' := #[.bool lg, .bool sp, .bool ph, .int .i64 ty, .int .u32 ver, .string d, .string c, .string tk, .int .u64 len, .int .i64 0, .int .u64 0]) (blk_put (cs' := #[.bool lg, .bool sp, .bool ph, .int .i64 ty, .int .u32 ver, .string d, .string c, .string tk, .int .u64 0, .int .i64 0, .int .u64 0]) (blk_put (cs' := #[.bool lg, .bool sp, .bool ph, .int .i64 ty, .int .u32 ver, .string d, .string c, .string (⟨#[]⟩ : ByteArray), .int .u64 0, .int .i64 0, .int .u64 0]) (blk_put (cs' := #[.bool lg, .bool sp, .bool ph, .int .i64 ty, .int .u32 ver, .string d, .string (⟨#[]⟩ : ByteArray), .string (⟨#[]⟩ : ByteArray), .int .u64 0, .int .i64 0, .int .u64 0]) (blk_put (cs' := #[.bool lg, .bool sp, .bool ph, .int .i64 ty, .int .u32 ver, .string (⟨#[]⟩ : ByteArray), .string (⟨#[]⟩ : ByteArray), .string (⟨#[]⟩ : ByteArray), .int .u64 0, .int .i64 0, .int .u64 0]) (blk_put (cs' := #[.bool lg, .bool sp, .bool ph, .int .i64 ty, .int .u32 0, .string (⟨#[]⟩ : ByteArray), .string (⟨#[]⟩ : ByteArray), .string (⟨#[]⟩ : ByteArray), .int .u64 0, .int .i64 0, .int .u64 0]) (blk_put (cs' := #[.bool lg, .bool sp, .bool ph, .int .i64 0, .int .u32 0, .string (⟨#[]⟩ : ByteArray), .string (⟨#[]⟩ : ByteArray), .string (⟨#[]⟩ : ByteArray), .int .u64 0, .int .i64 0, .int .u64 0]) (blk_put (cs' := #[.bool lg, .bool sp, .bool false, .int .i64 0, .int .u32 0, .string (⟨#[]⟩ : ByteArray), .string (⟨#[]⟩ : ByteArray), .string (⟨#[]⟩ : ByteArray), .int .u64 0, .int .i64 0, .int .u64 0]) (blk_put (cs' := #[.bool lg, .bool false, .bool false, .int .i64 0, .int .u32 0, .string (⟨#[]⟩ : ByteArray), .string (⟨#[]⟩ : ByteArray), .string (⟨#[]⟩ : ByteArray), .int .u64 0, .int .i64 0, .int .u64 0]) H2.out 0 (.bool lg) rfl) 1 (.bool sp) rfl) 2 (.bool ph) rfl) 3 (.int .i64 ty) rfl) 4 (.int .u32 ver) rfl) 5 (.string d) rfl) 6 (.string c) rfl) 7 (.string tk) rfl) 8 (.int .u64 len) rfl) 9 (.int .i64 wi) rfl) 10 (.int .u64 nu) rfl)
 have b_ := (below_set (j := 10) (v := .int .u64 nu) (below_set (j := 9) (v := .int .i64 wi) (below_set (j := 8) (v := .int .u64 len) (below_set (j := 7) (v := .string tk) (below_set (j := 6) (v := .string c) (below_set (j := 5) (v := .string d) (below_set (j := 4) (v := .int .u32 ver) (below_set (j := 3) (v := .int .i64 ty) (below_set (j := 2) (v := .bool ph) (below_set (j := 1) (v := .bool sp) (below_set (j := 0) (v := .bool lg) B2.out GH.out) GH.out) GH.out) GH.out) GH.out) GH.out) GH.out) GH.out) GH.out) GH.out) GH.out)
 have r_ := (blk_far (p := ⟨gh, 10, none⟩) (blk_far (p := ⟨gh, 9, none⟩) (blk_far (p := ⟨gh, 8, none⟩) (blk_far (p := ⟨gh, 7, none⟩) (blk_far (p := ⟨gh, 6, none⟩) (blk_far (p := ⟨gh, 5, none⟩) (blk_far (p := ⟨gh, 4, none⟩) (blk_far (p := ⟨gh, 3, none⟩) (blk_far (p := ⟨gh, 2, none⟩) (blk_far (p := ⟨gh, 1, none⟩) (blk_far (p := ⟨gh, 0, none⟩) R2.out n1 (.bool lg)) n1 (.bool sp)) n1 (.bool ph)) n1 (.int .i64 ty)) n1 (.int .u32 ver)) n1 (.string d)) n1 (.string c)) n1 (.string tk)) n1 (.int .u64 len)) n1 (.int .i64 wi)) n1 (.int .u64 nu))
 clear d0 df0 d1 df1 d2 df2 d3 df3 d4 df4 d5 df5 d6 df6 d7 df7 d8 df8 d9 df9 d10 df10 e0 ef0 e1 ef1 e2 ef2 e3 ef3 e4 ef4 e5 ef5 e6 ef6 e7 ef7 e8 ef8 e9 ef9 e10 ef10
 generalize (((((((((((w2.setCell ⟨gh, 0, none⟩ (.bool lg)).setCell ⟨gh, 1, none⟩ (.bool sp)).setCell ⟨gh, 2, none⟩ (.bool ph)).setCell ⟨gh, 3, none⟩ (.int .i64 ty)).setCell ⟨gh, 4, none⟩ (.int .u32 ver)).setCell ⟨gh, 5, none⟩ (.string d)).setCell ⟨gh, 6, none⟩ (.string c)).setCell ⟨gh, 7, none⟩ (.string tk)).setCell ⟨gh, 8, none⟩ (.int .u64 len)).setCell ⟨gh, 9, none⟩ (.int .i64 wi)).setCell ⟨gh, 10, none⟩ (.int .u64 nu)) = w3 at h_ b_ r_ ⊢
 have H3 := Aside0.mk h_
 have B3 := Aside0.mk b_
 have R3 := Aside0.mk r_
 clear h_ b_ r_
 obtain ⟨d0, d1, d2, d3, d4, d5, d6, d7, d8, d9, d10, df0, df1, df2, df3, df4, df5, df6, df7, df8, df9, df10⟩ := cs11f_ R3.out
 obtain ⟨e0, e1, e2, e3, e4, e5, e6, e7, e8, e9, e10, ef0, ef1, ef2, ef3, ef4, ef5, ef6, ef7, ef8, ef9, ef10⟩ := cs11f_ H3.out
 cases is with
 | false =>
  have hf := HF.out
  clear HF
  rw [if_neg (by decide)] at hf
  have HF := Aside0.mk hf
  clear hf
  have hf := HF.out
  clear HF
  simp only [gZ, Option.some.injEq, Prod.mk.injEq] at hf
  obtain ⟨rfl, rfl, rfl, rfl, rfl, rfl, rfl, rfl, rfl, rfl, rfl, rfl, rfl⟩ := hf
  (try clear HF)
  go_wp2
  refine bodyPost_ret (results_ctt rfl _ _ gb 28 #[.bool false, .bool false, .bool false, .int .i64 0, .int .u32 0, .string (⟨#[]⟩ : ByteArray), .string (⟨#[]⟩ : ByteArray), .string (⟨#[]⟩ : ByteArray), .int .u64 0, .int .i64 0, .int .u64 0] (0, 0) _ rfl (blk_put (cs' := #[.bool false, .bool false, .bool false, .int .i64 0, .int .u32 0, .string (⟨#[]⟩ : ByteArray), .string (⟨#[]⟩ : ByteArray), .string (⟨#[]⟩ : ByteArray), .int .u64 0, .int .i64 0, .int .u64 0]) (blk_put (cs' := #[.bool false, .bool false, .bool false, .int .i64 0, .int .u32 0, .string (⟨#[]⟩ : ByteArray), .string (⟨#[]⟩ : ByteArray), .string (⟨#[]⟩ : ByteArray), .int .u64 0, .int .i64 0, .int .u64 0]) (blk_put (cs' := #[.bool false, .bool false, .bool false, .int .i64 0, .int .u32 0, .string (⟨#[]⟩ : ByteArray), .string (⟨#[]⟩ : ByteArray), .string (⟨#[]⟩ : ByteArray), .int .u64 0, .int .i64 0, .int .u64 0]) (blk_put (cs' := #[.bool false, .bool false, .bool false, .int .i64 0, .int .u32 0, .string (⟨#[]⟩ : ByteArray), .string (⟨#[]⟩ : ByteArray), .string (⟨#[]⟩ : ByteArray), .int .u64 0, .int .i64 0, .int .u64 0]) (blk_put (cs' := #[.bool false, .bool false, .bool false, .int .i64 0, .int .u32 0, .string (⟨#[]⟩ : ByteArray), .string (⟨#[]⟩ : ByteArray), .string (⟨#[]⟩ : ByteArray), .int .u64 0, .int .i64 0, .int .u64 0]) (blk_put (cs' := #[.bool false, .bool false, .bool false, .int .i64 0, .int .u32 0, .string (⟨#[]⟩ : ByteArray), .string (⟨#[]⟩ : ByteArray), .string (⟨#[]⟩ : ByteArray), .int .u64 0, .int .i64 0, .int .u64 0]) (blk_put (cs' := #[.bool false, .bool false, .bool false, .int .i64 0, .int .u32 0, .string (⟨#[]⟩ : ByteArray), .string (⟨#[]⟩ : ByteArray), .string (⟨#[]⟩ : ByteArray), .int .u64 0, .int .i64 0, .int .u64 0]) (blk_put (cs' := #[.bool false, .bool false, .bool false, .int .i64 0, .int .u32 0, .string (⟨#[]⟩ : ByteArray), .string (⟨#[]⟩ : ByteArray), .string (⟨#[]⟩ : ByteArray), .int .u64 0, .int .i64 0, .int .u64 0]) (blk_put (cs' := #[.bool false, .bool false, .bool false, .int .i64 0, .int .u32 0, .string (⟨#[]⟩ : ByteArray), .string (⟨#[]⟩ : ByteArray), .string (⟨#[]⟩ : ByteArray), .int .u64 0, .int .i64 0, .int .u64 0]) (blk_put (cs' := #[.bool false, .bool false, .bool false, .int .i64 0, .int .u32 0, .string (⟨#[]⟩ : ByteArray), .string (⟨#[]⟩ : ByteArray), .string (⟨#[]⟩ : ByteArray), .int .u64 0, .int .i64 0, .int .u64 0]) (blk_put (cs' := #[.bool false, .bool false, .bool false, .int .i64 0, .int .u32 0, .string (⟨#[]⟩ : ByteArray), .string (⟨#[]⟩ : ByteArray), .string (⟨#[]⟩ : ByteArray), .int .u64 0, .int .i64 0, .int .u64 0]) R3.out 0 (.bool false) rfl) 1 (.bool false) rfl) 2 (.bool false) rfl) 3 (.int .i64 0) rfl) 4 (.int .u32 0) rfl) 5 (.string (⟨#[]⟩ : ByteArray)) rfl) 6 (.string (⟨#[]⟩ : ByteArray)) rfl) 7 (.string (⟨#[]⟩ : ByteArray)) rfl) 8 (.int .u64 0) rfl) 9 (.int .i64 0) rfl) 10 (.int .u64 0) rfl) Tryd.underlying28 rfl (by kernel_rfl)) rfl ?_
  exact ⟨rfl, (below_set (below_set (below_set (below_set (below_set (below_set (below_set (below_set (below_set (below_set (below_set B3.out GB.out) GB.out) GB.out) GB.out) GB.out) GB.out) GB.out) GB.out) GB.out) GB.out) GB.out)⟩
 | true =>
  have hf := HF.out
  clear HF
  rw [if_pos rfl] at hf
  by_cases hq : 0 < a0.size ∧ r.size ≤ 9223372036854775807
  rotate_left
  ·rw [if_neg hq] at hf
   simp at hf
  rw [if_pos hq] at hf
  obtain ⟨q10, hs3⟩ := hq
  have HF := Aside0.mk hf
  have hx10 : ∀ h : 0 < a0.size, ((a0[0]'h).toNat : Int) = bt a0 0 := bt_at a0 0
  have qi : (0 < a0.size) = True := eq_true q10
  obtain ⟨k1, ⟨k2, k3⟩, ⟨k4, k5⟩, ⟨k6, k7⟩, k8, k9, k10⟩ := g_bits a0
  have hr := bt_range a0 0
  have u1 : 0 ≤ 1 + bt a0 0 % 4 := by omega
  have u2 : 1 + bt a0 0 % 4 ≤ 4 := by omega
  have p1 : (Int.tdiv (bt a0 0) 4 % 256 % 2 == 1) = (bt a0 0 / 4 % 2 == 1) := by rw [k2]
  have p2 : (Int.tdiv (bt a0 0) 4 % 2 == 1) = (bt a0 0 / 4 % 2 == 1) := by rw [k3]
  clear hf k2 k3
  generalize hW : 1 + bt a0 0 % 4 = W at k8 k9 u1 u2
  generalize hP : (bt a0 0 / 4 % 2 == 1) = P at p1 p2
  cases lg with
  | true =>
   by_cases c1 : (r.size : Int) < W
   ·have hf := HF.out
    clear HF
    unfold gEnd at hf
    rw [hW, hP, if_pos (Or.inl c1)] at hf
    have HF := Aside0.mk hf
    have g1 : ((r.size : Int) < W) = True := eq_true c1
    have g2 : decide ((r.size : Int) < W) = true := decide_eq_true c1
    clear hf c1
    have hf := HF.out
    clear HF
    simp only [gZ, Option.some.injEq, Prod.mk.injEq] at hf
    obtain ⟨rfl, rfl, rfl, rfl, rfl, rfl, rfl, rfl, rfl, rfl, rfl, rfl, rfl⟩ := hf
    (try clear HF)
    go_wp2
    refine bodyPost_ret (results_ctt rfl _ _ gb 28 #[.bool false, .bool false, .bool false, .int .i64 0, .int .u32 0, .string (⟨#[]⟩ : ByteArray), .string (⟨#[]⟩ : ByteArray), .string (⟨#[]⟩ : ByteArray), .int .u64 0, .int .i64 0, .int .u64 0] (0, 0) _ rfl (blk_put (cs' := #[.bool false, .bool false, .bool false, .int .i64 0, .int .u32 0, .string (⟨#[]⟩ : ByteArray), .string (⟨#[]⟩ : ByteArray), .string (⟨#[]⟩ : ByteArray), .int .u64 0, .int .i64 0, .int .u64 0]) (blk_put (cs' := #[.bool false, .bool false, .bool false, .int .i64 0, .int .u32 0, .string (⟨#[]⟩ : ByteArray), .string (⟨#[]⟩ : ByteArray), .string (⟨#[]⟩ : ByteArray), .int .u64 0, .int .i64 0, .int .u64 0]) (blk_put (cs' := #[.bool false, .bool false, .bool false, .int .i64 0, .int .u32 0, .string (⟨#[]⟩ : ByteArray), .string (⟨#[]⟩ : ByteArray), .string (⟨#[]⟩ : ByteArray), .int .u64 0, .int .i64 0, .int .u64 0]) (blk_put (cs' := #[.bool false, .bool false, .bool false, .int .i64 0, .int .u32 0, .string (⟨#[]⟩ : ByteArray), .string (⟨#[]⟩ : ByteArray), .string (⟨#[]⟩ : ByteArray), .int .u64 0, .int .i64 0, .int .u64 0]) (blk_put (cs' := #[.bool false, .bool false, .bool false, .int .i64 0, .int .u32 0, .string (⟨#[]⟩ : ByteArray), .string (⟨#[]⟩ : ByteArray), .string (⟨#[]⟩ : ByteArray), .int .u64 0, .int .i64 0, .int .u64 0]) (blk_put (cs' := #[.bool false, .bool false, .bool false, .int .i64 0, .int .u32 0, .string (⟨#[]⟩ : ByteArray), .string (⟨#[]⟩ : ByteArray), .string (⟨#[]⟩ : ByteArray), .int .u64 0, .int .i64 0, .int .u64 0]) (blk_put (cs' := #[.bool false, .bool false, .bool false, .int .i64 0, .int .u32 0, .string (⟨#[]⟩ : ByteArray), .string (⟨#[]⟩ : ByteArray), .string (⟨#[]⟩ : ByteArray), .int .u64 0, .int .i64 0, .int .u64 0]) (blk_put (cs' := #[.bool false, .bool false, .bool false, .int .i64 0, .int .u32 0, .string (⟨#[]⟩ : ByteArray), .string (⟨#[]⟩ : ByteArray), .string (⟨#[]⟩ : ByteArray), .int .u64 0, .int .i64 0, .int .u64 0]) (blk_put (cs' := #[.bool false, .bool false, .bool false, .int .i64 0, .int .u32 0, .string (⟨#[]⟩ : ByteArray), .string (⟨#[]⟩ : ByteArray), .string (⟨#[]⟩ : ByteArray), .int .u64 0, .int .i64 0, .int .u64 0]) (blk_put (cs' := #[.bool false, .bool false, .bool false, .int .i64 0, .int .u32 0, .string (⟨#[]⟩ : ByteArray), .string (⟨#[]⟩ : ByteArray), .string (⟨#[]⟩ : ByteArray), .int .u64 0, .int .i64 0, .int .u64 0]) (blk_put (cs' := #[.bool false, .bool false, .bool false, .int .i64 0, .int .u32 0, .string (⟨#[]⟩ : ByteArray), .string (⟨#[]⟩ : ByteArray), .string (⟨#[]⟩ : ByteArray), .int .u64 0, .int .i64 0, .int .u64 0]) (blk_far (p := ⟨gh, 2, none⟩) (blk_far (p := ⟨gh, 9, none⟩) R3.out n1 _) n1 _) 0 (.bool false) rfl) 1 (.bool false) rfl) 2 (.bool false) rfl) 3 (.int .i64 0) rfl) 4 (.int .u32 0) rfl) 5 (.string (⟨#[]⟩ : ByteArray)) rfl) 6 (.string (⟨#[]⟩ : ByteArray)) rfl) 7 (.string (⟨#[]⟩ : ByteArray)) rfl) 8 (.int .u64 0) rfl) 9 (.int .i64 0) rfl) 10 (.int .u64 0) rfl) Tryd.underlying28 rfl (by kernel_rfl)) rfl ?_
    exact ⟨rfl, (below_set (below_set (below_set (below_set (below_set (below_set (below_set (below_set (below_set (below_set (below_set (below_set (below_set B3.out GH.out) GH.out) GB.out) GB.out) GB.out) GB.out) GB.out) GB.out) GB.out) GB.out) GB.out) GB.out) GB.out)⟩
   have g1 : ((r.size : Int) < W) = False := eq_false c1
   have g2 : decide ((r.size : Int) < W) = false := decide_eq_false c1
   by_cases c2 : bt a0 0 / 4 % 4 = 0
   rotate_left
   ·have hf := HF.out
    clear HF
    unfold gEnd at hf
    rw [hW, hP, if_pos (Or.inr (show (if true = true then bt a0 0 / 4 % 4 else bt a0 0 / 8 % 4) ≠ 0 from c2))] at hf
    have HF := Aside0.mk hf
    have g3 : (Int.tdiv (bt a0 0) 4 % 256 % 4 != 0) = true := by rw [k6]; exact bne_iff_ne.mpr c2
    have g4 : (Int.tdiv (bt a0 0) 4 % 4 != 0) = true := by rw [k7]; exact bne_iff_ne.mpr c2
    have g5 : (bt a0 0 / 4 % 4 != 0) = true := bne_iff_ne.mpr c2
    have g6 : (bt a0 0 / 4 % 4 == 0) = false := beq_eq_false_iff_ne.mpr c2
    have g7 : (bt a0 0 / 4 % 4 = 0) = False := eq_false c2
    clear hf c1 c2 k4 k5 k6 k7
    have hf := HF.out
    clear HF
    simp only [gZ, Option.some.injEq, Prod.mk.injEq] at hf
    obtain ⟨rfl, rfl, rfl, rfl, rfl, rfl, rfl, rfl, rfl, rfl, rfl, rfl, rfl⟩ := hf
    (try clear HF)
    go_wp2
    refine bodyPost_ret (results_ctt rfl _ _ gb 28 #[.bool false, .bool false, .bool false, .int .i64 0, .int .u32 0, .string (⟨#[]⟩ : ByteArray), .string (⟨#[]⟩ : ByteArray), .string (⟨#[]⟩ : ByteArray), .int .u64 0, .int .i64 0, .int .u64 0] (0, 0) _ rfl (blk_put (cs' := #[.bool false, .bool false, .bool false, .int .i64 0, .int .u32 0, .string (⟨#[]⟩ : ByteArray), .string (⟨#[]⟩ : ByteArray), .string (⟨#[]⟩ : ByteArray), .int .u64 0, .int .i64 0, .int .u64 0]) (blk_put (cs' := #[.bool false, .bool false, .bool false, .int .i64 0, .int .u32 0, .string (⟨#[]⟩ : ByteArray), .string (⟨#[]⟩ : ByteArray), .string (⟨#[]⟩ : ByteArray), .int .u64 0, .int .i64 0, .int .u64 0]) (blk_put (cs' := #[.bool false, .bool false, .bool false, .int .i64 0, .int .u32 0, .string (⟨#[]⟩ : ByteArray), .string (⟨#[]⟩ : ByteArray), .string (⟨#[]⟩ : ByteArray), .int .u64 0, .int .i64 0, .int .u64 0]) (blk_put (cs' := #[.bool false, .bool false, .bool false, .int .i64 0, .int .u32 0, .string (⟨#[]⟩ : ByteArray), .string (⟨#[]⟩ : ByteArray), .string (⟨#[]⟩ : ByteArray), .int .u64 0, .int .i64 0, .int .u64 0]) (blk_put (cs' := #[.bool false, .bool false, .bool false, .int .i64 0, .int .u32 0, .string (⟨#[]⟩ : ByteArray), .string (⟨#[]⟩ : ByteArray), .string (⟨#[]⟩ : ByteArray), .int .u64 0, .int .i64 0, .int .u64 0]) (blk_put (cs' := #[.bool false, .bool false, .bool false, .int .i64 0, .int .u32 0, .string (⟨#[]⟩ : ByteArray), .string (⟨#[]⟩ : ByteArray), .string (⟨#[]⟩ : ByteArray), .int .u64 0, .int .i64 0, .int .u64 0]) (blk_put (cs' := #[.bool false, .bool false, .bool false, .int .i64 0, .int .u32 0, .string (⟨#[]⟩ : ByteArray), .string (⟨#[]⟩ : ByteArray), .string (⟨#[]⟩ : ByteArray), .int .u64 0, .int .i64 0, .int .u64 0]) (blk_put (cs' := #[.bool false, .bool false, .bool false, .int .i64 0, .int .u32 0, .string (⟨#[]⟩ : ByteArray), .string (⟨#[]⟩ : ByteArray), .string (⟨#[]⟩ : ByteArray), .int .u64 0, .int .i64 0, .int .u64 0]) (blk_put (cs' := #[.bool false, .bool false, .bool false, .int .i64 0, .int .u32 0, .string (⟨#[]⟩ : ByteArray), .string (⟨#[]⟩ : ByteArray), .string (⟨#[]⟩ : ByteArray), .int .u64 0, .int .i64 0, .int .u64 0]) (blk_put (cs' := #[.bool false, .bool false, .bool false, .int .i64 0, .int .u32 0, .string (⟨#[]⟩ : ByteArray), .string (⟨#[]⟩ : ByteArray), .string (⟨#[]⟩ : ByteArray), .int .u64 0, .int .i64 0, .int .u64 0]) (blk_put (cs' := #[.bool false, .bool false, .bool false, .int .i64 0, .int .u32 0, .string (⟨#[]⟩ : ByteArray), .string (⟨#[]⟩ : ByteArray), .string (⟨#[]⟩ : ByteArray), .int .u64 0, .int .i64 0, .int .u64 0]) (blk_far (p := ⟨gh, 2, none⟩) (blk_far (p := ⟨gh, 9, none⟩) R3.out n1 _) n1 _) 0 (.bool false) rfl) 1 (.bool false) rfl) 2 (.bool false) rfl) 3 (.int .i64 0) rfl) 4 (.int .u32 0) rfl) 5 (.string (⟨#[]⟩ : ByteArray)) rfl) 6 (.string (⟨#[]⟩ : ByteArray)) rfl) 7 (.string (⟨#[]⟩ : ByteArray)) rfl) 8 (.int .u64 0) rfl) 9 (.int .i64 0) rfl) 10 (.int .u64 0) rfl) Tryd.underlying28 rfl (by kernel_rfl)) rfl ?_
    exact ⟨rfl, (below_set (below_set (below_set (below_set (below_set (below_set (below_set (below_set (below_set (below_set (below_set (below_set (below_set B3.out GH.out) GH.out) GB.out) GB.out) GB.out) GB.out) GB.out) GB.out) GB.out) GB.out) GB.out) GB.out) GB.out)⟩
   have g3 : (Int.tdiv (bt a0 0) 4 % 256 % 4 != 0) = false := by rw [k6, c2]; rfl
   have g4 : (Int.tdiv (bt a0 0) 4 % 4 != 0) = false := by rw [k7, c2]; rfl
   have g9 : (bt a0 0 / 4 % 4 != 0) = false := by rw [c2]; rfl
   have g10 : (bt a0 0 / 4 % 4 == 0) = true := by rw [c2]; rfl
   have g11 : (bt a0 0 / 4 % 4 = 0) = True := eq_true c2
   have hf := HF.out
   clear HF
   unfold gEnd at hf
   rw [hW, hP, if_neg (fun h => h.elim c1 (fun h => h c2))] at hf
   obtain ⟨v, hv, hf⟩ := Option.bind_eq_some_iff.1 hf
   have HF := Aside0.mk hf
   have HV := Aside0.mk hv
   have g5 : (W ≤ (r.size : Int)) = True := eq_true (by omega)
   have g6 : decide (W ≤ (r.size : Int)) = true := decide_eq_true (by omega)
   have g7 : (0 ≤ W) = True := eq_true u1
   have g8 : decide (0 ≤ W) = true := decide_eq_true u1
   clear hf hv c1 c2 k4 k5 k6 k7
   go_wp2_with fail
   have h_ := (blk_put (cs' := #[.bool true, .bool sp, .bool false, .int .i64 ty, .int .u32 ver, .string d, .string c, .string tk, .int .u64 len, .int .i64 W, .int .u64 nu]) (blk_put (cs' := #[.bool true, .bool sp, .bool ph, .int .i64 ty, .int .u32 ver, .string d, .string c, .string tk, .int .u64 len, .int .i64 W, .int .u64 nu]) H3.out 9 (.int .i64 W) rfl) 2 (.bool false) rfl)
   have b_ := (below_set (j := 2) (v := .bool false) (below_set (j := 9) (v := .int .i64 W) B3.out GH.out) GH.out)
   have r_ := (blk_far (p := ⟨gh, 2, none⟩) (blk_far (p := ⟨gh, 9, none⟩) R3.out n1 (.int .i64 W)) n1 (.bool false))
   clear d0 df0 d1 df1 d2 df2 d3 df3 d4 df4 d5 df5 d6 df6 d7 df7 d8 df8 d9 df9 d10 df10 e0 ef0 e1 ef1 e2 ef2 e3 ef3 e4 ef4 e5 ef5 e6 ef6 e7 ef7 e8 ef8 e9 ef9 e10 ef10
   generalize ((w3.setCell ⟨gh, 9, none⟩ (.int .i64 W)).setCell ⟨gh, 2, none⟩ (.bool false)) = w4 at h_ b_ r_ ⊢
   have H4 := Aside0.mk h_
   have B4 := Aside0.mk b_
   have R4 := Aside0.mk r_
   clear h_ b_ r_
   refine (dominoref01_Back.calls k _ _ _ HV.out).mono ?_
   rintro e_ w_ ⟨rfl, hd_⟩
   obtain ⟨m_, rfl⟩ := hd_
   have H5 := Aside0.mk (blk_drewN H4.out m_)
   have R5 := Aside0.mk (blk_drewN R4.out m_)
   have B5 := Aside0.mk (pw_below_drewN B4.out m_)
   generalize w4.drewN m_ = w5 at H5 R5 B5 ⊢
   obtain ⟨d0, d1, d2, d3, d4, d5, d6, d7, d8, d9, d10, df0, df1, df2, df3, df4, df5, df6, df7, df8, df9, df10⟩ := cs11f_ R5.out
   obtain ⟨e0, e1, e2, e3, e4, e5, e6, e7, e8, e9, e10, ef0, ef1, ef2, ef3, ef4, ef5, ef6, ef7, ef8, ef9, ef10⟩ := cs11f_ H5.out
   go_upto_region 9 with fail
   have h_ := (blk_put (cs' := #[.bool true, .bool sp, .bool false, .int .i64 ty, .int .u32 ver, .string d, .string c, .string tk, .int .u64 len, .int .i64 W, .int .u64 v]) H5.out 10 (.int .u64 v) rfl)
   have b_ := (below_set (j := 10) (v := .int .u64 v) B5.out GH.out)
   have r_ := (blk_far (p := ⟨gh, 10, none⟩) R5.out n1 (.int .u64 v))
   clear d0 df0 d1 df1 d2 df2 d3 df3 d4 df4 d5 df5 d6 df6 d7 df7 d8 df8 d9 df9 d10 df10 e0 ef0 e1 ef1 e2 ef2 e3 ef3 e4 ef4 e5 ef5 e6 ef6 e7 ef7 e8 ef8 e9 ef9 e10 ef10
   generalize (w5.setCell ⟨gh, 10, none⟩ (.int .u64 v)) = w6 at h_ b_ r_ ⊢
   have H6 := Aside0.mk h_
   have B6 := Aside0.mk b_
   have R6 := Aside0.mk r_
   clear h_ b_ r_
   have H7 := Aside0.mk (blk_drew H6.out)
   have R7 := Aside0.mk (blk_drew R6.out)
   have B7 := Aside0.mk (below_drew1 B6.out)
   have hf := HF.out
   clear HF
   simp only [Option.some.injEq, Prod.mk.injEq] at hf
   obtain ⟨rfl, rfl, rfl, rfl, rfl, rfl, rfl, rfl, rfl, rfl, rfl, rfl, rfl⟩ := hf
   refine start_ (n := 8) (S := fun W' => W'.cell? ⟨gh, 0, none⟩ = some (.bool true) ∧ W'.cell? ⟨gh, 1, none⟩ = some (.bool sp) ∧ W'.cell? ⟨gh, 2, none⟩ = some (.bool false) ∧ W'.cell? ⟨gh, 3, none⟩ = some (.int .i64 ty) ∧ W'.cell? ⟨gh, 4, none⟩ = some (.int .u32 ver) ∧ W'.cell? ⟨gh, 5, none⟩ = some (.string d) ∧ W'.cell? ⟨gh, 6, none⟩ = some (.string c) ∧ W'.cell? ⟨gh, 7, none⟩ = some (.string tk) ∧ W'.cell? ⟨gh, 8, none⟩ = some (.int .u64 len) ∧ W'.cell? ⟨gh, 9, none⟩ = some (.int .i64 W) ∧ W'.cell? ⟨gh, 10, none⟩ = some (.int .u64 v)) (ds := []) #[false,false,false,false,false,false,false,false] (by kernel_rfl) rfl rfl ⟨((blk_cell H7.out 0).trans rfl), ((blk_cell H7.out 1).trans rfl), ((blk_cell H7.out 2).trans rfl), ((blk_cell H7.out 3).trans rfl), ((blk_cell H7.out 4).trans rfl), ((blk_cell H7.out 5).trans rfl), ((blk_cell H7.out 6).trans rfl), ((blk_cell H7.out 7).trans rfl), ((blk_cell H7.out 8).trans rfl), ((blk_cell H7.out 9).trans rfl), ((blk_cell H7.out 10).trans rfl)⟩ (fun hHeld => ?_)
   generalize w6.drew = w7 at H7 R7 B7 hHeld ⊢
   refine pure_ (i := 1) (N := some 70) (v := ?_) (a' := ?_) #[false,true,false,false,false,false,false,false] rfl rfl (by kernel_rfl) (fun _ _ _ h => h) (Or.inl ⟨by rfl, ?_⟩) ?_ ?_
   rotate_left;(intro w';go_simp;with_reducible rfl);rotate_left;(simp only [Act.put, List.setIfInBounds_toArray, List.set_cons_zero, List.set_cons_succ, i64_w, i32_w];rfl)
   refine pure_ (i := 2) (N := some 71) (v := ?_) (a' := ?_) #[false,true,true,false,false,false,false,false] rfl rfl (by kernel_rfl) (fun _ _ _ h => h) (Or.inl ⟨by rfl, ?_⟩) ?_ ?_
   rotate_left;(intro w';go_simp;with_reducible rfl);rotate_left;(simp only [Act.put, List.setIfInBounds_toArray, List.set_cons_zero, List.set_cons_succ, i64_w, i32_w];rfl)
   refine take_ (i := 0) (N := some 69) (v := ?_) (a' := ?_) #[true,true,true,false,false,false,false,false] rfl rfl (by kernel_rfl) (fun _ _ _ h => h) (Or.inl ⟨by rfl, ?_⟩) hHeld ?_ ?_
   rotate_left
   ·rintro w' ⟨s0, s1, s2, s3, s4, s5, s6, s7, s8, s9, s10⟩
    go_simp
    with_reducible rfl
   rotate_left
   ·simp only [Act.put, List.setIfInBounds_toArray, List.set_cons_zero, List.set_cons_succ, i64_w, i32_w]
    rfl
   refine take_ (i := 3) (N := some 72) (v := ?_) (a' := ?_) #[true,true,true,true,false,false,false,false] rfl rfl (by kernel_rfl) (fun _ _ _ h => h) (Or.inl ⟨by rfl, ?_⟩) hHeld ?_ ?_
   rotate_left
   ·rintro w' ⟨s0, s1, s2, s3, s4, s5, s6, s7, s8, s9, s10⟩
    go_simp
    with_reducible rfl
   rotate_left
   ·simp only [Act.put, List.setIfInBounds_toArray, List.set_cons_zero, List.set_cons_succ, i64_w, i32_w]
    rfl
   refine pure_ (i := 4) (N := some 73) (v := ?_) (a' := ?_) #[true,true,true,true,true,false,false,false] rfl rfl (by kernel_rfl) (fun _ _ _ h => h) (Or.inl ⟨by rfl, ?_⟩) ?_ ?_
   rotate_left;(intro w';go_simp;with_reducible rfl);rotate_left;(simp only [Act.put, List.setIfInBounds_toArray, List.set_cons_zero, List.set_cons_succ, i64_w, i32_w];rfl)
   obtain ⟨d0, d1, d2, d3, d4, d5, d6, d7, d8, d9, d10, df0, df1, df2, df3, df4, df5, df6, df7, df8, df9, df10⟩ := cs11f_ R7.out
   refine one_ (i := 5) (N := none) #[true,true,true,true,true,true,false,false] rfl rfl (by kernel_rfl) (by decide) (fun K hK => ?_)
   refine skip_ (w1 := ?_) (by rfl) rfl ?_ ?_
   rotate_left
   ·go_simp
    rfl
   refine hK.out _ _ ⟨((cell_far (p := ⟨gb, _, none⟩) n2 _).trans ((cell_far (p := ⟨gb, _, none⟩) n2 _).trans ((cell_far (p := ⟨gb, _, none⟩) n2 _).trans ((cell_far (p := ⟨gb, _, none⟩) n2 _).trans ((cell_far (p := ⟨gb, _, none⟩) n2 _).trans ((cell_far (p := ⟨gb, _, none⟩) n2 _).trans ((cell_far (p := ⟨gb, _, none⟩) n2 _).trans ((cell_far (p := ⟨gb, _, none⟩) n2 _).trans ((cell_far (p := ⟨gb, _, none⟩) n2 _).trans ((cell_far (p := ⟨gb, _, none⟩) n2 _).trans ((cell_far (p := ⟨gb, _, none⟩) n2 _).trans hHeld.1))))))))))), ((cell_far (p := ⟨gb, _, none⟩) n2 _).trans ((cell_far (p := ⟨gb, _, none⟩) n2 _).trans ((cell_far (p := ⟨gb, _, none⟩) n2 _).trans ((cell_far (p := ⟨gb, _, none⟩) n2 _).trans ((cell_far (p := ⟨gb, _, none⟩) n2 _).trans ((cell_far (p := ⟨gb, _, none⟩) n2 _).trans ((cell_far (p := ⟨gb, _, none⟩) n2 _).trans ((cell_far (p := ⟨gb, _, none⟩) n2 _).trans ((cell_far (p := ⟨gb, _, none⟩) n2 _).trans ((cell_far (p := ⟨gb, _, none⟩) n2 _).trans ((cell_far (p := ⟨gb, _, none⟩) n2 _).trans hHeld.2.1))))))))))), ((cell_far (p := ⟨gb, _, none⟩) n2 _).trans ((cell_far (p := ⟨gb, _, none⟩) n2 _).trans ((cell_far (p := ⟨gb, _, none⟩) n2 _).trans ((cell_far (p := ⟨gb, _, none⟩) n2 _).trans ((cell_far (p := ⟨gb, _, none⟩) n2 _).trans ((cell_far (p := ⟨gb, _, none⟩) n2 _).trans ((cell_far (p := ⟨gb, _, none⟩) n2 _).trans ((cell_far (p := ⟨gb, _, none⟩) n2 _).trans ((cell_far (p := ⟨gb, _, none⟩) n2 _).trans ((cell_far (p := ⟨gb, _, none⟩) n2 _).trans ((cell_far (p := ⟨gb, _, none⟩) n2 _).trans hHeld.2.2.1))))))))))), ((cell_far (p := ⟨gb, _, none⟩) n2 _).trans ((cell_far (p := ⟨gb, _, none⟩) n2 _).trans ((cell_far (p := ⟨gb, _, none⟩) n2 _).trans ((cell_far (p := ⟨gb, _, none⟩) n2 _).trans ((cell_far (p := ⟨gb, _, none⟩) n2 _).trans ((cell_far (p := ⟨gb, _, none⟩) n2 _).trans ((cell_far (p := ⟨gb, _, none⟩) n2 _).trans ((cell_far (p := ⟨gb, _, none⟩) n2 _).trans ((cell_far (p := ⟨gb, _, none⟩) n2 _).trans ((cell_far (p := ⟨gb, _, none⟩) n2 _).trans ((cell_far (p := ⟨gb, _, none⟩) n2 _).trans hHeld.2.2.2.1))))))))))), ((cell_far (p := ⟨gb, _, none⟩) n2 _).trans ((cell_far (p := ⟨gb, _, none⟩) n2 _).trans ((cell_far (p := ⟨gb, _, none⟩) n2 _).trans ((cell_far (p := ⟨gb, _, none⟩) n2 _).trans ((cell_far (p := ⟨gb, _, none⟩) n2 _).trans ((cell_far (p := ⟨gb, _, none⟩) n2 _).trans ((cell_far (p := ⟨gb, _, none⟩) n2 _).trans ((cell_far (p := ⟨gb, _, none⟩) n2 _).trans ((cell_far (p := ⟨gb, _, none⟩) n2 _).trans ((cell_far (p := ⟨gb, _, none⟩) n2 _).trans ((cell_far (p := ⟨gb, _, none⟩) n2 _).trans hHeld.2.2.2.2.1))))))))))), ((cell_far (p := ⟨gb, _, none⟩) n2 _).trans ((cell_far (p := ⟨gb, _, none⟩) n2 _).trans ((cell_far (p := ⟨gb, _, none⟩) n2 _).trans ((cell_far (p := ⟨gb, _, none⟩) n2 _).trans ((cell_far (p := ⟨gb, _, none⟩) n2 _).trans ((cell_far (p := ⟨gb, _, none⟩) n2 _).trans ((cell_far (p := ⟨gb, _, none⟩) n2 _).trans ((cell_far (p := ⟨gb, _, none⟩) n2 _).trans ((cell_far (p := ⟨gb, _, none⟩) n2 _).trans ((cell_far (p := ⟨gb, _, none⟩) n2 _).trans ((cell_far (p := ⟨gb, _, none⟩) n2 _).trans hHeld.2.2.2.2.2.1))))))))))), ((cell_far (p := ⟨gb, _, none⟩) n2 _).trans ((cell_far (p := ⟨gb, _, none⟩) n2 _).trans ((cell_far (p := ⟨gb, _, none⟩) n2 _).trans ((cell_far (p := ⟨gb, _, none⟩) n2 _).trans ((cell_far (p := ⟨gb, _, none⟩) n2 _).trans ((cell_far (p := ⟨gb, _, none⟩) n2 _).trans ((cell_far (p := ⟨gb, _, none⟩) n2 _).trans ((cell_far (p := ⟨gb, _, none⟩) n2 _).trans ((cell_far (p := ⟨gb, _, none⟩) n2 _).trans ((cell_far (p := ⟨gb, _, none⟩) n2 _).trans ((cell_far (p := ⟨gb, _, none⟩) n2 _).trans hHeld.2.2.2.2.2.2.1))))))))))), ((cell_far (p := ⟨gb, _, none⟩) n2 _).trans ((cell_far (p := ⟨gb, _, none⟩) n2 _).trans ((cell_far (p := ⟨gb, _, none⟩) n2 _).trans ((cell_far (p := ⟨gb, _, none⟩) n2 _).trans ((cell_far (p := ⟨gb, _, none⟩) n2 _).trans ((cell_far (p := ⟨gb, _, none⟩) n2 _).trans ((cell_far (p := ⟨gb, _, none⟩) n2 _).trans ((cell_far (p := ⟨gb, _, none⟩) n2 _).trans ((cell_far (p := ⟨gb, _, none⟩) n2 _).trans ((cell_far (p := ⟨gb, _, none⟩) n2 _).trans ((cell_far (p := ⟨gb, _, none⟩) n2 _).trans hHeld.2.2.2.2.2.2.2.1))))))))))), ((cell_far (p := ⟨gb, _, none⟩) n2 _).trans ((cell_far (p := ⟨gb, _, none⟩) n2 _).trans ((cell_far (p := ⟨gb, _, none⟩) n2 _).trans ((cell_far (p := ⟨gb, _, none⟩) n2 _).trans ((cell_far (p := ⟨gb, _, none⟩) n2 _).trans ((cell_far (p := ⟨gb, _, none⟩) n2 _).trans ((cell_far (p := ⟨gb, _, none⟩) n2 _).trans ((cell_far (p := ⟨gb, _, none⟩) n2 _).trans ((cell_far (p := ⟨gb, _, none⟩) n2 _).trans ((cell_far (p := ⟨gb, _, none⟩) n2 _).trans ((cell_far (p := ⟨gb, _, none⟩) n2 _).trans hHeld.2.2.2.2.2.2.2.2.1))))))))))), ((cell_far (p := ⟨gb, _, none⟩) n2 _).trans ((cell_far (p := ⟨gb, _, none⟩) n2 _).trans ((cell_far (p := ⟨gb, _, none⟩) n2 _).trans ((cell_far (p := ⟨gb, _, none⟩) n2 _).trans ((cell_far (p := ⟨gb, _, none⟩) n2 _).trans ((cell_far (p := ⟨gb, _, none⟩) n2 _).trans ((cell_far (p := ⟨gb, _, none⟩) n2 _).trans ((cell_far (p := ⟨gb, _, none⟩) n2 _).trans ((cell_far (p := ⟨gb, _, none⟩) n2 _).trans ((cell_far (p := ⟨gb, _, none⟩) n2 _).trans ((cell_far (p := ⟨gb, _, none⟩) n2 _).trans hHeld.2.2.2.2.2.2.2.2.2.1))))))))))), ((cell_far (p := ⟨gb, _, none⟩) n2 _).trans ((cell_far (p := ⟨gb, _, none⟩) n2 _).trans ((cell_far (p := ⟨gb, _, none⟩) n2 _).trans ((cell_far (p := ⟨gb, _, none⟩) n2 _).trans ((cell_far (p := ⟨gb, _, none⟩) n2 _).trans ((cell_far (p := ⟨gb, _, none⟩) n2 _).trans ((cell_far (p := ⟨gb, _, none⟩) n2 _).trans ((cell_far (p := ⟨gb, _, none⟩) n2 _).trans ((cell_far (p := ⟨gb, _, none⟩) n2 _).trans ((cell_far (p := ⟨gb, _, none⟩) n2 _).trans ((cell_far (p := ⟨gb, _, none⟩) n2 _).trans hHeld.2.2.2.2.2.2.2.2.2.2)))))))))))⟩ (fun hHeld_ => ?_)
   clear hK K
   refine pure_ (i := 6) (N := some 3) (v := ?_) (a' := ?_) #[true,true,true,true,true,true,true,false] rfl rfl (by kernel_rfl) (fun _ _ _ h => h) (Or.inl ⟨by rfl, ?_⟩) ?_ ?_
   rotate_left;(intro w';go_simp;with_reducible rfl);rotate_left;(simp only [Act.put, List.setIfInBounds_toArray, List.set_cons_zero, List.set_cons_succ, i64_w, i32_w];rfl)
   refine pure_ (i := 7) (N := some 4) (v := ?_) (a' := ?_) #[true,true,true,true,true,true,true,true] rfl rfl (by kernel_rfl) (fun _ _ _ h => h) (Or.inl ⟨by rfl, ?_⟩) ?_ ?_
   rotate_left;(intro w';go_simp;with_reducible rfl);rotate_left;(simp only [Act.put, List.setIfInBounds_toArray, List.set_cons_zero, List.set_cons_succ, i64_w, i32_w];rfl)
   refine done_ (by kernel_rfl) ?_
   go_wp2
   refine bodyPost_ret (results_ctt rfl _ _ gb 28 #[.bool true, .bool sp, .bool false, .int .i64 ty, .int .u32 ver, .string d, .string c, .string tk, .int .u64 len, .int .i64 W, .int .u64 v] (0, 0) _ rfl (blk_put (cs' := #[.bool true, .bool sp, .bool false, .int .i64 ty, .int .u32 ver, .string d, .string c, .string tk, .int .u64 len, .int .i64 W, .int .u64 v]) (blk_put (cs' := #[.bool true, .bool sp, .bool false, .int .i64 ty, .int .u32 ver, .string d, .string c, .string tk, .int .u64 len, .int .i64 W, .int .u64 0]) (blk_put (cs' := #[.bool true, .bool sp, .bool false, .int .i64 ty, .int .u32 ver, .string d, .string c, .string tk, .int .u64 len, .int .i64 0, .int .u64 0]) (blk_put (cs' := #[.bool true, .bool sp, .bool false, .int .i64 ty, .int .u32 ver, .string d, .string c, .string tk, .int .u64 0, .int .i64 0, .int .u64 0]) (blk_put (cs' := #[.bool true, .bool sp, .bool false, .int .i64 ty, .int .u32 ver, .string d, .string c, .string (⟨#[]⟩ : ByteArray), .int .u64 0, .int .i64 0, .int .u64 0]) (blk_put (cs' := #[.bool true, .bool sp, .bool false, .int .i64 ty, .int .u32 ver, .string d, .string (⟨#[]⟩ : ByteArray), .string (⟨#[]⟩ : ByteArray), .int .u64 0, .int .i64 0, .int .u64 0]) (blk_put (cs' := #[.bool true, .bool sp, .bool false, .int .i64 ty, .int .u32 ver, .string (⟨#[]⟩ : ByteArray), .string (⟨#[]⟩ : ByteArray), .string (⟨#[]⟩ : ByteArray), .int .u64 0, .int .i64 0, .int .u64 0]) (blk_put (cs' := #[.bool true, .bool sp, .bool false, .int .i64 ty, .int .u32 0, .string (⟨#[]⟩ : ByteArray), .string (⟨#[]⟩ : ByteArray), .string (⟨#[]⟩ : ByteArray), .int .u64 0, .int .i64 0, .int .u64 0]) (blk_put (cs' := #[.bool true, .bool sp, .bool false, .int .i64 0, .int .u32 0, .string (⟨#[]⟩ : ByteArray), .string (⟨#[]⟩ : ByteArray), .string (⟨#[]⟩ : ByteArray), .int .u64 0, .int .i64 0, .int .u64 0]) (blk_put (cs' := #[.bool true, .bool sp, .bool false, .int .i64 0, .int .u32 0, .string (⟨#[]⟩ : ByteArray), .string (⟨#[]⟩ : ByteArray), .string (⟨#[]⟩ : ByteArray), .int .u64 0, .int .i64 0, .int .u64 0]) (blk_put (cs' := #[.bool true, .bool false, .bool false, .int .i64 0, .int .u32 0, .string (⟨#[]⟩ : ByteArray), .string (⟨#[]⟩ : ByteArray), .string (⟨#[]⟩ : ByteArray), .int .u64 0, .int .i64 0, .int .u64 0]) R7.out 0 (.bool true) rfl) 1 (.bool sp) rfl) 2 (.bool false) rfl) 3 (.int .i64 ty) rfl) 4 (.int .u32 ver) rfl) 5 (.string d) rfl) 6 (.string c) rfl) 7 (.string tk) rfl) 8 (.int .u64 len) rfl) 9 (.int .i64 W) rfl) 10 (.int .u64 v) rfl) Tryd.underlying28 rfl (by kernel_rfl)) rfl ?_
   exact ⟨rfl, (below_set (below_set (below_set (below_set (below_set (below_set (below_set (below_set (below_set (below_set (below_set B7.out GB.out) GB.out) GB.out) GB.out) GB.out) GB.out) GB.out) GB.out) GB.out) GB.out) GB.out)⟩
  | false =>
   by_cases c1 : (r.size : Int) < W
   ·have hf := HF.out
    clear HF
    unfold gEnd at hf
    rw [hW, hP, if_pos (Or.inl c1)] at hf
    have HF := Aside0.mk hf
    have g1 : ((r.size : Int) < W) = True := eq_true c1
    have g2 : decide ((r.size : Int) < W) = true := decide_eq_true c1
    clear hf c1
    have hf := HF.out
    clear HF
    simp only [gZ, Option.some.injEq, Prod.mk.injEq] at hf
    obtain ⟨rfl, rfl, rfl, rfl, rfl, rfl, rfl, rfl, rfl, rfl, rfl, rfl, rfl⟩ := hf
    (try clear HF)
    go_wp2
    refine bodyPost_ret (results_ctt rfl _ _ gb 28 #[.bool false, .bool false, .bool false, .int .i64 0, .int .u32 0, .string (⟨#[]⟩ : ByteArray), .string (⟨#[]⟩ : ByteArray), .string (⟨#[]⟩ : ByteArray), .int .u64 0, .int .i64 0, .int .u64 0] (0, 0) _ rfl (blk_put (cs' := #[.bool false, .bool false, .bool false, .int .i64 0, .int .u32 0, .string (⟨#[]⟩ : ByteArray), .string (⟨#[]⟩ : ByteArray), .string (⟨#[]⟩ : ByteArray), .int .u64 0, .int .i64 0, .int .u64 0]) (blk_put (cs' := #[.bool false, .bool false, .bool false, .int .i64 0, .int .u32 0, .string (⟨#[]⟩ : ByteArray), .string (⟨#[]⟩ : ByteArray), .string (⟨#[]⟩ : ByteArray), .int .u64 0, .int .i64 0, .int .u64 0]) (blk_put (cs' := #[.bool false, .bool false, .bool false, .int .i64 0, .int .u32 0, .string (⟨#[]⟩ : ByteArray), .string (⟨#[]⟩ : ByteArray), .string (⟨#[]⟩ : ByteArray), .int .u64 0, .int .i64 0, .int .u64 0]) (blk_put (cs' := #[.bool false, .bool false, .bool false, .int .i64 0, .int .u32 0, .string (⟨#[]⟩ : ByteArray), .string (⟨#[]⟩ : ByteArray), .string (⟨#[]⟩ : ByteArray), .int .u64 0, .int .i64 0, .int .u64 0]) (blk_put (cs' := #[.bool false, .bool false, .bool false, .int .i64 0, .int .u32 0, .string (⟨#[]⟩ : ByteArray), .string (⟨#[]⟩ : ByteArray), .string (⟨#[]⟩ : ByteArray), .int .u64 0, .int .i64 0, .int .u64 0]) (blk_put (cs' := #[.bool false, .bool false, .bool false, .int .i64 0, .int .u32 0, .string (⟨#[]⟩ : ByteArray), .string (⟨#[]⟩ : ByteArray), .string (⟨#[]⟩ : ByteArray), .int .u64 0, .int .i64 0, .int .u64 0]) (blk_put (cs' := #[.bool false, .bool false, .bool false, .int .i64 0, .int .u32 0, .string (⟨#[]⟩ : ByteArray), .string (⟨#[]⟩ : ByteArray), .string (⟨#[]⟩ : ByteArray), .int .u64 0, .int .i64 0, .int .u64 0]) (blk_put (cs' := #[.bool false, .bool false, .bool false, .int .i64 0, .int .u32 0, .string (⟨#[]⟩ : ByteArray), .string (⟨#[]⟩ : ByteArray), .string (⟨#[]⟩ : ByteArray), .int .u64 0, .int .i64 0, .int .u64 0]) (blk_put (cs' := #[.bool false, .bool false, .bool false, .int .i64 0, .int .u32 0, .string (⟨#[]⟩ : ByteArray), .string (⟨#[]⟩ : ByteArray), .string (⟨#[]⟩ : ByteArray), .int .u64 0, .int .i64 0, .int .u64 0]) (blk_put (cs' := #[.bool false, .bool false, .bool false, .int .i64 0, .int .u32 0, .string (⟨#[]⟩ : ByteArray), .string (⟨#[]⟩ : ByteArray), .string (⟨#[]⟩ : ByteArray), .int .u64 0, .int .i64 0, .int .u64 0]) (blk_put (cs' := #[.bool false, .bool false, .bool false, .int .i64 0, .int .u32 0, .string (⟨#[]⟩ : ByteArray), .string (⟨#[]⟩ : ByteArray), .string (⟨#[]⟩ : ByteArray), .int .u64 0, .int .i64 0, .int .u64 0]) (blk_far (p := ⟨gh, 2, none⟩) (blk_far (p := ⟨gh, 9, none⟩) R3.out n1 _) n1 _) 0 (.bool false) rfl) 1 (.bool false) rfl) 2 (.bool false) rfl) 3 (.int .i64 0) rfl) 4 (.int .u32 0) rfl) 5 (.string (⟨#[]⟩ : ByteArray)) rfl) 6 (.string (⟨#[]⟩ : ByteArray)) rfl) 7 (.string (⟨#[]⟩ : ByteArray)) rfl) 8 (.int .u64 0) rfl) 9 (.int .i64 0) rfl) 10 (.int .u64 0) rfl) Tryd.underlying28 rfl (by kernel_rfl)) rfl ?_
    exact ⟨rfl, (below_set (below_set (below_set (below_set (below_set (below_set (below_set (below_set (below_set (below_set (below_set (below_set (below_set B3.out GH.out) GH.out) GB.out) GB.out) GB.out) GB.out) GB.out) GB.out) GB.out) GB.out) GB.out) GB.out) GB.out)⟩
   have g1 : ((r.size : Int) < W) = False := eq_false c1
   have g2 : decide ((r.size : Int) < W) = false := decide_eq_false c1
   by_cases c2 : bt a0 0 / 8 % 4 = 0
   rotate_left
   ·have hf := HF.out
    clear HF
    unfold gEnd at hf
    rw [hW, hP, if_pos (Or.inr (show (if false = true then bt a0 0 / 4 % 4 else bt a0 0 / 8 % 4) ≠ 0 from c2))] at hf
    have HF := Aside0.mk hf
    have g3 : (Int.tdiv (bt a0 0) 8 % 256 % 4 != 0) = true := by rw [k4]; exact bne_iff_ne.mpr c2
    have g4 : (Int.tdiv (bt a0 0) 8 % 4 != 0) = true := by rw [k5]; exact bne_iff_ne.mpr c2
    have g5 : (bt a0 0 / 8 % 4 != 0) = true := bne_iff_ne.mpr c2
    have g6 : (bt a0 0 / 8 % 4 == 0) = false := beq_eq_false_iff_ne.mpr c2
    have g7 : (bt a0 0 / 8 % 4 = 0) = False := eq_false c2
    clear hf c1 c2 k4 k5 k6 k7
    have hf := HF.out
    clear HF
    simp only [gZ, Option.some.injEq, Prod.mk.injEq] at hf
    obtain ⟨rfl, rfl, rfl, rfl, rfl, rfl, rfl, rfl, rfl, rfl, rfl, rfl, rfl⟩ := hf
    (try clear HF)
    go_wp2
    refine bodyPost_ret (results_ctt rfl _ _ gb 28 #[.bool false, .bool false, .bool false, .int .i64 0, .int .u32 0, .string (⟨#[]⟩ : ByteArray), .string (⟨#[]⟩ : ByteArray), .string (⟨#[]⟩ : ByteArray), .int .u64 0, .int .i64 0, .int .u64 0] (0, 0) _ rfl (blk_put (cs' := #[.bool false, .bool false, .bool false, .int .i64 0, .int .u32 0, .string (⟨#[]⟩ : ByteArray), .string (⟨#[]⟩ : ByteArray), .string (⟨#[]⟩ : ByteArray), .int .u64 0, .int .i64 0, .int .u64 0]) (blk_put (cs' := #[.bool false, .bool false, .bool false, .int .i64 0, .int .u32 0, .string (⟨#[]⟩ : ByteArray), .string (⟨#[]⟩ : ByteArray), .string (⟨#[]⟩ : ByteArray), .int .u64 0, .int .i64 0, .int .u64 0]) (blk_put (cs' := #[.bool false, .bool false, .bool false, .int .i64 0, .int .u32 0, .string (⟨#[]⟩ : ByteArray), .string (⟨#[]⟩ : ByteArray), .string (⟨#[]⟩ : ByteArray), .int .u64 0, .int .i64 0, .int .u64 0]) (blk_put (cs' := #[.bool false, .bool false, .bool false, .int .i64 0, .int .u32 0, .string (⟨#[]⟩ : ByteArray), .string (⟨#[]⟩ : ByteArray), .string (⟨#[]⟩ : ByteArray), .int .u64 0, .int .i64 0, .int .u64 0]) (blk_put (cs' := #[.bool false, .bool false, .bool false, .int .i64 0, .int .u32 0, .string (⟨#[]⟩ : ByteArray), .string (⟨#[]⟩ : ByteArray), .string (⟨#[]⟩ : ByteArray), .int .u64 0, .int .i64 0, .int .u64 0]) (blk_put (cs' := #[.bool false, .bool false, .bool false, .int .i64 0, .int .u32 0, .string (⟨#[]⟩ : ByteArray), .string (⟨#[]⟩ : ByteArray), .string (⟨#[]⟩ : ByteArray), .int .u64 0, .int .i64 0, .int .u64 0]) (blk_put (cs' := #[.bool false, .bool false, .bool false, .int .i64 0, .int .u32 0, .string (⟨#[]⟩ : ByteArray), .string (⟨#[]⟩ : ByteArray), .string (⟨#[]⟩ : ByteArray), .int .u64 0, .int .i64 0, .int .u64 0]) (blk_put (cs' := #[.bool false, .bool false, .bool false, .int .i64 0, .int .u32 0, .string (⟨#[]⟩ : ByteArray), .string (⟨#[]⟩ : ByteArray), .string (⟨#[]⟩ : ByteArray), .int .u64 0, .int .i64 0, .int .u64 0]) (blk_put (cs' := #[.bool false, .bool false, .bool false, .int .i64 0, .int .u32 0, .string (⟨#[]⟩ : ByteArray), .string (⟨#[]⟩ : ByteArray), .string (⟨#[]⟩ : ByteArray), .int .u64 0, .int .i64 0, .int .u64 0]) (blk_put (cs' := #[.bool false, .bool false, .bool false, .int .i64 0, .int .u32 0, .string (⟨#[]⟩ : ByteArray), .string (⟨#[]⟩ : ByteArray), .string (⟨#[]⟩ : ByteArray), .int .u64 0, .int .i64 0, .int .u64 0]) (blk_put (cs' := #[.bool false, .bool false, .bool false, .int .i64 0, .int .u32 0, .string (⟨#[]⟩ : ByteArray), .string (⟨#[]⟩ : ByteArray), .string (⟨#[]⟩ : ByteArray), .int .u64 0, .int .i64 0, .int .u64 0]) (blk_far (p := ⟨gh, 2, none⟩) (blk_far (p := ⟨gh, 9, none⟩) R3.out n1 _) n1 _) 0 (.bool false) rfl) 1 (.bool false) rfl) 2 (.bool false) rfl) 3 (.int .i64 0) rfl) 4 (.int .u32 0) rfl) 5 (.string (⟨#[]⟩ : ByteArray)) rfl) 6 (.string (⟨#[]⟩ : ByteArray)) rfl) 7 (.string (⟨#[]⟩ : ByteArray)) rfl) 8 (.int .u64 0) rfl) 9 (.int .i64 0) rfl) 10 (.int .u64 0) rfl) Tryd.underlying28 rfl (by kernel_rfl)) rfl ?_
    exact ⟨rfl, (below_set (below_set (below_set (below_set (below_set (below_set (below_set (below_set (below_set (below_set (below_set (below_set (below_set B3.out GH.out) GH.out) GB.out) GB.out) GB.out) GB.out) GB.out) GB.out) GB.out) GB.out) GB.out) GB.out) GB.out)⟩
   have g3 : (Int.tdiv (bt a0 0) 8 % 256 % 4 != 0) = false := by rw [k4, c2]; rfl
   have g4 : (Int.tdiv (bt a0 0) 8 % 4 != 0) = false := by rw [k5, c2]; rfl
   have g9 : (bt a0 0 / 8 % 4 != 0) = false := by rw [c2]; rfl
   have g10 : (bt a0 0 / 8 % 4 == 0) = true := by rw [c2]; rfl
   have g11 : (bt a0 0 / 8 % 4 = 0) = True := eq_true c2
   have hf := HF.out
   clear HF
   unfold gEnd at hf
   rw [hW, hP, if_neg (fun h => h.elim c1 (fun h => h c2))] at hf
   obtain ⟨v, hv, hf⟩ := Option.bind_eq_some_iff.1 hf
   have HF := Aside0.mk hf
   have HV := Aside0.mk hv
   have g5 : (W ≤ (r.size : Int)) = True := eq_true (by omega)
   have g6 : decide (W ≤ (r.size : Int)) = true := decide_eq_true (by omega)
   have g7 : (0 ≤ W) = True := eq_true u1
   have g8 : decide (0 ≤ W) = true := decide_eq_true u1
   clear hf hv c1 c2 k4 k5 k6 k7
   go_wp2_with fail
   have h_ := (blk_put (cs' := #[.bool false, .bool sp, .bool P, .int .i64 ty, .int .u32 ver, .string d, .string c, .string tk, .int .u64 len, .int .i64 W, .int .u64 nu]) (blk_put (cs' := #[.bool false, .bool sp, .bool ph, .int .i64 ty, .int .u32 ver, .string d, .string c, .string tk, .int .u64 len, .int .i64 W, .int .u64 nu]) H3.out 9 (.int .i64 W) rfl) 2 (.bool P) rfl)
   have b_ := (below_set (j := 2) (v := .bool P) (below_set (j := 9) (v := .int .i64 W) B3.out GH.out) GH.out)
   have r_ := (blk_far (p := ⟨gh, 2, none⟩) (blk_far (p := ⟨gh, 9, none⟩) R3.out n1 (.int .i64 W)) n1 (.bool P))
   clear d0 df0 d1 df1 d2 df2 d3 df3 d4 df4 d5 df5 d6 df6 d7 df7 d8 df8 d9 df9 d10 df10 e0 ef0 e1 ef1 e2 ef2 e3 ef3 e4 ef4 e5 ef5 e6 ef6 e7 ef7 e8 ef8 e9 ef9 e10 ef10
   generalize ((w3.setCell ⟨gh, 9, none⟩ (.int .i64 W)).setCell ⟨gh, 2, none⟩ (.bool P)) = w4 at h_ b_ r_ ⊢
   have H4 := Aside0.mk h_
   have B4 := Aside0.mk b_
   have R4 := Aside0.mk r_
   clear h_ b_ r_
   refine (dominoref01_Back.calls k _ _ _ HV.out).mono ?_
   rintro e_ w_ ⟨rfl, hd_⟩
   obtain ⟨m_, rfl⟩ := hd_
   have H5 := Aside0.mk (blk_drewN H4.out m_)
   have R5 := Aside0.mk (blk_drewN R4.out m_)
   have B5 := Aside0.mk (pw_below_drewN B4.out m_)
   generalize w4.drewN m_ = w5 at H5 R5 B5 ⊢
   obtain ⟨d0, d1, d2, d3, d4, d5, d6, d7, d8, d9, d10, df0, df1, df2, df3, df4, df5, df6, df7, df8, df9, df10⟩ := cs11f_ R5.out
   obtain ⟨e0, e1, e2, e3, e4, e5, e6, e7, e8, e9, e10, ef0, ef1, ef2, ef3, ef4, ef5, ef6, ef7, ef8, ef9, ef10⟩ := cs11f_ H5.out
   go_upto_region 9 with fail
   have h_ := (blk_put (cs' := #[.bool false, .bool sp, .bool P, .int .i64 ty, .int .u32 ver, .string d, .string c, .string tk, .int .u64 len, .int .i64 W, .int .u64 v]) H5.out 10 (.int .u64 v) rfl)
   have b_ := (below_set (j := 10) (v := .int .u64 v) B5.out GH.out)
   have r_ := (blk_far (p := ⟨gh, 10, none⟩) R5.out n1 (.int .u64 v))
   clear d0 df0 d1 df1 d2 df2 d3 df3 d4 df4 d5 df5 d6 df6 d7 df7 d8 df8 d9 df9 d10 df10 e0 ef0 e1 ef1 e2 ef2 e3 ef3 e4 ef4 e5 ef5 e6 ef6 e7 ef7 e8 ef8 e9 ef9 e10 ef10
   generalize (w5.setCell ⟨gh, 10, none⟩ (.int .u64 v)) = w6 at h_ b_ r_ ⊢
   have H6 := Aside0.mk h_
   have B6 := Aside0.mk b_
   have R6 := Aside0.mk r_
   clear h_ b_ r_
   have H7 := Aside0.mk (blk_drew H6.out)
   have R7 := Aside0.mk (blk_drew R6.out)
   have B7 := Aside0.mk (below_drew1 B6.out)
   have hf := HF.out
   clear HF
   simp only [Option.some.injEq, Prod.mk.injEq] at hf
   obtain ⟨rfl, rfl, rfl, rfl, rfl, rfl, rfl, rfl, rfl, rfl, rfl, rfl, rfl⟩ := hf
   refine start_ (n := 8) (S := fun W' => W'.cell? ⟨gh, 0, none⟩ = some (.bool false) ∧ W'.cell? ⟨gh, 1, none⟩ = some (.bool sp) ∧ W'.cell? ⟨gh, 2, none⟩ = some (.bool P) ∧ W'.cell? ⟨gh, 3, none⟩ = some (.int .i64 ty) ∧ W'.cell? ⟨gh, 4, none⟩ = some (.int .u32 ver) ∧ W'.cell? ⟨gh, 5, none⟩ = some (.string d) ∧ W'.cell? ⟨gh, 6, none⟩ = some (.string c) ∧ W'.cell? ⟨gh, 7, none⟩ = some (.string tk) ∧ W'.cell? ⟨gh, 8, none⟩ = some (.int .u64 len) ∧ W'.cell? ⟨gh, 9, none⟩ = some (.int .i64 W) ∧ W'.cell? ⟨gh, 10, none⟩ = some (.int .u64 v)) (ds := []) #[false,false,false,false,false,false,false,false] (by kernel_rfl) rfl rfl ⟨((blk_cell H7.out 0).trans rfl), ((blk_cell H7.out 1).trans rfl), ((blk_cell H7.out 2).trans rfl), ((blk_cell H7.out 3).trans rfl), ((blk_cell H7.out 4).trans rfl), ((blk_cell H7.out 5).trans rfl), ((blk_cell H7.out 6).trans rfl), ((blk_cell H7.out 7).trans rfl), ((blk_cell H7.out 8).trans rfl), ((blk_cell H7.out 9).trans rfl), ((blk_cell H7.out 10).trans rfl)⟩ (fun hHeld => ?_)
   generalize w6.drew = w7 at H7 R7 B7 hHeld ⊢
   refine pure_ (i := 1) (N := some 70) (v := ?_) (a' := ?_) #[false,true,false,false,false,false,false,false] rfl rfl (by kernel_rfl) (fun _ _ _ h => h) (Or.inl ⟨by rfl, ?_⟩) ?_ ?_
   rotate_left;(intro w';go_simp;with_reducible rfl);rotate_left;(simp only [Act.put, List.setIfInBounds_toArray, List.set_cons_zero, List.set_cons_succ, i64_w, i32_w];rfl)
   refine pure_ (i := 2) (N := some 71) (v := ?_) (a' := ?_) #[false,true,true,false,false,false,false,false] rfl rfl (by kernel_rfl) (fun _ _ _ h => h) (Or.inl ⟨by rfl, ?_⟩) ?_ ?_
   rotate_left;(intro w';go_simp;with_reducible rfl);rotate_left;(simp only [Act.put, List.setIfInBounds_toArray, List.set_cons_zero, List.set_cons_succ, i64_w, i32_w];rfl)
   refine take_ (i := 0) (N := some 69) (v := ?_) (a' := ?_) #[true,true,true,false,false,false,false,false] rfl rfl (by kernel_rfl) (fun _ _ _ h => h) (Or.inl ⟨by rfl, ?_⟩) hHeld ?_ ?_
   rotate_left
   ·rintro w' ⟨s0, s1, s2, s3, s4, s5, s6, s7, s8, s9, s10⟩
    go_simp
    with_reducible rfl
   rotate_left
   ·simp only [Act.put, List.setIfInBounds_toArray, List.set_cons_zero, List.set_cons_succ, i64_w, i32_w]
    rfl
   refine take_ (i := 3) (N := some 72) (v := ?_) (a' := ?_) #[true,true,true,true,false,false,false,false] rfl rfl (by kernel_rfl) (fun _ _ _ h => h) (Or.inl ⟨by rfl, ?_⟩) hHeld ?_ ?_
   rotate_left
   ·rintro w' ⟨s0, s1, s2, s3, s4, s5, s6, s7, s8, s9, s10⟩
    go_simp
    with_reducible rfl
   rotate_left
   ·simp only [Act.put, List.setIfInBounds_toArray, List.set_cons_zero, List.set_cons_succ, i64_w, i32_w]
    rfl
   refine pure_ (i := 4) (N := some 73) (v := ?_) (a' := ?_) #[true,true,true,true,true,false,false,false] rfl rfl (by kernel_rfl) (fun _ _ _ h => h) (Or.inl ⟨by rfl, ?_⟩) ?_ ?_
   rotate_left;(intro w';go_simp;with_reducible rfl);rotate_left;(simp only [Act.put, List.setIfInBounds_toArray, List.set_cons_zero, List.set_cons_succ, i64_w, i32_w];rfl)
   obtain ⟨d0, d1, d2, d3, d4, d5, d6, d7, d8, d9, d10, df0, df1, df2, df3, df4, df5, df6, df7, df8, df9, df10⟩ := cs11f_ R7.out
   refine one_ (i := 5) (N := none) #[true,true,true,true,true,true,false,false] rfl rfl (by kernel_rfl) (by decide) (fun K hK => ?_)
   refine skip_ (w1 := ?_) (by rfl) rfl ?_ ?_
   rotate_left
   ·go_simp
    rfl
   refine hK.out _ _ ⟨((cell_far (p := ⟨gb, _, none⟩) n2 _).trans ((cell_far (p := ⟨gb, _, none⟩) n2 _).trans ((cell_far (p := ⟨gb, _, none⟩) n2 _).trans ((cell_far (p := ⟨gb, _, none⟩) n2 _).trans ((cell_far (p := ⟨gb, _, none⟩) n2 _).trans ((cell_far (p := ⟨gb, _, none⟩) n2 _).trans ((cell_far (p := ⟨gb, _, none⟩) n2 _).trans ((cell_far (p := ⟨gb, _, none⟩) n2 _).trans ((cell_far (p := ⟨gb, _, none⟩) n2 _).trans ((cell_far (p := ⟨gb, _, none⟩) n2 _).trans ((cell_far (p := ⟨gb, _, none⟩) n2 _).trans hHeld.1))))))))))), ((cell_far (p := ⟨gb, _, none⟩) n2 _).trans ((cell_far (p := ⟨gb, _, none⟩) n2 _).trans ((cell_far (p := ⟨gb, _, none⟩) n2 _).trans ((cell_far (p := ⟨gb, _, none⟩) n2 _).trans ((cell_far (p := ⟨gb, _, none⟩) n2 _).trans ((cell_far (p := ⟨gb, _, none⟩) n2 _).trans ((cell_far (p := ⟨gb, _, none⟩) n2 _).trans ((cell_far (p := ⟨gb, _, none⟩) n2 _).trans ((cell_far (p := ⟨gb, _, none⟩) n2 _).trans ((cell_far (p := ⟨gb, _, none⟩) n2 _).trans ((cell_far (p := ⟨gb, _, none⟩) n2 _).trans hHeld.2.1))))))))))), ((cell_far (p := ⟨gb, _, none⟩) n2 _).trans ((cell_far (p := ⟨gb, _, none⟩) n2 _).trans ((cell_far (p := ⟨gb, _, none⟩) n2 _).trans ((cell_far (p := ⟨gb, _, none⟩) n2 _).trans ((cell_far (p := ⟨gb, _, none⟩) n2 _).trans ((cell_far (p := ⟨gb, _, none⟩) n2 _).trans ((cell_far (p := ⟨gb, _, none⟩) n2 _).trans ((cell_far (p := ⟨gb, _, none⟩) n2 _).trans ((cell_far (p := ⟨gb, _, none⟩) n2 _).trans ((cell_far (p := ⟨gb, _, none⟩) n2 _).trans ((cell_far (p := ⟨gb, _, none⟩) n2 _).trans hHeld.2.2.1))))))))))), ((cell_far (p := ⟨gb, _, none⟩) n2 _).trans ((cell_far (p := ⟨gb, _, none⟩) n2 _).trans ((cell_far (p := ⟨gb, _, none⟩) n2 _).trans ((cell_far (p := ⟨gb, _, none⟩) n2 _).trans ((cell_far (p := ⟨gb, _, none⟩) n2 _).trans ((cell_far (p := ⟨gb, _, none⟩) n2 _).trans ((cell_far (p := ⟨gb, _, none⟩) n2 _).trans ((cell_far (p := ⟨gb, _, none⟩) n2 _).trans ((cell_far (p := ⟨gb, _, none⟩) n2 _).trans ((cell_far (p := ⟨gb, _, none⟩) n2 _).trans ((cell_far (p := ⟨gb, _, none⟩) n2 _).trans hHeld.2.2.2.1))))))))))), ((cell_far (p := ⟨gb, _, none⟩) n2 _).trans ((cell_far (p := ⟨gb, _, none⟩) n2 _).trans ((cell_far (p := ⟨gb, _, none⟩) n2 _).trans ((cell_far (p := ⟨gb, _, none⟩) n2 _).trans ((cell_far (p := ⟨gb, _, none⟩) n2 _).trans ((cell_far (p := ⟨gb, _, none⟩) n2 _).trans ((cell_far (p := ⟨gb, _, none⟩) n2 _).trans ((cell_far (p := ⟨gb, _, none⟩) n2 _).trans ((cell_far (p := ⟨gb, _, none⟩) n2 _).trans ((cell_far (p := ⟨gb, _, none⟩) n2 _).trans ((cell_far (p := ⟨gb, _, none⟩) n2 _).trans hHeld.2.2.2.2.1))))))))))), ((cell_far (p := ⟨gb, _, none⟩) n2 _).trans ((cell_far (p := ⟨gb, _, none⟩) n2 _).trans ((cell_far (p := ⟨gb, _, none⟩) n2 _).trans ((cell_far (p := ⟨gb, _, none⟩) n2 _).trans ((cell_far (p := ⟨gb, _, none⟩) n2 _).trans ((cell_far (p := ⟨gb, _, none⟩) n2 _).trans ((cell_far (p := ⟨gb, _, none⟩) n2 _).trans ((cell_far (p := ⟨gb, _, none⟩) n2 _).trans ((cell_far (p := ⟨gb, _, none⟩) n2 _).trans ((cell_far (p := ⟨gb, _, none⟩) n2 _).trans ((cell_far (p := ⟨gb, _, none⟩) n2 _).trans hHeld.2.2.2.2.2.1))))))))))), ((cell_far (p := ⟨gb, _, none⟩) n2 _).trans ((cell_far (p := ⟨gb, _, none⟩) n2 _).trans ((cell_far (p := ⟨gb, _, none⟩) n2 _).trans ((cell_far (p := ⟨gb, _, none⟩) n2 _).trans ((cell_far (p := ⟨gb, _, none⟩) n2 _).trans ((cell_far (p := ⟨gb, _, none⟩) n2 _).trans ((cell_far (p := ⟨gb, _, none⟩) n2 _).trans ((cell_far (p := ⟨gb, _, none⟩) n2 _).trans ((cell_far (p := ⟨gb, _, none⟩) n2 _).trans ((cell_far (p := ⟨gb, _, none⟩) n2 _).trans ((cell_far (p := ⟨gb, _, none⟩) n2 _).trans hHeld.2.2.2.2.2.2.1))))))))))), ((cell_far (p := ⟨gb, _, none⟩) n2 _).trans ((cell_far (p := ⟨gb, _, none⟩) n2 _).trans ((cell_far (p := ⟨gb, _, none⟩) n2 _).trans ((cell_far (p := ⟨gb, _, none⟩) n2 _).trans ((cell_far (p := ⟨gb, _, none⟩) n2 _).trans ((cell_far (p := ⟨gb, _, none⟩) n2 _).trans ((cell_far (p := ⟨gb, _, none⟩) n2 _).trans ((cell_far (p := ⟨gb, _, none⟩) n2 _).trans ((cell_far (p := ⟨gb, _, none⟩) n2 _).trans ((cell_far (p := ⟨gb, _, none⟩) n2 _).trans ((cell_far (p := ⟨gb, _, none⟩) n2 _).trans hHeld.2.2.2.2.2.2.2.1))))))))))), ((cell_far (p := ⟨gb, _, none⟩) n2 _).trans ((cell_far (p := ⟨gb, _, none⟩) n2 _).trans ((cell_far (p := ⟨gb, _, none⟩) n2 _).trans ((cell_far (p := ⟨gb, _, none⟩) n2 _).trans ((cell_far (p := ⟨gb, _, none⟩) n2 _).trans ((cell_far (p := ⟨gb, _, none⟩) n2 _).trans ((cell_far (p := ⟨gb, _, none⟩) n2 _).trans ((cell_far (p := ⟨gb, _, none⟩) n2 _).trans ((cell_far (p := ⟨gb, _, none⟩) n2 _).trans ((cell_far (p := ⟨gb, _, none⟩) n2 _).trans ((cell_far (p := ⟨gb, _, none⟩) n2 _).trans hHeld.2.2.2.2.2.2.2.2.1))))))))))), ((cell_far (p := ⟨gb, _, none⟩) n2 _).trans ((cell_far (p := ⟨gb, _, none⟩) n2 _).trans ((cell_far (p := ⟨gb, _, none⟩) n2 _).trans ((cell_far (p := ⟨gb, _, none⟩) n2 _).trans ((cell_far (p := ⟨gb, _, none⟩) n2 _).trans ((cell_far (p := ⟨gb, _, none⟩) n2 _).trans ((cell_far (p := ⟨gb, _, none⟩) n2 _).trans ((cell_far (p := ⟨gb, _, none⟩) n2 _).trans ((cell_far (p := ⟨gb, _, none⟩) n2 _).trans ((cell_far (p := ⟨gb, _, none⟩) n2 _).trans ((cell_far (p := ⟨gb, _, none⟩) n2 _).trans hHeld.2.2.2.2.2.2.2.2.2.1))))))))))), ((cell_far (p := ⟨gb, _, none⟩) n2 _).trans ((cell_far (p := ⟨gb, _, none⟩) n2 _).trans ((cell_far (p := ⟨gb, _, none⟩) n2 _).trans ((cell_far (p := ⟨gb, _, none⟩) n2 _).trans ((cell_far (p := ⟨gb, _, none⟩) n2 _).trans ((cell_far (p := ⟨gb, _, none⟩) n2 _).trans ((cell_far (p := ⟨gb, _, none⟩) n2 _).trans ((cell_far (p := ⟨gb, _, none⟩) n2 _).trans ((cell_far (p := ⟨gb, _, none⟩) n2 _).trans ((cell_far (p := ⟨gb, _, none⟩) n2 _).trans ((cell_far (p := ⟨gb, _, none⟩) n2 _).trans hHeld.2.2.2.2.2.2.2.2.2.2)))))))))))⟩ (fun hHeld_ => ?_)
   clear hK K
   refine pure_ (i := 6) (N := some 3) (v := ?_) (a' := ?_) #[true,true,true,true,true,true,true,false] rfl rfl (by kernel_rfl) (fun _ _ _ h => h) (Or.inl ⟨by rfl, ?_⟩) ?_ ?_
   rotate_left;(intro w';go_simp;with_reducible rfl);rotate_left;(simp only [Act.put, List.setIfInBounds_toArray, List.set_cons_zero, List.set_cons_succ, i64_w, i32_w];rfl)
   refine pure_ (i := 7) (N := some 4) (v := ?_) (a' := ?_) #[true,true,true,true,true,true,true,true] rfl rfl (by kernel_rfl) (fun _ _ _ h => h) (Or.inl ⟨by rfl, ?_⟩) ?_ ?_
   rotate_left;(intro w';go_simp;with_reducible rfl);rotate_left;(simp only [Act.put, List.setIfInBounds_toArray, List.set_cons_zero, List.set_cons_succ, i64_w, i32_w];rfl)
   refine done_ (by kernel_rfl) ?_
   go_wp2
   refine bodyPost_ret (results_ctt rfl _ _ gb 28 #[.bool false, .bool sp, .bool P, .int .i64 ty, .int .u32 ver, .string d, .string c, .string tk, .int .u64 len, .int .i64 W, .int .u64 v] (0, 0) _ rfl (blk_put (cs' := #[.bool false, .bool sp, .bool P, .int .i64 ty, .int .u32 ver, .string d, .string c, .string tk, .int .u64 len, .int .i64 W, .int .u64 v]) (blk_put (cs' := #[.bool false, .bool sp, .bool P, .int .i64 ty, .int .u32 ver, .string d, .string c, .string tk, .int .u64 len, .int .i64 W, .int .u64 0]) (blk_put (cs' := #[.bool false, .bool sp, .bool P, .int .i64 ty, .int .u32 ver, .string d, .string c, .string tk, .int .u64 len, .int .i64 0, .int .u64 0]) (blk_put (cs' := #[.bool false, .bool sp, .bool P, .int .i64 ty, .int .u32 ver, .string d, .string c, .string tk, .int .u64 0, .int .i64 0, .int .u64 0]) (blk_put (cs' := #[.bool false, .bool sp, .bool P, .int .i64 ty, .int .u32 ver, .string d, .string c, .string (⟨#[]⟩ : ByteArray), .int .u64 0, .int .i64 0, .int .u64 0]) (blk_put (cs' := #[.bool false, .bool sp, .bool P, .int .i64 ty, .int .u32 ver, .string d, .string (⟨#[]⟩ : ByteArray), .string (⟨#[]⟩ : ByteArray), .int .u64 0, .int .i64 0, .int .u64 0]) (blk_put (cs' := #[.bool false, .bool sp, .bool P, .int .i64 ty, .int .u32 ver, .string (⟨#[]⟩ : ByteArray), .string (⟨#[]⟩ : ByteArray), .string (⟨#[]⟩ : ByteArray), .int .u64 0, .int .i64 0, .int .u64 0]) (blk_put (cs' := #[.bool false, .bool sp, .bool P, .int .i64 ty, .int .u32 0, .string (⟨#[]⟩ : ByteArray), .string (⟨#[]⟩ : ByteArray), .string (⟨#[]⟩ : ByteArray), .int .u64 0, .int .i64 0, .int .u64 0]) (blk_put (cs' := #[.bool false, .bool sp, .bool P, .int .i64 0, .int .u32 0, .string (⟨#[]⟩ : ByteArray), .string (⟨#[]⟩ : ByteArray), .string (⟨#[]⟩ : ByteArray), .int .u64 0, .int .i64 0, .int .u64 0]) (blk_put (cs' := #[.bool false, .bool sp, .bool false, .int .i64 0, .int .u32 0, .string (⟨#[]⟩ : ByteArray), .string (⟨#[]⟩ : ByteArray), .string (⟨#[]⟩ : ByteArray), .int .u64 0, .int .i64 0, .int .u64 0]) (blk_put (cs' := #[.bool false, .bool false, .bool false, .int .i64 0, .int .u32 0, .string (⟨#[]⟩ : ByteArray), .string (⟨#[]⟩ : ByteArray), .string (⟨#[]⟩ : ByteArray), .int .u64 0, .int .i64 0, .int .u64 0]) R7.out 0 (.bool false) rfl) 1 (.bool sp) rfl) 2 (.bool P) rfl) 3 (.int .i64 ty) rfl) 4 (.int .u32 ver) rfl) 5 (.string d) rfl) 6 (.string c) rfl) 7 (.string tk) rfl) 8 (.int .u64 len) rfl) 9 (.int .i64 W) rfl) 10 (.int .u64 v) rfl) Tryd.underlying28 rfl (by kernel_rfl)) rfl ?_
   exact ⟨rfl, (below_set (below_set (below_set (below_set (below_set (below_set (below_set (below_set (below_set (below_set (below_set B7.out GB.out) GB.out) GB.out) GB.out) GB.out) GB.out) GB.out) GB.out) GB.out) GB.out) GB.out)⟩

/-! ### dominoref04_turned: function 51 -/
def dominoref04_turned.l0 : Nat → Int → Int → Int → Int → Option (Int)
 | 0, _, _, _, _ => none
 | k + 1, x0, x1, x5, x6 => if x6 > 0 then (if x6 = 0 then (none) else (if (((Int.tdiv x0 x6) % 256) % 2) = (((Int.tdiv x1 x6) % 256) % 2) then (dominoref04_turned.l0 k x0 x1 x5 ((Int.tdiv x6 2) % 256)) else (dominoref04_turned.l0 k x0 x1 ((x5 + x6) % 256) ((Int.tdiv x6 2) % 256)))) else (some x5)
def dominoref04_turned.f (k : Nat) (a0 : Int) (a1 : Int) : Option (Int) := dominoref04_turned.l0 k a0 a1 0 128
theorem dominoref04_turned.mono_l : ∀ k, (∀ y0 y1 y2 y3, LeO (dominoref04_turned.l0 k y0 y1 y2 y3) (dominoref04_turned.l0 (k + 1) y0 y1 y2 y3))
 | 0 => fun _ _ _ _ r h => by simp [dominoref04_turned.l0] at h
 | k + 1 => by
  have ih0 := dominoref04_turned.mono_l k
  ·intro y0 y1 y2 y3
   unfold dominoref04_turned.l0
   repeat' first
   | (with_reducible exact ih0 _ _ _ _)
   | (with_reducible exact LeO.refl _)
   | (with_reducible exact LeO.none _)
   | (with_reducible refine LeO.ite ?_ ?_)
   | (with_reducible refine LeO.bind ?_ (fun _ => ?_))
   | exact ih0 _ _ _ _
   | exact LeO.none _
   | refine LeO.ite ?_ ?_
   | refine LeO.bind ?_ (fun _ => ?_)
theorem dominoref04_turned.mono : ∀ a0 a1 k, LeO (dominoref04_turned.f k a0 a1) (dominoref04_turned.f (k + 1) a0 a1) := by
 intro a0 a1 k
 have ih0 := dominoref04_turned.mono_l k
 unfold dominoref04_turned.f
 repeat' first
   | (with_reducible exact ih0 _ _ _ _)
   | (with_reducible exact LeO.refl _)
   | (with_reducible exact LeO.none _)
   | (with_reducible refine LeO.ite ?_ ?_)
   | (with_reducible refine LeO.bind ?_ (fun _ => ?_))
   | exact ih0 _ _ _ _
   | exact LeO.none _
   | refine LeO.ite ?_ ?_
   | refine LeO.bind ?_ (fun _ => ?_)
set_option maxHeartbeats 8000000 in
set_option maxRecDepth 100000 in
theorem dominoref04_turned.calls (k : Nat) (a0 : Int) (a1 : Int) (r : Int) (w : World) (h : dominoref04_turned.f k a0 a1 = some r) :
  Calls Tryd.prog 51 #[.int .u8 a0, .int .u8 a1] w fun e w' => e = .returned (.int .u8 r) ∧ Drawn0 w w' := by
 have H : (dominoref04_turned.l0 k a0 a1 0 128) = some r := h
 clear h
 have H' := Aside0.mk H
 clear H
 go_enter Tryd.func51, Tryd.ntmps51
 go_wp2
 repeat (go_quiet (fail); try go_wp2)
 go_loopg [5, 6] k (fun kq v5 v6 w' => ∃ (x5_1 : Int) (x6_1 : Int), v5 = .int .u8 x5_1 ∧ v6 = .int .u8 x6_1 ∧ Aside0 (dominoref04_turned.l0 kq a0 a1 x5_1 x6_1 = some r) ∧ Aside0 (kq ≤ k) ∧ Drawn0 w w')
 case atStart => exact ⟨(0), (128), (by first | rfl | (simp; done) | (simp [*]; done)), (by first | rfl | (simp; done) | (simp [*]; done)), H', ⟨Nat.le_refl _⟩, by repeat (first | exact Drawn0.refl _ | apply Drawn0.step)⟩
 case round =>
  clear H'
  try clear p2
  obtain ⟨x5_1, x6_1, rfl, rfl, HA, HK1, ⟨m1, rfl⟩⟩ := hrel
  cases gk with
  | zero => exact absurd HA.out (by simp [dominoref04_turned.l0])
  | succ k1 =>
   have H := HA.out
   clear HA
   simp only [dominoref04_turned.l0] at H
   by_cases c3 : x6_1 > 0
   ·rw [if_pos c3] at H
    have c3b0 : decide (0 < x6_1) = true := decide_eq_true c3
    clear c3
    by_cases c4 : x6_1 = 0
    ·rw [if_pos c4] at H
     exact absurd H (by simp)
    ·rw [if_neg c4] at H
     have c4b0 : (x6_1 == 0) = false := beq_eq_false_iff_ne.mpr c4
     have c4b1 : (x6_1 != 0) = true := bne_iff_ne.mpr c4
     by_cases c5 : (((Int.tdiv a0 x6_1) % 256) % 2) = (((Int.tdiv a1 x6_1) % 256) % 2)
     ·rw [if_pos c5] at H
      have c5b0 : ((((Int.tdiv a0 x6_1) % 256) % 2) == (((Int.tdiv a1 x6_1) % 256) % 2)) = true := beq_iff_eq.mpr c5
      have c5b1 : ((((Int.tdiv a0 x6_1) % 256) % 2) != (((Int.tdiv a1 x6_1) % 256) % 2)) = false := bne_eq_false_iff_eq.mpr c5
      clear c5
      have H' := Aside0.mk H
      clear H
      go_wp2
      repeat (go_quiet (fail); try go_wp2)
      go_roundg k1
      case measure => have := HK1.out; omega
      case rel => exact ⟨(x5_1), ((Int.tdiv x6_1 2) % 256), (by first | rfl | (simp; done) | (simp [*]; done)), (by first | rfl | (simp; done) | (simp [*]; done)), H', ⟨by have := HK1.out; omega⟩, by repeat (first | exact Drawn0.refl _ | apply Drawn0.step)⟩
     ·rw [if_neg c5] at H
      have c5b0 : ((((Int.tdiv a0 x6_1) % 256) % 2) == (((Int.tdiv a1 x6_1) % 256) % 2)) = false := beq_eq_false_iff_ne.mpr c5
      have c5b1 : ((((Int.tdiv a0 x6_1) % 256) % 2) != (((Int.tdiv a1 x6_1) % 256) % 2)) = true := bne_iff_ne.mpr c5
      have H' := Aside0.mk H
      clear H
      go_wp2
      repeat (go_quiet (fail); try go_wp2)
      go_roundg k1
      case measure => have := HK1.out; omega
      case rel => exact ⟨((x5_1 + x6_1) % 256), ((Int.tdiv x6_1 2) % 256), (by first | rfl | (simp; done) | (simp [*]; done)), (by first | rfl | (simp; done) | (simp [*]; done)), H', ⟨by have := HK1.out; omega⟩, by repeat (first | exact Drawn0.refl _ | apply Drawn0.step)⟩
   ·rw [if_neg c3] at H
    have c3b0 : decide (0 < x6_1) = false := decide_eq_false c3
    clear c3
    obtain rfl := Option.some.inj H
    go_wp2
    repeat (go_quiet (fail); try go_wp2)
    go_ret
    exact ⟨by first | rfl | (simp; done) | (simp [*]; done), by repeat (first | exact Drawn0.refl _ | apply Drawn0.step)⟩

end Go.Proofs.YtjpafikgbnloaaaDoor.PHdm
