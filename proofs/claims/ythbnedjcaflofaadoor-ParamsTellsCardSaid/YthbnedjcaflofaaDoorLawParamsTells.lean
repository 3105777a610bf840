-- printed for this claim by a program of the claim (wip/tools/pp.py over the kit's print)
import Derived.Test.YthbnedjcaflofaaDoorRows
import Derived.Test.YthbnedjcaflofaaDoorPPaxx12
import Derived.Test.YthbnedjcaflofaaDoorPureParamsTells
import Derived.Test.YthbnedjcaflofaaDoorTabs
import Derived.Test.YthbnedjcaflofaaDoorTie
import Derived.Test.YthbnedjcaflofaaDoorCards
import Derived.SevenTiedAt
import Derived.WalkKit
import Derived.ProofKit
import Derived.OpenShut
import Derived.ShutString
import Derived.ChangeOld
import Derived.Below
import Derived.SizedLaws
import Derived.Test.YthbnedjcaflofaaDoorWSized
import Derived.Deep.Slices
namespace Go.Proofs.YthbnedjcaflofaaDoor.paramsTells
open Go.ChangeShapes Go.WideShapes Go.ChangeAt Go.RowKit
open Go.ChangeMaps (open_string shut_string)
set_option linter.unusedVariables false
theorem own : ownKnob Tryd.prog.godebug = none := by kernel_rfl
theorem laidOut : laidOutB Tryd.prog = true := by kernel_rfl
def IsRow (k : IntKind) (w : World) (a : Option Addr) (len cap : Nat) (zs : List Int) : Prop :=
  (a = none ∧ len = 0 ∧ cap = 0 ∧ zs = []) ∨
  ∃ x, a = some x ∧ len ≤ cap ∧ cap ≤ maxLen ∧ zs.length = cap ∧ (∀ i, i < zs.length → w.cell? (x.add i) = some (.int k (zs.getD i 0))) ∧ ∀ n ∈ zs, (Lit.int k n).wf = true
open Go.Proofs.YthbnedjcaflofaaDoor.PPax
open Go.Proofs.YthbnedjcaflofaaDoorW.PrintWords
section
open Go.ChangeShapes Go.WideShapes Go.Deep
/-- Whatever a datum of type t is read from is of the kind d, and is as Q says. -/
def Opens {H : Type} (enc : TypeId × Value → H) (P : Program) (W : World) (t : TypeId) {α : Type} (d : Kd α) (Q : α → Prop) : Prop :=
  ∀ (fuel : Nat) (cs : List Value) (x : DataW H × List MemPlace), DataW.trod enc P W 0 (fun _ => true) true fuel t cs = some x → ∃ y : α, d.K W y cs ∧ Q y
section
variable {H : Type} {enc : TypeId × Value → H} {P : Program} {W : World} {t e : TypeId}
theorem opens_int {k : IntKind} (ht : P.underlying t = some (.int k)) : Opens enc P W t (Kd.int k) (fun n => (Lit.int k n).wf = true) := by
  intro fuel cs x h
  obtain ⟨n, rfl, _, hw⟩ := DataW.trod_int ht h
  exact ⟨n, rfl, hw⟩
theorem opens_bool (ht : P.underlying t = some .bool) : Opens enc P W t Kd.bool (fun _ => True) := by
  intro fuel cs x h
  obtain ⟨n, rfl, _⟩ := DataW.trod_bool ht h
  exact ⟨n, rfl, trivial⟩
theorem opens_string (ht : P.underlying t = some .string) : Opens enc P W t Kd.string (fun s => s.size ≤ maxLen) := by
  intro fuel cs x h
  obtain ⟨s, rfl, _, hs⟩ := DataW.trod_string ht h
  exact ⟨s, rfl, hs⟩
theorem each_list {α : Type} {R : Nat → α → Prop} : ∀ n : Nat, (∀ i, i < n → ∃ y, R i y) → ∃ l : List α, l.length = n ∧ ∀ i y, l[i]? = some y → R i y
  | 0, _ => ⟨[], rfl, by simp⟩
  | n + 1, h => by
    obtain ⟨l, h1, h2⟩ := each_list n (fun i hi => h i (by omega))
    obtain ⟨y, hy⟩ := h n (by omega)
    refine ⟨l ++ [y], by simp [h1], fun i z hz => ?_⟩
    by_cases hi : i < n
    · rw [List.getElem?_append_left (by omega)] at hz
      exact h2 i z hz
    · have hl := (List.getElem?_eq_some_iff.1 hz).1
      rw [List.length_append, List.length_singleton] at hl
      have e : i = n := by omega
      subst e
      rw [List.getElem?_append_right (by omega), h1] at hz
      simp at hz
      rw [← hz]
      exact hy
theorem opens_slice {α : Type} {d : Kd α} {Q : α → Prop} (ht : P.underlying t = some (.slice e)) (hc : P.cellsOf e = d.sz) (he : Opens enc P W e d Q) :
    Opens enc P W t (Kd.slice e d) (fun l => l.length ≤ maxLen ∧ ∀ x ∈ l, Q x) := by
  intro fuel cs x h
  rcases open_slice ht h with ⟨rfl, _⟩ | ⟨a, len, cap, m, n, D, Pl, rfl, _, hl, hm, hmm, _, hi⟩
  · exact ⟨[], ⟨none, 0, rfl, Nat.le_refl _, Kd.C_nil _ _⟩, by simp, by simp⟩
  · have hlm : len ≤ m := by
      rw [hmm]
      split
      · exact hl
      · exact Nat.le_refl _
    obtain ⟨l, h1, h2⟩ := each_list (R := fun i (y : α) => ∃ cs', W.cells? 0 (a.add (i * P.cellsOf e)) (P.cellsOf e) = some cs' ∧ d.K W y cs' ∧ Q y) len (fun i hlt => by
      obtain ⟨cs', hcs, htr⟩ := hi i (by omega)
      obtain ⟨y, hk, hq⟩ := he _ _ _ htr
      exact ⟨y, cs', hcs, hk, hq⟩)
    have hmax : l.length ≤ maxLen := by omega
    refine ⟨l, ⟨some a, cap, by rw [h1], by omega, ?_⟩, hmax, fun x hx => ?_⟩
    · refine ⟨rfl, Nat.le_trans hmax (by decide), fun _ => ⟨a, rfl, fun j p hj => ?_⟩⟩
      obtain ⟨cs', hcs, hk, _⟩ := h2 j p hj
      obtain ⟨_, hcl, hat⟩ := World.cells?_some hcs
      refine ⟨cs', hcl.trans hc, hk, fun i u hu => ?_⟩
      have hlt : i < P.cellsOf e := by
        have := (List.getElem?_eq_some_iff.1 hu).1
        omega
      rw [← hc, ← Go.Deep.add_add, hat i hlt]
      exact hu
    · obtain ⟨j, hj⟩ := List.mem_iff_getElem?.1 hx
      obtain ⟨_, _, _, hq⟩ := h2 j x hj
      exact hq
/-- Fields in line: what is read from o on. -/
theorem pair_at {α β : Type} {a : Kd α} {b : Kd β} {x : α} {y : β} {cs : List Value} {o s : Nat} (h0 : a.K W x ((cs.drop o).take s)) (h1 : b.K W y (cs.drop (o + s))) : (Kd.pair a b).K W (x, y) (cs.drop o) :=
  ⟨_, _, (List.take_append_drop s (cs.drop o)).symm, h0, by rw [List.drop_drop]; exact h1⟩
theorem last_at {α : Type} {a : Kd α} {x : α} {cs : List Value} {o s : Nat} (hl : cs.length = o + s) (h0 : a.K W x ((cs.drop o).take s)) : a.K W x (cs.drop o) := by
  rw [List.take_of_length_le (by rw [List.length_drop]; omega)] at h0
  exact h0
/-- A slice is no longer than its weight allows. -/
theorem sized_row {a : Option Addr} {len cap : Nat} {d : DataW H} {ps : List MemPlace} {ts : List TypeId} {ds : List (DataW H)} {j : Nat}
    (hsz : (DataW.weightsEach P ts ds).all (· ≤ reachBytes) = true) (ht : ts[j]? = some t) (hd : ds[j]? = some d) (hu : P.underlying t = some (.slice e)) {B : Nat} (hB : P.bytesOf e = B)
    (h : DataW.Trod enc P W 0 (fun _ => true) true t (.slice a len cap) d ps) : len * B ≤ 140737488351232 := by
  obtain ⟨fuel, hf⟩ := h
  rcases open_slice hu hf with ⟨hcs, _⟩ | ⟨x, l, c, m, n, D, Pl, hcs, _, hl, _, hmm, hx, _⟩
  · simp [Value.cells] at hcs
    obtain ⟨rfl, rfl, rfl⟩ := hcs
    simp
  · simp [Value.cells] at hcs
    obtain ⟨rfl, rfl, rfl⟩ := hcs
    obtain ⟨hx, _⟩ := Prod.mk.inj hx
    subst hx
    have z := sized_slice hsz ht hd hu
    rw [hB, List.length_map, List.length_map, List.length_range, List.length_range] at z
    exact Nat.le_trans (Nat.mul_le_mul_right _ (by omega)) z
end
end

theorem opens_T24 {H : Type} {enc : TypeId × Value → H} {W : World} : Opens enc Tryd.prog W 24 k24 (fun x => ((Lit.int .u64 x.f0).wf = true ∧ (Lit.int .u64 x.f1).wf = true ∧ (Lit.int .u64 x.f2).wf = true ∧ (Lit.int .u64 x.f3).wf = true ∧ (Lit.int .u64 x.f4).wf = true ∧ (Lit.int .u64 x.f5).wf = true ∧ (Lit.int .u64 x.f6).wf = true ∧ (Lit.int .u64 x.f7).wf = true ∧ (Lit.int .u64 x.f8).wf = true ∧ (Lit.int .u64 x.f9).wf = true ∧ (Lit.int .u64 x.f10).wf = true ∧ x.f11.size ≤ maxLen)) := by
  intro fuel cs x h
  obtain ⟨xs, n, _, _, hlen, hxl, hf⟩ := DataW.trod_struct Tryd.underlying24 h
  have hl : cs.length = 12 := hlen.trans (by kernel_rfl)
  have hx : xs.length = 12 := hxl
  have z0 : Tryd.prog.cellsOf 22 = 1 := by kernel_rfl
  have g0 : DataW.trod enc Tryd.prog W 0 (fun _ => true) true n 22 ((cs.drop 0).take (Tryd.prog.cellsOf 22)) = xs[0]? := hf 0 _ rfl
  rw [z0, List.getElem?_eq_getElem (by omega)] at g0
  obtain ⟨y0, K0, q0⟩ := (opens_int Tryd.underlying22) _ _ _ g0
  have z1 : Tryd.prog.cellsOf 22 = 1 := by kernel_rfl
  have g1 : DataW.trod enc Tryd.prog W 0 (fun _ => true) true n 22 ((cs.drop 1).take (Tryd.prog.cellsOf 22)) = xs[1]? := hf 1 _ rfl
  rw [z1, List.getElem?_eq_getElem (by omega)] at g1
  obtain ⟨y1, K1, q1⟩ := (opens_int Tryd.underlying22) _ _ _ g1
  have z2 : Tryd.prog.cellsOf 22 = 1 := by kernel_rfl
  have g2 : DataW.trod enc Tryd.prog W 0 (fun _ => true) true n 22 ((cs.drop 2).take (Tryd.prog.cellsOf 22)) = xs[2]? := hf 2 _ rfl
  rw [z2, List.getElem?_eq_getElem (by omega)] at g2
  obtain ⟨y2, K2, q2⟩ := (opens_int Tryd.underlying22) _ _ _ g2
  have z3 : Tryd.prog.cellsOf 22 = 1 := by kernel_rfl
  have g3 : DataW.trod enc Tryd.prog W 0 (fun _ => true) true n 22 ((cs.drop 3).take (Tryd.prog.cellsOf 22)) = xs[3]? := hf 3 _ rfl
  rw [z3, List.getElem?_eq_getElem (by omega)] at g3
  obtain ⟨y3, K3, q3⟩ := (opens_int Tryd.underlying22) _ _ _ g3
  have z4 : Tryd.prog.cellsOf 22 = 1 := by kernel_rfl
  have g4 : DataW.trod enc Tryd.prog W 0 (fun _ => true) true n 22 ((cs.drop 4).take (Tryd.prog.cellsOf 22)) = xs[4]? := hf 4 _ rfl
  rw [z4, List.getElem?_eq_getElem (by omega)] at g4
  obtain ⟨y4, K4, q4⟩ := (opens_int Tryd.underlying22) _ _ _ g4
  have z5 : Tryd.prog.cellsOf 22 = 1 := by kernel_rfl
  have g5 : DataW.trod enc Tryd.prog W 0 (fun _ => true) true n 22 ((cs.drop 5).take (Tryd.prog.cellsOf 22)) = xs[5]? := hf 5 _ rfl
  rw [z5, List.getElem?_eq_getElem (by omega)] at g5
  obtain ⟨y5, K5, q5⟩ := (opens_int Tryd.underlying22) _ _ _ g5
  have z6 : Tryd.prog.cellsOf 22 = 1 := by kernel_rfl
  have g6 : DataW.trod enc Tryd.prog W 0 (fun _ => true) true n 22 ((cs.drop 6).take (Tryd.prog.cellsOf 22)) = xs[6]? := hf 6 _ rfl
  rw [z6, List.getElem?_eq_getElem (by omega)] at g6
  obtain ⟨y6, K6, q6⟩ := (opens_int Tryd.underlying22) _ _ _ g6
  have z7 : Tryd.prog.cellsOf 22 = 1 := by kernel_rfl
  have g7 : DataW.trod enc Tryd.prog W 0 (fun _ => true) true n 22 ((cs.drop 7).take (Tryd.prog.cellsOf 22)) = xs[7]? := hf 7 _ rfl
  rw [z7, List.getElem?_eq_getElem (by omega)] at g7
  obtain ⟨y7, K7, q7⟩ := (opens_int Tryd.underlying22) _ _ _ g7
  have z8 : Tryd.prog.cellsOf 22 = 1 := by kernel_rfl
  have g8 : DataW.trod enc Tryd.prog W 0 (fun _ => true) true n 22 ((cs.drop 8).take (Tryd.prog.cellsOf 22)) = xs[8]? := hf 8 _ rfl
  rw [z8, List.getElem?_eq_getElem (by omega)] at g8
  obtain ⟨y8, K8, q8⟩ := (opens_int Tryd.underlying22) _ _ _ g8
  have z9 : Tryd.prog.cellsOf 22 = 1 := by kernel_rfl
  have g9 : DataW.trod enc Tryd.prog W 0 (fun _ => true) true n 22 ((cs.drop 9).take (Tryd.prog.cellsOf 22)) = xs[9]? := hf 9 _ rfl
  rw [z9, List.getElem?_eq_getElem (by omega)] at g9
  obtain ⟨y9, K9, q9⟩ := (opens_int Tryd.underlying22) _ _ _ g9
  have z10 : Tryd.prog.cellsOf 22 = 1 := by kernel_rfl
  have g10 : DataW.trod enc Tryd.prog W 0 (fun _ => true) true n 22 ((cs.drop 10).take (Tryd.prog.cellsOf 22)) = xs[10]? := hf 10 _ rfl
  rw [z10, List.getElem?_eq_getElem (by omega)] at g10
  obtain ⟨y10, K10, q10⟩ := (opens_int Tryd.underlying22) _ _ _ g10
  have z11 : Tryd.prog.cellsOf 9 = 1 := by kernel_rfl
  have g11 : DataW.trod enc Tryd.prog W 0 (fun _ => true) true n 9 ((cs.drop 11).take (Tryd.prog.cellsOf 9)) = xs[11]? := hf 11 _ rfl
  rw [z11, List.getElem?_eq_getElem (by omega)] at g11
  obtain ⟨y11, K11, q11⟩ := (opens_string Tryd.underlying9) _ _ _ g11
  have T11 := last_at (o := 11) (s := 1) hl K11
  have T10 := pair_at (o := 10) (s := 1) K10 T11
  have T9 := pair_at (o := 9) (s := 1) K9 T10
  have T8 := pair_at (o := 8) (s := 1) K8 T9
  have T7 := pair_at (o := 7) (s := 1) K7 T8
  have T6 := pair_at (o := 6) (s := 1) K6 T7
  have T5 := pair_at (o := 5) (s := 1) K5 T6
  have T4 := pair_at (o := 4) (s := 1) K4 T5
  have T3 := pair_at (o := 3) (s := 1) K3 T4
  have T2 := pair_at (o := 2) (s := 1) K2 T3
  have T1 := pair_at (o := 1) (s := 1) K1 T2
  have T0 := pair_at (o := 0) (s := 1) K0 T1
  exact ⟨⟨y0, y1, y2, y3, y4, y5, y6, y7, y8, y9, y10, y11⟩, T0, ⟨q0, q1, q2, q3, q4, q5, q6, q7, q8, q9, q10, q11⟩⟩
set_option maxRecDepth 100000 in
theorem lifted (os : Os) (started : os.Started) (H : Type) (enc : TypeId × Value → H) :
    ReturnsInHanded {} Tryd.checked os 3 .any (fun w args => (Rows.paramsTellsSpec.pre enc Tryd.prog Tryd.f3 Rows.paramsTellsRow.domain false w args ∧ laidMetH Tryd.prog YthbnedjcaflofaaDoorTabs.laidAll w) ∧ sizedMet enc Tryd.prog Tryd.f3 (OpenSpec.ofChange Rows.paramsTellsSpec) false w args) (Rows.paramsTellsSpec.post enc Tryd.prog Tryd.f3 false true false false) := by
  refine returnsInHanded_of_change_and (C := Tryd.checked) (X := fun w _ => laidMetH Tryd.prog YthbnedjcaflofaaDoorTabs.laidAll w) (fun _ _ _ hh h => h.of_heap hh) own started (by kernel_rfl) Tryd.func3
    (ChangeSpec.witness_at (enc := enc) (C := Tryd.checked) (os := os) (X := fun w _ => laidMetH Tryd.prog YthbnedjcaflofaaDoorTabs.laidAll w) false (YthbnedjcaflofaaDoorTabs.laidWorld os) #[.agg #[.int .u64 0, .int .u64 0, .int .u64 0, .int .u64 0, .int .u64 0, .int .u64 0, .int .u64 0, .int .u64 0, .int .u64 0, .int .u64 0, .int .u64 0, .string ByteArray.empty], .string ByteArray.empty] 8 rfl (by kernel_rfl) (by kernel_rfl) (by kernel_rfl) (by kernel_rfl) (by kernel_rfl) (YthbnedjcaflofaaDoorTabs.laidWorld_met os _)) ?_
  intro W base args ds gs before hval0 hW hcnd hsz0 hL _
  have hT := YthbnedjcaflofaaDoorTabs.tab_of_laid hL
  have hsz : (DataW.weightsEach Tryd.prog (Tryd.f3.params.toList ++ Rows.paramsTellsSpec.plain.varTypes Tryd.prog) (ds ++ gs)).all (· ≤ reachBytes) = true := hsz0
  have hval : ∀ (j : Nat) t v, Tryd.f3.params[j]? = some t → args[j]? = some v → Value.okWide Tryd.prog W .any base t v := hval0
  have hW' := hW
  obtain ⟨p, q, hA0, hV, rfl, hfz, hnd⟩ := hW
  have hA : DataW.TrodAll enc Tryd.prog W 0 (fun _ => true) true Tryd.f3.params.toList args.toList ds p := hA0
  rw [Tryd.params3] at hA hval hsz
  obtain ⟨v0, vs0, d0, ds0, p0, q0, hargs, rfl, rfl, h0, r0⟩ := trodAll_cons hA
  obtain ⟨v1, vs1, d1, ds1, p1, q1, rfl, rfl, rfl, h1, r1⟩ := trodAll_cons r0
  obtain ⟨rfl, rfl, rfl⟩ := trodAll_nil r1
  obtain rfl : args = #[v0, v1] := by cases args; simp_all
  obtain ⟨rfl, rfl⟩ := trodVars_none hV
  have k0 := h0
  have lt0 : ∀ x ∈ p0, x.block < W.heap.size := by obtain ⟨m, hm⟩ := k0; exact DataW.trod_lt m _ _ _ hm
  obtain ⟨cs0, rfl, hz0⟩ := okWide_struct Tryd.underlying24 (hval 0 24 v0 rfl rfl)
  obtain ⟨fuel0, hf0⟩ := h0
  obtain ⟨s0, hK0, hq0⟩ := opens_T24 _ _ _ hf0
  have hO0 := k24_open hK0
  obtain ⟨L0⟩ := cs0
  simp only [Value.cells] at hO0
  subst hO0
  obtain ⟨a1, rfl, rfl, rfl, y1⟩ := open_string Tryd.underlying9 (hval 1 9 v1 rfl rfl) h1
  have w1 : a1.size ≤ 140737488351232 := by
    have z := sized_string hsz (j := 1) (t := 9) rfl rfl
    rw [Array.length_toList] at z
    exact z
  clear hA0 hval0 hsz0 hsz
  refine (PPax.dominolaw05_ParamsTells.walk Pure.ParamsTells s0.f0 s0.f1 s0.f2 s0.f3 s0.f4 s0.f5 s0.f6 s0.f7 s0.f8 s0.f9 s0.f10 s0.f11 a1 W hq0.1 hq0.2.1 hq0.2.2.1 hq0.2.2.2.1 hq0.2.2.2.2.1 hq0.2.2.2.2.2.1 hq0.2.2.2.2.2.2.1 hq0.2.2.2.2.2.2.2.1 hq0.2.2.2.2.2.2.2.2.1 hq0.2.2.2.2.2.2.2.2.2.1 hq0.2.2.2.2.2.2.2.2.2.2.1 hq0.2.2.2.2.2.2.2.2.2.2.2 w1 hT).mono fun e W' ⟨he, bel⟩ => ?_
  subst he
  exact ⟨_, rfl, _, _, _, [], _, [], hW', trodAll_mk1 (shut_bool Tryd.underlying4 _), (trodAll_cons_mk (Below.trod laidOut (by kernel_rfl) (of_decide_eq_true (by kernel_rfl)) k0 bel lt0) (trodAll_cons_mk (shut_string Tryd.underlying9 y1) trodAll_mk0)), rfl, bel.frame _, fun h => by cases h⟩
theorem over : Rows.paramsTellsRow.holds Tryd.pinned (OpenSpec.ofChange Rows.paramsTellsSpec) :=
  OpenClaim.holds_of_wide 3 Tryd.f3 rfl rfl rfl rfl rfl rfl rfl ⟨rfl, rfl, rfl, rfl, rfl⟩ rfl rfl rfl rfl rfl (by kernel_rfl) Tryd.func3 (by kernel_rfl)
    (of_decide_eq_true (by kernel_rfl)) (by unfold Func.isWrapper; first | (rw [if_pos (by decide +kernel)]; kernel_rfl) | (rw [if_neg (by decide +kernel)]; exact ⟨rfl, rfl⟩))
    (fun os started H enc _ => lifted os started H enc)
theorem proved : Rows.ParamsTellsCardSaid :=
  Claim7.holds_tied_plain_at .later [] [.data, .data] true (true, "f4f52911af6d5558f24e7cbd8da0e23d2298f9569e574cfd97f9597b72736e52") false over (fun _ h => by cases h) (by kernel_rfl) (fun _ h => by cases h) paramsTells_row_tie rfl ⟨rfl, rfl⟩ (by kernel_rfl) rfl
    (fun f fn hf hfn => by
      obtain rfl : f = 3 := Option.some.inj ((show Tryd.prog.funcNamed Rows.paramsTellsRow.func = some 3 by kernel_rfl).symm.trans hf) |>.symm
      obtain rfl : fn = Tryd.f3 := (Option.some.inj (Tryd.func3.symm.trans hfn)).symm
      exact ⟨by kernel_rfl, fun j t ht => by
        rw [Tryd.params3] at ht
        have hm := Array.mem_of_getElem? ht
        simp only [List.mem_toArray, List.mem_cons, List.not_mem_nil, or_false] at hm
        rcases hm with rfl | rfl
        · exact (show Tryd.prog.wantsStandIn 24 = false by kernel_rfl)
        · exact (show Tryd.prog.wantsStandIn 9 = false by kernel_rfl)⟩)
    (by kernel_rfl)
#print axioms proved
end Go.Proofs.YthbnedjcaflofaaDoor.paramsTells
namespace Go.Proofs.YthbnedjcaflofaaDoor
/-- The row, under a short name, for the claim. -/
theorem paramsTells_holds : Rows.ParamsTellsCardSaid := paramsTells.proved
end Go.Proofs.YthbnedjcaflofaaDoor
