-- printed for this claim by a program of the claim (wip/tools/pp.py over the kit's print)
import Derived.Test.YtocagkmnefkniaaRows
import Derived.Test.YtocagkmnefkniaaPSqcx10
import Derived.Test.YtocagkmnefkniaaPureSendqCredit
import Derived.WalkKit
import Derived.ProofKit
import Derived.OpenShut
import Derived.ShutString
import Derived.ChangeOld
import Derived.Below
import Derived.SizedLaws
import Derived.Test.YtocagkmnefkniaaWSized
import Derived.Deep.Slices
namespace Go.Proofs.Ytocagkmnefkniaa.sendqCredit
open Go.ChangeShapes Go.WideShapes Go.ChangeAt Go.RowKit
open Go.ChangeMaps (open_string shut_string)
set_option linter.unusedVariables false
theorem own : ownKnob Try.prog.godebug = none := by kernel_rfl
theorem laidOut : laidOutB Try.prog = true := by kernel_rfl
def IsRow (k : IntKind) (w : World) (a : Option Addr) (len cap : Nat) (zs : List Int) : Prop :=
  (a = none ∧ len = 0 ∧ cap = 0 ∧ zs = []) ∨
  ∃ x, a = some x ∧ len ≤ cap ∧ cap ≤ maxLen ∧ zs.length = cap ∧ (∀ i, i < zs.length → w.cell? (x.add i) = some (.int k (zs.getD i 0))) ∧ ∀ n ∈ zs, (Lit.int k n).wf = true
open Go.Proofs.Ytocagkmnefkniaa.PSqc
open Go.Proofs.YtocagkmnefkniaaW.PrintWords
section
open Go.ChangeShapes Go.WideShapes Go.Deep
/-- Whatever a datum of type t is read from is of the kind d, and is as Q says. -/
def Opens {H : Type} (enc : TypeId × Value → H) (P : Program) (W : World) (t : TypeId) {α : Type} (d : Kd α) (Q : α → Prop) : Prop :=
  ∀ (fuel : Nat) (cs : List Value) (x : DataW H × List MemPlace), DataW.trod enc P W 0 (fun _ => true) true fuel t cs = some x → ∃ y : α, d.K W y cs ∧ Q y
section
variable {H : Type} {enc : TypeId × Value → H} {P : Program} {W : World} {t e : TypeId}
theorem opens_int {k : IntKind} (ht : P.underlying t = some (.int k)) : Opens enc P W t (Kd.int k) (fun n => (Lit.int k n).wf = true) := by
  intro fuel cs x h
  obtain ⟨n, rfl, _, hw⟩ := DataW.trod_int ht h
  exact ⟨n, rfl, hw⟩
theorem opens_bool (ht : P.underlying t = some .bool) : Opens enc P W t Kd.bool (fun _ => True) := by
  intro fuel cs x h
  obtain ⟨n, rfl, _⟩ := DataW.trod_bool ht h
  exact ⟨n, rfl, trivial⟩
theorem opens_string (ht : P.underlying t = some .string) : Opens enc P W t Kd.string (fun s => s.size ≤ maxLen) := by
  intro fuel cs x h
  obtain ⟨s, rfl, _, hs⟩ := DataW.trod_string ht h
  exact ⟨s, rfl, hs⟩
theorem each_list {α : Type} {R : Nat → α → Prop} : ∀ n : Nat, (∀ i, i < n → ∃ y, R i y) → ∃ l : List α, l.length = n ∧ ∀ i y, l[i]? = some y → R i y
  | 0, _ => ⟨[], rfl, by simp⟩
  | n + 1, h => by
    obtain ⟨l, h1, h2⟩ := each_list n (fun i hi => h i (by omega))
    obtain ⟨y, hy⟩ := h n (by omega)
    refine ⟨l ++ [y], by simp [h1], fun i z hz => ?_⟩
    by_cases hi : i < n
    · rw [List.getElem?_append_left (by omega)] at hz
      exact h2 i z hz
    · have hl := (List.getElem?_eq_some_iff.1 hz).1
      rw [List.length_append, List.length_singleton] at hl
      have e : i = n := by omega
      subst e
      rw [List.getElem?_append_right (by omega), h1] at hz
      simp at hz
      rw [← hz]
      exact hy
theorem opens_slice {α : Type} {d : Kd α} {Q : α → Prop} (ht : P.underlying t = some (.slice e)) (hc : P.cellsOf e = d.sz) (he : Opens enc P W e d Q) :
    Opens enc P W t (Kd.slice e d) (fun l => l.length ≤ maxLen ∧ ∀ x ∈ l, Q x) := by
  intro fuel cs x h
  rcases open_slice ht h with ⟨rfl, _⟩ | ⟨a, len, cap, m, n, D, Pl, rfl, _, hl, hm, hmm, _, hi⟩
  · exact ⟨[], ⟨none, 0, rfl, Nat.le_refl _, Kd.C_nil _ _⟩, by simp, by simp⟩
  · have hlm : len ≤ m := by
      rw [hmm]
      split
      · exact hl
      · exact Nat.le_refl _
    obtain ⟨l, h1, h2⟩ := each_list (R := fun i (y : α) => ∃ cs', W.cells? 0 (a.add (i * P.cellsOf e)) (P.cellsOf e) = some cs' ∧ d.K W y cs' ∧ Q y) len (fun i hlt => by
      obtain ⟨cs', hcs, htr⟩ := hi i (by omega)
      obtain ⟨y, hk, hq⟩ := he _ _ _ htr
      exact ⟨y, cs', hcs, hk, hq⟩)
    have hmax : l.length ≤ maxLen := by omega
    refine ⟨l, ⟨some a, cap, by rw [h1], by omega, ?_⟩, hmax, fun x hx => ?_⟩
    · refine ⟨rfl, Nat.le_trans hmax (by decide), fun _ => ⟨a, rfl, fun j p hj => ?_⟩⟩
      obtain ⟨cs', hcs, hk, _⟩ := h2 j p hj
      obtain ⟨_, hcl, hat⟩ := World.cells?_some hcs
      refine ⟨cs', hcl.trans hc, hk, fun i u hu => ?_⟩
      have hlt : i < P.cellsOf e := by
        have := (List.getElem?_eq_some_iff.1 hu).1
        omega
      rw [← hc, ← Go.Deep.add_add, hat i hlt]
      exact hu
    · obtain ⟨j, hj⟩ := List.mem_iff_getElem?.1 hx
      obtain ⟨_, _, _, hq⟩ := h2 j x hj
      exact hq
/-- Fields in line: what is read from o on. -/
theorem pair_at {α β : Type} {a : Kd α} {b : Kd β} {x : α} {y : β} {cs : List Value} {o s : Nat} (h0 : a.K W x ((cs.drop o).take s)) (h1 : b.K W y (cs.drop (o + s))) : (Kd.pair a b).K W (x, y) (cs.drop o) :=
  ⟨_, _, (List.take_append_drop s (cs.drop o)).symm, h0, by rw [List.drop_drop]; exact h1⟩
theorem last_at {α : Type} {a : Kd α} {x : α} {cs : List Value} {o s : Nat} (hl : cs.length = o + s) (h0 : a.K W x ((cs.drop o).take s)) : a.K W x (cs.drop o) := by
  rw [List.take_of_length_le (by rw [List.length_drop]; omega)] at h0
  exact h0
/-- A slice is no longer than its weight allows. -/
theorem sized_row {a : Option Addr} {len cap : Nat} {d : DataW H} {ps : List MemPlace} {ts : List TypeId} {ds : List (DataW H)} {j : Nat}
    (hsz : (DataW.weightsEach P ts ds).all (· ≤ reachBytes) = true) (ht : ts[j]? = some t) (hd : ds[j]? = some d) (hu : P.underlying t = some (.slice e)) {B : Nat} (hB : P.bytesOf e = B)
    (h : DataW.Trod enc P W 0 (fun _ => true) true t (.slice a len cap) d ps) : len * B ≤ 140737488351232 := by
  obtain ⟨fuel, hf⟩ := h
  rcases open_slice hu hf with ⟨hcs, _⟩ | ⟨x, l, c, m, n, D, Pl, hcs, _, hl, _, hmm, hx, _⟩
  · simp [Value.cells] at hcs
    obtain ⟨rfl, rfl, rfl⟩ := hcs
    simp
  · simp [Value.cells] at hcs
    obtain ⟨rfl, rfl, rfl⟩ := hcs
    obtain ⟨hx, _⟩ := Prod.mk.inj hx
    subst hx
    have z := sized_slice hsz ht hd hu
    rw [hB, List.length_map, List.length_map, List.length_range, List.length_range] at z
    exact Nat.le_trans (Nat.mul_le_mul_right _ (by omega)) z
end
end

theorem opens_T35 {H : Type} {enc : TypeId × Value → H} {W : World} : Opens enc Try.prog W 35 k35 (fun x => ((Lit.int .i64 x.f0).wf = true ∧ (Lit.int .i64 x.f1).wf = true ∧ (Lit.int .u64 x.f2).wf = true ∧ x.f3.size ≤ maxLen ∧ True)) := by
  intro fuel cs x h
  obtain ⟨xs, n, _, _, hlen, hxl, hf⟩ := DataW.trod_struct Try.underlying35 h
  have hl : cs.length = 5 := hlen.trans (by kernel_rfl)
  have hx : xs.length = 5 := hxl
  have z0 : Try.prog.cellsOf 3 = 1 := by kernel_rfl
  have g0 : DataW.trod enc Try.prog W 0 (fun _ => true) true n 3 ((cs.drop 0).take (Try.prog.cellsOf 3)) = xs[0]? := hf 0 _ rfl
  rw [z0, List.getElem?_eq_getElem (by omega)] at g0
  obtain ⟨y0, K0, q0⟩ := (opens_int Try.underlying3) _ _ _ g0
  have z1 : Try.prog.cellsOf 3 = 1 := by kernel_rfl
  have g1 : DataW.trod enc Try.prog W 0 (fun _ => true) true n 3 ((cs.drop 1).take (Try.prog.cellsOf 3)) = xs[1]? := hf 1 _ rfl
  rw [z1, List.getElem?_eq_getElem (by omega)] at g1
  obtain ⟨y1, K1, q1⟩ := (opens_int Try.underlying3) _ _ _ g1
  have z2 : Try.prog.cellsOf 23 = 1 := by kernel_rfl
  have g2 : DataW.trod enc Try.prog W 0 (fun _ => true) true n 23 ((cs.drop 2).take (Try.prog.cellsOf 23)) = xs[2]? := hf 2 _ rfl
  rw [z2, List.getElem?_eq_getElem (by omega)] at g2
  obtain ⟨y2, K2, q2⟩ := (opens_int Try.underlying23) _ _ _ g2
  have z3 : Try.prog.cellsOf 9 = 1 := by kernel_rfl
  have g3 : DataW.trod enc Try.prog W 0 (fun _ => true) true n 9 ((cs.drop 3).take (Try.prog.cellsOf 9)) = xs[3]? := hf 3 _ rfl
  rw [z3, List.getElem?_eq_getElem (by omega)] at g3
  obtain ⟨y3, K3, q3⟩ := (opens_string Try.underlying9) _ _ _ g3
  have z4 : Try.prog.cellsOf 4 = 1 := by kernel_rfl
  have g4 : DataW.trod enc Try.prog W 0 (fun _ => true) true n 4 ((cs.drop 4).take (Try.prog.cellsOf 4)) = xs[4]? := hf 4 _ rfl
  rw [z4, List.getElem?_eq_getElem (by omega)] at g4
  obtain ⟨y4, K4, q4⟩ := (opens_bool Try.underlying4) _ _ _ g4
  have T4 := last_at (o := 4) (s := 1) hl K4
  have T3 := pair_at (o := 3) (s := 1) K3 T4
  have T2 := pair_at (o := 2) (s := 1) K2 T3
  have T1 := pair_at (o := 1) (s := 1) K1 T2
  have T0 := pair_at (o := 0) (s := 1) K0 T1
  exact ⟨⟨y0, y1, y2, y3, y4⟩, T0, ⟨q0, q1, q2, q3, q4⟩⟩
set_option maxRecDepth 100000 in
theorem lifted (os : Os) (started : os.Started) (H : Type) (enc : TypeId × Value → H) :
    ReturnsInHanded {} Try.checked os 5 .any (Rows.sendqCreditSpec.pre6 enc Try.prog Try.f5 Rows.sendqCreditRow.domain false) (Rows.sendqCreditSpec.post enc Try.prog Try.f5 false true false false) := by
  refine returnsInHanded_of_change_sized (C := Try.checked) own started (by kernel_rfl) Try.func5
    (ChangeSpec.witness6 (enc := enc) (C := Try.checked) false ⟨#[], #[.slice none 0 0, .int .u16 0, .int .i64 0], []⟩ 8 (by kernel_rfl) (by kernel_rfl) (by kernel_rfl) (by kernel_rfl)) ?_
  intro W base args ds gs before hval0 hW hcnd hsz0 _
  have hsz : (DataW.weightsEach Try.prog (Try.f5.params.toList ++ Rows.sendqCreditSpec.plain.varTypes Try.prog) (ds ++ gs)).all (· ≤ reachBytes) = true := hsz0
  have hval : ∀ (j : Nat) t v, Try.f5.params[j]? = some t → args[j]? = some v → Value.okWide Try.prog W .any base t v := hval0
  have hW' := hW
  obtain ⟨p, q, hA0, hV, rfl, hfz, hnd⟩ := hW
  have hA : DataW.TrodAll enc Try.prog W 0 (fun _ => true) true Try.f5.params.toList args.toList ds p := hA0
  rw [Try.params5] at hA hval hsz
  obtain ⟨v0, vs0, d0, ds0, p0, q0, hargs, rfl, rfl, h0, r0⟩ := trodAll_cons hA
  obtain ⟨v1, vs1, d1, ds1, p1, q1, rfl, rfl, rfl, h1, r1⟩ := trodAll_cons r0
  obtain ⟨v2, vs2, d2, ds2, p2, q2, rfl, rfl, rfl, h2, r2⟩ := trodAll_cons r1
  obtain ⟨rfl, rfl, rfl⟩ := trodAll_nil r2
  obtain rfl : args = #[v0, v1, v2] := by cases args; simp_all
  obtain ⟨rfl, rfl⟩ := trodVars_none hV
  obtain ⟨a0, len0, cap0, rfl⟩ := okWide_slice Try.underlying22 (hval 0 22 v0 rfl rfl)
  have k0 := h0
  have lt0 : ∀ x ∈ p0, x.block < W.heap.size := by obtain ⟨m, hm⟩ := k0; exact DataW.trod_lt m _ _ _ hm
  have y0 : len0 * 48 ≤ 140737488351232 := sized_row hsz (j := 0) (t := 22) rfl rfl Try.underlying22 (by kernel_rfl) h0
  obtain ⟨fuel0, hf0⟩ := h0
  obtain ⟨l0, ⟨A0, c0, hcs0, hc0, hr0⟩, hm0, hq0⟩ := (opens_slice Try.underlying22 (by kernel_rfl) opens_T35) _ _ _ hf0
  simp [Value.cells] at hcs0
  obtain ⟨rfl, rfl, rfl⟩ := hcs0
  obtain ⟨a1, rfl, rfl, rfl, w1⟩ := open_int Try.underlying59 (hval 1 59 v1 rfl rfl) h1
  obtain ⟨a2, rfl, rfl, rfl, w2⟩ := open_int Try.underlying3 (hval 2 3 v2 rfl rfl) h2
  clear hA0 hval0 hsz0 hsz
  refine (PSqc.dominolaw15_SendqCredit.walk Pure.SendqCredit a0 cap0 l0 a1 a2 W hr0 hc0 hm0 y0 hq0 w1 w2).mono fun e W' ⟨he, bel⟩ => ?_
  subst he
  exact ⟨_, rfl, _, _, _, [], _, [], hW', trodAll_mk1 (shut_bool Try.underlying4 _), (trodAll_cons_mk (Below.trod laidOut (by kernel_rfl) (of_decide_eq_true (by kernel_rfl)) k0 bel lt0) (trodAll_cons_mk (shut_int Try.underlying59 w1) (trodAll_cons_mk (shut_int Try.underlying3 w2) trodAll_mk0))), rfl, bel.frame _, fun h => by cases h⟩
theorem over : Rows.sendqCreditRow.holds Try.pinned (OpenSpec.ofChange Rows.sendqCreditSpec) :=
  OpenClaim.holds_of_wide 5 Try.f5 rfl rfl rfl rfl rfl rfl rfl ⟨rfl, rfl, rfl, rfl, rfl⟩ rfl rfl rfl rfl rfl (by kernel_rfl) Try.func5 (by kernel_rfl)
    (of_decide_eq_true (by kernel_rfl)) (by unfold Func.isWrapper; first | (rw [if_pos (by decide +kernel)]; kernel_rfl) | (rw [if_neg (by decide +kernel)]; exact ⟨rfl, rfl⟩))
    (fun os started H enc _ => lifted os started H enc)
theorem proved : Rows.SendqCreditSaid := over
#print axioms proved
end Go.Proofs.Ytocagkmnefkniaa.sendqCredit
namespace Go.Proofs.Ytocagkmnefkniaa
/-- The row, under a short name, for the claim. -/
theorem sendqCredit_holds : Rows.SendqCreditSaid := sendqCredit.proved
end Go.Proofs.Ytocagkmnefkniaa
