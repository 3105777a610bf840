-- printed for this claim by a program of the claim (wip/tools/pp.py over the kit's print)
import Derived.Test.YtocagkmnefkniaaRows
import Derived.Test.YtocagkmnefkniaaPSqwx7
import Derived.Test.YtocagkmnefkniaaPureSendqWrites
import Derived.WalkKit
import Derived.ProofKit
import Derived.OpenShut
import Derived.ShutString
import Derived.ChangeOld
import Derived.Below
import Derived.SizedLaws
import Derived.Test.YtocagkmnefkniaaWSized
import Derived.Deep.Slices
namespace Go.Proofs.Ytocagkmnefkniaa.sendqWrites
open Go.ChangeShapes Go.WideShapes Go.ChangeAt Go.RowKit
open Go.ChangeMaps (open_string shut_string)
set_option linter.unusedVariables false
theorem own : ownKnob Try.prog.godebug = none := by kernel_rfl
theorem laidOut : laidOutB Try.prog = true := by kernel_rfl
def IsRow (k : IntKind) (w : World) (a : Option Addr) (len cap : Nat) (zs : List Int) : Prop :=
  (a = none ∧ len = 0 ∧ cap = 0 ∧ zs = []) ∨
  ∃ x, a = some x ∧ len ≤ cap ∧ cap ≤ maxLen ∧ zs.length = cap ∧ (∀ i, i < zs.length → w.cell? (x.add i) = some (.int k (zs.getD i 0))) ∧ ∀ n ∈ zs, (Lit.int k n).wf = true
open Go.Proofs.Ytocagkmnefkniaa.PSqw
open Go.Proofs.YtocagkmnefkniaaW.PrintWords
section
open Go.ChangeShapes Go.WideShapes Go.Deep
/-- Whatever a datum of type t is read from is of the kind d, and is as Q says. -/
def Opens {H : Type} (enc : TypeId × Value → H) (P : Program) (W : World) (t : TypeId) {α : Type} (d : Kd α) (Q : α → Prop) : Prop :=
  ∀ (fuel : Nat) (cs : List Value) (x : DataW H × List MemPlace), DataW.trod enc P W 0 (fun _ => true) true fuel t cs = some x → ∃ y : α, d.K W y cs ∧ Q y
section
variable {H : Type} {enc : TypeId × Value → H} {P : Program} {W : World} {t e : TypeId}
theorem opens_int {k : IntKind} (ht : P.underlying t = some (.int k)) : Opens enc P W t (Kd.int k) (fun n => (Lit.int k n).wf = true) := by
  intro fuel cs x h
  obtain ⟨n, rfl, _, hw⟩ := DataW.trod_int ht h
  exact ⟨n, rfl, hw⟩
theorem opens_bool (ht : P.underlying t = some .bool) : Opens enc P W t Kd.bool (fun _ => True) := by
  intro fuel cs x h
  obtain ⟨n, rfl, _⟩ := DataW.trod_bool ht h
  exact ⟨n, rfl, trivial⟩
theorem opens_string (ht : P.underlying t = some .string) : Opens enc P W t Kd.string (fun s => s.size ≤ maxLen) := by
  intro fuel cs x h
  obtain ⟨s, rfl, _, hs⟩ := DataW.trod_string ht h
  exact ⟨s, rfl, hs⟩
theorem each_list {α : Type} {R : Nat → α → Prop} : ∀ n : Nat, (∀ i, i < n → ∃ y, R i y) → ∃ l : List α, l.length = n ∧ ∀ i y, l[i]? = some y → R i y
  | 0, _ => ⟨[], rfl, by simp⟩
  | n + 1, h => by
    obtain ⟨l, h1, h2⟩ := each_list n (fun i hi => h i (by omega))
    obtain ⟨y, hy⟩ := h n (by omega)
    refine ⟨l ++ [y], by simp [h1], fun i z hz => ?_⟩
    by_cases hi : i < n
    · rw [List.getElem?_append_left (by omega)] at hz
      exact h2 i z hz
    · have hl := (List.getElem?_eq_some_iff.1 hz).1
      rw [List.length_append, List.length_singleton] at hl
      have e : i = n := by omega
      subst e
      rw [List.getElem?_append_right (by omega), h1] at hz
      simp at hz
      rw [← hz]
      exact hy
theorem opens_slice {α : Type} {d : Kd α} {Q : α → Prop} (ht : P.underlying t = some (.slice e)) (hc : P.cellsOf e = d.sz) (he : Opens enc P W e d Q) :
    Opens enc P W t (Kd.slice e d) (fun l => l.length ≤ maxLen ∧ ∀ x ∈ l, Q x) := by
  intro fuel cs x h
  rcases open_slice ht h with ⟨rfl, _⟩ | ⟨a, len, cap, m, n, D, Pl, rfl, _, hl, hm, hmm, _, hi⟩
  · exact ⟨[], ⟨none, 0, rfl, Nat.le_refl _, Kd.C_nil _ _⟩, by simp, by simp⟩
  · have hlm : len ≤ m := by
      rw [hmm]
      split
      · exact hl
      · exact Nat.le_refl _
    obtain ⟨l, h1, h2⟩ := each_list (R := fun i (y : α) => ∃ cs', W.cells? 0 (a.add (i * P.cellsOf e)) (P.cellsOf e) = some cs' ∧ d.K W y cs' ∧ Q y) len (fun i hlt => by
      obtain ⟨cs', hcs, htr⟩ := hi i (by omega)
      obtain ⟨y, hk, hq⟩ := he _ _ _ htr
      exact ⟨y, cs', hcs, hk, hq⟩)
    have hmax : l.length ≤ maxLen := by omega
    refine ⟨l, ⟨some a, cap, by rw [h1], by omega, ?_⟩, hmax, fun x hx => ?_⟩
    · refine ⟨rfl, Nat.le_trans hmax (by decide), fun _ => ⟨a, rfl, fun j p hj => ?_⟩⟩
      obtain ⟨cs', hcs, hk, _⟩ := h2 j p hj
      obtain ⟨_, hcl, hat⟩ := World.cells?_some hcs
      refine ⟨cs', hcl.trans hc, hk, fun i u hu => ?_⟩
      have hlt : i < P.cellsOf e := by
        have := (List.getElem?_eq_some_iff.1 hu).1
        omega
      rw [← hc, ← Go.Deep.add_add, hat i hlt]
      exact hu
    · obtain ⟨j, hj⟩ := List.mem_iff_getElem?.1 hx
      obtain ⟨_, _, _, hq⟩ := h2 j x hj
      exact hq
theorem weights_all {e : TypeId} {d : DataW H} {n : Nat} : ∀ {l : List (DataW H)}, d ∈ l → n ∈ d.weights P e → n ∈ DataW.weightsAll P e l
  | [], h, _ => absurd h (by simp)
  | a :: l, h, hn => by
    simp only [DataW.weightsAll, List.mem_append]
    rcases List.mem_cons.1 h with rfl | h
    · exact Or.inl hn
    · exact Or.inr (weights_all h hn)
/-- A slice of strings: each is no longer than its weight allows. -/
theorem strs_open {fuel : Nat} {cs : List Value} {x : DataW H × List MemPlace} {ts : List TypeId} {ds : List (DataW H)} {j : Nat} (ht : P.underlying t = some (.slice e)) (hc : P.cellsOf e = Kd.string.sz) (he : P.underlying e = some .string)
    (hsz : (DataW.weightsEach P ts ds).all (· ≤ reachBytes) = true) (hts : ts[j]? = some t) (hds : ds[j]? = some x.1) (h : DataW.trod enc P W 0 (fun _ => true) true fuel t cs = some x) :
    ∃ l : List ByteArray, (Kd.slice e Kd.string).K W l cs ∧ l.length ≤ maxLen ∧ ∀ s ∈ l, s.size ≤ 140737488351232 := by
  rcases open_slice ht h with ⟨rfl, _⟩ | ⟨a, len, cap, m, n, D, Pl, rfl, _, hl, hm, hmm, hx, hi⟩
  · exact ⟨[], ⟨none, 0, rfl, Nat.le_refl _, Kd.C_nil _ _⟩, by simp, by simp⟩
  · have hlm : len ≤ m := by
      rw [hmm]
      split
      · exact hl
      · exact Nat.le_refl _
    obtain ⟨l, h1, h2⟩ := each_list (R := fun i (y : ByteArray) => ∃ cs', W.cells? 0 (a.add (i * P.cellsOf e)) (P.cellsOf e) = some cs' ∧ Kd.string.K W y cs' ∧ D i = .lit (.string y.data.toList)) len (fun i hlt => by
      obtain ⟨cs', hcs, htr⟩ := hi i (by omega)
      obtain ⟨s, rfl, hD, _⟩ := DataW.trod_string he htr
      exact ⟨s, _, hcs, rfl, (Prod.mk.inj hD).1⟩)
    have hmax : l.length ≤ maxLen := by omega
    refine ⟨l, ⟨some a, cap, by rw [h1], by omega, ?_⟩, hmax, fun s hs => ?_⟩
    · refine ⟨rfl, Nat.le_trans hmax (by decide), fun _ => ⟨a, rfl, fun j p hj => ?_⟩⟩
      obtain ⟨cs', hcs, hk, _⟩ := h2 j p hj
      obtain ⟨_, hcl, hat⟩ := World.cells?_some hcs
      refine ⟨cs', hcl.trans hc, hk, fun i u hu => ?_⟩
      have hlt : i < P.cellsOf e := by
        have := (List.getElem?_eq_some_iff.1 hu).1
        omega
      rw [← hc, ← Go.Deep.add_add, hat i hlt]
      exact hu
    · obtain ⟨i, hi'⟩ := List.mem_iff_getElem?.1 hs
      obtain ⟨_, _, _, hD⟩ := h2 i s hi'
      have hil : i < len := by
        have := (List.getElem?_eq_some_iff.1 hi').1
        omega
      rw [hx] at hds
      have hw := DataW.weights_mem_each (P := P) hts hds s.data.toList.length (by
        simp only [DataW.weights, ht]
        refine List.mem_cons_of_mem _ (List.mem_append_left _ (weights_all (d := D i) (List.mem_map.2 ⟨i, List.mem_range.2 hil, rfl⟩) ?_))
        rw [hD]
        simp [DataW.weights])
      have := List.all_eq_true.1 hsz _ hw
      have h3 : s.data.toList.length ≤ reachBytes := by simpa using this
      exact h3
/-- Fields in line: what is read from o on. -/
theorem pair_at {α β : Type} {a : Kd α} {b : Kd β} {x : α} {y : β} {cs : List Value} {o s : Nat} (h0 : a.K W x ((cs.drop o).take s)) (h1 : b.K W y (cs.drop (o + s))) : (Kd.pair a b).K W (x, y) (cs.drop o) :=
  ⟨_, _, (List.take_append_drop s (cs.drop o)).symm, h0, by rw [List.drop_drop]; exact h1⟩
theorem last_at {α : Type} {a : Kd α} {x : α} {cs : List Value} {o s : Nat} (hl : cs.length = o + s) (h0 : a.K W x ((cs.drop o).take s)) : a.K W x (cs.drop o) := by
  rw [List.take_of_length_le (by rw [List.length_drop]; omega)] at h0
  exact h0
/-- A slice is no longer than its weight allows. -/
theorem sized_row {a : Option Addr} {len cap : Nat} {d : DataW H} {ps : List MemPlace} {ts : List TypeId} {ds : List (DataW H)} {j : Nat}
    (hsz : (DataW.weightsEach P ts ds).all (· ≤ reachBytes) = true) (ht : ts[j]? = some t) (hd : ds[j]? = some d) (hu : P.underlying t = some (.slice e)) {B : Nat} (hB : P.bytesOf e = B)
    (h : DataW.Trod enc P W 0 (fun _ => true) true t (.slice a len cap) d ps) : len * B ≤ 140737488351232 := by
  obtain ⟨fuel, hf⟩ := h
  rcases open_slice hu hf with ⟨hcs, _⟩ | ⟨x, l, c, m, n, D, Pl, hcs, _, hl, _, hmm, hx, _⟩
  · simp [Value.cells] at hcs
    obtain ⟨rfl, rfl, rfl⟩ := hcs
    simp
  · simp [Value.cells] at hcs
    obtain ⟨rfl, rfl, rfl⟩ := hcs
    obtain ⟨hx, _⟩ := Prod.mk.inj hx
    subst hx
    have z := sized_slice hsz ht hd hu
    rw [hB, List.length_map, List.length_map, List.length_range, List.length_range] at z
    exact Nat.le_trans (Nat.mul_le_mul_right _ (by omega)) z
end
end

set_option maxRecDepth 100000 in
theorem lifted (os : Os) (started : os.Started) (H : Type) (enc : TypeId × Value → H) :
    ReturnsInHanded {} Try.checked os 7 .any (Rows.sendqWritesSpec.pre6 enc Try.prog Try.f7 Rows.sendqWritesRow.domain false) (Rows.sendqWritesSpec.post enc Try.prog Try.f7 false true false false) := by
  refine returnsInHanded_of_change_sized (C := Try.checked) own started (by kernel_rfl) Try.func7
    (ChangeSpec.witness6 (enc := enc) (C := Try.checked) false ⟨#[], #[.slice none 0 0, .int .i64 0, .int .u8 0], []⟩ 8 (by kernel_rfl) (by kernel_rfl) (by kernel_rfl) (by kernel_rfl)) ?_
  intro W base args ds gs before hval0 hW hcnd hsz0 _
  have hsz : (DataW.weightsEach Try.prog (Try.f7.params.toList ++ Rows.sendqWritesSpec.plain.varTypes Try.prog) (ds ++ gs)).all (· ≤ reachBytes) = true := hsz0
  have hval : ∀ (j : Nat) t v, Try.f7.params[j]? = some t → args[j]? = some v → Value.okWide Try.prog W .any base t v := hval0
  have hW' := hW
  obtain ⟨p, q, hA0, hV, rfl, hfz, hnd⟩ := hW
  have hA : DataW.TrodAll enc Try.prog W 0 (fun _ => true) true Try.f7.params.toList args.toList ds p := hA0
  rw [Try.params7] at hA hval hsz
  obtain ⟨v0, vs0, d0, ds0, p0, q0, hargs, rfl, rfl, h0, r0⟩ := trodAll_cons hA
  obtain ⟨v1, vs1, d1, ds1, p1, q1, rfl, rfl, rfl, h1, r1⟩ := trodAll_cons r0
  obtain ⟨v2, vs2, d2, ds2, p2, q2, rfl, rfl, rfl, h2, r2⟩ := trodAll_cons r1
  obtain ⟨rfl, rfl, rfl⟩ := trodAll_nil r2
  obtain rfl : args = #[v0, v1, v2] := by cases args; simp_all
  obtain ⟨rfl, rfl⟩ := trodVars_none hV
  obtain ⟨a0, len0, cap0, rfl⟩ := okWide_slice Try.underlying62 (hval 0 62 v0 rfl rfl)
  have k0 := h0
  have lt0 : ∀ x ∈ p0, x.block < W.heap.size := by obtain ⟨m, hm⟩ := k0; exact DataW.trod_lt m _ _ _ hm
  have y0 : len0 * 16 ≤ 140737488351232 := sized_row hsz (j := 0) (t := 62) rfl rfl Try.underlying62 (by kernel_rfl) h0
  obtain ⟨fuel0, hf0⟩ := h0
  obtain ⟨l0, ⟨A0, c0, hcs0, hc0, hr0⟩, hm0, hq0⟩ := strs_open Try.underlying62 (by kernel_rfl) Try.underlying9 hsz (j := 0) rfl rfl hf0
  simp [Value.cells] at hcs0
  obtain ⟨rfl, rfl, rfl⟩ := hcs0
  obtain ⟨a1, rfl, rfl, rfl, w1⟩ := open_int Try.underlying3 (hval 1 3 v1 rfl rfl) h1
  obtain ⟨a2, rfl, rfl, rfl, w2⟩ := open_int Try.underlying5 (hval 2 5 v2 rfl rfl) h2
  clear hA0 hval0 hsz0 hsz
  refine (PSqw.dominolaw15_SendqWrites.walk Pure.SendqWrites a0 cap0 l0 a1 a2 W hr0 hc0 hm0 y0 hq0 w1 w2).mono fun e W' ⟨he, bel⟩ => ?_
  subst he
  exact ⟨_, rfl, _, _, _, [], _, [], hW', trodAll_mk1 (shut_bool Try.underlying4 _), (trodAll_cons_mk (Below.trod laidOut (by kernel_rfl) (of_decide_eq_true (by kernel_rfl)) k0 bel lt0) (trodAll_cons_mk (shut_int Try.underlying3 w1) (trodAll_cons_mk (shut_int Try.underlying5 w2) trodAll_mk0))), rfl, bel.frame _, fun h => by cases h⟩
theorem over : Rows.sendqWritesRow.holds Try.pinned (OpenSpec.ofChange Rows.sendqWritesSpec) :=
  OpenClaim.holds_of_wide 7 Try.f7 rfl rfl rfl rfl rfl rfl rfl ⟨rfl, rfl, rfl, rfl, rfl⟩ rfl rfl rfl rfl rfl (by kernel_rfl) Try.func7 (by kernel_rfl)
    (of_decide_eq_true (by kernel_rfl)) (by unfold Func.isWrapper; first | (rw [if_pos (by decide +kernel)]; kernel_rfl) | (rw [if_neg (by decide +kernel)]; exact ⟨rfl, rfl⟩))
    (fun os started H enc _ => lifted os started H enc)
theorem proved : Rows.SendqWritesSaid := over
#print axioms proved
end Go.Proofs.Ytocagkmnefkniaa.sendqWrites
namespace Go.Proofs.Ytocagkmnefkniaa
/-- The row, under a short name, for the claim. -/
theorem sendqWrites_holds : Rows.SendqWritesSaid := sendqWrites.proved
end Go.Proofs.Ytocagkmnefkniaa
