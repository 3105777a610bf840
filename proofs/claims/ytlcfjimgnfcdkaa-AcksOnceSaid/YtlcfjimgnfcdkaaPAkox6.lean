-- printed for this claim by a program of the claim (wip/p13/go.py over wip/p13/once.tpl, which wip/tools/pp.py over the kit's print has printed)
import Derived.Test.YtlcfjimgnfcdkaaPAkox0
import Derived.Test.YtlcfjimgnfcdkaaPAkox4
import Derived.Test.YtlcfjimgnfcdkaaPAkox5
import Derived.Maps.OwnSet
namespace Go.Proofs.Ytlcfjimgnfcdkaa.PAko
open Go.RowKit Go.Proofs.YtlcfjimgnfcdkaaW.PrintWords Go.Proofs.YtlcfjimgnfcdkaaW.PrintLast Go.Proofs.YtlcfjimgnfcdkaaW.PrintMore
attribute [local go_sem] max2_int min2_int max_two min_two max_three min_three max_four min_four   -- for this text's walks alone
set_option linter.unusedVariables false
set_option linter.unusedSimpArgs false

attribute [local go_sem] isSome_setCell_
/-! ### dominolaw13_AcksOnce: function 6 -/
def cntT (a : Int) (tk : List Int) : Int := ((tk.filter (· == a)).length : Int)
mutual
def dominolaw13_AcksOnce.j0 : Nat → List Int → Bool → Option (Bool)
  | 0, _, _ => none
  | k + 1, x0, x17 => if x17 = true then ((dominolaw13_shown.f k).bind fun t187 => (some t187)) else (dominolaw13_AcksOnce.l0 k x0 (-1) 0 [] ([] : List (S44)) 0 0 0 0)
def dominolaw13_AcksOnce.l0 : Nat → List Int → Int → Int → List Int → List (S44) → Int → Int → Int → Int → Option (Bool)
  | 0, _, _, _, _, _, _, _, _, _ => none
  | k + 1, x0, x5, x6, tk, x189000, x189001, x189002, x189003, x189004 => if x6 < (x0.length : Int) then (if 0 ≤ x6 then ((acks_Got.f k x189000 x189001 x189002 x189003 x189004 (IntKind.u64.wrap (rd x0 x6)) false x6).bind fun bt190 => (if bt190.2.2.2.2.2 = true then (dominolaw13_AcksOnce.j2 k x0 x5 x6 (tk ++ [rd x0 x6]) bt190.2.2.2.2.2 bt190.1 bt190.2.1 bt190.2.2.1 bt190.2.2.2.1 bt190.2.2.2.2.1) else (dominolaw13_AcksOnce.j2 k x0 x5 x6 tk bt190.2.2.2.2.2 bt190.1 bt190.2.1 bt190.2.2.1 bt190.2.2.2.1 bt190.2.2.2.2.1))) else (none)) else (some true)
def dominolaw13_AcksOnce.j2 : Nat → List Int → Int → Int → List Int → Bool → List (S44) → Int → Int → Int → Int → Option (Bool)
  | 0, _, _, _, _, _, _, _, _, _, _ => none
  | k + 1, x0, x5, x6, tk, x8, x199000, x199001, x199002, x199003, x199004 => if 0 ≤ x6 then (if x6 < (x0.length : Int) then (if cntT (rd x0 x6) tk > 1 then (dominolaw13_AcksOnce.j3 k x0 x5 x6 tk true x199000 x199001 x199002 x199003 x199004) else (if (wrap64 (rd x0 x6)) > x5 then (dominolaw13_AcksOnce.j3 k x0 x5 x6 tk (!x8) x199000 x199001 x199002 x199003 x199004) else (dominolaw13_AcksOnce.j3 k x0 x5 x6 tk false x199000 x199001 x199002 x199003 x199004))) else (none)) else (none)
def dominolaw13_AcksOnce.j3 : Nat → List Int → Int → Int → List Int → Bool → List (S44) → Int → Int → Int → Int → Option (Bool)
  | 0, _, _, _, _, _, _, _, _, _, _ => none
  | k + 1, x0, x5, x6, tk, x65, x199000, x199001, x199002, x199003, x199004 => if x65 = true then (none) else (if 0 ≤ x6 then (if x6 < (x0.length : Int) then ((acks_Largest.f x199000 x199001 x199002 x199003 x199004).bind fun bt203 => (if bt203.2 = true then (if (wrap64 (bt203.1)) = (mx x5 (wrap64 (rd x0 x6))) then (if (x199000.length : Int) > 32 then (none) else ((ranges_May.f k x199000).bind fun t205 => (if t205 = true then (dominolaw13_AcksOnce.l0 k x0 (mx x5 (wrap64 (rd x0 x6))) (wrap64 (x6 + 1)) tk x199000 x199001 x199002 x199003 x199004) else (none)))) else (none)) else (none))) else (none)) else (none))
end
def dominolaw13_AcksOnce.f (k : Nat) (l0 : List Int) : Option (Bool) := if (l0.length : Int) > 200 then (dominolaw13_AcksOnce.j0 k l0 true) else ((dominolaw13_shown.f k).bind fun t186 => (dominolaw13_AcksOnce.j0 k l0 (!t186)))
open Go.Maps in
theorem look_law : Keyed Try.prog 53 := int_keyed Try.underlying53
theorem look_zero (w : World) : (zeroValue 3).run Try.prog w = .ok (.int .i64 0) w := by kernel_rfl
/-- An object that is a map. -/
def MapOb (o : Obj) : Prop := ∃ es ck, o = .map es ck
theorem mapOb_nil : MapOb (.map #[] 0) := ⟨_, _, rfl⟩
/-- The map's object: it reads, at every number, how often that is among tk; it has as many stores as tk, at most n. -/
def MapObj (om : Obj) (tk : List Int) (n : Int) : Prop :=
  ∃ D : DataW Unit, (∀ (w : World) (b : Nat), w.heap[b]? = some om → w.ownsMap Try.prog 53 (plainElem Try.prog 3) b tk.length D) ∧ (∀ a, D.atKey (.int .u16 a) (.lit (.int .i64 0)) = .lit (.int .i64 (cntT a tk))) ∧ (tk.length : Int) ≤ n ∧ MapOb om ∧ Maps.IsMap D
theorem MapObj.isMap {om : Obj} {tk : List Int} {n : Int} (h : MapObj om tk n) : MapOb om := by
  obtain ⟨_, _, _, _, h, _⟩ := h
  exact h
theorem MapObj.mono {om : Obj} {tk : List Int} {n : Int} (h : MapObj om tk n) : MapObj om tk (n + 1) := by
  obtain ⟨D, h1, h2, h3, h4⟩ := h
  exact ⟨D, h1, h2, by omega, h4⟩
theorem MapObj.next {om : Obj} {tk : List Int} {x n : Int} (h : MapObj om tk (x + 1)) (hp : 0 ≤ x ∧ x < n) (hl : x + 1 ≤ 9223372036854775807) : MapObj om tk (wrap64 (x + 1)) := by
  have e : wrap64 (x + 1) = x + 1 := by
    have := hp.1
    simp only [wrap64]
    omega
  rw [e]
  exact h
theorem mapObj_nil : MapObj (.map #[] 0) [] 0 :=
  ⟨.map [], fun w b hb => ⟨#[], 0, hb, ⟨by simp, MapKept.stamped_empty 0, by simp⟩, Nat.le_refl _, rfl⟩, fun a => rfl, Int.le_refl _, mapOb_nil, ⟨_, rfl⟩⟩
theorem cntT_le (a : Int) (tk : List Int) : 0 ≤ cntT a tk ∧ cntT a tk ≤ (tk.length : Int) := by
  have := List.length_filter_le (· == a) tk
  unfold cntT
  omega
theorem cntT_snoc (a z : Int) (tk : List Int) : cntT a (tk ++ [z]) = if a = z then cntT a tk + 1 else cntT a tk := by
  unfold cntT
  rw [List.filter_append, List.length_append]
  by_cases h : a = z
  · subst h
    simp
  · have : (z == a) = false := by simpa using fun e => h e.symm
    simp [this, h]
theorem obj_far {w : World} {g : Nat} {o : Obj} (h : w.heap[g]? = some o) {p : Addr} (hp : g ≠ p.block) (u : Value) : (w.setCell p u).heap[g]? = some o := (Below.heap_setCell w p u g hp).trans h
theorem map_ne {W : World} {mb g : Nat} {om : Obj} {cs : Array Value} {t : TypeId} {c : Nat × Nat} (hm : W.heap[mb]? = some om) (ho : MapOb om) (hc : W.heap[g]? = some (.cells cs t c)) : mb ≠ g := by
  rintro rfl
  obtain ⟨es, ck, rfl⟩ := ho
  rw [hm] at hc
  cases hc
theorem blk_store {W w1 : World} {mb g : Nat} {o : Obj} (hg : W.grownBy w1 (some mb)) (hne : mb ≠ g) (h : W.heap[g]? = some o) : w1.heap[g]? = some o :=
  (hg.block g (Array.getElem?_eq_some_iff.1 h).1 (fun e => hne (Option.some.inj e).symm)).trans h
theorem below_store {w W w1 : World} {mb : Nat} (hg : W.grownBy w1 (some mb)) (hb : w.heap.size ≤ mb) (h : Below w.heap.size w W) : Below w.heap.size w w1 :=
  h.grown hg h.size (fun k e => by cases e; exact hb)
theorem cell_map {W : World} {a : Addr} {es : _} {ck : _} (hm : W.heap[a.block]? = some (.map es ck)) : W.cell? a = none := by
  simp [World.cell?, hm]
theorem V_map {α : Type} {d : Kd α} {W : World} {mb e base : Nat} {ok : Nat → Prop} {om : Obj} {u : Value} {l : List α} (hK : ∀ w w' x cs, d.K w x cs → d.K w' x cs) (hz : 0 < d.sz) (hm : W.heap[mb]? = some om) (ho : MapOb om) (h : Kd.V d e W base ok u l) : Kd.V d e W base (fun k => ok k ∧ k ≠ mb) u l := by
  obtain ⟨es, ck, rfl⟩ := ho
  refine Kd.V_map h (fun A hF => ?_)
  intro W' hW
  have h0 := hF W (fun _ _ _ => rfl)
  refine ⟨h0.1, h0.2.1, fun hn => ?_⟩
  obtain ⟨ad, rfl, hc⟩ := h0.2.2 hn
  refine ⟨ad, rfl, ?_⟩
  have hl : 0 < l.length := hn
  obtain ⟨c0, hs0, hk0, hr0⟩ := hc 0 _ (List.getElem?_eq_getElem hl)
  have hcell0 := hr0 0 _ (List.getElem?_eq_getElem (by omega))
  have hlt : ad.block < W.heap.size := by have := World.block_lt_of_cell? W (ad.add (0 * d.sz + 0)) hcell0; rwa [add_block] at this
  have hmb : ad.block ≠ mb := fun e => by
    have : W.cell? (ad.add (0 * d.sz + 0)) = none := cell_map (es := es) (ck := ck) (by rw [add_block, e]; exact hm)
    rw [this] at hcell0
    cases hcell0
  by_cases hok : ok ad.block
  · have hb := hW ad.block ⟨hok, hmb⟩ hlt
    intro j p hj
    obtain ⟨c, hs, hk, hr⟩ := hc j p hj
    exact ⟨c, hs, hK _ _ _ _ hk, fun i v hi => (World.cell?_of_block (a := ad.add (j * d.sz + i)) (by rw [add_block]; exact hb)).trans (hr i v hi)⟩
  · exfalso
    have hk2 : ∀ k, ok k → k < W.heap.size → ({ W with heap := W.heap.set ad.block (.map #[] 0) hlt } : World).heap[k]? = W.heap[k]? := by
      intro k hk hkl
      have hne : ad.block ≠ k := fun e => hok (e ▸ hk)
      simp [Array.getElem?_set, hne]
    obtain ⟨ad2, e2, hc2⟩ := (hF _ hk2).2.2 hn
    injection e2 with e2
    subst e2
    obtain ⟨c2, hs2, _, hr2⟩ := hc2 0 _ (List.getElem?_eq_getElem hl)
    have hx := hr2 0 _ (List.getElem?_eq_getElem (by omega))
    rw [cell_map (es := #[]) (ck := 0) (by rw [add_block]; show (W.heap.set ad.block (.map #[] 0) hlt)[ad.block]? = _; simp)] at hx
    cases hx
theorem V_store {W w1 : World} {mb base : Nat} {ok : Nat → Prop} {om : Obj} {u : Value} {l : List S44} (hg : W.grownBy w1 (some mb)) (hm : W.heap[mb]? = some om) (ho : MapOb om) (h : Kd.V k44 44 W base ok u l) : Kd.V k44 44 w1 base ok u l :=
  Kd.V_mono (Kd.V_grown (V_map (fun _ _ _ _ h => h) (by decide) hm ho h) hg (fun k hk e => hk.2 (Option.some.inj e))) (fun _ hk => hk.1)
theorem wf_rd {l0 : List Int} {i : Int} (hw : ∀ x ∈ l0, (Lit.int .u16 x).wf = true) (h : 0 ≤ i ∧ i < (l0.length : Int)) : (Lit.int .u16 (rd l0 i)).wf = true := by
  refine hw _ ?_
  have hlt : i.toNat < l0.length := by omega
  unfold rd
  rw [List.getD_eq_getElem?_getD, List.getElem?_eq_getElem hlt]
  exact List.getElem_mem hlt
theorem len_lt {w : World} {A : Option Addr} {l0 : List Int} {x : Int} (h : Kd.C (Kd.int .u16) w A l0.length l0) (hq : x < (l0.length : Int)) : x + 1 ≤ 9223372036854775807 := by
  have := h.2.1
  omega
section
variable {P : Program} {ops : Array Oper} {rest : List Oper} {o : Oper} {a : Act} {Q : Exit → Act → World → Prop} {W : World}
theorem map_event (hgd : o.guard = none) (hrun : (execOp a.eval o).run P W = .ok (.value (.map (some W.heap.size))) (W.alloc (.map #[] 0)))
    (h : ∀ g, g = W.heap.size → ∀ w1, w1.heap[g]? = some (.map #[] 0) → Below W.heap.size W w1 → wpList P ops Q rest (a.put o.dst (.map (some g))) w1) : wpList P ops Q (o :: rest) a W :=
  Kd.event_run hgd hrun (h _ rfl _ (blk_new W _) (below_alloc (Below.refl _ _) _))
theorem look_ (hg : o.guard = none) (m x : Operand) (hop : o.op = Op.lookup 52 m x false) (mb : Nat) (om : Obj) (tk : List Int) (z n : Int) (hm : a.eval m = .map (some mb)) (hx : a.eval x = .int .u16 z)
    (hb : W.heap[mb]? = some om) (ho : MapObj om tk n) (hz : (Lit.int .u16 z).wf = true) (hK : wpList Try.prog ops Q rest (a.put o.dst (.int .i64 (cntT z tk))) W) : wpList Try.prog ops Q (o :: rest) a W := by
  obtain ⟨D, h1, h2, h3, _, _⟩ := ho
  refine wpList_lookup_own_int W hg m x 52 hop 53 3 .i64 look_law Try.underlying52 Try.underlying3 (look_zero _) mb tk.length D hm (h1 W mb hb) _ _ hx (Maps.keyOf_int_mk Try.underlying53 hz) ?_
  intro c hat _
  rw [h2] at hat
  have : c = cntT z tk := by
    injection hat with e
    injection e with _ e
    exact e.symm
  rw [this]
  exact hK
theorem store_ (hg : o.guard = none) (m x v : Operand) (hop : o.op = Op.mapUpdate 52 m x v) (mb : Nat) (om : Obj) (tk : List Int) (z n : Int) (hm : a.eval m = .map (some mb)) (hx : a.eval x = .int .u16 z) (hv : a.eval v = .int .i64 (wrap64 (cntT z tk + 1)))
    (hb : W.heap[mb]? = some om) (ho : MapObj om tk n) (hz : (Lit.int .u16 z).wf = true) (hn : n + 1 ≤ 9223372036854775807)
    (hK : ∀ w1 om1, w1.heap[mb]? = some om1 → MapObj om1 (tk ++ [z]) (n + 1) → W.grownBy w1 (some mb) → wpList Try.prog ops Q rest (a.put o.dst undef) w1) : wpList Try.prog ops Q (o :: rest) a W := by
  obtain ⟨D, h1, h2, h3, _, h5⟩ := ho
  have hc := cntT_le z tk
  have ew : wrap64 (cntT z tk + 1) = cntT z tk + 1 := by
    simp only [wrap64]
    omega
  refine wpList_mapUpdate_own W hg m x v 52 hop 53 3 look_law Try.underlying52 (plainElem (H := Unit) Try.prog 3) mb tk.length D hm (h1 W mb hb) (by unfold maxLen; omega) _ _ _ hx hv (Maps.keyOf_int_mk Try.underlying53 hz) (.lit (.int .i64 (wrap64 (cntT z tk + 1)))) [] (plainElem_int Try.underlying3 (wrap64_wf _)) ?_
  intro w1 hown hgrow
  obtain ⟨es, clock, hh, hF, hs, hD⟩ := hown
  refine hK w1 (.map es clock) hh ⟨D.put (.int .u16 z) (.lit (.int .i64 (wrap64 (cntT z tk + 1)))), fun w b hb => ⟨es, clock, hb, hF, by simpa using hs, hD⟩, fun k => ?_, by simp; omega, ⟨_, _, rfl⟩, ⟨_, hD⟩⟩ hgrow
  rw [cntT_snoc, ew]
  by_cases hk : k = z
  · subst hk
    rw [if_pos rfl, Maps.atKey_put_same h5 (by trivial)]
  · rw [if_neg hk, Maps.atKey_put_other (by intro e; injection e with _ e; exact hk e), h2]
end
theorem dominolaw13_AcksOnce.mono_l : ∀ k, (∀ y0 y1, LeO (dominolaw13_AcksOnce.j0 k y0 y1) (dominolaw13_AcksOnce.j0 (k + 1) y0 y1)) ∧ (∀ y0 y1 y2 y3 y4 y5 y6 y7 y8, LeO (dominolaw13_AcksOnce.l0 k y0 y1 y2 y3 y4 y5 y6 y7 y8) (dominolaw13_AcksOnce.l0 (k + 1) y0 y1 y2 y3 y4 y5 y6 y7 y8)) ∧ (∀ y0 y1 y2 y3 y4 y5 y6 y7 y8 y9, LeO (dominolaw13_AcksOnce.j2 k y0 y1 y2 y3 y4 y5 y6 y7 y8 y9) (dominolaw13_AcksOnce.j2 (k + 1) y0 y1 y2 y3 y4 y5 y6 y7 y8 y9)) ∧ (∀ y0 y1 y2 y3 y4 y5 y6 y7 y8 y9, LeO (dominolaw13_AcksOnce.j3 k y0 y1 y2 y3 y4 y5 y6 y7 y8 y9) (dominolaw13_AcksOnce.j3 (k + 1) y0 y1 y2 y3 y4 y5 y6 y7 y8 y9))
  | 0 => ⟨fun _ _ r h => by simp [dominolaw13_AcksOnce.j0] at h, fun _ _ _ _ _ _ _ _ _ r h => by simp [dominolaw13_AcksOnce.l0] at h, fun _ _ _ _ _ _ _ _ _ _ r h => by simp [dominolaw13_AcksOnce.j2] at h, fun _ _ _ _ _ _ _ _ _ _ r h => by simp [dominolaw13_AcksOnce.j3] at h⟩
  | k + 1 => by
    obtain ⟨ih0, ih1, ih2, ih3⟩ := dominolaw13_AcksOnce.mono_l k
    refine ⟨?_, ?_, ?_, ?_⟩
    · intro y0 y1
      unfold dominolaw13_AcksOnce.j0
      repeat' first
      | (with_reducible exact ih0 _ _)
      | (with_reducible exact ih1 _ _ _ _ _ _ _ _ _)
      | (with_reducible exact ih2 _ _ _ _ _ _ _ _ _ _)
      | (with_reducible exact ih3 _ _ _ _ _ _ _ _ _ _)
      | (with_reducible exact acks_Got.mono _ _ _ _ _ _ _ _ _)
      | (with_reducible exact dominolaw13_shown.mono _)
      | (with_reducible exact ranges_May.mono _ _)
      | (with_reducible exact LeO.refl _)
      | (with_reducible exact LeO.none _)
      | (with_reducible refine LeO.ite ?_ ?_)
      | (with_reducible refine LeO.bind ?_ (fun _ => ?_))
      | exact ih0 _ _
      | exact ih1 _ _ _ _ _ _ _ _ _
      | exact ih2 _ _ _ _ _ _ _ _ _ _
      | exact ih3 _ _ _ _ _ _ _ _ _ _
      | exact acks_Got.mono _ _ _ _ _ _ _ _ _
      | exact dominolaw13_shown.mono _
      | exact ranges_May.mono _ _
      | exact LeO.none _
      | refine LeO.ite ?_ ?_
      | refine LeO.bind ?_ (fun _ => ?_)
    · intro y0 y1 y2 y3 y4 y5 y6 y7 y8
      unfold dominolaw13_AcksOnce.l0
      repeat' first
      | (with_reducible exact ih0 _ _)
      | (with_reducible exact ih1 _ _ _ _ _ _ _ _ _)
      | (with_reducible exact ih2 _ _ _ _ _ _ _ _ _ _)
      | (with_reducible exact ih3 _ _ _ _ _ _ _ _ _ _)
      | (with_reducible exact acks_Got.mono _ _ _ _ _ _ _ _ _)
      | (with_reducible exact dominolaw13_shown.mono _)
      | (with_reducible exact ranges_May.mono _ _)
      | (with_reducible exact LeO.refl _)
      | (with_reducible exact LeO.none _)
      | (with_reducible refine LeO.ite ?_ ?_)
      | (with_reducible refine LeO.bind ?_ (fun _ => ?_))
      | exact ih0 _ _
      | exact ih1 _ _ _ _ _ _ _ _ _
      | exact ih2 _ _ _ _ _ _ _ _ _ _
      | exact ih3 _ _ _ _ _ _ _ _ _ _
      | exact acks_Got.mono _ _ _ _ _ _ _ _ _
      | exact dominolaw13_shown.mono _
      | exact ranges_May.mono _ _
      | exact LeO.none _
      | refine LeO.ite ?_ ?_
      | refine LeO.bind ?_ (fun _ => ?_)
    · intro y0 y1 y2 y3 y4 y5 y6 y7 y8 y9
      unfold dominolaw13_AcksOnce.j2
      repeat' first
      | (with_reducible exact ih0 _ _)
      | (with_reducible exact ih1 _ _ _ _ _ _ _ _ _)
      | (with_reducible exact ih2 _ _ _ _ _ _ _ _ _ _)
      | (with_reducible exact ih3 _ _ _ _ _ _ _ _ _ _)
      | (with_reducible exact acks_Got.mono _ _ _ _ _ _ _ _ _)
      | (with_reducible exact dominolaw13_shown.mono _)
      | (with_reducible exact ranges_May.mono _ _)
      | (with_reducible exact LeO.refl _)
      | (with_reducible exact LeO.none _)
      | (with_reducible refine LeO.ite ?_ ?_)
      | (with_reducible refine LeO.bind ?_ (fun _ => ?_))
      | exact ih0 _ _
      | exact ih1 _ _ _ _ _ _ _ _ _
      | exact ih2 _ _ _ _ _ _ _ _ _ _
      | exact ih3 _ _ _ _ _ _ _ _ _ _
      | exact acks_Got.mono _ _ _ _ _ _ _ _ _
      | exact dominolaw13_shown.mono _
      | exact ranges_May.mono _ _
      | exact LeO.none _
      | refine LeO.ite ?_ ?_
      | refine LeO.bind ?_ (fun _ => ?_)
    · intro y0 y1 y2 y3 y4 y5 y6 y7 y8 y9
      unfold dominolaw13_AcksOnce.j3
      repeat' first
      | (with_reducible exact ih0 _ _)
      | (with_reducible exact ih1 _ _ _ _ _ _ _ _ _)
      | (with_reducible exact ih2 _ _ _ _ _ _ _ _ _ _)
      | (with_reducible exact ih3 _ _ _ _ _ _ _ _ _ _)
      | (with_reducible exact acks_Got.mono _ _ _ _ _ _ _ _ _)
      | (with_reducible exact dominolaw13_shown.mono _)
      | (with_reducible exact ranges_May.mono _ _)
      | (with_reducible exact LeO.refl _)
      | (with_reducible exact LeO.none _)
      | (with_reducible refine LeO.ite ?_ ?_)
      | (with_reducible refine LeO.bind ?_ (fun _ => ?_))
      | exact ih0 _ _
      | exact ih1 _ _ _ _ _ _ _ _ _
      | exact ih2 _ _ _ _ _ _ _ _ _ _
      | exact ih3 _ _ _ _ _ _ _ _ _ _
      | exact acks_Got.mono _ _ _ _ _ _ _ _ _
      | exact dominolaw13_shown.mono _
      | exact ranges_May.mono _ _
      | exact LeO.none _
      | refine LeO.ite ?_ ?_
      | refine LeO.bind ?_ (fun _ => ?_)
theorem dominolaw13_AcksOnce.mono : ∀ a0 k, LeO (dominolaw13_AcksOnce.f k a0) (dominolaw13_AcksOnce.f (k + 1) a0) := by
  intro a0 k
  obtain ⟨ih0, ih1, ih2, ih3⟩ := dominolaw13_AcksOnce.mono_l k
  unfold dominolaw13_AcksOnce.f
  repeat' first
      | (with_reducible exact ih0 _ _)
      | (with_reducible exact ih1 _ _ _ _ _ _ _ _ _)
      | (with_reducible exact ih2 _ _ _ _ _ _ _ _ _ _)
      | (with_reducible exact ih3 _ _ _ _ _ _ _ _ _ _)
      | (with_reducible exact acks_Got.mono _ _ _ _ _ _ _ _ _)
      | (with_reducible exact dominolaw13_shown.mono _)
      | (with_reducible exact ranges_May.mono _ _)
      | (with_reducible exact LeO.refl _)
      | (with_reducible exact LeO.none _)
      | (with_reducible refine LeO.ite ?_ ?_)
      | (with_reducible refine LeO.bind ?_ (fun _ => ?_))
      | exact ih0 _ _
      | exact ih1 _ _ _ _ _ _ _ _ _
      | exact ih2 _ _ _ _ _ _ _ _ _ _
      | exact ih3 _ _ _ _ _ _ _ _ _ _
      | exact acks_Got.mono _ _ _ _ _ _ _ _ _
      | exact dominolaw13_shown.mono _
      | exact ranges_May.mono _ _
      | exact LeO.none _
      | refine LeO.ite ?_ ?_
      | refine LeO.bind ?_ (fun _ => ?_)
def dominolaw13_AcksOnce.T9 : Bool × List (List Nat × List Nat) := (true, [([], []), ([], []), ([], []), ([1, 2], [1, 2]), ([3], [3]), ([4], [4]), ([], []), ([0, 5, 6], [0, 5, 6]), ([7], [7]), ([8], [8]), ([8], [8]), ([], []), ([11, 9, 7, 0, 1, 2, 3, 4, 5, 6, 7, 8, 9, 11], [9, 11]), ([10, 12, 0, 1, 2, 3, 4, 5, 6, 7, 8, 9, 10, 11, 12], [10])])
def dominolaw13_AcksOnce.B9 : List Nat := [0, 0, 0, 6, 14, 30, 0, 127, 255, 511, 511, 0, 3071, 8191]
theorem dominolaw13_AcksOnce.tab9 : rtab .any (opsOf Try.f6 9) = dominolaw13_AcksOnce.T9 := by kernel_rfl
theorem dominolaw13_AcksOnce.bits9 : waitsOk dominolaw13_AcksOnce.T9.2 dominolaw13_AcksOnce.B9 = true := by kernel_rfl
set_option maxHeartbeats 8000000 in
set_option maxRecDepth 100000 in
theorem dominolaw13_AcksOnce.calls (k : Nat) (A0 : Option Addr) (c0 : Nat) (l0 : List Int) (r : Bool) (w : World) (hr0 : Kd.C (Kd.int .u16) w A0 l0.length l0) (hc0 : l0.length ≤ c0) (hwf : ∀ x ∈ l0, (Lit.int .u16 x).wf = true) (h : dominolaw13_AcksOnce.f k l0 = some r) :
    Calls Try.prog 6 #[.slice A0 l0.length c0] w fun e w' => e = .returned (.bool r) ∧ Below w.heap.size w w' := by
  have hu28 := Try.underlying28
  have HR0 := Aside0.mk hr0
  have HC0 := Aside0.mk hc0
  have HWF := Aside0.mk hwf
  clear hr0 hc0 hwf
  have HB := Aside0.mk (Below.refl w.heap.size w)
  have H : (if (l0.length : Int) > 200 then (dominolaw13_AcksOnce.j0 k l0 true) else ((dominolaw13_shown.f k).bind fun t186 => (dominolaw13_AcksOnce.j0 k l0 (!t186)))) = some r := h
  clear h
  have HC2 := Aside0.mk H
  clear H
  go_enter Try.func6, Try.ntmps6
  go_upto_region 1 with (fail)
  go_cut [17] (fun v17 wc => ∃ (kq : Nat) (x17_1 : Bool), v17 = .bool x17_1 ∧ Aside0 (dominolaw13_AcksOnce.j0 kq l0 x17_1 = some r) ∧ Aside0 (kq ≤ k) ∧ Aside0 (Below w.heap.size w wc))
  case first =>
    have H := HC2.out
    clear HC2
    by_cases c3 : (l0.length : Int) > 200
    · rw [if_pos c3] at H
      have c3b0 : decide (200 < (l0.length : Int)) = true := decide_eq_true c3
      have c3b1 : decide (200 < l0.length) = true := decide_eq_true (by omega)
      clear c3
      (first | rw [c3b0] | (simp only [i64_w, i32_w]; rw [c3b0]) | skip)
      have H' := Aside0.mk H
      clear H
      go_wp2
      go_meet
      case rel => exact ⟨_, (true), (by first | rfl | (simp; done) | (simp [*]; done)), H', ⟨by first | omega | exact Nat.le_refl _⟩, ⟨by repeat (first | (with_reducible first | exact HB.out | apply below_alloc | apply pw_below_drewN | apply below_drew1) | exact HB.out)⟩⟩
    · rw [if_neg c3] at H
      have c3b0 : decide (200 < (l0.length : Int)) = false := decide_eq_false c3
      have c3b1 : decide (200 < l0.length) = false := decide_eq_false (by omega)
      clear c3
      (first | rw [c3b0] | (simp only [i64_w, i32_w]; rw [c3b0]) | skip)
      replace H := Option.bind_eq_some_iff.mp H
      obtain ⟨t186, A40, H⟩ := H
      replace H : (dominolaw13_AcksOnce.j0 k l0 (!t186)) = some r := H
      have A4 := Aside0.mk A40
      clear A40
      have H' := Aside0.mk H
      clear H
      go_wp2_with (first | (go_at_call 11; (with_reducible refine (dominolaw13_shown.calls k  t186 _ A4.out).mono ?_); rintro e w5 ⟨rfl, hb⟩; have n0_ := Aside0.mk (below_step (by repeat (first | (with_reducible first | exact HB.out | apply below_alloc | apply pw_below_drewN | apply below_drew1) | exact HB.out)) hb); clear HB; have HB := n0_; clear n0_; (try clear hb); (try clear hb2); (try clear hk); (try clear hi)))
      go_meet
      case rel => exact ⟨_, (!t186), (by first | rfl | (simp; done) | (simp [*]; done)), H', ⟨by first | omega | exact Nat.le_refl _⟩, ⟨by repeat (first | (with_reducible first | exact HB.out | apply below_alloc | apply pw_below_drewN | apply below_drew1) | exact HB.out)⟩⟩
  case rest =>
    clear HC2
    try clear p2
    try clear c3
    try clear c3b0
    try clear c3b1
    obtain ⟨kq, x17_1, rfl, HA, HJ1, HB⟩ := hcut
    cases kq with
    | zero => exact absurd HA.out (by simp [dominolaw13_AcksOnce.j0])
    | succ kj1 =>
      have H := HA.out
      clear HA
      simp only [dominolaw13_AcksOnce.j0] at H
      by_cases c6 : x17_1 = true
      · subst c6
        have H1 : ((dominolaw13_shown.f kj1).bind fun t187 => (some t187)) = some r := by rw [if_pos rfl] at H; exact H
        clear H
        have H := H1
        clear H1
        replace H := Option.bind_eq_some_iff.mp H
        obtain ⟨t187, A70, H⟩ := H
        replace H : (some t187) = some r := H
        have A7 := Aside0.mk A70
        clear A70
        obtain rfl := Option.some.inj H
        go_wp2_with (first | ((with_reducible refine gate_callee (f := 11) rfl ?_); refine goesL_ (some 18) rfl rfl Try.func11 (by kernel_rfl) rfl #[] rfl (by (try simp only [List.map_toArray, List.map_cons, List.map_nil]); first | done | rfl | (simp only [List.length_drop, List.length_take]; rfl)) ?_; (with_reducible refine (dominolaw13_shown.calls kj1  t187 _ A7.out).mono ?_); rintro e w8 ⟨rfl, hb⟩; refine ⟨_, rfl, ?_⟩; have n0_ := Aside0.mk (below_step (by repeat (first | (with_reducible first | exact HB.out | apply below_alloc | apply pw_below_drewN | apply below_drew1) | exact HB.out)) hb); clear HB; have HB := n0_; clear n0_; (try clear hb); (try clear hb2); (try clear hk); (try clear hi)))
        go_ret
        exact ⟨by first | rfl | (simp [errW_none, errW_some] <;> rfl) | (simp [*, errW_none, errW_some] <;> rfl), by repeat (first | (with_reducible first | exact HB.out | apply below_alloc | apply pw_below_drewN | apply below_drew1) | exact HB.out)⟩
      · replace c6 := Bool.eq_false_iff.mpr c6
        subst c6
        have H1 : (dominolaw13_AcksOnce.l0 kj1 l0 (-1) 0 [] ([] : List (S44)) 0 0 0 0) = some r := by rw [if_neg (show ¬ (false = true) by decide)] at H; exact H
        clear H
        have H := H1
        clear H1
        have H' := Aside0.mk H
        clear H
        go_wp2_with (first | ((with_reducible refine gate_dst (N := 3) rfl ?_); (try (refine gate_guard (by rfl) ?_; dsimp only)); refine box_event ?hg (N := 3) ?hd (cs := #[.slice none 0 0, .int .u64 0, .int .i64 0, .int .i64 0, .int .i64 0]) (t := 28) ?hr ?_; (case hd => rfl); (case hg => rfl); (case hr => first | (go_simp; done) | (go_simp; rfl)); intro gb188 hg w9 hbox hb; have n0_ := Aside0.mk (below_step (by repeat (first | (with_reducible first | exact HB.out | apply below_alloc | apply pw_below_drewN | apply below_drew1) | exact HB.out)) hb); have n1_ := Aside0.mk (hbox); have n2_ := Aside0.mk ((by rw [hg]; exact (below_size (by repeat (first | (with_reducible first | exact HB.out | apply below_alloc | apply pw_below_drewN | apply below_drew1) | exact HB.out))) : w.heap.size ≤ gb188)); have n3_ := Aside0.mk ((by rw [hg]; exact (below_size (by repeat (first | (with_reducible first | exact HB.out | apply below_alloc | apply pw_below_drewN | apply below_drew1) | exact HB.out))) : w.heap.size ≤ gb188)); clear HB; have HB := n0_; have BK188 := n1_; have GW188 := n2_; have GE188 := n3_; clear n0_ n1_ n2_ n3_; clear hb hbox hg; have hcz10_0 : w9.cell? ⟨gb188, 0, none⟩ = some (.slice none 0 0) := (blk_cell BK188.out 0).trans rfl; have hcz10_1 : w9.cell? ⟨gb188, 1, none⟩ = some (.int .u64 0) := (blk_cell BK188.out 1).trans rfl; have hcz10_2 : w9.cell? ⟨gb188, 2, none⟩ = some (.int .i64 0) := (blk_cell BK188.out 2).trans rfl; have hcz10_3 : w9.cell? ⟨gb188, 3, none⟩ = some (.int .i64 0) := (blk_cell BK188.out 3).trans rfl; have hcz10_4 : w9.cell? ⟨gb188, 4, none⟩ = some (.int .i64 0) := (blk_cell BK188.out 4).trans rfl; have hfz10_0 := blk_frozen BK188.out 0; have hfz10_1 := blk_frozen BK188.out 1; have hfz10_2 := blk_frozen BK188.out 2; have hfz10_3 := blk_frozen BK188.out 3; have hfz10_4 := blk_frozen BK188.out 4) | ((with_reducible refine gate_dst (N := 20) rfl ?_); refine map_event ?hg ?hr ?_; (case hg => rfl); (case hr => first | rfl | (go_simp; done) | (go_simp; rfl)); intro mb hmg w10 hmbox hmb; have n0_ := Aside0.mk (blk_below (g := gb188) (o := .cells #[.slice none 0 0, .int .u64 0, .int .i64 0, .int .i64 0, .int .i64 0] 28 (0, 0)) (by (with_reducible repeat (first | refine blk_drewN ?_ _ | refine blk_drew ?_ | refine blk_alloc ?_ _)); refine blk_put (cs := #[.slice none 0 0, .int .u64 0, .int .i64 0, .int .i64 0, .int .i64 0]) ?_ 4 _ rfl; (with_reducible repeat (first | refine blk_drewN ?_ _ | refine blk_drew ?_ | refine blk_alloc ?_ _)); refine blk_put (cs := #[.slice none 0 0, .int .u64 0, .int .i64 0, .int .i64 0, .int .i64 0]) ?_ 3 _ rfl; (with_reducible repeat (first | refine blk_drewN ?_ _ | refine blk_drew ?_ | refine blk_alloc ?_ _)); refine blk_put (cs := #[.slice none 0 0, .int .u64 0, .int .i64 0, .int .i64 0, .int .i64 0]) ?_ 2 _ rfl; (with_reducible repeat (first | refine blk_drewN ?_ _ | refine blk_drew ?_ | refine blk_alloc ?_ _)); refine blk_put (cs := #[.slice none 0 0, .int .u64 0, .int .i64 0, .int .i64 0, .int .i64 0]) ?_ 1 _ rfl; (with_reducible repeat (first | refine blk_drewN ?_ _ | refine blk_drew ?_ | refine blk_alloc ?_ _)); refine blk_put (cs := #[.slice none 0 0, .int .u64 0, .int .i64 0, .int .i64 0, .int .i64 0]) ?_ 0 _ rfl; (with_reducible repeat (first | refine blk_drewN ?_ _ | refine blk_drew ?_ | refine blk_alloc ?_ _)); exact BK188.out) hmb); have n1_ := Aside0.mk (below_step (by repeat (first | (with_reducible first | exact HB.out | apply below_alloc | apply pw_below_drewN | apply below_drew1 | refine below_set ?_ GE188.out) | exact HB.out)) hmb); have n2_ := Aside0.mk (by rw [hmg]; exact (below_size (by repeat (first | (with_reducible first | exact HB.out | apply below_alloc | apply pw_below_drewN | apply below_drew1 | refine below_set ?_ GE188.out) | exact HB.out))) : w.heap.size ≤ mb); have BM := Aside0.mk hmbox; clear BK188 HB; have BK188 := n0_; have HB := n1_; have GWm := n2_; clear n0_ n1_ n2_ hmbox hmb hmg; have NBm188 := Aside0.mk (map_ne BM.out mapOb_nil BK188.out)))
        go_loopg [5, 6] kj1 (fun kq v5 v6 w' => ∃ (tk : List Int) (om : Obj) (x5_2 : Int) (x6_2 : Int) (x189000_2 : List (S44)) (x189001_2 : Int) (x189002_2 : Int) (x189003_2 : Int) (x189004_2 : Int) (u189000 : Value), v5 = .int .i64 x5_2 ∧ v6 = .int .i64 x6_2 ∧ Aside0 (dominolaw13_AcksOnce.l0 kq l0 x5_2 x6_2 tk x189000_2 x189001_2 x189002_2 x189003_2 x189004_2 = some r) ∧ Aside0 (kq ≤ kj1) ∧ Aside0 (Kd.V k44 44 w' w.heap.size (fun k_ => k_ ≠ gb188) u189000 x189000_2) ∧ Aside0 (w'.heap[gb188]? = some (.cells #[u189000, .int .u64 x189001_2, .int .i64 x189002_2, .int .i64 x189003_2, .int .i64 x189004_2] 28 (0, 0))) ∧ Aside0 (Below w.heap.size w w') ∧ Aside0 (w'.heap[mb]? = some om) ∧ Aside0 (MapObj om tk x6_2))
        case atStart => exact ⟨([] : List Int), (.map #[] 0), ((-1)), (0), (([] : List (S44))), (0), (0), (0), (0), (.slice none 0 0), (by first | rfl | (simp; done) | (simp [*]; done)), (by first | rfl | (simp; done) | (simp [*]; done)), H', ⟨Nat.le_refl _⟩, ⟨Kd.V_nil _ _ _ _ _⟩, ⟨by (with_reducible repeat (first | refine blk_drewN ?_ _ | refine blk_drew ?_ | refine blk_alloc ?_ _)); exact BK188.out⟩, ⟨by repeat (first | (with_reducible first | exact HB.out | apply below_alloc | apply pw_below_drewN | apply below_drew1 | refine below_set ?_ GE188.out) | exact HB.out)⟩, ⟨(by (with_reducible repeat (first | refine blk_drewN ?_ _ | refine blk_drew ?_ | refine blk_alloc ?_ _ | refine obj_far ?_ NBm188.out _)); exact BM.out)⟩, ⟨mapObj_nil⟩⟩
        case round =>
          clear H'
          try clear c1
          try clear p2
          try clear c3
          try clear c3b0
          try clear c3b1
          try clear c6
          try clear hcz10_0
          try clear hcz10_1
          try clear hcz10_2
          try clear hcz10_3
          try clear hcz10_4
          try clear hfz10_0
          try clear hfz10_1
          try clear hfz10_2
          try clear hfz10_3
          try clear hfz10_4
          try clear p2
          clear BM
          obtain ⟨tk, om, x5_2, x6_2, x189000_2, x189001_2, x189002_2, x189003_2, x189004_2, u189000, rfl, rfl, HA, HK2, HO_189000, BK188, HB, BM, MO⟩ := hrel
          cases gk with
          | zero => exact absurd HA.out (by simp [dominolaw13_AcksOnce.l0])
          | succ k2 =>
            have H := HA.out
            clear HA
            simp only [dominolaw13_AcksOnce.l0] at H
            by_cases c11 : x6_2 < (l0.length : Int)
            · rw [if_pos c11] at H
              have c11b0 : decide (x6_2 < (l0.length : Int)) = true := decide_eq_true c11
              clear c11
              by_cases c12 : 0 ≤ x6_2
              · rw [if_pos c12] at H
                have c12b0 : decide (0 ≤ x6_2) = true := decide_eq_true c12
                clear c12
                replace H := Option.bind_eq_some_iff.mp H
                obtain ⟨⟨t190, t193, t194, t195, t196, t197⟩, A130, H⟩ := H
                replace H : (if t197 = true then (dominolaw13_AcksOnce.j2 k2 l0 x5_2 x6_2 (tk ++ [rd l0 x6_2]) t197 t190 t193 t194 t195 t196) else (dominolaw13_AcksOnce.j2 k2 l0 x5_2 x6_2 tk t197 t190 t193 t194 t195 t196)) = some r := H
                have A13 := Aside0.mk A130
                clear A130
                have HC14 := Aside0.mk H
                clear H
                obtain ⟨Ao15, co15, eo15⟩ := Kd.V_slice HO_189000.out
                subst eo15
                try go_wp2
                replace BM := Aside0.mk (blk_drew BM.out)
                have n0_ := Aside0.mk (Kd.V_drew HO_189000.out)
                have n1_ := Aside0.mk (blk_drew BK188.out)
                have n2_ := Aside0.mk (below_drew1 HB.out)
                clear HO_189000
                clear BK188
                clear HB
                have HO_189000 := n0_
                have BK188 := n1_
                have HB := n2_
                clear n0_ n1_ n2_
                have p189 : 0 ≤ (x6_2 : Int) := of_decide_eq_true (by first | (with_reducible assumption) | assumption)
                have q189 : x6_2 < (l0.length : Int) := of_decide_eq_true (by first | (with_reducible assumption) | assumption)
                obtain ⟨ad189, e189, hx189_0⟩ := Kd.at_int HR0.out x6_2 p189 q189
                have hw189_0 := hx189_0
                cases e189
                replace hx189_0 := (HB.out.cell (World.block_lt_of_cell? w _ hx189_0)).trans hx189_0
                replace p189 := eq_true p189
                replace q189 := eq_true q189
                refine start_ (n := 14) (S := fun w' => w'.cell? ⟨gb188, 0, none⟩ = some (.slice Ao15 x189000_2.length co15) ∧ w'.cell? ⟨gb188, 1, none⟩ = some (.int .u64 x189001_2) ∧ w'.cell? ⟨gb188, 2, none⟩ = some (.int .i64 x189002_2) ∧ w'.cell? ⟨gb188, 3, none⟩ = some (.int .i64 x189003_2) ∧ w'.cell? ⟨gb188, 4, none⟩ = some (.int .i64 x189004_2) ∧ w'.cell? (ad189.add (x6_2).toNat) = some (.int .u16 (rd l0 x6_2))) (ds := []) #[false, false, false, false, false, false, false, false, false, false, false, false, false, false] (by kernel_rfl) rfl rfl ⟨(blk_cell BK188.out 0).trans rfl, (blk_cell BK188.out 1).trans rfl, (blk_cell BK188.out 2).trans rfl, (blk_cell BK188.out 3).trans rfl, (blk_cell BK188.out 4).trans rfl, ((HB.out.cell (World.block_lt_of_cell? w _ hw189_0)).trans hw189_0)⟩ (fun hHeld => ?_); refine with_tabW dominolaw13_AcksOnce.tab9 dominolaw13_AcksOnce.bits9 (fun HT_ HW_ => ?_)
                generalize wr.drew = w16 at HO_189000 BK188 HB BM hx189_0 hHeld ⊢
                refine pure_ (i := 1) (N := some 29) (v := ?_) (a' := ?_) #[false, true, false, false, false, false, false, false, false, false, false, false, false, false] rfl rfl (any_of HT_.out (by kernel_rfl)) (fun _ _ _ h => h) (Or.inl ⟨by rfl, ?_⟩) ?_ ?_
                rotate_left
                · intro w'
                  go_simp
                  with_reducible rfl
                rotate_left
                · simp only [Act.put, List.setIfInBounds_toArray, List.set_cons_zero, List.set_cons_succ, i64_w, i32_w]
                  rfl
                refine pure_ (i := 2) (N := some 30) (v := ?_) (a' := ?_) #[false, true, true, false, false, false, false, false, false, false, false, false, false, false] rfl rfl (any_of HT_.out (by kernel_rfl)) (fun _ _ _ h => h) (Or.inl ⟨by rfl, ?_⟩) ?_ ?_
                rotate_left
                · intro w'
                  go_simp
                  with_reducible rfl
                rotate_left
                · simp only [Act.put, List.setIfInBounds_toArray, List.set_cons_zero, List.set_cons_succ, i64_w, i32_w]
                  rfl
                refine pure_ (i := 3) (N := some 31) (v := ?_) (a' := ?_) #[false, true, true, true, false, false, false, false, false, false, false, false, false, false] rfl rfl (any_of HT_.out (by kernel_rfl)) (fun _ _ _ h => h) (Or.inl ⟨by rfl, ?_⟩) ?_ ?_
                rotate_left
                · intro w'
                  go_simp
                  with_reducible rfl
                rotate_left
                · simp only [Act.put, List.setIfInBounds_toArray, List.set_cons_zero, List.set_cons_succ, i64_w, i32_w]
                  rfl
                refine pure_ (i := 6) (N := some 34) (v := ?_) (a' := ?_) #[false, true, true, true, false, false, true, false, false, false, false, false, false, false] rfl rfl (any_of HT_.out (by kernel_rfl)) (fun _ _ _ h => h) (Or.inl ⟨by rfl, ?_⟩) ?_ ?_
                rotate_left
                · intro w'
                  go_simp
                  with_reducible rfl
                rotate_left
                · simp only [Act.put, List.setIfInBounds_toArray, List.set_cons_zero, List.set_cons_succ, i64_w, i32_w]
                  rfl
                refine take_ (i := 0) (N := some 28) (v := ?_) (a' := ?_) #[true, true, true, true, false, false, true, false, false, false, false, false, false, false] rfl rfl (take_ofW HT_.out HW_.out (by kernel_rfl)) (fun _ _ _ h => h) (Or.inl ⟨by rfl, ?_⟩) hHeld ?_ ?_
                rotate_left
                · rintro w' ⟨s0, s1, s2, s3, s4, s5⟩
                  go_simp
                  with_reducible rfl
                rotate_left
                · simp only [Act.put, List.setIfInBounds_toArray, List.set_cons_zero, List.set_cons_succ, i64_w, i32_w]
                  rfl
                refine take_ (i := 4) (N := some 32) (v := ?_) (a' := ?_) #[true, true, true, true, true, false, true, false, false, false, false, false, false, false] rfl rfl (take_ofW HT_.out HW_.out (by kernel_rfl)) (fun _ _ _ h => h) (Or.inl ⟨by rfl, ?_⟩) hHeld ?_ ?_
                rotate_left
                · rintro w' ⟨s0, s1, s2, s3, s4, s5⟩
                  go_simp
                  with_reducible rfl
                rotate_left
                · simp only [Act.put, List.setIfInBounds_toArray, List.set_cons_zero, List.set_cons_succ, i64_w, i32_w]
                  rfl
                refine pure_ (i := 5) (N := some 33) (v := ?_) (a' := ?_) #[true, true, true, true, true, true, true, false, false, false, false, false, false, false] rfl rfl (any_of HT_.out (by kernel_rfl)) (fun _ _ _ h => h) (Or.inl ⟨by rfl, ?_⟩) ?_ ?_
                rotate_left
                · intro w'
                  go_simp
                  with_reducible rfl
                rotate_left
                · simp only [Act.put, List.setIfInBounds_toArray, List.set_cons_zero, List.set_cons_succ, i64_w, i32_w]
                  rfl
                refine join_ (σ := Value × Nat) 2 #[true, true, true, true, true, true, true, true, true, true, true, true, false, false] (fun s_ => [(35, .tuple #[.agg #[s_.1, .int .u64 t193, .int .i64 t194, .int .i64 t195, .int .i64 t196], .bool t197]), (7, .pointer (some ⟨s_.2, 0, none⟩)), (27, .tuple #[.agg #[s_.1, .int .u64 t193, .int .i64 t194, .int .i64 t195, .int .i64 t196], .bool t197]), (36, .agg #[s_.1, .int .u64 t193, .int .i64 t194, .int .i64 t195, .int .i64 t196]), (37, .bool t197)]) (fun s_ w' => (w'.cell? ⟨gb188, 0, none⟩ = some (.slice Ao15 x189000_2.length co15) ∧ w'.cell? ⟨gb188, 1, none⟩ = some (.int .u64 x189001_2) ∧ w'.cell? ⟨gb188, 2, none⟩ = some (.int .i64 x189002_2) ∧ w'.cell? ⟨gb188, 3, none⟩ = some (.int .i64 x189003_2) ∧ w'.cell? ⟨gb188, 4, none⟩ = some (.int .i64 x189004_2) ∧ w'.cell? (ad189.add (x6_2).toNat) = some (.int .u16 (rd l0 x6_2))) ∧ (Kd.V k44 44 w' w.heap.size (fun k_ => k_ ≠ gb188 ∧ k_ ≠ s_.2) s_.1 t190) ∧ (Kd.V k44 44 w' w.heap.size (fun k_ => k_ ≠ gb188 ∧ k_ ≠ s_.2) (.slice Ao15 x189000_2.length co15) x189000_2) ∧ (w'.heap[gb188]? = some (.cells #[.slice Ao15 x189000_2.length co15, .int .u64 x189001_2, .int .i64 x189002_2, .int .i64 x189003_2, .int .i64 x189004_2] 28 (0, 0))) ∧ (w'.heap[s_.2]? = some (.cells #[.slice none 0 0, .int .u64 0, .int .i64 0, .int .i64 0, .int .i64 0] 28 (0, 0))) ∧ (w.heap.size ≤ s_.2) ∧ (w.heap.size ≤ s_.2) ∧ (gb188 ≠ s_.2) ∧ (s_.2 ≠ gb188) ∧ (Below w.heap.size w w') ∧ (w'.heap[mb]? = some om)) ?_ ?_
                rotate_left
                · intro hCont
                  refine two_ (i := 7) (j := 11) (Ni := some 35) (Nj := some 7) #[true, true, true, true, true, true, true, true, false, false, false, false, false, false] #[true, true, true, true, true, true, true, false, false, false, false, true, false, false] rfl rfl rfl rfl (two_of HT_.out (by kernel_rfl)) (by decide) (by decide) (fun K hK => ?_) (fun K hK => ?_)
                  · skip
                    refine goes_ Try.func7 (by kernel_rfl) rfl #[.agg #[.slice Ao15 x189000_2.length co15, .int .u64 x189001_2, .int .i64 x189002_2, .int .i64 x189003_2, .int .i64 x189004_2], .int .u64 (IntKind.u64.wrap (rd l0 x6_2)), .bool false, .int .i64 x6_2] (by rfl) rfl rfl (by (try simp only [List.map_toArray, List.map_cons, List.map_nil]); first | done | rfl | (simp only [List.length_drop, List.length_take]; rfl)) ?_
                    with_reducible refine (acks_Got.calls k2 (fun k_ => k_ ≠ gb188) _ _ x189000_2 x189001_2 x189002_2 x189003_2 x189004_2 (IntKind.u64.wrap (rd l0 x6_2)) false x6_2 t190 t193 t194 t195 t196 t197 _ ?side1 A13.out).mono ?_
                    (case side1 => exact HO_189000.out)
                    rintro e w17 ⟨v191, rfl, ho0, hb⟩
                    replace BM := Aside0.mk (blk_below (g := mb) (o := om) (by (with_reducible repeat (first | refine blk_drewN ?_ _ | refine blk_drew ?_ | refine blk_alloc ?_ _ | refine obj_far ?_ NBm188.out _)); exact BM.out) hb)
                    refine ⟨_, rfl, ?_⟩
                    have n0_ := Aside0.mk (Kd.V_below (by (with_reducible repeat (first | apply Kd.V_alloc | apply Kd.V_drewN | apply Kd.V_drew)); exact HO_189000.out) hb)
                    have n1_ := Aside0.mk (Kd.V_lower (Kd.V_mono (ok' := fun k_ => k_ ≠ gb188) ho0 (fun k_ hk_ => Or.elim hk_ (fun hs_ => hs_) (fun hn_ => (Kd.freshB (g := gb188) (o := .cells #[.slice Ao15 x189000_2.length co15, .int .u64 x189001_2, .int .i64 x189002_2, .int .i64 x189003_2, .int .i64 x189004_2] 28 (0, 0)) (by (with_reducible repeat (first | refine blk_drewN ?_ _ | refine blk_drew ?_ | refine blk_alloc ?_ _)); exact BK188.out) k_ hn_)))) (below_size (by repeat (first | (with_reducible first | exact HB.out | apply below_alloc | apply pw_below_drewN | apply below_drew1 | refine below_set ?_ GE188.out) | exact HB.out))))
                    have n2_ := Aside0.mk (blk_below (g := gb188) (o := .cells #[.slice Ao15 x189000_2.length co15, .int .u64 x189001_2, .int .i64 x189002_2, .int .i64 x189003_2, .int .i64 x189004_2] 28 (0, 0)) (by (with_reducible repeat (first | refine blk_drewN ?_ _ | refine blk_drew ?_ | refine blk_alloc ?_ _)); exact BK188.out) hb)
                    have n3_ := Aside0.mk (below_step (by repeat (first | (with_reducible first | exact HB.out | apply below_alloc | apply pw_below_drewN | apply below_drew1 | refine below_set ?_ GE188.out) | exact HB.out)) hb)
                    clear HO_189000
                    clear BK188
                    clear HB
                    have HO_189000 := n0_
                    have HO192 := n1_
                    have BK188 := n2_
                    have HB := n3_
                    clear n0_ n1_ n2_ n3_
                    (try clear hb)
                    (try clear hb2)
                    (try clear hk)
                    (try clear hi)
                    (try clear ho0)
                    refine hK.out _ _ ⟨(blk_cell BK188.out 0).trans rfl, (blk_cell BK188.out 1).trans rfl, (blk_cell BK188.out 2).trans rfl, (blk_cell BK188.out 3).trans rfl, (blk_cell BK188.out 4).trans rfl, ((HB.out.cell (World.block_lt_of_cell? w _ hw189_0)).trans hw189_0)⟩ (fun hHeld => ?_)
                    clear hK K
                    refine norm_ (a' := ?_) ?_ ?_
                    rotate_left
                    · show Act.put _ (some 35) _ = _
                      simp only [Act.put, List.setIfInBounds_toArray, List.set_cons_zero, List.set_cons_succ, i64_w, i32_w]
                      rfl
                    refine pure_ (i := 8) (N := some 27) (v := ?_) (a' := ?_) #[true, true, true, true, true, true, true, true, true, false, false, false, false, false] rfl rfl (any_of HT_.out (by kernel_rfl)) (fun _ _ _ h => h) (Or.inl ⟨by rfl, ?_⟩) ?_ ?_
                    rotate_left
                    · intro w'
                      go_simp
                      with_reducible rfl
                    rotate_left
                    · simp only [Act.put, List.setIfInBounds_toArray, List.set_cons_zero, List.set_cons_succ, i64_w, i32_w]
                      rfl
                    refine pure_ (i := 9) (N := some 36) (v := ?_) (a' := ?_) #[true, true, true, true, true, true, true, true, true, true, false, false, false, false] rfl rfl (any_of HT_.out (by kernel_rfl)) (fun _ _ _ h => h) (Or.inl ⟨by rfl, ?_⟩) ?_ ?_
                    rotate_left
                    · intro w'
                      go_simp
                      with_reducible rfl
                    rotate_left
                    · simp only [Act.put, List.setIfInBounds_toArray, List.set_cons_zero, List.set_cons_succ, i64_w, i32_w]
                      rfl
                    refine pure_ (i := 10) (N := some 37) (v := ?_) (a' := ?_) #[true, true, true, true, true, true, true, true, true, true, true, false, false, false] rfl rfl (any_of HT_.out (by kernel_rfl)) (fun _ _ _ h => h) (Or.inl ⟨by rfl, ?_⟩) ?_ ?_
                    rotate_left
                    · intro w'
                      go_simp
                      with_reducible rfl
                    rotate_left
                    · simp only [Act.put, List.setIfInBounds_toArray, List.set_cons_zero, List.set_cons_succ, i64_w, i32_w]
                      rfl
                    refine one_ (i := 11) (N := some 7) #[true, true, true, true, true, true, true, true, true, true, true, true, false, false] rfl rfl (one_of HT_.out (by kernel_rfl)) (by decide) (fun K hK => ?_)
                    refine box_step ?hg (N := 7) ?hd (cs := #[.slice none 0 0, .int .u64 0, .int .i64 0, .int .i64 0, .int .i64 0]) (t := 28) ?hr ?_; (case hd => rfl); (case hg => rfl); (case hr => first | (go_simp; done) | (go_simp; rfl))
                    intro gb198 hg w18 hbox hb
                    replace BM := Aside0.mk (blk_below (g := mb) (o := om) (by (with_reducible repeat (first | refine blk_drewN ?_ _ | refine blk_drew ?_ | refine blk_alloc ?_ _ | refine obj_far ?_ NBm188.out _)); exact BM.out) hb)
                    have n0_ := Aside0.mk (Kd.V_below (Kd.V_elderB (by (with_reducible repeat (first | apply Kd.V_alloc | apply Kd.V_drewN | apply Kd.V_drew)); exact HO_189000.out) gb198 (Nat.le_of_eq hg.symm)) hb)
                    have n1_ := Aside0.mk (Kd.V_below (Kd.V_elderB (by (with_reducible repeat (first | apply Kd.V_alloc | apply Kd.V_drewN | apply Kd.V_drew)); exact HO192.out) gb198 (Nat.le_of_eq hg.symm)) hb)
                    have n2_ := Aside0.mk (blk_below (g := gb188) (o := .cells #[.slice Ao15 x189000_2.length co15, .int .u64 x189001_2, .int .i64 x189002_2, .int .i64 x189003_2, .int .i64 x189004_2] 28 (0, 0)) (by (with_reducible repeat (first | refine blk_drewN ?_ _ | refine blk_drew ?_ | refine blk_alloc ?_ _)); exact BK188.out) hb)
                    have n3_ := Aside0.mk (below_step (by repeat (first | (with_reducible first | exact HB.out | apply below_alloc | apply pw_below_drewN | apply below_drew1 | refine below_set ?_ GE188.out) | exact HB.out)) hb)
                    have n4_ := Aside0.mk (hbox)
                    have n5_ := Aside0.mk ((by rw [hg]; exact (below_size (by repeat (first | (with_reducible first | exact HB.out | apply below_alloc | apply pw_below_drewN | apply below_drew1 | refine below_set ?_ GE188.out) | exact HB.out))) : w.heap.size ≤ gb198))
                    have n6_ := Aside0.mk ((by rw [hg]; exact (below_size (by repeat (first | (with_reducible first | exact HB.out | apply below_alloc | apply pw_below_drewN | apply below_drew1 | refine below_set ?_ GE188.out) | exact HB.out))) : w.heap.size ≤ gb198))
                    have n7_ := Aside0.mk ((by rw [hg]; exact Nat.ne_of_lt (blk_lt (g := gb188) (o := .cells #[.slice Ao15 x189000_2.length co15, .int .u64 x189001_2, .int .i64 x189002_2, .int .i64 x189003_2, .int .i64 x189004_2] 28 (0, 0)) (by (with_reducible repeat (first | refine blk_drewN ?_ _ | refine blk_drew ?_ | refine blk_alloc ?_ _)); exact BK188.out)) : gb188 ≠ gb198))
                    have n8_ := Aside0.mk ((by rw [hg]; exact Nat.ne_of_gt (blk_lt (g := gb188) (o := .cells #[.slice Ao15 x189000_2.length co15, .int .u64 x189001_2, .int .i64 x189002_2, .int .i64 x189003_2, .int .i64 x189004_2] 28 (0, 0)) (by (with_reducible repeat (first | refine blk_drewN ?_ _ | refine blk_drew ?_ | refine blk_alloc ?_ _)); exact BK188.out)) : gb198 ≠ gb188))
                    clear HO_189000
                    clear HO192
                    clear BK188
                    clear HB
                    have HO_189000 := n0_
                    have HO192 := n1_
                    have BK188 := n2_
                    have HB := n3_
                    have BK198 := n4_
                    have GW198 := n5_
                    have GE198 := n6_
                    have NB188_198 := n7_
                    have NB198_188 := n8_
                    clear n0_ n1_ n2_ n3_ n4_ n5_ n6_ n7_ n8_
                    clear hb hbox hg
                    refine hK.out _ _ ⟨(blk_cell BK188.out 0).trans rfl, (blk_cell BK188.out 1).trans rfl, (blk_cell BK188.out 2).trans rfl, (blk_cell BK188.out 3).trans rfl, (blk_cell BK188.out 4).trans rfl, ((HB.out.cell (World.block_lt_of_cell? w _ hw189_0)).trans hw189_0)⟩ (fun hHeld => ?_)
                    clear hK K
                    refine norm_ (a' := ?_) ?_ ?_
                    rotate_left
                    · show Act.put _ (some 7) _ = _
                      simp only [Act.put, List.setIfInBounds_toArray, List.set_cons_zero, List.set_cons_succ, i64_w, i32_w]
                      rfl
                    exact norm_ (by simp only [putAll, Act.put, List.setIfInBounds_toArray, List.set_cons_zero, List.set_cons_succ]) (hCont (v191, gb198) _ ⟨hHeld, (by (with_reducible repeat (first | apply Kd.V_alloc | apply Kd.V_drewN | apply Kd.V_drew)); exact HO192.out), (by (with_reducible repeat (first | apply Kd.V_alloc | apply Kd.V_drewN | apply Kd.V_drew)); exact HO_189000.out), (by (with_reducible repeat (first | refine blk_drewN ?_ _ | refine blk_drew ?_ | refine blk_alloc ?_ _)); exact BK188.out), (by (with_reducible repeat (first | refine blk_drewN ?_ _ | refine blk_drew ?_ | refine blk_alloc ?_ _)); exact BK198.out), GW198.out, GE198.out, NB188_198.out, NB198_188.out, (by repeat (first | (with_reducible first | exact HB.out | apply below_alloc | apply pw_below_drewN | apply below_drew1 | refine below_set ?_ GE188.out | refine below_set ?_ GE198.out) | exact HB.out)), (by (with_reducible repeat (first | refine blk_drewN ?_ _ | refine blk_drew ?_ | refine blk_alloc ?_ _ | refine obj_far ?_ NBm188.out _)); exact BM.out)⟩)
                  · skip
                    refine box_step ?hg (N := 7) ?hd (cs := #[.slice none 0 0, .int .u64 0, .int .i64 0, .int .i64 0, .int .i64 0]) (t := 28) ?hr ?_; (case hd => rfl); (case hg => rfl); (case hr => first | (go_simp; done) | (go_simp; rfl))
                    intro gb198 hg w17 hbox hb
                    replace BM := Aside0.mk (blk_below (g := mb) (o := om) (by (with_reducible repeat (first | refine blk_drewN ?_ _ | refine blk_drew ?_ | refine blk_alloc ?_ _ | refine obj_far ?_ NBm188.out _)); exact BM.out) hb)
                    have n0_ := Aside0.mk (Kd.V_below (Kd.V_elderB (by (with_reducible repeat (first | apply Kd.V_alloc | apply Kd.V_drewN | apply Kd.V_drew)); exact HO_189000.out) gb198 (Nat.le_of_eq hg.symm)) hb)
                    have n1_ := Aside0.mk (blk_below (g := gb188) (o := .cells #[.slice Ao15 x189000_2.length co15, .int .u64 x189001_2, .int .i64 x189002_2, .int .i64 x189003_2, .int .i64 x189004_2] 28 (0, 0)) (by (with_reducible repeat (first | refine blk_drewN ?_ _ | refine blk_drew ?_ | refine blk_alloc ?_ _)); exact BK188.out) hb)
                    have n2_ := Aside0.mk (below_step (by repeat (first | (with_reducible first | exact HB.out | apply below_alloc | apply pw_below_drewN | apply below_drew1 | refine below_set ?_ GE188.out) | exact HB.out)) hb)
                    have n3_ := Aside0.mk (hbox)
                    have n4_ := Aside0.mk ((by rw [hg]; exact (below_size (by repeat (first | (with_reducible first | exact HB.out | apply below_alloc | apply pw_below_drewN | apply below_drew1 | refine below_set ?_ GE188.out) | exact HB.out))) : w.heap.size ≤ gb198))
                    have n5_ := Aside0.mk ((by rw [hg]; exact (below_size (by repeat (first | (with_reducible first | exact HB.out | apply below_alloc | apply pw_below_drewN | apply below_drew1 | refine below_set ?_ GE188.out) | exact HB.out))) : w.heap.size ≤ gb198))
                    have n6_ := Aside0.mk ((by rw [hg]; exact Nat.ne_of_lt (blk_lt (g := gb188) (o := .cells #[.slice Ao15 x189000_2.length co15, .int .u64 x189001_2, .int .i64 x189002_2, .int .i64 x189003_2, .int .i64 x189004_2] 28 (0, 0)) (by (with_reducible repeat (first | refine blk_drewN ?_ _ | refine blk_drew ?_ | refine blk_alloc ?_ _)); exact BK188.out)) : gb188 ≠ gb198))
                    have n7_ := Aside0.mk ((by rw [hg]; exact Nat.ne_of_gt (blk_lt (g := gb188) (o := .cells #[.slice Ao15 x189000_2.length co15, .int .u64 x189001_2, .int .i64 x189002_2, .int .i64 x189003_2, .int .i64 x189004_2] 28 (0, 0)) (by (with_reducible repeat (first | refine blk_drewN ?_ _ | refine blk_drew ?_ | refine blk_alloc ?_ _)); exact BK188.out)) : gb198 ≠ gb188))
                    clear HO_189000
                    clear BK188
                    clear HB
                    have HO_189000 := n0_
                    have BK188 := n1_
                    have HB := n2_
                    have BK198 := n3_
                    have GW198 := n4_
                    have GE198 := n5_
                    have NB188_198 := n6_
                    have NB198_188 := n7_
                    clear n0_ n1_ n2_ n3_ n4_ n5_ n6_ n7_
                    clear hb hbox hg
                    refine hK.out _ _ ⟨(blk_cell BK188.out 0).trans rfl, (blk_cell BK188.out 1).trans rfl, (blk_cell BK188.out 2).trans rfl, (blk_cell BK188.out 3).trans rfl, (blk_cell BK188.out 4).trans rfl, ((HB.out.cell (World.block_lt_of_cell? w _ hw189_0)).trans hw189_0)⟩ (fun hHeld => ?_)
                    clear hK K
                    refine norm_ (a' := ?_) ?_ ?_
                    rotate_left
                    · show Act.put _ (some 7) _ = _
                      simp only [Act.put, List.setIfInBounds_toArray, List.set_cons_zero, List.set_cons_succ, i64_w, i32_w]
                      rfl
                    refine one_ (i := 7) (N := some 35) #[true, true, true, true, true, true, true, true, false, false, false, true, false, false] rfl rfl (one_of HT_.out (by kernel_rfl)) (by decide) (fun K hK => ?_)
                    refine goes_ Try.func7 (by kernel_rfl) rfl #[.agg #[.slice Ao15 x189000_2.length co15, .int .u64 x189001_2, .int .i64 x189002_2, .int .i64 x189003_2, .int .i64 x189004_2], .int .u64 (IntKind.u64.wrap (rd l0 x6_2)), .bool false, .int .i64 x6_2] (by rfl) rfl rfl (by (try simp only [List.map_toArray, List.map_cons, List.map_nil]); first | done | rfl | (simp only [List.length_drop, List.length_take]; rfl)) ?_
                    with_reducible refine (acks_Got.calls k2 (fun k_ => (k_ ≠ gb188 ∧ k_ ≠ gb198)) _ _ x189000_2 x189001_2 x189002_2 x189003_2 x189004_2 (IntKind.u64.wrap (rd l0 x6_2)) false x6_2 t190 t193 t194 t195 t196 t197 _ ?side1 A13.out).mono ?_
                    (case side1 => exact HO_189000.out)
                    rintro e w18 ⟨v191, rfl, ho0, hb⟩
                    replace BM := Aside0.mk (blk_below (g := mb) (o := om) (by (with_reducible repeat (first | refine blk_drewN ?_ _ | refine blk_drew ?_ | refine blk_alloc ?_ _ | refine obj_far ?_ NBm188.out _)); exact BM.out) hb)
                    refine ⟨_, rfl, ?_⟩
                    have n0_ := Aside0.mk (Kd.V_below (by (with_reducible repeat (first | apply Kd.V_alloc | apply Kd.V_drewN | apply Kd.V_drew)); exact HO_189000.out) hb)
                    have n1_ := Aside0.mk (Kd.V_lower (Kd.V_mono (ok' := fun k_ => k_ ≠ gb188 ∧ k_ ≠ gb198) ho0 (fun k_ hk_ => ⟨Or.elim hk_ (fun hs_ => hs_.1) (fun hn_ => (Kd.freshB (g := gb188) (o := .cells #[.slice Ao15 x189000_2.length co15, .int .u64 x189001_2, .int .i64 x189002_2, .int .i64 x189003_2, .int .i64 x189004_2] 28 (0, 0)) (by (with_reducible repeat (first | refine blk_drewN ?_ _ | refine blk_drew ?_ | refine blk_alloc ?_ _)); exact BK188.out) k_ hn_)), Or.elim hk_ (fun hs_ => hs_.2) (fun hn_ => (Kd.freshB (g := gb198) (o := .cells #[.slice none 0 0, .int .u64 0, .int .i64 0, .int .i64 0, .int .i64 0] 28 (0, 0)) (by (with_reducible repeat (first | refine blk_drewN ?_ _ | refine blk_drew ?_ | refine blk_alloc ?_ _)); exact BK198.out) k_ hn_))⟩)) (below_size (by repeat (first | (with_reducible first | exact HB.out | apply below_alloc | apply pw_below_drewN | apply below_drew1 | refine below_set ?_ GE188.out | refine below_set ?_ GE198.out) | exact HB.out))))
                    have n2_ := Aside0.mk (blk_below (g := gb188) (o := .cells #[.slice Ao15 x189000_2.length co15, .int .u64 x189001_2, .int .i64 x189002_2, .int .i64 x189003_2, .int .i64 x189004_2] 28 (0, 0)) (by (with_reducible repeat (first | refine blk_drewN ?_ _ | refine blk_drew ?_ | refine blk_alloc ?_ _)); exact BK188.out) hb)
                    have n3_ := Aside0.mk (blk_below (g := gb198) (o := .cells #[.slice none 0 0, .int .u64 0, .int .i64 0, .int .i64 0, .int .i64 0] 28 (0, 0)) (by (with_reducible repeat (first | refine blk_drewN ?_ _ | refine blk_drew ?_ | refine blk_alloc ?_ _)); exact BK198.out) hb)
                    have n4_ := Aside0.mk (below_step (by repeat (first | (with_reducible first | exact HB.out | apply below_alloc | apply pw_below_drewN | apply below_drew1 | refine below_set ?_ GE188.out | refine below_set ?_ GE198.out) | exact HB.out)) hb)
                    clear HO_189000
                    clear BK188
                    clear BK198
                    clear HB
                    have HO_189000 := n0_
                    have HO192 := n1_
                    have BK188 := n2_
                    have BK198 := n3_
                    have HB := n4_
                    clear n0_ n1_ n2_ n3_ n4_
                    (try clear hb)
                    (try clear hb2)
                    (try clear hk)
                    (try clear hi)
                    (try clear ho0)
                    refine hK.out _ _ ⟨(blk_cell BK188.out 0).trans rfl, (blk_cell BK188.out 1).trans rfl, (blk_cell BK188.out 2).trans rfl, (blk_cell BK188.out 3).trans rfl, (blk_cell BK188.out 4).trans rfl, ((HB.out.cell (World.block_lt_of_cell? w _ hw189_0)).trans hw189_0)⟩ (fun hHeld => ?_)
                    clear hK K
                    refine norm_ (a' := ?_) ?_ ?_
                    rotate_left
                    · show Act.put _ (some 35) _ = _
                      simp only [Act.put, List.setIfInBounds_toArray, List.set_cons_zero, List.set_cons_succ, i64_w, i32_w]
                      rfl
                    refine pure_ (i := 8) (N := some 27) (v := ?_) (a' := ?_) #[true, true, true, true, true, true, true, true, true, false, false, true, false, false] rfl rfl (any_of HT_.out (by kernel_rfl)) (fun _ _ _ h => h) (Or.inl ⟨by rfl, ?_⟩) ?_ ?_
                    rotate_left
                    · intro w'
                      go_simp
                      with_reducible rfl
                    rotate_left
                    · simp only [Act.put, List.setIfInBounds_toArray, List.set_cons_zero, List.set_cons_succ, i64_w, i32_w]
                      rfl
                    refine pure_ (i := 9) (N := some 36) (v := ?_) (a' := ?_) #[true, true, true, true, true, true, true, true, true, true, false, true, false, false] rfl rfl (any_of HT_.out (by kernel_rfl)) (fun _ _ _ h => h) (Or.inl ⟨by rfl, ?_⟩) ?_ ?_
                    rotate_left
                    · intro w'
                      go_simp
                      with_reducible rfl
                    rotate_left
                    · simp only [Act.put, List.setIfInBounds_toArray, List.set_cons_zero, List.set_cons_succ, i64_w, i32_w]
                      rfl
                    refine pure_ (i := 10) (N := some 37) (v := ?_) (a' := ?_) #[true, true, true, true, true, true, true, true, true, true, true, true, false, false] rfl rfl (any_of HT_.out (by kernel_rfl)) (fun _ _ _ h => h) (Or.inl ⟨by rfl, ?_⟩) ?_ ?_
                    rotate_left
                    · intro w'
                      go_simp
                      with_reducible rfl
                    rotate_left
                    · simp only [Act.put, List.setIfInBounds_toArray, List.set_cons_zero, List.set_cons_succ, i64_w, i32_w]
                      rfl
                    exact norm_ (by simp only [putAll, Act.put, List.setIfInBounds_toArray, List.set_cons_zero, List.set_cons_succ]) (hCont (v191, gb198) _ ⟨hHeld, (by (with_reducible repeat (first | apply Kd.V_alloc | apply Kd.V_drewN | apply Kd.V_drew)); exact HO192.out), (by (with_reducible repeat (first | apply Kd.V_alloc | apply Kd.V_drewN | apply Kd.V_drew)); exact HO_189000.out), (by (with_reducible repeat (first | refine blk_drewN ?_ _ | refine blk_drew ?_ | refine blk_alloc ?_ _)); exact BK188.out), (by (with_reducible repeat (first | refine blk_drewN ?_ _ | refine blk_drew ?_ | refine blk_alloc ?_ _)); exact BK198.out), GW198.out, GE198.out, NB188_198.out, NB198_188.out, (by repeat (first | (with_reducible first | exact HB.out | apply below_alloc | apply pw_below_drewN | apply below_drew1 | refine below_set ?_ GE188.out | refine below_set ?_ GE198.out) | exact HB.out)), (by (with_reducible repeat (first | refine blk_drewN ?_ _ | refine blk_drew ?_ | refine blk_alloc ?_ _ | refine obj_far ?_ NBm188.out _)); exact BM.out)⟩)
                rintro ⟨v191, gb198⟩ w19 ⟨hS_, h0_, h1_, h2_, h3_, h4_, h5_, h6_, h7_, h8_, h9_⟩
                clear BM
                have BM : Aside0 (w19.heap[mb]? = some om) := ⟨h9_⟩
                clear h9_
                have NBm198 : Aside0 (mb ≠ gb198) := ⟨map_ne BM.out MO.out.isMap h3_⟩
                have n0_ : Aside0 (Kd.V k44 44 w19 w.heap.size (fun k_ => k_ ≠ gb188 ∧ k_ ≠ gb198) v191 t190) := ⟨h0_⟩
                have n1_ : Aside0 (Kd.V k44 44 w19 w.heap.size (fun k_ => k_ ≠ gb188 ∧ k_ ≠ gb198) (.slice Ao15 x189000_2.length co15) x189000_2) := ⟨h1_⟩
                have n2_ : Aside0 (w19.heap[gb188]? = some (.cells #[.slice Ao15 x189000_2.length co15, .int .u64 x189001_2, .int .i64 x189002_2, .int .i64 x189003_2, .int .i64 x189004_2] 28 (0, 0))) := ⟨h2_⟩
                have n3_ : Aside0 (w19.heap[gb198]? = some (.cells #[.slice none 0 0, .int .u64 0, .int .i64 0, .int .i64 0, .int .i64 0] 28 (0, 0))) := ⟨h3_⟩
                have n4_ : Aside0 (w.heap.size ≤ gb198) := ⟨h4_⟩
                have n5_ : Aside0 (w.heap.size ≤ gb198) := ⟨h5_⟩
                have n6_ : Aside0 (gb188 ≠ gb198) := ⟨h6_⟩
                have n7_ : Aside0 (gb198 ≠ gb188) := ⟨h7_⟩
                have n8_ : Aside0 (Below w.heap.size w w19) := ⟨h8_⟩
                clear HO_189000
                clear BK188
                clear HB
                clear h0_ h1_ h2_ h3_ h4_ h5_ h6_ h7_ h8_
                have HO192 := n0_
                have HO_189000 := n1_
                have BK188 := n2_
                have BK198 := n3_
                have GW198 := n4_
                have GE198 := n5_
                have NB188_198 := n6_
                have NB198_188 := n7_
                have HB := n8_
                clear n0_ n1_ n2_ n3_ n4_ n5_ n6_ n7_ n8_
                have hHeld : w19.cell? ⟨gb188, 0, none⟩ = some (.slice Ao15 x189000_2.length co15) ∧ w19.cell? ⟨gb188, 1, none⟩ = some (.int .u64 x189001_2) ∧ w19.cell? ⟨gb188, 2, none⟩ = some (.int .i64 x189002_2) ∧ w19.cell? ⟨gb188, 3, none⟩ = some (.int .i64 x189003_2) ∧ w19.cell? ⟨gb188, 4, none⟩ = some (.int .i64 x189004_2) ∧ w19.cell? (ad189.add (x6_2).toNat) = some (.int .u16 (rd l0 x6_2)) := hS_
                obtain ⟨Ao20, co20, eo20⟩ := Kd.V_slice HO192.out
                (first | subst eo20 | (injection eo20 with f1_ f2_ f3_; have f4_ := f1_.symm; have f5_ := f3_.symm; clear f1_ f2_ f3_; subst f4_; subst f5_))
                refine norm_ (a' := ?_) ?_ ?_
                rotate_left
                · simp only [putAll, Act.put, List.setIfInBounds_toArray, List.set_cons_zero, List.set_cons_succ]
                  rfl
                refine one_ (i := 12) (N := none) #[true, true, true, true, true, true, true, true, true, true, true, true, true, false] rfl rfl (one_of HT_.out (by kernel_rfl)) (by decide) (fun K hK => ?_)
                have hs21 : w19.cell? ⟨gb198, 0, none⟩ = some (.slice none 0 0) := (blk_cell BK198.out 0).trans rfl
                have hfs21 := blk_frozen BK198.out 0
                have hns21_0 := NB188_198.out
                have hms21_0 := NB198_188.out
                have hs22 : w19.cell? ⟨gb198, 1, none⟩ = some (.int .u64 0) := (blk_cell BK198.out 1).trans rfl
                have hfs22 := blk_frozen BK198.out 1
                have hns22_0 := NB188_198.out
                have hms22_0 := NB198_188.out
                have hs23 : w19.cell? ⟨gb198, 2, none⟩ = some (.int .i64 0) := (blk_cell BK198.out 2).trans rfl
                have hfs23 := blk_frozen BK198.out 2
                have hns23_0 := NB188_198.out
                have hms23_0 := NB198_188.out
                have hs24 : w19.cell? ⟨gb198, 3, none⟩ = some (.int .i64 0) := (blk_cell BK198.out 3).trans rfl
                have hfs24 := blk_frozen BK198.out 3
                have hns24_0 := NB188_198.out
                have hms24_0 := NB198_188.out
                have hs25 : w19.cell? ⟨gb198, 4, none⟩ = some (.int .i64 0) := (blk_cell BK198.out 4).trans rfl
                have hfs25 := blk_frozen BK198.out 4
                have hns25_0 := NB188_198.out
                have hms25_0 := NB198_188.out
                refine skip_ (w1 := ?_) (by rfl) rfl ?_ ?_
                rotate_left
                · go_simp
                  rfl
                refine hK.out _ _ ⟨((cell_far (p := ⟨gb198, _, none⟩) NB188_198.out _).trans (((cell_far (p := ⟨gb198, _, none⟩) NB188_198.out _).trans (((cell_far (p := ⟨gb198, _, none⟩) NB188_198.out _).trans (((cell_far (p := ⟨gb198, _, none⟩) NB188_198.out _).trans (((cell_far (p := ⟨gb198, _, none⟩) NB188_198.out _).trans (hHeld.1)))))))))), ((cell_far (p := ⟨gb198, _, none⟩) NB188_198.out _).trans (((cell_far (p := ⟨gb198, _, none⟩) NB188_198.out _).trans (((cell_far (p := ⟨gb198, _, none⟩) NB188_198.out _).trans (((cell_far (p := ⟨gb198, _, none⟩) NB188_198.out _).trans (((cell_far (p := ⟨gb198, _, none⟩) NB188_198.out _).trans (hHeld.2.1)))))))))), ((cell_far (p := ⟨gb198, _, none⟩) NB188_198.out _).trans (((cell_far (p := ⟨gb198, _, none⟩) NB188_198.out _).trans (((cell_far (p := ⟨gb198, _, none⟩) NB188_198.out _).trans (((cell_far (p := ⟨gb198, _, none⟩) NB188_198.out _).trans (((cell_far (p := ⟨gb198, _, none⟩) NB188_198.out _).trans (hHeld.2.2.1)))))))))), ((cell_far (p := ⟨gb198, _, none⟩) NB188_198.out _).trans (((cell_far (p := ⟨gb198, _, none⟩) NB188_198.out _).trans (((cell_far (p := ⟨gb198, _, none⟩) NB188_198.out _).trans (((cell_far (p := ⟨gb198, _, none⟩) NB188_198.out _).trans (((cell_far (p := ⟨gb198, _, none⟩) NB188_198.out _).trans (hHeld.2.2.2.1)))))))))), ((cell_far (p := ⟨gb198, _, none⟩) NB188_198.out _).trans (((cell_far (p := ⟨gb198, _, none⟩) NB188_198.out _).trans (((cell_far (p := ⟨gb198, _, none⟩) NB188_198.out _).trans (((cell_far (p := ⟨gb198, _, none⟩) NB188_198.out _).trans (((cell_far (p := ⟨gb198, _, none⟩) NB188_198.out _).trans (hHeld.2.2.2.2.1)))))))))), ((cell_far (p := ⟨gb198, _, none⟩) (by first | exact Nat.ne_of_lt (Nat.lt_of_lt_of_le (by have := World.block_lt_of_cell? _ _ hw189_0; first | rwa [add_block] at this | exact this) GW198.out) | (rw [add_block]; exact Nat.ne_of_lt (Nat.lt_of_lt_of_le (by have := World.block_lt_of_cell? _ _ hw189_0; first | rwa [add_block] at this | exact this) GW198.out)) | (show (Addr.add _ _).block ≠ _; rw [add_block]; exact Nat.ne_of_lt (Nat.lt_of_lt_of_le (by have := World.block_lt_of_cell? _ _ hw189_0; first | rwa [add_block] at this | exact this) GW198.out)) | (dsimp only; exact Nat.ne_of_lt (Nat.lt_of_lt_of_le (by have := World.block_lt_of_cell? _ _ hw189_0; first | rwa [add_block] at this | exact this) GW198.out))) _).trans (((cell_far (p := ⟨gb198, _, none⟩) (by first | exact Nat.ne_of_lt (Nat.lt_of_lt_of_le (by have := World.block_lt_of_cell? _ _ hw189_0; first | rwa [add_block] at this | exact this) GW198.out) | (rw [add_block]; exact Nat.ne_of_lt (Nat.lt_of_lt_of_le (by have := World.block_lt_of_cell? _ _ hw189_0; first | rwa [add_block] at this | exact this) GW198.out)) | (show (Addr.add _ _).block ≠ _; rw [add_block]; exact Nat.ne_of_lt (Nat.lt_of_lt_of_le (by have := World.block_lt_of_cell? _ _ hw189_0; first | rwa [add_block] at this | exact this) GW198.out)) | (dsimp only; exact Nat.ne_of_lt (Nat.lt_of_lt_of_le (by have := World.block_lt_of_cell? _ _ hw189_0; first | rwa [add_block] at this | exact this) GW198.out))) _).trans (((cell_far (p := ⟨gb198, _, none⟩) (by first | exact Nat.ne_of_lt (Nat.lt_of_lt_of_le (by have := World.block_lt_of_cell? _ _ hw189_0; first | rwa [add_block] at this | exact this) GW198.out) | (rw [add_block]; exact Nat.ne_of_lt (Nat.lt_of_lt_of_le (by have := World.block_lt_of_cell? _ _ hw189_0; first | rwa [add_block] at this | exact this) GW198.out)) | (show (Addr.add _ _).block ≠ _; rw [add_block]; exact Nat.ne_of_lt (Nat.lt_of_lt_of_le (by have := World.block_lt_of_cell? _ _ hw189_0; first | rwa [add_block] at this | exact this) GW198.out)) | (dsimp only; exact Nat.ne_of_lt (Nat.lt_of_lt_of_le (by have := World.block_lt_of_cell? _ _ hw189_0; first | rwa [add_block] at this | exact this) GW198.out))) _).trans (((cell_far (p := ⟨gb198, _, none⟩) (by first | exact Nat.ne_of_lt (Nat.lt_of_lt_of_le (by have := World.block_lt_of_cell? _ _ hw189_0; first | rwa [add_block] at this | exact this) GW198.out) | (rw [add_block]; exact Nat.ne_of_lt (Nat.lt_of_lt_of_le (by have := World.block_lt_of_cell? _ _ hw189_0; first | rwa [add_block] at this | exact this) GW198.out)) | (show (Addr.add _ _).block ≠ _; rw [add_block]; exact Nat.ne_of_lt (Nat.lt_of_lt_of_le (by have := World.block_lt_of_cell? _ _ hw189_0; first | rwa [add_block] at this | exact this) GW198.out)) | (dsimp only; exact Nat.ne_of_lt (Nat.lt_of_lt_of_le (by have := World.block_lt_of_cell? _ _ hw189_0; first | rwa [add_block] at this | exact this) GW198.out))) _).trans (((cell_far (p := ⟨gb198, _, none⟩) (by first | exact Nat.ne_of_lt (Nat.lt_of_lt_of_le (by have := World.block_lt_of_cell? _ _ hw189_0; first | rwa [add_block] at this | exact this) GW198.out) | (rw [add_block]; exact Nat.ne_of_lt (Nat.lt_of_lt_of_le (by have := World.block_lt_of_cell? _ _ hw189_0; first | rwa [add_block] at this | exact this) GW198.out)) | (show (Addr.add _ _).block ≠ _; rw [add_block]; exact Nat.ne_of_lt (Nat.lt_of_lt_of_le (by have := World.block_lt_of_cell? _ _ hw189_0; first | rwa [add_block] at this | exact this) GW198.out)) | (dsimp only; exact Nat.ne_of_lt (Nat.lt_of_lt_of_le (by have := World.block_lt_of_cell? _ _ hw189_0; first | rwa [add_block] at this | exact this) GW198.out))) _).trans (hHeld.2.2.2.2.2))))))))))⟩ (fun hHeld => ?_)
                clear hK K
                refine pure_ (i := 13) (N := some 8) (v := ?_) (a' := ?_) #[true, true, true, true, true, true, true, true, true, true, true, true, true, true] rfl rfl (any_of HT_.out (by kernel_rfl)) (fun _ _ _ h => h) (Or.inl ⟨by rfl, ?_⟩) ?_ ?_
                rotate_left
                · intro w'
                  go_simp
                  with_reducible rfl
                rotate_left
                · simp only [Act.put, List.setIfInBounds_toArray, List.set_cons_zero, List.set_cons_succ, i64_w, i32_w]
                  rfl
                refine done_ (done_of HT_.out (by kernel_rfl)) ?_
                go_upto_if 38 with (fail)
                go_cut [] (fun wc => ∃ (tk' : List Int) (om' : Obj) (kq : Nat), Aside0 (dominolaw13_AcksOnce.j2 kq l0 x5_2 x6_2 tk' t197 t190 t193 t194 t195 t196 = some r) ∧ Aside0 (kq ≤ k2) ∧ Aside0 (Kd.V k44 44 wc w.heap.size (fun k_ => k_ ≠ gb188 ∧ k_ ≠ gb198) (.slice Ao15 x189000_2.length co15) x189000_2) ∧ Aside0 (Kd.V k44 44 wc w.heap.size (fun k_ => k_ ≠ gb188 ∧ k_ ≠ gb198) (.slice Ao20 t190.length co20) t190) ∧ Aside0 (wc.heap[gb188]? = some (.cells #[(.slice Ao15 x189000_2.length co15), .int .u64 x189001_2, .int .i64 x189002_2, .int .i64 x189003_2, .int .i64 x189004_2] 28 (0, 0))) ∧ Aside0 (wc.heap[gb198]? = some (.cells #[(.slice Ao20 t190.length co20), .int .u64 t193, .int .i64 t194, .int .i64 t195, .int .i64 t196] 28 (0, 0))) ∧ Aside0 (Below w.heap.size w wc) ∧ Aside0 (wc.heap[mb]? = some om') ∧ Aside0 (MapObj om' tk' (x6_2 + 1)))
                case first =>
                  have H := HC14.out
                  clear HC14
                  by_cases c26 : t197 = true
                  · subst c26
                    have H1 : (dominolaw13_AcksOnce.j2 k2 l0 x5_2 x6_2 (tk ++ [rd l0 x6_2]) true t190 t193 t194 t195 t196) = some r := by rw [if_pos rfl] at H; exact H
                    clear H
                    have H := H1
                    clear H1
                    have H' := Aside0.mk H
                    clear H
                    have p199 : 0 ≤ (x6_2 : Int) := of_decide_eq_true (by first | (with_reducible assumption) | assumption)
                    have q199 : x6_2 < (l0.length : Int) := of_decide_eq_true (by first | (with_reducible assumption) | assumption)
                    obtain ⟨ad199, e199, hx199_0⟩ := Kd.at_int HR0.out x6_2 p199 q199
                    obtain rfl : ad189 = ad199 := (by injection e199)
                    have hn199_0 : ad189.block ≠ gb198 := Nat.ne_of_lt (Nat.lt_of_lt_of_le (by have := World.block_lt_of_cell? _ _ hx199_0; first | rwa [add_block] at this | exact this) GW198.out)
                    have hn199_1 : ad189.block ≠ gb198 := Nat.ne_of_lt (Nat.lt_of_lt_of_le (by have := World.block_lt_of_cell? _ _ hx199_0; first | rwa [add_block] at this | exact this) GW198.out)
                    have hn199_2 : ad189.block ≠ gb198 := Nat.ne_of_lt (Nat.lt_of_lt_of_le (by have := World.block_lt_of_cell? _ _ hx199_0; first | rwa [add_block] at this | exact this) GW198.out)
                    have hn199_3 : ad189.block ≠ gb198 := Nat.ne_of_lt (Nat.lt_of_lt_of_le (by have := World.block_lt_of_cell? _ _ hx199_0; first | rwa [add_block] at this | exact this) GW198.out)
                    have hn199_4 : ad189.block ≠ gb198 := Nat.ne_of_lt (Nat.lt_of_lt_of_le (by have := World.block_lt_of_cell? _ _ hx199_0; first | rwa [add_block] at this | exact this) GW198.out)
                    replace hx199_0 := (HB.out.cell (World.block_lt_of_cell? w _ hx199_0)).trans hx199_0
                    replace hx199_0 := (cell_far (p := ⟨gb198, 0, none⟩) (by first | (rw [add_block]; exact hn199_0) | (show (Addr.add _ _).block ≠ _; rw [add_block]; exact hn199_0) | exact hn199_0) (.slice Ao20 t190.length co20)).trans hx199_0
                    replace hx199_0 := (cell_far (p := ⟨gb198, 1, none⟩) (by first | (rw [add_block]; exact hn199_1) | (show (Addr.add _ _).block ≠ _; rw [add_block]; exact hn199_1) | exact hn199_1) (.int .u64 t193)).trans hx199_0
                    replace hx199_0 := (cell_far (p := ⟨gb198, 2, none⟩) (by first | (rw [add_block]; exact hn199_2) | (show (Addr.add _ _).block ≠ _; rw [add_block]; exact hn199_2) | exact hn199_2) (.int .i64 t194)).trans hx199_0
                    replace hx199_0 := (cell_far (p := ⟨gb198, 3, none⟩) (by first | (rw [add_block]; exact hn199_3) | (show (Addr.add _ _).block ≠ _; rw [add_block]; exact hn199_3) | exact hn199_3) (.int .i64 t195)).trans hx199_0
                    replace hx199_0 := (cell_far (p := ⟨gb198, 4, none⟩) (by first | (rw [add_block]; exact hn199_4) | (show (Addr.add _ _).block ≠ _; rw [add_block]; exact hn199_4) | exact hn199_4) (.int .i64 t196)).trans hx199_0
                    clear hn199_0
                    clear hn199_1
                    clear hn199_2
                    clear hn199_3
                    clear hn199_4
                    have LEN_ := Aside0.mk (len_lt HR0.out q199)
                    have PQ_ := Aside0.mk (And.intro p199 q199)
                    replace p199 := eq_true p199
                    replace q199 := eq_true q199
                    go_wp2_with (first | (at_lookup; refine look_ rfl _ _ rfl mb om tk (rd l0 x6_2) x6_2 rfl rfl (by (with_reducible repeat (first | refine blk_drewN ?_ _ | refine blk_drew ?_ | refine blk_alloc ?_ _ | refine obj_far ?_ NBm188.out _ | refine obj_far ?_ NBm198.out _)); exact BM.out) MO.out (wf_rd HWF.out PQ_.out) ?_) | (at_mapUpdate; refine store_ rfl _ _ _ rfl mb om tk (rd l0 x6_2) x6_2 rfl rfl rfl (by (with_reducible repeat (first | refine blk_drewN ?_ _ | refine blk_drew ?_ | refine blk_alloc ?_ _ | refine obj_far ?_ NBm188.out _ | refine obj_far ?_ NBm198.out _)); exact BM.out) MO.out (wf_rd HWF.out PQ_.out) LEN_.out ?_; intro w1 om1 hbm1 hmo1 hgrow1; have n0_ := Aside0.mk (V_store (base := w.heap.size) (ok := fun k_ => k_ ≠ gb188 ∧ k_ ≠ gb198) (u := .slice Ao15 x189000_2.length co15) (l := x189000_2) hgrow1 (by (with_reducible repeat (first | refine blk_drewN ?_ _ | refine blk_drew ?_ | refine blk_alloc ?_ _ | refine obj_far ?_ NBm188.out _ | refine obj_far ?_ NBm198.out _)); exact BM.out) MO.out.isMap (by (with_reducible repeat (first | apply Kd.V_alloc | apply Kd.V_drewN | apply Kd.V_drew)); exact Kd.V_mono (Kd.V_far (p := ⟨gb198, 4, none⟩) (Kd.V_far (p := ⟨gb198, 3, none⟩) (Kd.V_far (p := ⟨gb198, 2, none⟩) (Kd.V_far (p := ⟨gb198, 1, none⟩) (Kd.V_far (p := ⟨gb198, 0, none⟩) (Kd.V_mono HO_189000.out (fun k_ hk => (⟨hk, hk.2⟩ : _ ∧ k_ ≠ gb198))) (fun _ hk => hk.2) (.slice Ao20 t190.length co20)) (fun _ hk => hk.2) (.int .u64 t193)) (fun _ hk => hk.2) (.int .i64 t194)) (fun _ hk => hk.2) (.int .i64 t195)) (fun _ hk => hk.2) (.int .i64 t196)) (fun _ hk => ⟨hk.1.1, hk.1.2⟩))); have n1_ := Aside0.mk (V_store (base := w.heap.size) (ok := fun k_ => k_ ≠ gb188 ∧ k_ ≠ gb198) (u := .slice Ao20 t190.length co20) (l := t190) hgrow1 (by (with_reducible repeat (first | refine blk_drewN ?_ _ | refine blk_drew ?_ | refine blk_alloc ?_ _ | refine obj_far ?_ NBm188.out _ | refine obj_far ?_ NBm198.out _)); exact BM.out) MO.out.isMap (by (with_reducible repeat (first | apply Kd.V_alloc | apply Kd.V_drewN | apply Kd.V_drew)); exact Kd.V_mono (Kd.V_far (p := ⟨gb198, 4, none⟩) (Kd.V_far (p := ⟨gb198, 3, none⟩) (Kd.V_far (p := ⟨gb198, 2, none⟩) (Kd.V_far (p := ⟨gb198, 1, none⟩) (Kd.V_far (p := ⟨gb198, 0, none⟩) (Kd.V_mono HO192.out (fun k_ hk => (⟨hk, hk.2⟩ : _ ∧ k_ ≠ gb198))) (fun _ hk => hk.2) (.slice Ao20 t190.length co20)) (fun _ hk => hk.2) (.int .u64 t193)) (fun _ hk => hk.2) (.int .i64 t194)) (fun _ hk => hk.2) (.int .i64 t195)) (fun _ hk => hk.2) (.int .i64 t196)) (fun _ hk => ⟨hk.1.1, hk.1.2⟩))); have n2_ := Aside0.mk (blk_store (o := .cells #[.slice Ao15 x189000_2.length co15, .int .u64 x189001_2, .int .i64 x189002_2, .int .i64 x189003_2, .int .i64 x189004_2] 28 (0, 0)) hgrow1 NBm188.out (by (with_reducible repeat (first | refine blk_drewN ?_ _ | refine blk_drew ?_ | refine blk_alloc ?_ _)); refine blk_far ?_ NB188_198.out _; (with_reducible repeat (first | refine blk_drewN ?_ _ | refine blk_drew ?_ | refine blk_alloc ?_ _)); refine blk_far ?_ NB188_198.out _; (with_reducible repeat (first | refine blk_drewN ?_ _ | refine blk_drew ?_ | refine blk_alloc ?_ _)); refine blk_far ?_ NB188_198.out _; (with_reducible repeat (first | refine blk_drewN ?_ _ | refine blk_drew ?_ | refine blk_alloc ?_ _)); refine blk_far ?_ NB188_198.out _; (with_reducible repeat (first | refine blk_drewN ?_ _ | refine blk_drew ?_ | refine blk_alloc ?_ _)); refine blk_far ?_ NB188_198.out _; (with_reducible repeat (first | refine blk_drewN ?_ _ | refine blk_drew ?_ | refine blk_alloc ?_ _)); exact BK188.out)); have n3_ := Aside0.mk (blk_store (o := .cells #[.slice Ao20 t190.length co20, .int .u64 t193, .int .i64 t194, .int .i64 t195, .int .i64 t196] 28 (0, 0)) hgrow1 NBm198.out (by (with_reducible repeat (first | refine blk_drewN ?_ _ | refine blk_drew ?_ | refine blk_alloc ?_ _)); refine blk_put (cs := #[.slice Ao20 t190.length co20, .int .u64 t193, .int .i64 t194, .int .i64 t195, .int .i64 0]) ?_ 4 _ rfl; (with_reducible repeat (first | refine blk_drewN ?_ _ | refine blk_drew ?_ | refine blk_alloc ?_ _)); refine blk_put (cs := #[.slice Ao20 t190.length co20, .int .u64 t193, .int .i64 t194, .int .i64 0, .int .i64 0]) ?_ 3 _ rfl; (with_reducible repeat (first | refine blk_drewN ?_ _ | refine blk_drew ?_ | refine blk_alloc ?_ _)); refine blk_put (cs := #[.slice Ao20 t190.length co20, .int .u64 t193, .int .i64 0, .int .i64 0, .int .i64 0]) ?_ 2 _ rfl; (with_reducible repeat (first | refine blk_drewN ?_ _ | refine blk_drew ?_ | refine blk_alloc ?_ _)); refine blk_put (cs := #[.slice Ao20 t190.length co20, .int .u64 0, .int .i64 0, .int .i64 0, .int .i64 0]) ?_ 1 _ rfl; (with_reducible repeat (first | refine blk_drewN ?_ _ | refine blk_drew ?_ | refine blk_alloc ?_ _)); refine blk_put (cs := #[.slice none 0 0, .int .u64 0, .int .i64 0, .int .i64 0, .int .i64 0]) ?_ 0 _ rfl; (with_reducible repeat (first | refine blk_drewN ?_ _ | refine blk_drew ?_ | refine blk_alloc ?_ _)); exact BK198.out)); have n4_ := Aside0.mk (below_store hgrow1 GWm.out (by repeat (first | (with_reducible first | exact HB.out | apply below_alloc | apply pw_below_drewN | apply below_drew1 | refine below_set ?_ GE188.out | refine below_set ?_ GE198.out) | exact HB.out))); have BM1 := Aside0.mk hbm1; have MO1 := Aside0.mk hmo1; clear HO_189000 HO192 BK188 BK198 HB hbm1 hmo1 hgrow1; have HO_189000 := n0_; have HO192 := n1_; have BK188 := n2_; have BK198 := n3_; have HB := n4_; clear n0_ n1_ n2_ n3_ n4_) | go_in)
                    go_meet
                    case rel => exact ⟨_, _, _, H', ⟨by have := HJ1.out; have := HK2.out; first | omega | exact Nat.le_refl _⟩, ⟨by (with_reducible repeat (first | apply Kd.V_alloc | apply Kd.V_drewN | apply Kd.V_drew)); exact HO_189000.out⟩, ⟨by (with_reducible repeat (first | apply Kd.V_alloc | apply Kd.V_drewN | apply Kd.V_drew)); exact HO192.out⟩, ⟨by (with_reducible repeat (first | refine blk_drewN ?_ _ | refine blk_drew ?_ | refine blk_alloc ?_ _)); exact BK188.out⟩, ⟨by (with_reducible repeat (first | refine blk_drewN ?_ _ | refine blk_drew ?_ | refine blk_alloc ?_ _)); exact BK198.out⟩, ⟨by repeat (first | (with_reducible first | exact HB.out | apply below_alloc | apply pw_below_drewN | apply below_drew1 | refine below_set ?_ GE188.out) | exact HB.out)⟩, ⟨by (with_reducible repeat (first | refine blk_drewN ?_ _ | refine blk_drew ?_ | refine blk_alloc ?_ _)); exact BM1.out⟩, MO1⟩
                  · replace c26 := Bool.eq_false_iff.mpr c26
                    subst c26
                    have H1 : (dominolaw13_AcksOnce.j2 k2 l0 x5_2 x6_2 tk false t190 t193 t194 t195 t196) = some r := by rw [if_neg (show ¬ (false = true) by decide)] at H; exact H
                    clear H
                    have H := H1
                    clear H1
                    have H' := Aside0.mk H
                    clear H
                    go_wp2
                    go_meet
                    case rel => exact ⟨_, _, _, H', ⟨by have := HJ1.out; have := HK2.out; first | omega | exact Nat.le_refl _⟩, ⟨by (with_reducible repeat (first | apply Kd.V_alloc | apply Kd.V_drewN | apply Kd.V_drew)); exact Kd.V_mono (Kd.V_far (p := ⟨gb198, 4, none⟩) (Kd.V_far (p := ⟨gb198, 3, none⟩) (Kd.V_far (p := ⟨gb198, 2, none⟩) (Kd.V_far (p := ⟨gb198, 1, none⟩) (Kd.V_far (p := ⟨gb198, 0, none⟩) (Kd.V_mono HO_189000.out (fun k_ hk => (⟨hk, hk.2⟩ : _ ∧ k_ ≠ gb198))) (fun _ hk => hk.2) (.slice Ao20 t190.length co20)) (fun _ hk => hk.2) (.int .u64 t193)) (fun _ hk => hk.2) (.int .i64 t194)) (fun _ hk => hk.2) (.int .i64 t195)) (fun _ hk => hk.2) (.int .i64 t196)) (fun _ hk => ⟨hk.1.1, hk.1.2⟩)⟩, ⟨by (with_reducible repeat (first | apply Kd.V_alloc | apply Kd.V_drewN | apply Kd.V_drew)); exact Kd.V_mono (Kd.V_far (p := ⟨gb198, 4, none⟩) (Kd.V_far (p := ⟨gb198, 3, none⟩) (Kd.V_far (p := ⟨gb198, 2, none⟩) (Kd.V_far (p := ⟨gb198, 1, none⟩) (Kd.V_far (p := ⟨gb198, 0, none⟩) (Kd.V_mono HO192.out (fun k_ hk => (⟨hk, hk.2⟩ : _ ∧ k_ ≠ gb198))) (fun _ hk => hk.2) (.slice Ao20 t190.length co20)) (fun _ hk => hk.2) (.int .u64 t193)) (fun _ hk => hk.2) (.int .i64 t194)) (fun _ hk => hk.2) (.int .i64 t195)) (fun _ hk => hk.2) (.int .i64 t196)) (fun _ hk => ⟨hk.1.1, hk.1.2⟩)⟩, ⟨by (with_reducible repeat (first | refine blk_drewN ?_ _ | refine blk_drew ?_ | refine blk_alloc ?_ _)); refine blk_far ?_ NB188_198.out _; (with_reducible repeat (first | refine blk_drewN ?_ _ | refine blk_drew ?_ | refine blk_alloc ?_ _)); refine blk_far ?_ NB188_198.out _; (with_reducible repeat (first | refine blk_drewN ?_ _ | refine blk_drew ?_ | refine blk_alloc ?_ _)); refine blk_far ?_ NB188_198.out _; (with_reducible repeat (first | refine blk_drewN ?_ _ | refine blk_drew ?_ | refine blk_alloc ?_ _)); refine blk_far ?_ NB188_198.out _; (with_reducible repeat (first | refine blk_drewN ?_ _ | refine blk_drew ?_ | refine blk_alloc ?_ _)); refine blk_far ?_ NB188_198.out _; (with_reducible repeat (first | refine blk_drewN ?_ _ | refine blk_drew ?_ | refine blk_alloc ?_ _)); exact BK188.out⟩, ⟨by (with_reducible repeat (first | refine blk_drewN ?_ _ | refine blk_drew ?_ | refine blk_alloc ?_ _)); refine blk_put (cs := #[.slice Ao20 t190.length co20, .int .u64 t193, .int .i64 t194, .int .i64 t195, .int .i64 0]) ?_ 4 _ rfl; (with_reducible repeat (first | refine blk_drewN ?_ _ | refine blk_drew ?_ | refine blk_alloc ?_ _)); refine blk_put (cs := #[.slice Ao20 t190.length co20, .int .u64 t193, .int .i64 t194, .int .i64 0, .int .i64 0]) ?_ 3 _ rfl; (with_reducible repeat (first | refine blk_drewN ?_ _ | refine blk_drew ?_ | refine blk_alloc ?_ _)); refine blk_put (cs := #[.slice Ao20 t190.length co20, .int .u64 t193, .int .i64 0, .int .i64 0, .int .i64 0]) ?_ 2 _ rfl; (with_reducible repeat (first | refine blk_drewN ?_ _ | refine blk_drew ?_ | refine blk_alloc ?_ _)); refine blk_put (cs := #[.slice Ao20 t190.length co20, .int .u64 0, .int .i64 0, .int .i64 0, .int .i64 0]) ?_ 1 _ rfl; (with_reducible repeat (first | refine blk_drewN ?_ _ | refine blk_drew ?_ | refine blk_alloc ?_ _)); refine blk_put (cs := #[.slice none 0 0, .int .u64 0, .int .i64 0, .int .i64 0, .int .i64 0]) ?_ 0 _ rfl; (with_reducible repeat (first | refine blk_drewN ?_ _ | refine blk_drew ?_ | refine blk_alloc ?_ _)); exact BK198.out⟩, ⟨by repeat (first | (with_reducible first | exact HB.out | apply below_alloc | apply pw_below_drewN | apply below_drew1 | refine below_set ?_ GE188.out | refine below_set ?_ GE198.out) | exact HB.out)⟩, ⟨(by (with_reducible repeat (first | refine blk_drewN ?_ _ | refine blk_drew ?_ | refine blk_alloc ?_ _ | refine obj_far ?_ NBm188.out _ | refine obj_far ?_ NBm198.out _)); exact BM.out)⟩, ⟨MO.out.mono⟩⟩
                case rest =>
                  clear HC14
                  try clear c1
                  try clear p1
                  try clear q1
                  try clear hx1
                  try clear c2
                  try clear p2
                  try clear c3
                  try clear c3b0
                  try clear c3b1
                  try clear c6
                  try clear c7
                  try clear c11
                  try clear c11b0
                  try clear c12
                  try clear c12b0
                  try clear p18
                  try clear q18
                  try clear hx18
                  try clear p19
                  try clear q19
                  try clear hx19
                  try clear c26
                  try clear hcz10_0
                  try clear hcz10_1
                  try clear hcz10_2
                  try clear hcz10_3
                  try clear hcz10_4
                  try clear hfz10_0
                  try clear hfz10_1
                  try clear hfz10_2
                  try clear hfz10_3
                  try clear hfz10_4
                  try clear hx189_0
                  try clear hx199_0
                  try clear p189
                  try clear p199
                  try clear p2
                  try clear q189
                  try clear q199
                  clear BM MO
                  obtain ⟨tk, om, kq, HA, HJ13, HO_189000, HO_199000, BK188, BK198, HB, BM, MO⟩ := hcut
                  cases kq with
                  | zero => exact absurd HA.out (by simp [dominolaw13_AcksOnce.j2])
                  | succ kj13 =>
                    have H := HA.out
                    clear HA
                    simp only [dominolaw13_AcksOnce.j2] at H
                    have HC27 := Aside0.mk H
                    clear H
                    go_upto_region 12 with (fail)
                    go_cut [65] (fun v65 wc => ∃ (kq : Nat) (x65_26 : Bool), v65 = .bool x65_26 ∧ Aside0 (dominolaw13_AcksOnce.j3 kq l0 x5_2 x6_2 tk x65_26 t190 t193 t194 t195 t196 = some r) ∧ Aside0 (kq ≤ kj13) ∧ Aside0 (Kd.V k44 44 wc w.heap.size (fun k_ => k_ ≠ gb188 ∧ k_ ≠ gb198) (.slice Ao15 x189000_2.length co15) x189000_2) ∧ Aside0 (Kd.V k44 44 wc w.heap.size (fun k_ => k_ ≠ gb188 ∧ k_ ≠ gb198) (.slice Ao20 t190.length co20) t190) ∧ Aside0 (wc.heap[gb188]? = some (.cells #[(.slice Ao15 x189000_2.length co15), .int .u64 x189001_2, .int .i64 x189002_2, .int .i64 x189003_2, .int .i64 x189004_2] 28 (0, 0))) ∧ Aside0 (wc.heap[gb198]? = some (.cells #[(.slice Ao20 t190.length co20), .int .u64 t193, .int .i64 t194, .int .i64 t195, .int .i64 t196] 28 (0, 0))) ∧ Aside0 (Below w.heap.size w wc) ∧ Aside0 (wc.heap[mb]? = some om))
                    case first =>
                      have H := HC27.out
                      clear HC27
                      by_cases c28 : 0 ≤ x6_2
                      · rw [if_pos c28] at H
                        have c28b0 : decide (0 ≤ x6_2) = true := decide_eq_true c28
                        clear c28
                        (first | rw [c28b0] | (simp only [i64_w, i32_w]; rw [c28b0]) | skip)
                        by_cases c29 : x6_2 < (l0.length : Int)
                        · rw [if_pos c29] at H
                          have c29b0 : decide (x6_2 < (l0.length : Int)) = true := decide_eq_true c29
                          clear c29
                          by_cases c30 : cntT (rd l0 x6_2) tk > 1
                          · rw [if_pos c30] at H
                            have c30b0 : decide (1 < cntT (rd l0 x6_2) tk) = true := decide_eq_true c30
                            clear c30
                            have H' := Aside0.mk H
                            clear H
                            have p200 : 0 ≤ (x6_2 : Int) := of_decide_eq_true (by first | (with_reducible assumption) | assumption)
                            have q200 : x6_2 < (l0.length : Int) := of_decide_eq_true (by first | (with_reducible assumption) | assumption)
                            obtain ⟨ad200, e200, hx200_0⟩ := Kd.at_int HR0.out x6_2 p200 q200
                            obtain rfl : ad189 = ad200 := (by injection e200)
                            replace hx200_0 := (HB.out.cell (World.block_lt_of_cell? w _ hx200_0)).trans hx200_0
                            have PQ_ := Aside0.mk (And.intro p200 q200)
                            replace p200 := eq_true p200
                            replace q200 := eq_true q200
                            go_wp2_with (first | (at_lookup; refine look_ rfl _ _ rfl mb om tk (rd l0 x6_2) (x6_2 + 1) rfl rfl (by (with_reducible repeat (first | refine blk_drewN ?_ _ | refine blk_drew ?_ | refine blk_alloc ?_ _ | refine obj_far ?_ NBm188.out _ | refine obj_far ?_ NBm198.out _)); exact BM.out) MO.out (wf_rd HWF.out PQ_.out) ?_) | go_in)
                            go_meet
                            case rel => exact ⟨_, (true), (by first | rfl | (simp; done) | (simp [*]; done)), H', ⟨by have := HJ1.out; have := HK2.out; have := HJ13.out; first | omega | exact Nat.le_refl _⟩, ⟨by (with_reducible repeat (first | apply Kd.V_alloc | apply Kd.V_drewN | apply Kd.V_drew)); exact HO_189000.out⟩, ⟨by (with_reducible repeat (first | apply Kd.V_alloc | apply Kd.V_drewN | apply Kd.V_drew)); exact HO_199000.out⟩, ⟨by (with_reducible repeat (first | refine blk_drewN ?_ _ | refine blk_drew ?_ | refine blk_alloc ?_ _)); exact BK188.out⟩, ⟨by (with_reducible repeat (first | refine blk_drewN ?_ _ | refine blk_drew ?_ | refine blk_alloc ?_ _)); exact BK198.out⟩, ⟨by repeat (first | (with_reducible first | exact HB.out | apply below_alloc | apply pw_below_drewN | apply below_drew1 | refine below_set ?_ GE188.out | refine below_set ?_ GE198.out) | exact HB.out)⟩, ⟨(by (with_reducible repeat (first | refine blk_drewN ?_ _ | refine blk_drew ?_ | refine blk_alloc ?_ _ | refine obj_far ?_ NBm188.out _ | refine obj_far ?_ NBm198.out _)); exact BM.out)⟩⟩
                          · rw [if_neg c30] at H
                            have c30b0 : decide (1 < cntT (rd l0 x6_2) tk) = false := decide_eq_false c30
                            clear c30
                            by_cases c31 : (wrap64 (rd l0 x6_2)) > x5_2
                            · rw [if_pos c31] at H
                              have c31b0 : decide (x5_2 < (wrap64 (rd l0 x6_2))) = true := decide_eq_true c31
                              clear c31
                              have H' := Aside0.mk H
                              clear H
                              have p200 : 0 ≤ (x6_2 : Int) := of_decide_eq_true (by first | (with_reducible assumption) | assumption)
                              have q200 : x6_2 < (l0.length : Int) := of_decide_eq_true (by first | (with_reducible assumption) | assumption)
                              obtain ⟨ad200, e200, hx200_0⟩ := Kd.at_int HR0.out x6_2 p200 q200
                              obtain rfl : ad189 = ad200 := (by injection e200)
                              replace hx200_0 := (HB.out.cell (World.block_lt_of_cell? w _ hx200_0)).trans hx200_0
                              have PQ_ := Aside0.mk (And.intro p200 q200)
                              replace p200 := eq_true p200
                              replace q200 := eq_true q200
                              have p201 : 0 ≤ (x6_2 : Int) := of_decide_eq_true (by first | (with_reducible assumption) | assumption)
                              have q201 : x6_2 < (l0.length : Int) := of_decide_eq_true (by first | (with_reducible assumption) | assumption)
                              obtain ⟨ad201, e201, hx201_0⟩ := Kd.at_int HR0.out x6_2 p201 q201
                              obtain rfl : ad189 = ad201 := (by injection e201)
                              replace hx201_0 := (HB.out.cell (World.block_lt_of_cell? w _ hx201_0)).trans hx201_0
                              replace p201 := eq_true p201
                              replace q201 := eq_true q201
                              go_wp2_with (first | (at_lookup; refine look_ rfl _ _ rfl mb om tk (rd l0 x6_2) (x6_2 + 1) rfl rfl (by (with_reducible repeat (first | refine blk_drewN ?_ _ | refine blk_drew ?_ | refine blk_alloc ?_ _ | refine obj_far ?_ NBm188.out _ | refine obj_far ?_ NBm198.out _)); exact BM.out) MO.out (wf_rd HWF.out PQ_.out) ?_) | go_in)
                              go_meet
                              case rel => exact ⟨_, (!t197), (by first | rfl | (simp; done) | (simp [*]; done)), H', ⟨by have := HJ1.out; have := HK2.out; have := HJ13.out; first | omega | exact Nat.le_refl _⟩, ⟨by (with_reducible repeat (first | apply Kd.V_alloc | apply Kd.V_drewN | apply Kd.V_drew)); exact HO_189000.out⟩, ⟨by (with_reducible repeat (first | apply Kd.V_alloc | apply Kd.V_drewN | apply Kd.V_drew)); exact HO_199000.out⟩, ⟨by (with_reducible repeat (first | refine blk_drewN ?_ _ | refine blk_drew ?_ | refine blk_alloc ?_ _)); exact BK188.out⟩, ⟨by (with_reducible repeat (first | refine blk_drewN ?_ _ | refine blk_drew ?_ | refine blk_alloc ?_ _)); exact BK198.out⟩, ⟨by repeat (first | (with_reducible first | exact HB.out | apply below_alloc | apply pw_below_drewN | apply below_drew1 | refine below_set ?_ GE188.out | refine below_set ?_ GE198.out) | exact HB.out)⟩, ⟨(by (with_reducible repeat (first | refine blk_drewN ?_ _ | refine blk_drew ?_ | refine blk_alloc ?_ _ | refine obj_far ?_ NBm188.out _ | refine obj_far ?_ NBm198.out _)); exact BM.out)⟩⟩
                            · rw [if_neg c31] at H
                              have c31b0 : decide (x5_2 < (wrap64 (rd l0 x6_2))) = false := decide_eq_false c31
                              clear c31
                              have H' := Aside0.mk H
                              clear H
                              have p200 : 0 ≤ (x6_2 : Int) := of_decide_eq_true (by first | (with_reducible assumption) | assumption)
                              have q200 : x6_2 < (l0.length : Int) := of_decide_eq_true (by first | (with_reducible assumption) | assumption)
                              obtain ⟨ad200, e200, hx200_0⟩ := Kd.at_int HR0.out x6_2 p200 q200
                              obtain rfl : ad189 = ad200 := (by injection e200)
                              replace hx200_0 := (HB.out.cell (World.block_lt_of_cell? w _ hx200_0)).trans hx200_0
                              have PQ_ := Aside0.mk (And.intro p200 q200)
                              replace p200 := eq_true p200
                              replace q200 := eq_true q200
                              have p201 : 0 ≤ (x6_2 : Int) := of_decide_eq_true (by first | (with_reducible assumption) | assumption)
                              have q201 : x6_2 < (l0.length : Int) := of_decide_eq_true (by first | (with_reducible assumption) | assumption)
                              obtain ⟨ad201, e201, hx201_0⟩ := Kd.at_int HR0.out x6_2 p201 q201
                              obtain rfl : ad189 = ad201 := (by injection e201)
                              replace hx201_0 := (HB.out.cell (World.block_lt_of_cell? w _ hx201_0)).trans hx201_0
                              replace p201 := eq_true p201
                              replace q201 := eq_true q201
                              go_wp2_with (first | (at_lookup; refine look_ rfl _ _ rfl mb om tk (rd l0 x6_2) (x6_2 + 1) rfl rfl (by (with_reducible repeat (first | refine blk_drewN ?_ _ | refine blk_drew ?_ | refine blk_alloc ?_ _ | refine obj_far ?_ NBm188.out _ | refine obj_far ?_ NBm198.out _)); exact BM.out) MO.out (wf_rd HWF.out PQ_.out) ?_) | go_in)
                              go_meet
                              case rel => exact ⟨_, (false), (by first | rfl | (simp; done) | (simp [*]; done)), H', ⟨by have := HJ1.out; have := HK2.out; have := HJ13.out; first | omega | exact Nat.le_refl _⟩, ⟨by (with_reducible repeat (first | apply Kd.V_alloc | apply Kd.V_drewN | apply Kd.V_drew)); exact HO_189000.out⟩, ⟨by (with_reducible repeat (first | apply Kd.V_alloc | apply Kd.V_drewN | apply Kd.V_drew)); exact HO_199000.out⟩, ⟨by (with_reducible repeat (first | refine blk_drewN ?_ _ | refine blk_drew ?_ | refine blk_alloc ?_ _)); exact BK188.out⟩, ⟨by (with_reducible repeat (first | refine blk_drewN ?_ _ | refine blk_drew ?_ | refine blk_alloc ?_ _)); exact BK198.out⟩, ⟨by repeat (first | (with_reducible first | exact HB.out | apply below_alloc | apply pw_below_drewN | apply below_drew1 | refine below_set ?_ GE188.out | refine below_set ?_ GE198.out) | exact HB.out)⟩, ⟨(by (with_reducible repeat (first | refine blk_drewN ?_ _ | refine blk_drew ?_ | refine blk_alloc ?_ _ | refine obj_far ?_ NBm188.out _ | refine obj_far ?_ NBm198.out _)); exact BM.out)⟩⟩
                        · rw [if_neg c29] at H
                          exact absurd H (by simp)
                      · rw [if_neg c28] at H
                        exact absurd H (by simp)
                    case rest =>
                      clear HC27
                      try clear c1
                      try clear p1
                      try clear q1
                      try clear hx1
                      try clear c2
                      try clear p2
                      try clear q2
                      try clear hx2
                      try clear c3
                      try clear c3b0
                      try clear c3b1
                      try clear c6
                      try clear p6
                      try clear c7
                      try clear c11
                      try clear c11b0
                      try clear c12
                      try clear c12b0
                      try clear p18
                      try clear q18
                      try clear hx18
                      try clear p19
                      try clear q19
                      try clear hx19
                      try clear p20
                      try clear q20
                      try clear hx20
                      try clear c26
                      try clear c28
                      try clear c28b0
                      try clear c29
                      try clear c29b0
                      try clear c30
                      try clear c30b0
                      try clear c31
                      try clear c31b0
                      try clear hcz10_0
                      try clear hcz10_1
                      try clear hcz10_2
                      try clear hcz10_3
                      try clear hcz10_4
                      try clear hfz10_0
                      try clear hfz10_1
                      try clear hfz10_2
                      try clear hfz10_3
                      try clear hfz10_4
                      try clear hx189_0
                      try clear hx199_0
                      try clear hx200_0
                      try clear hx201_0
                      try clear p1
                      try clear p18
                      try clear p189
                      try clear p19
                      try clear p199
                      try clear p2
                      try clear p200
                      try clear p201
                      try clear q1
                      try clear q18
                      try clear q189
                      try clear q19
                      try clear q199
                      try clear q200
                      try clear q201
                      clear BM
                      obtain ⟨kq, x65_26, rfl, HA, HJ26, HO_189000, HO_199000, BK188, BK198, HB, BM⟩ := hcut
                      cases kq with
                      | zero => exact absurd HA.out (by simp [dominolaw13_AcksOnce.j3])
                      | succ kj26 =>
                        have H := HA.out
                        clear HA
                        simp only [dominolaw13_AcksOnce.j3] at H
                        by_cases c32 : x65_26 = true
                        · subst c32
                          have H1 : (none) = some r := by rw [if_pos rfl] at H; exact H
                          clear H
                          have H := H1
                          clear H1
                          exact absurd H (by simp)
                        · replace c32 := Bool.eq_false_iff.mpr c32
                          subst c32
                          have H1 : (if 0 ≤ x6_2 then (if x6_2 < (l0.length : Int) then ((acks_Largest.f t190 t193 t194 t195 t196).bind fun bt203 => (if bt203.2 = true then (if (wrap64 (bt203.1)) = (mx x5_2 (wrap64 (rd l0 x6_2))) then (if (t190.length : Int) > 32 then (none) else ((ranges_May.f kj26 t190).bind fun t205 => (if t205 = true then (dominolaw13_AcksOnce.l0 kj26 l0 (mx x5_2 (wrap64 (rd l0 x6_2))) (wrap64 (x6_2 + 1)) tk t190 t193 t194 t195 t196) else (none)))) else (none)) else (none))) else (none)) else (none)) = some r := by rw [if_neg (show ¬ (false = true) by decide)] at H; exact H
                          clear H
                          have H := H1
                          clear H1
                          by_cases c33 : 0 ≤ x6_2
                          · rw [if_pos c33] at H
                            have c33b0 : decide (0 ≤ x6_2) = true := decide_eq_true c33
                            clear c33
                            by_cases c34 : x6_2 < (l0.length : Int)
                            · rw [if_pos c34] at H
                              have c34b0 : decide (x6_2 < (l0.length : Int)) = true := decide_eq_true c34
                              clear c34
                              obtain ⟨ji35, hji35⟩ : ∃ j_ : Int, (mx x5_2 (wrap64 (rd l0 x6_2))) = j_ := ⟨_, rfl⟩
                              replace H : ((acks_Largest.f t190 t193 t194 t195 t196).bind fun bt203 => (if bt203.2 = true then (if (wrap64 (bt203.1)) = (ji35) then (if (t190.length : Int) > 32 then (none) else ((ranges_May.f kj26 t190).bind fun t205 => (if t205 = true then (dominolaw13_AcksOnce.l0 kj26 l0 ji35 (wrap64 (x6_2 + 1)) tk t190 t193 t194 t195 t196) else (none)))) else (none)) else (none))) = some r := by first | (rw [hji35] at H; exact H) | (simp only [hji35] at H ⊢; exact H)
                              have hji35_ : (if x5_2 < (wrap64 (rd l0 x6_2)) then (wrap64 (rd l0 x6_2)) else x5_2) = ji35 := hji35
                              replace H := Option.bind_eq_some_iff.mp H
                              obtain ⟨⟨t203, t204⟩, A360, H⟩ := H
                              replace H : (if t204 = true then (if (wrap64 (t203)) = (ji35) then (if (t190.length : Int) > 32 then (none) else ((ranges_May.f kj26 t190).bind fun t205 => (if t205 = true then (dominolaw13_AcksOnce.l0 kj26 l0 ji35 (wrap64 (x6_2 + 1)) tk t190 t193 t194 t195 t196) else (none)))) else (none)) else (none)) = some r := H
                              have A36 := Aside0.mk A360
                              clear A360
                              by_cases c37 : t204 = true
                              · subst c37
                                have H1 : (if (wrap64 (t203)) = (ji35) then (if (t190.length : Int) > 32 then (none) else ((ranges_May.f kj26 t190).bind fun t205 => (if t205 = true then (dominolaw13_AcksOnce.l0 kj26 l0 ji35 (wrap64 (x6_2 + 1)) tk t190 t193 t194 t195 t196) else (none)))) else (none)) = some r := by rw [if_pos rfl] at H; exact H
                                clear H
                                have H := H1
                                clear H1
                                by_cases c38 : (wrap64 (t203)) = (ji35)
                                · rw [if_pos c38] at H
                                  have c38b0 : ((wrap64 (t203)) == (ji35)) = true := beq_iff_eq.mpr c38
                                  have c38b1 : ((wrap64 (t203)) != (ji35)) = false := bne_eq_false_iff_eq.mpr c38
                                  clear c38
                                  by_cases c39 : (t190.length : Int) > 32
                                  · rw [if_pos c39] at H
                                    exact absurd H (by simp)
                                  · rw [if_neg c39] at H
                                    have c39b0 : decide (32 < (t190.length : Int)) = false := decide_eq_false c39
                                    have c39b1 : decide (32 < t190.length) = false := decide_eq_false (by omega)
                                    clear c39
                                    replace H := Option.bind_eq_some_iff.mp H
                                    obtain ⟨t205, A400, H⟩ := H
                                    replace H : (if t205 = true then (dominolaw13_AcksOnce.l0 kj26 l0 ji35 (wrap64 (x6_2 + 1)) tk t190 t193 t194 t195 t196) else (none)) = some r := H
                                    have A40 := Aside0.mk A400
                                    clear A400
                                    by_cases c41 : t205 = true
                                    · subst c41
                                      have H1 : (dominolaw13_AcksOnce.l0 kj26 l0 ji35 (wrap64 (x6_2 + 1)) tk t190 t193 t194 t195 t196) = some r := by rw [if_pos rfl] at H; exact H
                                      clear H
                                      have H := H1
                                      clear H1
                                      have H' := Aside0.mk H
                                      clear H
                                      have p202 : 0 ≤ (x6_2 : Int) := of_decide_eq_true (by first | (with_reducible assumption) | assumption)
                                      have q202 : x6_2 < (l0.length : Int) := of_decide_eq_true (by first | (with_reducible assumption) | assumption)
                                      obtain ⟨ad202, e202, hx202_0⟩ := Kd.at_int HR0.out x6_2 p202 q202
                                      obtain rfl : ad189 = ad202 := (by injection e202)
                                      replace hx202_0 := (HB.out.cell (World.block_lt_of_cell? w _ hx202_0)).trans hx202_0
                                      have LEN_ := Aside0.mk (len_lt HR0.out q202)
                                      have PQ_ := Aside0.mk (And.intro p202 q202)
                                      replace p202 := eq_true p202
                                      replace q202 := eq_true q202
                                      have hnb42 := NB198_188.out
                                      have hnc42 := NB188_198.out
                                      have hcz43_0 : wc.cell? ⟨gb198, 0, none⟩ = some (.slice Ao20 t190.length co20) := (blk_cell BK198.out 0).trans rfl
                                      have hcz43_1 : wc.cell? ⟨gb198, 1, none⟩ = some (.int .u64 t193) := (blk_cell BK198.out 1).trans rfl
                                      have hcz43_2 : wc.cell? ⟨gb198, 2, none⟩ = some (.int .i64 t194) := (blk_cell BK198.out 2).trans rfl
                                      have hcz43_3 : wc.cell? ⟨gb198, 3, none⟩ = some (.int .i64 t195) := (blk_cell BK198.out 3).trans rfl
                                      have hcz43_4 : wc.cell? ⟨gb198, 4, none⟩ = some (.int .i64 t196) := (blk_cell BK198.out 4).trans rfl
                                      have hfz43_0 := blk_frozen BK198.out 0
                                      have hfz43_1 := blk_frozen BK198.out 1
                                      have hfz43_2 := blk_frozen BK198.out 2
                                      have hfz43_3 := blk_frozen BK198.out 3
                                      have hfz43_4 := blk_frozen BK198.out 4
                                      have hcz44_0 : wc.cell? ⟨gb188, 0, none⟩ = some (.slice Ao15 x189000_2.length co15) := (blk_cell BK188.out 0).trans rfl
                                      have hcz44_1 : wc.cell? ⟨gb188, 1, none⟩ = some (.int .u64 x189001_2) := (blk_cell BK188.out 1).trans rfl
                                      have hcz44_2 : wc.cell? ⟨gb188, 2, none⟩ = some (.int .i64 x189002_2) := (blk_cell BK188.out 2).trans rfl
                                      have hcz44_3 : wc.cell? ⟨gb188, 3, none⟩ = some (.int .i64 x189003_2) := (blk_cell BK188.out 3).trans rfl
                                      have hcz44_4 : wc.cell? ⟨gb188, 4, none⟩ = some (.int .i64 x189004_2) := (blk_cell BK188.out 4).trans rfl
                                      have hfz44_0 := blk_frozen BK188.out 0
                                      have hfz44_1 := blk_frozen BK188.out 1
                                      have hfz44_2 := blk_frozen BK188.out 2
                                      have hfz44_3 := blk_frozen BK188.out 3
                                      have hfz44_4 := blk_frozen BK188.out 4
                                      go_wp2_with (first | ((with_reducible refine gate_callee (f := 14) rfl ?_); refine goesL_ (some 76) rfl rfl Try.func14 (by kernel_rfl) rfl #[.agg #[.slice Ao20 t190.length co20, .int .u64 t193, .int .i64 t194, .int .i64 t195, .int .i64 t196]] rfl (by (try simp only [List.map_toArray, List.map_cons, List.map_nil]); first | done | rfl | (simp only [List.length_drop, List.length_take]; rfl)) ?_; (with_reducible refine (acks_Largest.calls _ _ t190 t193 t194 t195 t196 t203 true _ ?side1 ?side2 A36.out).mono ?_); (case side1 => refine (Kd.V_reads' (e := 44) (base := w.heap.size) (ok := fun _ => True) (n := t190.length) (c := co20) ?_).2.2; exact (by (with_reducible repeat (first | apply Kd.V_alloc | apply Kd.V_drewN | apply Kd.V_drew)); exact (Kd.V_mono (Kd.V_far (p := ⟨gb188, 4, none⟩) (Kd.V_far (p := ⟨gb188, 3, none⟩) (Kd.V_far (p := ⟨gb188, 2, none⟩) (Kd.V_far (p := ⟨gb188, 1, none⟩) (Kd.V_far (p := ⟨gb188, 0, none⟩) (Kd.V_mono HO_199000.out (fun k_ hk => (⟨hk, hk.1⟩ : _ ∧ k_ ≠ gb188))) (fun _ hk => hk.2) (.slice Ao20 t190.length co20)) (fun _ hk => hk.2) (.int .u64 t193)) (fun _ hk => hk.2) (.int .i64 t194)) (fun _ hk => hk.2) (.int .i64 t195)) (fun _ hk => hk.2) (.int .i64 t196)) (fun _ _ => trivial)))); (case side2 => exact (Kd.V_reads' HO_199000.out).2.1); rintro e w45 ⟨rfl, hb⟩; replace BM := Aside0.mk (blk_below (g := mb) (o := om) (by (with_reducible repeat (first | refine blk_drewN ?_ _ | refine blk_drew ?_ | refine blk_alloc ?_ _ | refine obj_far ?_ NBm188.out _ | refine obj_far ?_ NBm198.out _)); exact BM.out) hb); refine ⟨_, rfl, ?_⟩; have n0_ := Aside0.mk (Kd.V_below (by (with_reducible repeat (first | apply Kd.V_alloc | apply Kd.V_drewN | apply Kd.V_drew)); exact (Kd.V_mono (Kd.V_far (p := ⟨gb188, 4, none⟩) (Kd.V_far (p := ⟨gb188, 3, none⟩) (Kd.V_far (p := ⟨gb188, 2, none⟩) (Kd.V_far (p := ⟨gb188, 1, none⟩) (Kd.V_far (p := ⟨gb188, 0, none⟩) (Kd.V_mono HO_189000.out (fun k_ hk => (⟨hk, hk.1⟩ : _ ∧ k_ ≠ gb188))) (fun _ hk => hk.2) (.slice Ao20 t190.length co20)) (fun _ hk => hk.2) (.int .u64 t193)) (fun _ hk => hk.2) (.int .i64 t194)) (fun _ hk => hk.2) (.int .i64 t195)) (fun _ hk => hk.2) (.int .i64 t196)) (fun _ h_ => h_.1))) hb); have n1_ := Aside0.mk (Kd.V_below (by (with_reducible repeat (first | apply Kd.V_alloc | apply Kd.V_drewN | apply Kd.V_drew)); exact (Kd.V_mono (Kd.V_far (p := ⟨gb188, 4, none⟩) (Kd.V_far (p := ⟨gb188, 3, none⟩) (Kd.V_far (p := ⟨gb188, 2, none⟩) (Kd.V_far (p := ⟨gb188, 1, none⟩) (Kd.V_far (p := ⟨gb188, 0, none⟩) (Kd.V_mono HO_199000.out (fun k_ hk => (⟨hk, hk.1⟩ : _ ∧ k_ ≠ gb188))) (fun _ hk => hk.2) (.slice Ao20 t190.length co20)) (fun _ hk => hk.2) (.int .u64 t193)) (fun _ hk => hk.2) (.int .i64 t194)) (fun _ hk => hk.2) (.int .i64 t195)) (fun _ hk => hk.2) (.int .i64 t196)) (fun _ h_ => h_.1))) hb); have n2_ := Aside0.mk (blk_below (g := gb188) (o := .cells #[.slice Ao20 t190.length co20, .int .u64 t193, .int .i64 t194, .int .i64 t195, .int .i64 t196] 28 (0, 0)) (by (with_reducible repeat (first | refine blk_drewN ?_ _ | refine blk_drew ?_ | refine blk_alloc ?_ _)); refine blk_put (cs := #[.slice Ao20 t190.length co20, .int .u64 t193, .int .i64 t194, .int .i64 t195, .int .i64 x189004_2]) ?_ 4 _ rfl; (with_reducible repeat (first | refine blk_drewN ?_ _ | refine blk_drew ?_ | refine blk_alloc ?_ _)); refine blk_put (cs := #[.slice Ao20 t190.length co20, .int .u64 t193, .int .i64 t194, .int .i64 x189003_2, .int .i64 x189004_2]) ?_ 3 _ rfl; (with_reducible repeat (first | refine blk_drewN ?_ _ | refine blk_drew ?_ | refine blk_alloc ?_ _)); refine blk_put (cs := #[.slice Ao20 t190.length co20, .int .u64 t193, .int .i64 x189002_2, .int .i64 x189003_2, .int .i64 x189004_2]) ?_ 2 _ rfl; (with_reducible repeat (first | refine blk_drewN ?_ _ | refine blk_drew ?_ | refine blk_alloc ?_ _)); refine blk_put (cs := #[.slice Ao20 t190.length co20, .int .u64 x189001_2, .int .i64 x189002_2, .int .i64 x189003_2, .int .i64 x189004_2]) ?_ 1 _ rfl; (with_reducible repeat (first | refine blk_drewN ?_ _ | refine blk_drew ?_ | refine blk_alloc ?_ _)); refine blk_put (cs := #[.slice Ao15 x189000_2.length co15, .int .u64 x189001_2, .int .i64 x189002_2, .int .i64 x189003_2, .int .i64 x189004_2]) ?_ 0 _ rfl; (with_reducible repeat (first | refine blk_drewN ?_ _ | refine blk_drew ?_ | refine blk_alloc ?_ _)); exact BK188.out) hb); have n3_ := Aside0.mk (blk_below (g := gb198) (o := .cells #[.slice Ao20 t190.length co20, .int .u64 t193, .int .i64 t194, .int .i64 t195, .int .i64 t196] 28 (0, 0)) (by (with_reducible repeat (first | refine blk_drewN ?_ _ | refine blk_drew ?_ | refine blk_alloc ?_ _)); refine blk_far ?_ NB198_188.out _; (with_reducible repeat (first | refine blk_drewN ?_ _ | refine blk_drew ?_ | refine blk_alloc ?_ _)); refine blk_far ?_ NB198_188.out _; (with_reducible repeat (first | refine blk_drewN ?_ _ | refine blk_drew ?_ | refine blk_alloc ?_ _)); refine blk_far ?_ NB198_188.out _; (with_reducible repeat (first | refine blk_drewN ?_ _ | refine blk_drew ?_ | refine blk_alloc ?_ _)); refine blk_far ?_ NB198_188.out _; (with_reducible repeat (first | refine blk_drewN ?_ _ | refine blk_drew ?_ | refine blk_alloc ?_ _)); refine blk_far ?_ NB198_188.out _; (with_reducible repeat (first | refine blk_drewN ?_ _ | refine blk_drew ?_ | refine blk_alloc ?_ _)); exact BK198.out) hb); have n4_ := Aside0.mk (below_step (by repeat (first | (with_reducible first | exact HB.out | apply below_alloc | apply pw_below_drewN | apply below_drew1 | refine below_set ?_ GE188.out | refine below_set ?_ GE198.out) | exact HB.out)) hb); clear HO_189000; clear HO_199000; clear BK188; clear BK198; clear HB; have HO_189000 := n0_; have HO_199000 := n1_; have BK188 := n2_; have BK198 := n3_; have HB := n4_; clear n0_ n1_ n2_ n3_ n4_; (try clear hb); (try clear hb2); (try clear hk); (try clear hi); have hcz46_0 : w45.cell? ⟨gb188, 0, none⟩ = some (.slice Ao20 t190.length co20) := (blk_cell BK188.out 0).trans rfl; have hcz46_1 : w45.cell? ⟨gb188, 1, none⟩ = some (.int .u64 t193) := (blk_cell BK188.out 1).trans rfl; have hcz46_2 : w45.cell? ⟨gb188, 2, none⟩ = some (.int .i64 t194) := (blk_cell BK188.out 2).trans rfl; have hcz46_3 : w45.cell? ⟨gb188, 3, none⟩ = some (.int .i64 t195) := (blk_cell BK188.out 3).trans rfl; have hcz46_4 : w45.cell? ⟨gb188, 4, none⟩ = some (.int .i64 t196) := (blk_cell BK188.out 4).trans rfl; have hfz46_0 := blk_frozen BK188.out 0; have hfz46_1 := blk_frozen BK188.out 1; have hfz46_2 := blk_frozen BK188.out 2; have hfz46_3 := blk_frozen BK188.out 3; have hfz46_4 := blk_frozen BK188.out 4) | (go_at_call 15; (with_reducible refine (ranges_May.calls kj26 _ _ t190 true _ ?side1 ?side2 A40.out).mono ?_); (case side1 => repeat (first | exact (Kd.V_reads' HO_199000.out).2.2 | (with_reducible refine Kd.C_alloc ?_ _) | (with_reducible refine Kd.C_drewN ?_ _) | (with_reducible refine Kd.C_drew ?_))); (case side2 => exact (Kd.V_reads' HO_199000.out).2.1); rintro e w47 ⟨rfl, hb⟩; replace BM := Aside0.mk (blk_below (g := mb) (o := om) (by (with_reducible repeat (first | refine blk_drewN ?_ _ | refine blk_drew ?_ | refine blk_alloc ?_ _ | refine obj_far ?_ NBm188.out _ | refine obj_far ?_ NBm198.out _)); exact BM.out) hb); have n0_ := Aside0.mk (Kd.V_below (by (with_reducible repeat (first | apply Kd.V_alloc | apply Kd.V_drewN | apply Kd.V_drew)); exact HO_189000.out) hb); have n1_ := Aside0.mk (Kd.V_below (by (with_reducible repeat (first | apply Kd.V_alloc | apply Kd.V_drewN | apply Kd.V_drew)); exact HO_199000.out) hb); have n2_ := Aside0.mk (blk_below (g := gb188) (o := .cells #[.slice Ao20 t190.length co20, .int .u64 t193, .int .i64 t194, .int .i64 t195, .int .i64 t196] 28 (0, 0)) (by (with_reducible repeat (first | refine blk_drewN ?_ _ | refine blk_drew ?_ | refine blk_alloc ?_ _)); exact BK188.out) hb); have n3_ := Aside0.mk (blk_below (g := gb198) (o := .cells #[.slice Ao20 t190.length co20, .int .u64 t193, .int .i64 t194, .int .i64 t195, .int .i64 t196] 28 (0, 0)) (by (with_reducible repeat (first | refine blk_drewN ?_ _ | refine blk_drew ?_ | refine blk_alloc ?_ _)); exact BK198.out) hb); have n4_ := Aside0.mk (below_step (by repeat (first | (with_reducible first | exact HB.out | apply below_alloc | apply pw_below_drewN | apply below_drew1 | refine below_set ?_ GE188.out | refine below_set ?_ GE198.out) | exact HB.out)) hb); clear HO_189000; clear HO_199000; clear BK188; clear BK198; clear HB; have HO_189000 := n0_; have HO_199000 := n1_; have BK188 := n2_; have BK198 := n3_; have HB := n4_; clear n0_ n1_ n2_ n3_ n4_; (try clear hb); (try clear hb2); (try clear hk); (try clear hi)))
                                      go_roundg kj26
                                      case measure => have := HJ1.out; have := HK2.out; have := HJ13.out; have := HJ26.out; omega
                                      case rel => exact ⟨tk, om, (ji35), (wrap64 (x6_2 + 1)), (t190), (t193), (t194), (t195), (t196), (.slice Ao20 t190.length co20), (by first | rfl | (simp; done) | (simp only [← hji35] <;> (first | rfl | simp)) | (simp [*]; done)), (by first | rfl | (simp; done) | (simp [*]; done)), H', ⟨by have := HJ1.out; have := HK2.out; have := HJ13.out; have := HJ26.out; omega⟩, ⟨by (with_reducible repeat (first | apply Kd.V_alloc | apply Kd.V_drewN | apply Kd.V_drew)); exact Kd.V_mono HO_199000.out (fun _ hk => hk.1)⟩, ⟨by (with_reducible repeat (first | refine blk_drewN ?_ _ | refine blk_drew ?_ | refine blk_alloc ?_ _)); exact BK188.out⟩, ⟨by repeat (first | (with_reducible first | exact HB.out | apply below_alloc | apply pw_below_drewN | apply below_drew1 | refine below_set ?_ GE188.out | refine below_set ?_ GE198.out) | exact HB.out)⟩, ⟨(by (with_reducible repeat (first | refine blk_drewN ?_ _ | refine blk_drew ?_ | refine blk_alloc ?_ _ | refine obj_far ?_ NBm188.out _ | refine obj_far ?_ NBm198.out _)); exact BM.out)⟩, ⟨MO.out.next PQ_.out LEN_.out⟩⟩
                                    · replace c41 := Bool.eq_false_iff.mpr c41
                                      subst c41
                                      have H1 : (none) = some r := by rw [if_neg (show ¬ (false = true) by decide)] at H; exact H
                                      clear H
                                      have H := H1
                                      clear H1
                                      exact absurd H (by simp)
                                · rw [if_neg c38] at H
                                  exact absurd H (by simp)
                              · replace c37 := Bool.eq_false_iff.mpr c37
                                subst c37
                                have H1 : (none) = some r := by rw [if_neg (show ¬ (false = true) by decide)] at H; exact H
                                clear H
                                have H := H1
                                clear H1
                                exact absurd H (by simp)
                            · rw [if_neg c34] at H
                              exact absurd H (by simp)
                          · rw [if_neg c33] at H
                            exact absurd H (by simp)
              · rw [if_neg c12] at H
                exact absurd H (by simp)
            · rw [if_neg c11] at H
              have c11b0 : decide (x6_2 < (l0.length : Int)) = false := decide_eq_false c11
              clear c11
              obtain rfl := Option.some.inj H
              go_wp2
              go_ret
              exact ⟨by first | rfl | (simp [errW_none, errW_some] <;> rfl) | (simp [*, errW_none, errW_some] <;> rfl), by repeat (first | (with_reducible first | exact HB.out | apply below_alloc | apply pw_below_drewN | apply below_drew1 | refine below_set ?_ GE188.out) | exact HB.out)⟩

/-- THE ONE PURE STATEMENT of dominolaw13_AcksOnce: yours. -/
def dominolaw13_AcksOnce.Pure : Prop := ∀ (l0 : List Int), l0.length ≤ maxLen → l0.length * 2 ≤ 140737488351232 → (∀ x ∈ l0, (Lit.int .u16 x).wf = true) → ∃ k, dominolaw13_AcksOnce.f k l0 = some true
theorem dominolaw13_AcksOnce.walk (P : dominolaw13_AcksOnce.Pure) (a0 : Option Addr) (len0 cap0 : Nat) (z0 : List Int) (w : World) (w0 : (a0 = none ∧ len0 = 0 ∧ cap0 = 0 ∧ z0 = []) ∨ ∃ x, a0 = some x ∧ len0 ≤ cap0 ∧ cap0 ≤ maxLen ∧ z0.length = cap0 ∧ (∀ i, i < z0.length → w.cell? (x.add i) = some (.int .u16 (z0.getD i 0))) ∧ ∀ n ∈ z0, (Lit.int .u16 n).wf = true) (y0 : len0 * 2 ≤ 140737488351232) :
    Calls Try.prog 6 #[.slice a0 len0 cap0] w fun e w' => e = .returned (.bool true) ∧ Below w.heap.size w w' := by
  obtain ⟨l0, rfl, hr0, hm0, hw0, hc0⟩ := ReadsInt.ofRowC w0
  obtain ⟨k, h⟩ := P l0 hm0 y0 hw0
  refine (dominolaw13_AcksOnce.calls k _ _ l0 true w (Kd.C_of_reads (d := (0 : Int)) (h1 := fun _ => rfl) hr0) hc0 hw0 h).mono ?_
  rintro e w' ⟨rfl, hd⟩
  exact ⟨rfl, hd⟩

end Go.Proofs.Ytlcfjimgnfcdkaa.PAko
