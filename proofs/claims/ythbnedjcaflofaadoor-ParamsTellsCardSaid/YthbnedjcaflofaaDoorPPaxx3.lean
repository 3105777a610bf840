-- printed for this claim by a program of the claim (wip/tools/pp.py over the kit's print)
import Derived.Test.YthbnedjcaflofaaDoorPPaxx0
import Derived.Test.YthbnedjcaflofaaDoorPPaxx2
namespace Go.Proofs.YthbnedjcaflofaaDoor.PPax
open Go.RowKit Go.Proofs.YthbnedjcaflofaaDoorW.PrintWords Go.Proofs.YthbnedjcaflofaaDoorW.PrintLast Go.Proofs.YthbnedjcaflofaaDoorW.PrintMore
attribute [local go_sem] max2_int min2_int max_two min_two max_three min_three max_four min_four   -- for this text's walks alone
set_option linter.unusedVariables false
set_option linter.unusedSimpArgs false

attribute [local go_sem] isSome_setCell_
/-- The table of math/bits in its variable. -/
def Tab (w : World) : Prop := ∀ j, j < 64 → w.cell? ⟨1, j, none⟩ = some (.int .u8 (Lib.deBruijn64tab.getD j 0))
theorem tab_below {w w1 : World} (h : Tab w) (hb : Below w.heap.size w w1) : Tab w1 := fun j hj => up_ hb (h j hj)
set_option maxHeartbeats 1000000 in
theorem tz64_calls (x k idx : Nat) (w : World) (hx0 : ((x : Int) == 0) = false)
    (key : IntKind.u64.wrap (bits BinOp.and IntKind.u64 (x : Int) (IntKind.u64.wrap (-(x : Int))) * 285870213051353865) / 288230376151711744 = (idx : Int))
    (hi : idx < 64) (hk : k < 64) (hcell : w.cell? ⟨1, idx, none⟩ = some (.int .u8 k)) :
    Calls Tryd.prog 43 #[.int .u64 x] w fun e w' => e = .returned (.int .i64 k) ∧ w' = w := by
  go_enter Tryd.func43, Tryd.ntmps43
  go_wp2_with (simp only [key])
  go_ret
  exact ⟨rfl, rfl⟩
theorem tz_calls (x k idx : Nat) (w : World) (hx0 : ((x : Int) == 0) = false)
    (key : IntKind.u64.wrap (bits BinOp.and IntKind.u64 (x : Int) (IntKind.u64.wrap (-(x : Int))) * 285870213051353865) / 288230376151711744 = (idx : Int))
    (hi : idx < 64) (hk : k < 64) (hcell : w.cell? ⟨1, idx, none⟩ = some (.int .u8 k)) :
    Calls Tryd.prog 33 #[.int .u64 x] w fun e w' => e = .returned (.int .i64 k) ∧ w' = w := by
  have H := Aside0.mk hcell
  have KY := Aside0.mk key
  clear hcell key
  go_enter Tryd.func33, Tryd.ntmps33
  go_wp2_with fail
  refine (tz64_calls x k idx _ hx0 KY.out hi hk H.out).mono ?_
  rintro e w1 ⟨rfl, rfl⟩
  go_wp2
  go_ret
  exact ⟨rfl, rfl⟩
def tzOf (m : Nat) : Nat := if m = 1 then 0 else if m = 2 then 1 else if m = 4 then 2 else 3
/-- The widths that there are. -/
theorem tz_of (m : Nat) (hm : m = 1 ∨ m = 2 ∨ m = 4 ∨ m = 8) (w : World) (h : Tab w) :
    Calls Tryd.prog 33 #[.int .u64 (m : Int)] w fun e w' => e = .returned (.int .i64 (tzOf m : Nat)) ∧ w' = w := by
  rcases hm with rfl | rfl | rfl | rfl
  · exact tz_calls 1 0 0 w (by decide) (by decide +kernel) (by decide) (by decide) (h 0 (by decide))
  · exact tz_calls 2 1 1 w (by decide) (by decide +kernel) (by decide) (by decide) (h 1 (by decide))
  · exact tz_calls 4 2 3 w (by decide) (by decide +kernel) (by decide) (by decide) (h 3 (by decide))
  · exact tz_calls 8 3 7 w (by decide) (by decide +kernel) (by decide) (by decide) (h 7 (by decide))

/-! ### varint_Put: function 20 -/
def putB (n : Int) (m : Nat) : Int := Go.bits .or .u8 (spB n (8 - m)) (IntKind.u8.wrap (IntKind.u8.wrap (tzOf m : Int) * 64))
def putL (n : Int) (m : Nat) : List Int := (fixL n).set (8 - m) (putB n m)
def putV (n : Int) (m : Nat) : List Value := (putL n m).map (Value.int .u8)
def varint_Put.f (a0 : Int) : Option (ByteArray × Int) := (varint_Size.f a0).bind fun s => if s = 0 then some ((⟨#[]⟩ : ByteArray), 1) else some (strOfNums ((putL a0 s.toNat).drop (8 - s.toNat)), 0)
theorem size_of (a0 s : Int) (h : varint_Size.f a0 = some s) : s = 0 ∨ ∃ m : Nat, s = m ∧ (m = 1 ∨ m = 2 ∨ m = 4 ∨ m = 8) := by
  unfold varint_Size.f at h
  (repeat' split at h) <;> first | (injection h with h; subst h; first | exact Or.inl rfl | exact Or.inr ⟨1, rfl, by decide⟩ | exact Or.inr ⟨2, rfl, by decide⟩ | exact Or.inr ⟨4, rfl, by decide⟩ | exact Or.inr ⟨8, rfl, by decide⟩) | (simp at h)
theorem put_conv (n : Int) (m g : Nat) (W : World) (hm : m = 1 ∨ m = 2 ∨ m = 4 ∨ m = 8) (hb : W.heap[g]? = some (.cells (putV n m).toArray 75 (0, 0))) :
    (convert 40 9 (.slice (some ⟨g, 8 - m, none⟩) m m)).run Tryd.prog W = .ok (.string (strOfNums ((putL n m).drop (8 - m)))) W := by
  have hl : (putL n m).length = 8 := by simp [putL, fixL]
  have h8 : m ≤ 8 := by omega
  refine string_of_reads (e := 5) Tryd.underlying40 Tryd.underlying5 Tryd.underlying9 ⟨by rw [List.length_drop, hl]; omega, by omega, fun h0 => ⟨_, rfl, fun j hj => ?_⟩⟩
  have ha : (⟨g, 8 - m, none⟩ : Addr).add j = ⟨g, 8 - m + j, none⟩ := by unfold Addr.add; split <;> simp_all
  have hj8 : 8 - m + j < (putL n m).length := by omega
  rw [ha, blk_cell hb]
  simp only [putV, List.getElem?_toArray, List.getElem?_map, List.getElem?_eq_getElem hj8, Option.map_some, List.getD_eq_getElem?_getD, List.getElem?_drop, Option.getD_some]
theorem put_set (n : Int) (m : Nat) (hm : m = 1 ∨ m = 2 ∨ m = 4 ∨ m = 8) : (spV n 8).toArray.setIfInBounds (8 - m) (.int .u8 (putB n m)) = (putV n m).toArray := by
  rw [spV_8]
  simp [putV, putL]
set_option maxHeartbeats 1600000 in
set_option maxRecDepth 100000 in
theorem varint_Put.calls (a0 : Int) (r1 : ByteArray) (r2 : Int) (w : World) (ht : Tab w) (h : varint_Put.f a0 = some (r1, r2)) :
    Calls Tryd.prog 20 #[.int .u64 a0] w fun e w' => e = .returned (.tuple #[.string r1, .int .i64 r2]) ∧ Below w.heap.size w w' := by
  have HT := Aside0.mk ht
  obtain ⟨s, hs, h⟩ := Option.bind_eq_some_iff.1 h
  have HS := Aside0.mk hs
  have hz := size_of a0 s hs
  have HF := Aside0.mk h
  clear ht h hs
  go_enter Tryd.func20, Tryd.ntmps20
  go_wp2_with fail
  refine (varint_Size.calls _ _ _ HS.out).mono ?_
  rintro e w1 ⟨rfl, hb1⟩
  have HB1 := Aside0.mk hb1
  clear hb1
  rcases hz with rfl | ⟨m, rfl, hm⟩
  · have HF' := HF.out
    rw [if_pos rfl] at HF'
    simp only [Option.some.injEq, Prod.mk.injEq] at HF'
    obtain ⟨rfl, rfl⟩ := HF'
    go_wp2
    go_ret2
    exact ⟨rfl, HB1.out⟩
  have HF' := HF.out
  rw [if_neg (by omega), Int.toNat_natCast] at HF'
  simp only [Option.some.injEq, Prod.mk.injEq] at HF'
  obtain ⟨rfl, rfl⟩ := HF'
  clear HF
  have m0 : ((m : Int) == 0) = false := by rw [beq_eq_false_iff_ne]; omega
  go_wp2_with fail
  refine (varint_split_calls a0 _).mono ?_
  rintro e w2 ⟨rfl, hb2⟩
  have HB2 := Aside0.mk (below_step HB1.out hb2)
  clear hb2
  go_wp2_with (((with_reducible refine gate_store (t := 75) (p := 5) rfl ?_); refine store_row_ rfl 75 (.tmp 5) (.tmp 12) rfl rfl w2.heap.size (spV a0 8).toArray rfl rfl 75 _ (heap_alloc_new _ _) (spV_info a0 8) rfl (spV_one a0 8) w.heap.size w (below_alloc HB2.out _) HB2.out.size ?_; intro w3 hb3 hB3 _; have HB3 := Aside0.mk hB3; have HH3 := Aside0.mk hb3; clear hb3 hB3))
  obtain ⟨o, ho⟩ : ∃ o : Nat, 8 - (m : Int) = (o : Int) := ⟨8 - m, by omega⟩
  have hom : 8 - m = o := by omega
  have ho8 : o < 8 := by omega
  have hoi : (o : Int) < 8 := by omega
  have hwm : IntKind.u64.wrap (m : Int) = (m : Int) := by rw [IntKind.wrap_u64]; omega
  rw [ho]
  have hc : w3.drew.cell? ⟨w2.heap.size, o, none⟩ = some (.int .u8 (spB a0 o)) := (blk_cell (blk_drew HH3.out) o).trans (by rw [fixL_get a0 o ho8]; simp [fixL, List.getD_eq_getElem?_getD, ho8])
  have hf : w3.drew.frozen? ⟨w2.heap.size, o, none⟩ = false := blk_frozen (blk_drew HH3.out) o
  have HT3 := Aside0.mk (tab_below HT.out (below_drew1 HB3.out))
  go_still_tail 10, (by kernel_rfl)
  still_call (tz_of m hm _ HT3.out)
  repeat still_step
  refine wpStill_nil ?_
  change wpList _ _ _ _ _ w3.drew
  have HH4 := Aside0.mk (blk_drew HH3.out)
  have HB4 := Aside0.mk (below_drew1 HB3.out)
  clear HT3
  generalize w3.drew = w4 at HH4 HB4 hc hf ⊢
  have hsl : ∀ W, (Instr.sliceAt 75 (.pointer (some ⟨w2.heap.size, 0, none⟩)) (some (.int .i64 (o : Int))) none none).run Tryd.prog W = .ok (.slice (some ⟨w2.heap.size, o, none⟩) m m) W := fun W => by
    have h := sl83 w2.heap.size m o (by omega) (by rw [if_neg (by omega)]; exact hom) W
    rw [ho] at h
    exact h
  generalize hx : bits BinOp.or IntKind.u8 (spB a0 o) (IntKind.u8.wrap (IntKind.u8.wrap (tzOf m : Int) * 64)) = x
  have hpx : putB a0 m = x := by
    unfold putB
    rw [hom]
    exact hx
  have hcv := put_conv a0 m w2.heap.size (w4.setCell ⟨w2.heap.size, o, none⟩ (.int .u8 x)) hm (blk_put HH4.out o _ (by
    have h := put_set a0 m hm
    rw [hom, hpx] at h
    exact h))
  rw [hom] at hcv
  have HLE := Aside0.mk HB2.out.size
  clear hx hpx
  go_wp2
  go_ret2
  rw [hom]
  exact ⟨rfl, below_set HB4.out HLE.out⟩

-- NOT PRINTED: function 21 (strings_Builder_String)

/-! ### strings.Builder at a place of a block that the call has made -/
/-- In block g, from place o on, there is a strings.Builder that holds the bytes s: its row is its own (from block B on), and no part of g. -/
structure Bld (B g o : Nat) (t : TypeId) (cs : List Value) (s : ByteArray) (w : World) : Prop where
  blk : w.heap[g]? = some (.cells cs.toArray t (0, 0))
  low : B ≤ g
  ptr : cs[o]? = some (.pointer none) ∨ cs[o]? = some (.pointer (some ⟨g, o, none⟩))
  row : ∃ v, cs[o + 1]? = some v ∧ w.ownsRow B 5 1 v s.size (Lib.strCells s) ∧ v.ownBlock ≠ some g
/-- The type of the block has a strings.Builder at o. -/
structure BldT (t o n : Nat) : Prop where
  len : o + 1 < n
  lies : liesAt Tryd.prog Tryd.prog.depth t (n / Tryd.prog.cellsOf t) o 47 1 = true
  ne : t ≠ 5
theorem bld_size : (Tryd.prog.info? 47).map (·.size) = some 2 := by kernel_rfl
theorem bld_info5 : (Tryd.prog.info? 5).map (fun i => (i.zero, i.size, i.bytes)) = some (some (.int .u8 0), 1, 1) := by kernel_rfl
theorem Bld.cell {B g o : Nat} {t : TypeId} {cs : List Value} {s : ByteArray} {w : World} (h : Bld B g o t cs s w) (i : Nat) : w.cell? ⟨g, i, none⟩ = cs[i]? := by
  have := blk_cell h.blk i
  simpa using this
theorem Bld.frozen {B g o : Nat} {t : TypeId} {cs : List Value} {s : ByteArray} {w : World} (h : Bld B g o t cs s w) (i : Nat) : w.frozen? ⟨g, i, none⟩ = false := blk_frozen h.blk i
theorem Bld.below {B g o : Nat} {t : TypeId} {cs : List Value} {s : ByteArray} {w w' : World} (h : Bld B g o t cs s w) (hb : Below w.heap.size w w') : Bld B g o t cs s w' := by
  obtain ⟨v, hv, ho, hne⟩ := h.row
  exact ⟨blk_below h.blk hb, h.low, h.ptr, v, hv, ho.kept (grown_of_below hb none) (by cases h1 : v.ownBlock <;> simp), hne⟩
theorem Bld.drewN {B g o : Nat} {t : TypeId} {cs : List Value} {s : ByteArray} {w : World} (h : Bld B g o t cs s w) (n : Nat) : Bld B g o t cs s (w.drewN n) := by
  obtain ⟨v, hv, ho, hne⟩ := h.row
  exact ⟨blk_drewN h.blk n, h.low, h.ptr, v, hv, pw_own_drewN ho n, hne⟩
theorem Bld.drew {B g o : Nat} {t : TypeId} {cs : List Value} {s : ByteArray} {w : World} (h : Bld B g o t cs s w) : Bld B g o t cs s w.drew := by
  obtain ⟨v, hv, ho, hne⟩ := h.row
  exact ⟨blk_drew h.blk, h.low, h.ptr, v, hv, own_drew ho, hne⟩
theorem strCells_append (a b : ByteArray) : Lib.strCells (a ++ b) = Lib.strCells a ++ Lib.strCells b := by
  simp [Lib.strCells]
set_option maxHeartbeats 1000000 in
set_option maxRecDepth 100000 in
theorem bld_check (B g o : Nat) (t : TypeId) (cs : List Value) (s : ByteArray) (w : World) (T : BldT t o cs.length) (h : Bld B g o t cs s w) :
    Calls Tryd.prog 29 #[.pointer (some ⟨g, o, none⟩)] w fun e w' => e = .returned (.tuple #[]) ∧ Bld B g o t (cs.set o (.pointer (some ⟨g, o, none⟩))) s w' ∧ w'.heap.size = w.heap.size ∧ Below B w w' ∧ w.grownBy w' (some g) := by
  obtain ⟨j, hj, hjs⟩ := Option.map_eq_some_iff.1 bld_size
  have hl := T.len
  have hlo : o < cs.length := by omega
  rcases h.ptr with hp | hp
  · have c0 : w.cell? ⟨g, o, none⟩ = some (.pointer none) := (h.cell o).trans hp
    have hf := h.frozen o
    have hsh : w.shape? g = some (t, cs.length) := by simp [World.shape?, h.blk]
    have HH := Aside0.mk h
    have HP := Aside0.mk hp
    clear h hp
    go_enter Tryd.func29, Tryd.ntmps29
    go_wp2
    rw [Lib.run_to_unsafe w ⟨g, o, none⟩ Tryd.underlying45 Tryd.underlying83 hj (by rw [hjs]; decide) hsh hlo]
    simp only [Result.andThen]
    rw [Oper.upon_value]
    go_wp2
    rw [run_callFunc_extern Tryd.func39 (by kernel_rfl) (by kernel_rfl) (by kernel_rfl) (e := Extern.AbiNoEscape.same) (by kernel_rfl)]
    rw [Lib.run_noEscape]
    simp only [Result.andThen]
    rw [Oper.upon_value]
    go_wp2
    rw [Lib.run_from_unsafe w ⟨g, o, none⟩ Tryd.underlying83 Tryd.underlying45 hj hsh T.lies]
    simp only [Result.andThen]
    rw [Oper.upon_value]
    go_wp2
    go_end0
    obtain ⟨v, hv, ho, hne⟩ := HH.out.row
    have hg : w.grownBy (w.setCell ⟨g, o, none⟩ (.pointer (some ⟨g, o, none⟩))) (some g) :=
      ⟨rfl, rfl, rfl, by simp [World.setCell], fun k _ hk => Below.heap_setCell _ _ _ _ (fun e => hk (by rw [e]))⟩
    refine ⟨rfl, ⟨blk_put HH.out.blk o _ (by simp), HH.out.low, Or.inr (by simp [hlo]), v, ?_, ho.kept hg (Or.inr hne), hne⟩, by simp [World.setCell], (Below.refl B w).setCell (p := ⟨g, o, none⟩) HH.out.low _, hg⟩
    rw [List.getElem?_set_ne (by omega)]; exact hv
  · have c0 : w.cell? ⟨g, o, none⟩ = some (.pointer (some ⟨g, o, none⟩)) := (h.cell o).trans hp
    have e : cs.set o (.pointer (some ⟨g, o, none⟩)) = cs := by
      apply List.ext_getElem?
      intro i
      rw [List.getElem?_set]
      split
      · rename_i h1; subst h1; first | exact hp.symm | (rw [if_pos hlo]; exact hp.symm)
      · rfl
    rw [e]
    have HH := Aside0.mk h
    clear h hp e
    go_enter Tryd.func29, Tryd.ntmps29
    go_wp2
    rw [Lib.run_neq_ptr_same w _ Tryd.underlying45 hj]
    go_wp2
    go_end0
    exact ⟨rfl, HH.out, rfl, Below.refl B w, ⟨rfl, rfl, rfl, Nat.le_refl _, fun _ _ _ => rfl⟩⟩
set_option maxHeartbeats 2000000 in
set_option maxRecDepth 100000 in
theorem bld_write (B g o : Nat) (t : TypeId) (cs : List Value) (s x : ByteArray) (w : World) (T : BldT t o cs.length) (h : Bld B g o t cs s w) (hlen : s.size + x.size ≤ 140737488355328) (hBw : B ≤ w.heap.size) :
    Calls Tryd.prog 18 #[.pointer (some ⟨g, o, none⟩), .string x] w fun e w' => e = .returned (.tuple #[.int .i64 x.size, .nilIface]) ∧
      (∃ v, Bld B g o t ((cs.set o (.pointer (some ⟨g, o, none⟩))).set (o + 1) v) (s ++ x) w') ∧ Below B w w' := by
  obtain ⟨i0, hi, hz0, hz1, hz2⟩ := info_parts bld_info5
  have hl := T.len
  go_enter Tryd.func18, Tryd.ntmps18
  go_wp2_with fail
  refine (bld_check B g o t cs s _ T h).mono ?_
  rintro e w1 ⟨rfl, h1, hz, hb1, hg1⟩
  clear h
  obtain ⟨v, hv, ho, hne⟩ := h1.row
  have c1 : w1.cell? ⟨g, o + 1, none⟩ = some v := (h1.cell (o + 1)).trans hv
  have H1 := Aside0.mk h1
  have HV := Aside0.mk hv
  have HZ := Aside0.mk hz
  clear h1 hv hz
  go_wp2_with (at_builtin; refine Lib.wpList_append_own_string _ rfl _ _ 40 9 rfl B 5 i0 Tryd.underlying40 Tryd.underlying9 hi hz0 hz1 hz2 _ _ _ rfl ho x rfl ?c3 ?c4 ?c5 ?_)
  case c3 => unfold maxLen; omega
  case c4 => omega
  case c5 => rw [HZ.out]; exact hBw
  intro v' w2 hown' hgrow _
  have hlt : g < w1.heap.size := blk_lt H1.out.blk
  have hb2 := blk_grown H1.out.blk hgrow (fun e => hne e.symm)
  have d1 : w2.cell? ⟨g, o + 1, none⟩ = some v := by
    have := blk_cell hb2 (o + 1)
    exact this.trans (by simpa using HV.out)
  have f1 : w2.frozen? ⟨g, o + 1, none⟩ = false := blk_frozen hb2 _
  obtain ⟨ao, n', cap, rfl⟩ : ∃ ao n' cap, v' = .slice ao n' cap := by
    rcases hown'.2 with ⟨hv, _⟩ | ⟨g, cap, cur, hv, _⟩
    · exact ⟨_, _, _, hv⟩
    · exact ⟨_, _, _, hv⟩
  have HO := Aside0.mk hown'
  have HG := Aside0.mk hgrow
  have HB2 := Aside0.mk hb2
  have HO1 := Aside0.mk ho
  clear hown' hgrow hb2 ho c1
  go_wp2
  go_ret2
  have hg : w2.grownBy (w2.setCell ⟨g, o + 1, none⟩ (.slice ao n' cap)) (some g) :=
    ⟨rfl, rfl, rfl, by simp [World.setCell], fun k _ hk => Below.heap_setCell _ _ _ _ (fun e => hk (by rw [e]))⟩
  have hne2 : (Value.slice ao n' cap).ownBlock ≠ some g := by
    intro e
    rcases HO.out.2 with ⟨hv, _⟩ | ⟨g', cap', cur, hv, _, hh, _⟩
    · rw [hv] at e; simp [Value.ownBlock] at e
    · rw [hv] at e
      simp [Value.ownBlock] at e
      subst e
      rw [HB2.out] at hh
      injection hh with hh
      injection hh with _ hh _
      exact T.ne hh
  refine ⟨rfl, ⟨.slice ao n' cap, ?_, H1.out.low, ?_, .slice ao n' cap, ?_, ?_, hne2⟩, ?_⟩
  · exact blk_put HB2.out (o + 1) _ (by simp)
  · rw [List.getElem?_set_ne (by omega)]; exact Or.inr (by rw [List.getElem?_set_self (by omega)])
  · rw [List.getElem?_set_self (by simp; omega)]
  · have := HO.out.kept hg (Or.inr hne2)
    rw [strCells_append]
    have hs : (s ++ x).size = s.size + x.size := ByteArray.size_append
    rw [hs]
    simpa [Lib.strCells_length] using this
  · exact (hb1.grown HG.out (by rw [HZ.out]; exact hBw) (fun k hk => (HO1.out.lt k hk).1)).setCell (p := ⟨g, o + 1, none⟩) H1.out.low _
theorem strCells_byteCells (s : ByteArray) : Lib.strCells s = Lib.byteCells s.data.toList := by
  simp [Lib.strCells, Lib.byteCells]
set_option maxHeartbeats 1000000 in
set_option maxRecDepth 100000 in
theorem bld_string (B g o : Nat) (t : TypeId) (cs : List Value) (s : ByteArray) (w : World) (h : Bld B g o t cs s w) :
    Calls Tryd.prog 21 #[.pointer (some ⟨g, o, none⟩)] w fun e w' => e = .returned (.string s) ∧ Below B w w' := by
  obtain ⟨v, hv, ho, hne⟩ := h.row
  by_cases h0 : s.size = 0
  · have hs : s = ⟨#[]⟩ := by
      cases s with
      | mk d =>
        have : d = #[] := Array.eq_empty_of_size_eq_zero h0
        rw [this]
    have hUS : ∀ (W : World) (q : Option Addr), (Builtin.unsafeString_ #[79, 3] 9 #[.pointer q, .int .i64 0]).run Tryd.prog W = .ok (.string .empty) W := fun W q => Lib.run_unsafeString_none W _ _ _ q
    rcases ho.2 with ⟨rfl, _⟩ | ⟨gr, cap, cur, rfl, hbg, hg, hnc, hcm, hcs, htake⟩
    · have c1 : w.drew.cell? ⟨g, o + 1, none⟩ = some (.slice none 0 0) := (h.cell (o + 1)).trans hv
      have hSD : (Builtin.unsafeSliceData_ #[40] 79 #[.slice none 0 0]).run Tryd.prog w.drew = .ok (.pointer none) w.drew := rfl
      clear h hv ho
      subst hs
      go_enter Tryd.func21, Tryd.ntmps21
      go_wp2
      go_region
      all_goals (go_wp2; go_ret; exact ⟨rfl, Below.drew (Below.refl B w)⟩)
    · rw [h0] at hv
      by_cases hc0 : cap = 0
      · subst hc0
        have hlt : g < w.heap.size := blk_lt h.blk
        have c0 : w.cell? ⟨g, o + 1, none⟩ = some (.slice (some ⟨gr, 0, none⟩) 0 0) := (h.cell (o + 1)).trans hv
        have c1 : w.drew.cell? ⟨g, o + 1, none⟩ = some (.slice (some ⟨gr, 0, none⟩) 0 0) := c0
        have hSD : (Builtin.unsafeSliceData_ #[40] 79 #[.slice (some ⟨gr, 0, none⟩) 0 0]).run Tryd.prog w.drew = .ok (.pointer (some ⟨w.drew.heap.size, 0, none⟩)) (w.drew.alloc (.view ⟨gr, 0, none⟩ 5)) :=
          Lib.run_unsafeSliceData_zero w.drew _ _ 5 Tryd.underlying79 ⟨gr, 0, none⟩ 0 (5, cur.size) (by have hg' : w.drew.heap[gr]? = some (.cells cur 5 (0, 0)) := hg; simp [World.shape?, hg'])
        have c2 : (w.drew.alloc (.view ⟨gr, 0, none⟩ 5)).cell? ⟨g, o + 1, none⟩ = some (.slice (some ⟨gr, 0, none⟩) 0 0) := (World.cell?_alloc_lt _ _ _ hlt).trans c1
        have c3 : (w.alloc (.view ⟨gr, 0, none⟩ 5)).drew.cell? ⟨g, o + 1, none⟩ = some (.slice (some ⟨gr, 0, none⟩) 0 0) := c2
        have HB := Aside0.mk (Nat.le_of_lt (Nat.lt_of_le_of_lt h.low hlt))
        clear h hv ho hlt hbg hg hnc hcm hcs htake
        subst hs
        go_enter Tryd.func21, Tryd.ntmps21
        go_wp2
        go_region
        all_goals (go_wp2; go_ret; exact ⟨rfl, (Below.drew (Below.refl B w)).alloc HB.out _⟩)
      · have c1 : w.drew.cell? ⟨g, o + 1, none⟩ = some (.slice (some ⟨gr, 0, none⟩) 0 cap) := (h.cell (o + 1)).trans hv
        have hSD : (Builtin.unsafeSliceData_ #[40] 79 #[.slice (some ⟨gr, 0, none⟩) 0 cap]).run Tryd.prog w.drew = .ok (.pointer (some ⟨gr, 0, none⟩)) w.drew :=
          Lib.run_unsafeSliceData_row _ _ _ _ _ _ hc0
        clear h hv ho hc0 hbg hg hnc hcm hcs htake
        subst hs
        go_enter Tryd.func21, Tryd.ntmps21
        go_wp2
        go_region
        all_goals (go_wp2; go_ret; exact ⟨rfl, Below.drew (Below.refl B w)⟩)
  · obtain ⟨gr, cap, cur, rfl, hbg, hg, hnc, hcm, hcs, htake⟩ : ∃ gr cap cur, v = .slice (some ⟨gr, 0, none⟩) s.size cap ∧ B ≤ gr ∧ w.heap[gr]? = some (.cells cur 5 (0, 0)) ∧ s.size ≤ cap ∧ cap ≤ maxLen ∧ cur.size = cap * 1 ∧ cur.toList.take (s.size * 1) = Lib.strCells s := by
      rcases ho.2 with ⟨_, hz⟩ | ⟨gr, cap, cur, hv, r⟩
      · exact absurd hz h0
      · exact ⟨gr, cap, cur, hv, r⟩
    have c1 : w.drew.cell? ⟨g, o + 1, none⟩ = some (.slice (some ⟨gr, 0, none⟩) s.size cap) := (h.cell (o + 1)).trans hv
    have hsz : s.data.toList.length = s.size := Array.length_toList
    have hSD : (Builtin.unsafeSliceData_ #[40] 79 #[.slice (some ⟨gr, 0, none⟩) s.size cap]).run Tryd.prog w.drew = .ok (.pointer (some ⟨gr, 0, none⟩)) w.drew :=
      Lib.run_unsafeSliceData_row _ _ _ _ _ _ (by omega)
    have hUS : (Builtin.unsafeString_ #[79, 3] 9 #[.pointer (some ⟨gr, 0, none⟩), .int .i64 s.size]).run Tryd.prog w.drew = .ok (.string s) (w.drew.freeze ⟨gr, 0, none⟩ s.size) := by
      have := Lib.run_unsafeString_row (P := Tryd.prog) w.drew 79 3 9 5 Tryd.underlying79 (by kernel_rfl) gr cur.size (by have hg' : w.drew.heap[gr]? = some (.cells cur 5 (0, 0)) := hg; simp [World.shape?, hg']) s.data.toList (by intro e; rw [e] at hsz; simp at hsz; omega) (by omega) (by unfold maxLen at hcm; omega) (by
        intro j x hx
        have := ho.cells (g := gr) rfl j (.int .u8 x.toNat) (by rw [strCells_byteCells]; simp [Lib.byteCells, hx])
        exact this)
      rw [hsz] at this
      have e : (⟨s.data.toList.toArray⟩ : ByteArray) = s := by cases s; simp
      rw [e] at this
      exact this
    have HB := Aside0.mk hbg
    clear h hv ho hbg hg hnc hcm hcs htake hsz
    go_enter Tryd.func21, Tryd.ntmps21
    go_wp2
    go_region
    all_goals (go_wp2; go_ret; exact ⟨rfl, Lib.below_freeze (Below.drew (Below.refl B w)) (p := ⟨gr, 0, none⟩) HB.out _⟩)

/-! ### varint_Puts: function 30 -/
def putsL : List Int → ByteArray → Option (ByteArray × Int)
  | [], s => some (s, 0)
  | n :: t, s => (varint_Put.f n).bind fun p => if p.2 = 0 then (if s.size + p.1.size ≤ 140737488355328 then putsL t (s ++ p.1) else none) else some ((⟨#[]⟩ : ByteArray), p.2)
def varint_Puts.f (l0 : List Int) : Option (ByteArray × Int) := putsL l0 (⟨#[]⟩ : ByteArray)
theorem puts_T : BldT 47 0 2 := ⟨by decide, by kernel_rfl, by decide⟩
set_option maxHeartbeats 1600000 in
set_option maxRecDepth 100000 in
theorem varint_Puts.calls (A0 : Option Addr) (c0 : Nat) (l0 : List Int) (r1 : ByteArray) (r2 : Int) (w : World) (hr0 : Kd.C (Kd.int .u64) w A0 l0.length l0) (hc0 : l0.length ≤ c0) (ht : Tab w) (h : varint_Puts.f l0 = some (r1, r2)) :
    Calls Tryd.prog 30 #[.slice A0 l0.length c0] w fun e w' => e = .returned (.tuple #[.string r1, .int .i64 r2]) ∧ Below w.heap.size w w' := by
  have hn : l0.length ≤ 9223372036854775807 := hr0.2.1
  have HR := Aside0.mk hr0
  have HT := Aside0.mk ht
  have HF := Aside0.mk h
  clear hr0 ht h
  go_enter Tryd.func30, Tryd.ntmps30
  go_wp2
  obtain ⟨g, hg⟩ : ∃ g, g = w.heap.size := ⟨_, rfl⟩
  rw [← hg]
  have HG := Aside0.mk hg
  clear hg
  go_loopw [11] (fun i wr => ∃ (k : Nat) (p v : Value) (s : ByteArray), k ≤ l0.length ∧ i = .int .i64 k ∧ Aside0 (putsL (l0.drop k) s = some (r1, r2)) ∧ Aside0 (Bld w.heap.size g 0 47 [p, v] s wr) ∧ Aside0 (Below w.heap.size w wr)) (fun i _ => l0.length - (intOf i).toNat)
  case atStart =>
    refine ⟨0, .pointer none, .slice none 0 0, ⟨#[]⟩, by omega, rfl, ⟨by rw [List.drop_zero]; exact HF.out⟩, ⟨⟨by rw [HG.out]; exact heap_alloc_new _ _, by rw [HG.out]; exact Nat.le_refl _, Or.inl rfl, .slice none 0 0, rfl, World.ownsRow_nil _ _ _ _, by simp [Value.ownBlock]⟩⟩, ⟨below_alloc (Below.refl _ _) _⟩⟩
  case round =>
    obtain ⟨k, p, v, s, hk, rfl, HP, HD, HB⟩ := hrel
    by_cases hlt : k < l0.length
    · obtain ⟨ad, rfl, hx⟩ := Kd.at_int HR.out (k : Int) (by omega) (by omega)
      rw [Int.toNat_natCast] at hx
      replace hx := (HB.out.cell (World.block_lt_of_cell? w _ hx)).trans hx
      have e : l0.drop k = rd l0 (k : Int) :: l0.drop (k + 1) := by
        rw [List.drop_eq_getElem_cons hlt]
        congr 1
        unfold rd
        rw [Int.toNat_natCast, List.getD_eq_getElem?_getD, List.getElem?_eq_getElem hlt]
        rfl
      have hp := HP.out
      rw [e, putsL] at hp
      obtain ⟨⟨t1, t2⟩, h1, h2⟩ := Option.bind_eq_some_iff.1 hp
      have H1 := Aside0.mk h1
      clear HP hp h1 e
      go_wp2_with fail
      refine (varint_Put.calls _ _ _ _ (tab_below HT.out HB.out) H1.out).mono ?_
      rintro e w3 ⟨rfl, hb3⟩
      have HD3 := Aside0.mk (HD.out.below hb3)
      have HB3 := Aside0.mk (below_step HB.out hb3)
      clear hb3 hx
      by_cases h0 : t2 = 0
      · subst h0
        rw [if_pos rfl] at h2
        by_cases hs : s.size + t1.size ≤ 140737488355328
        · rw [if_pos hs] at h2
          have H2 := Aside0.mk h2
          have HS := Aside0.mk hs
          clear h2 hs
          go_wp2_with fail
          refine (bld_write _ _ _ _ _ _ _ _ puts_T HD3.out HS.out HB3.out.size).mono ?_
          rintro e w4 ⟨rfl, ⟨v4, hd4⟩, hb4⟩
          have HD4 := Aside0.mk hd4
          have HB4 := Aside0.mk (HB3.out.trans hb4)
          clear hd4 hb4
          go_wp2
          go_roundw
          case rel => exact ⟨k + 1, _, _, _, by omega, by go_num, H2, HD4, HB4⟩
          case measure => simp [intOf]; omega
        · rw [if_neg hs] at h2
          exact absurd h2 (by simp)
      · rw [if_neg h0] at h2
        have hne : (t2 != 0) = true := bne_iff_ne.2 h0
        have hne2 : (t2 == 0) = false := beq_eq_false_iff_ne.2 h0
        simp only [Option.some.injEq, Prod.mk.injEq] at h2
        obtain ⟨rfl, rfl⟩ := h2
        clear h0
        go_wp2
        go_ret2
        exact ⟨rfl, HB3.out⟩
    · have e : l0.drop k = [] := List.drop_of_length_le (by omega)
      have hp := HP.out
      rw [e, putsL] at hp
      simp only [Option.some.injEq, Prod.mk.injEq] at hp
      obtain ⟨rfl, rfl⟩ := hp
      have hk2 : l0.length ≤ k := by omega
      clear hlt HP
      go_wp2_with fail
      refine (bld_string _ _ _ _ _ _ _ HD.out).mono ?_
      rintro e w4 ⟨rfl, hb4⟩
      have HB4 := Aside0.mk hb4
      clear hb4
      go_wp2
      go_ret2
      exact ⟨rfl, HB.out.trans HB4.out⟩

/-! ### params_pair: function 19 -/
def params_pair.f (a0 : Int) (a1 : ByteArray) : Option (ByteArray) := (varint_Puts.f (([a0, (a1.size : Int)] : List Int))).bind fun bt106 => (if bt106.1.size + a1.size ≤ 9223372036854775807 then (some (bt106.1 ++ a1)) else (none))
set_option maxHeartbeats 8000000 in
set_option maxRecDepth 100000 in
theorem params_pair.calls (a0 : Int) (a1 : ByteArray) (r : ByteArray) (w : World) (ht : Tab w) (h : params_pair.f a0 a1 = some r) :
  Calls Tryd.prog 19 #[.int .u64 a0, .string a1] w fun e w' => e = .returned (.string r) ∧ Below w.heap.size w w' := by
 have HTab := Aside0.mk ht
 clear ht
 have HB := Aside0.mk (Below.refl w.heap.size w)
 have H : ((varint_Puts.f (([a0, (a1.size : Int)] : List Int))).bind fun bt106 => (if bt106.1.size + a1.size ≤ 9223372036854775807 then (some (bt106.1 ++ a1)) else (none))) = some r := h
 clear h
 obtain ⟨y103, hy103⟩ : ∃ y_ : List Int, y_ = (([a0, (a1.size : Int)] : List Int)) := ⟨_, rfl⟩
 replace H : ((varint_Puts.f y103).bind fun bt106 => (if bt106.1.size + a1.size ≤ 9223372036854775807 then (some (bt106.1 ++ a1)) else (none))) = some r := by first | (rw [hy103]; with_reducible exact H) | (have H2_ := (Option.bind_some _ _).symm.trans H; rw [hy103]; with_reducible exact H2_) | (have H2_ := (Option.bind_some _ _).symm.trans H; with_reducible exact H2_) | with_reducible exact H | (rw [hy103]; exact H) | exact H
 have Ny103 := Aside0.mk hy103
 clear hy103
 replace H := Option.bind_eq_some_iff.mp H
 obtain ⟨⟨t106, t107⟩, A30, H⟩ := H
 replace H : (if t106.size + a1.size ≤ 9223372036854775807 then (some (t106 ++ a1)) else (none)) = some r := H
 have A3 := Aside0.mk A30
 clear A30
 by_cases c4 : t106.size + a1.size ≤ 9223372036854775807
 ·rw [if_pos c4] at H
  have c4b0 := eq_true c4
  have c4b1 : decide (t106.size + a1.size ≤ 9223372036854775807) = true := decide_eq_true c4
  try have c4b2 : (9223372036854775807 < t106.size + a1.size) = False := eq_false (Nat.not_lt.2 c4)
  obtain rfl := Option.some.inj H
  go_enter Tryd.func19, Tryd.ntmps19
  go_wp2_with (first | ((with_reducible refine gate_dst (N := 12) rfl ?_); refine Kd.R_lit (Kd.int .u64) _ 22 ?hg (N := 12) ?hd (xs := ([a0, (a1.size : Int)] : List Int)) (inner := [.int .u64 a0, .int .u64 ((a1.size : Int))]) (ok := fun _ => True) (okp := fun _ => True) ?hr ?hp (fun _ hk => hk) trivial (Below.refl _ _) (Nat.le_refl _) (by simp) ?_; (case hd => rfl); (case hg => rfl); (case hr => first | (go_simp; done) | (go_simp; rfl)); (case hp => exact (Reps.one (show Kd.M (Kd.int .u64) _ _ _ a0 [.int .u64 a0] from rfl) (Reps.one (show Kd.M (Kd.int .u64) _ _ _ ((a1.size : Int)) [.int .u64 ((a1.size : Int))] from rfl) (Reps.none _ _)))); intro v104 w5 ho6 hb hg_ hnew_; clear hg_ hnew_; (first | rw [← Ny103.out] at ho6 | (simp only [Int.reduceToNat] at ho6; rw [← Ny103.out] at ho6)); have n0_ := Aside0.mk (Kd.R_lower ho6 (below_size (by repeat (first | (with_reducible first | exact HB.out | apply below_alloc | apply pw_below_drewN | apply below_drew1) | exact HB.out)))); have n1_ := Aside0.mk (below_step (by repeat (first | (with_reducible first | exact HB.out | apply below_alloc | apply pw_below_drewN | apply below_drew1) | exact HB.out)) hb); clear HB; have HO105 := n0_; have HB := n1_; clear n0_ n1_; clear hb ho6; obtain ⟨Ao7, co7, eo7⟩ := Kd.R_slice HO105.out; subst eo7) | ((with_reducible refine gate_callee (f := 30) rfl ?_); refine goesL_ (some 13) rfl rfl Tryd.func30 (by kernel_rfl) rfl #[.slice Ao7 y103.length co7] rfl (by (try simp only [List.map_toArray, List.map_cons, List.map_nil]); first | done | rfl | (simp only [List.length_drop, List.length_take]; rfl)) ?_; (with_reducible refine (varint_Puts.calls _ _ y103 t106 t107 _ ?side1 ?side2 (by first | exact HTab.out | exact tab_below HTab.out HB.out | exact (tab_below HTab.out (by repeat (first | (with_reducible first | exact HB.out | apply below_alloc | apply pw_below_drewN | apply below_drew1) | exact HB.out))) | exact tab_below HTab.out (by repeat (first | exact HB.out | exact Below.refl _ _ | apply below_alloc | apply pw_below_drewN | apply below_drew1))) A3.out).mono ?_); (case side1 => repeat (first | exact (Kd.R_reads' HO105.out).2.2 | (with_reducible refine Kd.C_alloc ?_ _) | (with_reducible refine Kd.C_drewN ?_ _) | (with_reducible refine Kd.C_drew ?_))); (case side2 => exact (Kd.R_reads' HO105.out).2.1); rintro e w8 ⟨rfl, hb⟩; refine ⟨_, rfl, ?_⟩; have n0_ := Aside0.mk (Kd.R_below (by (with_reducible repeat (first | apply Kd.R_alloc | apply Kd.R_drewN | apply Kd.R_drew)); exact HO105.out) hb); have n1_ := Aside0.mk (below_step (by repeat (first | (with_reducible first | exact HB.out | apply below_alloc | apply pw_below_drewN | apply below_drew1) | exact HB.out)) hb); clear HO105; clear HB; have HO105 := n0_; have HB := n1_; clear n0_ n1_; (try clear hb); (try clear hb2); (try clear hk); (try clear hi)))
  go_ret
  exact ⟨by first | rfl | (simp [errW_none, errW_some] <;> rfl) | (simp [*, errW_none, errW_some] <;> rfl), by repeat (first | (with_reducible first | exact HB.out | apply below_alloc | apply pw_below_drewN | apply below_drew1) | exact HB.out)⟩
 ·rw [if_neg c4] at H
  exact absurd H (by simp)

-- NOT PRINTED: function 9 (params_Put)

-- NOT PRINTED: function 24 (params_pairs)


/-! ### a row of bytes that a conversion has made, byte by byte -/
structure BRow (g : Nat) (m : List Int) (w0 w : World) : Prop where
  cell : ∀ j, j < m.length → w.cell? ⟨g, j, none⟩ = some (.int .u8 (m.getD j 0))
  free : ∀ j, j < m.length → w.frozen? ⟨g, j, none⟩ = false
  below : Below w0.heap.size w0 w
  low : w0.heap.size ≤ g
theorem below_bytes_ (w : World) (e : TypeId) (s : ByteArray) : Below w.heap.size w (Lib.bytesWorld w e s) :=
  ⟨rfl, rfl, rfl, by rw [Lib.bytesWorld_size]; omega, fun k hk => Lib.bytesWorld_at_old w e s k hk⟩
theorem BRow.new (w : World) (s : ByteArray) : BRow w.heap.size (bytesOf s) w (Lib.bytesWorld w 5 s) := by
  refine ⟨fun j hj => ?_, fun j hj => ?_, below_bytes_ w 5 s, Nat.le_refl _⟩
  · rw [bytesOf_length] at hj
    rw [Lib.bytesWorld_cell w 5 s j hj]
    unfold bytesOf
    simp [List.getD_eq_getElem?_getD, hj]
  · rw [bytesOf_length] at hj
    unfold World.frozen?
    rw [Lib.bytesWorld_at_new]
    have : s.size ≤ (Lib.bytesCells w 5 s).size := by simp [Lib.bytesCells]
    simp
    omega
theorem BRow.drew {g : Nat} {m : List Int} {w0 w : World} (h : BRow g m w0 w) : BRow g m w0 w.drew := ⟨h.cell, h.free, below_drew1 h.below, h.low⟩
theorem BRow.put {g : Nat} {m : List Int} {w0 w : World} (h : BRow g m w0 w) (k : Nat) (hk : k < m.length) (x : Int) : BRow g (m.set k x) w0 (w.setCell ⟨g, k, none⟩ (.int .u8 x)) := by
  refine ⟨fun j hj => ?_, fun j hj => ?_, below_set h.below h.low, h.low⟩
  · rw [List.length_set] at hj
    by_cases e : k = j
    · subst e
      rw [World.cell?_setCell_same w ⟨g, k, none⟩ (.int .u8 x) (h.cell k hk)]
      simp [List.getD_eq_getElem?_getD, hk]
    · rw [World.cell?_setCell_other w ⟨g, k, none⟩ ⟨g, j, none⟩ (.int .u8 x) (fun h => e (by injection h)), h.cell j hj]
      simp [List.getD_eq_getElem?_getD, e]
  · rw [List.length_set] at hj
    exact (World.frozen?_setCell _ _ _ _).trans (h.free j hj)
theorem BRow.reads {g : Nat} {m : List Int} {w0 w : World} (h : BRow g m w0 w) (hm : m.length ≤ 9223372036854775807) : ReadsInt w .u8 (some ⟨g, 0, none⟩) m.length m :=
  ⟨rfl, hm, fun _ => ⟨_, rfl, fun j hj => by
    have e : (⟨g, 0, none⟩ : Addr).add j = ⟨g, j, none⟩ := by unfold Addr.add; split <;> simp_all
    rw [e]; exact h.cell j hj⟩⟩
theorem toNat1_ (i : Nat) : ((1 : Int) + (i : Int)).toNat = 1 + i := by omega
theorem bt1_ (a : ByteArray) (i : Nat) : ∀ h : 1 + i < a.size, ((a[1 + i]'h).toNat : Int) = bt a (1 + (i : Int)) := fun h => by
  have h2 := bt_at a (1 + (i : Int)) (by rw [toNat1_]; exact h)
  simpa only [toNat1_] using h2

/-! ### strings.Builder at a place of a block that the call has made -/
/-- Below B all is as it was, but for block g. -/
structure KeptG (B g : Nat) (w w' : World) : Prop where
  os : w'.os = w.os
  tape : w'.tape = w.tape
  output : w'.output = w.output
  size : w.heap.size ≤ w'.heap.size
  block : ∀ k, k < B → k ≠ g → w'.heap[k]? = w.heap[k]?
theorem KeptG.refl (B g : Nat) (w : World) : KeptG B g w w := ⟨rfl, rfl, rfl, Nat.le_refl _, fun _ _ _ => rfl⟩
theorem KeptG.trans {B g : Nat} {a b c : World} (h1 : KeptG B g a b) (h2 : KeptG B g b c) : KeptG B g a c :=
  ⟨h2.os.trans h1.os, h2.tape.trans h1.tape, h2.output.trans h1.output, Nat.le_trans h1.size h2.size, fun k hk hg => (h2.block k hk hg).trans (h1.block k hk hg)⟩
theorem KeptG.grown {B g : Nat} {a w w' : World} {row : Option Nat} (h : KeptG B g a w) (hg : w.grownBy w' row) (hB : B ≤ w.heap.size) (hr : ∀ k, row = some k → B ≤ k ∨ k = g) : KeptG B g a w' :=
  h.trans ⟨hg.os, hg.tape, hg.output, hg.size, fun k hk hkg => hg.block k (by omega) (fun e => by rcases hr k e.symm with h | h <;> omega)⟩
theorem KeptG.alloc {B g : Nat} {a w : World} (h : KeptG B g a w) (hB : B ≤ w.heap.size) (o : Obj) : KeptG B g a (w.alloc o) :=
  h.trans ⟨rfl, rfl, rfl, by simp, fun k hk _ => heap_alloc_old _ _ (by omega)⟩
theorem KeptG.ofBelow {B g : Nat} {a w w' : World} (h : KeptG B g a w) (hb : Below B w w') : KeptG B g a w' :=
  h.trans ⟨hb.os, hb.tape, hb.output, hb.size, fun k hk _ => hb.block k hk⟩
theorem KeptG.below {B g C : Nat} {a w : World} (h : KeptG B g a w) (hB : C ≤ B) (hg : C ≤ g) : Below C a w :=
  ⟨h.os, h.tape, h.output, h.size, fun k hk => h.block k (by omega) (by omega)⟩
theorem KeptG.cell {B g : Nat} {a w : World} (h : KeptG B g a w) (p : Addr) (hp : p.block < B) (hg : p.block ≠ g) : w.cell? p = a.cell? p := by
  unfold World.cell?
  rw [h.block _ hp hg]
/-- In block g, from place o on, there is a strings.Builder that holds the bytes s: its row is its own (from block B on), and no part of g. -/
structure Bldr (B g o : Nat) (t : TypeId) (cs : List Value) (s : ByteArray) (w : World) : Prop where
  blk : w.heap[g]? = some (.cells cs.toArray t (0, 0))
  ptr : cs[o]? = some (.pointer none) ∨ cs[o]? = some (.pointer (some ⟨g, o, none⟩))
  row : ∃ v, cs[o + 1]? = some v ∧ w.ownsRow B 5 1 v s.size (Lib.strCells s) ∧ v.ownBlock ≠ some g
/-- The type of the block has a strings.Builder at o. -/
structure BldrT (t o n : Nat) : Prop where
  len : o + 1 < n
  lies : liesAt Tryd.prog Tryd.prog.depth t (n / Tryd.prog.cellsOf t) o 47 1 = true
  ne : t ≠ 5
theorem bldr_size : (Tryd.prog.info? 47).map (·.size) = some 2 := by kernel_rfl
theorem bldr_info5 : (Tryd.prog.info? 5).map (fun i => (i.zero, i.size, i.bytes)) = some (some (.int .u8 0), 1, 1) := by kernel_rfl
theorem Bldr.cell {B g o : Nat} {t : TypeId} {cs : List Value} {s : ByteArray} {w : World} (h : Bldr B g o t cs s w) (i : Nat) : w.cell? ⟨g, i, none⟩ = cs[i]? := by
  have := blk_cell h.blk i
  simpa using this
theorem Bldr.frozen {B g o : Nat} {t : TypeId} {cs : List Value} {s : ByteArray} {w : World} (h : Bldr B g o t cs s w) (i : Nat) : w.frozen? ⟨g, i, none⟩ = false := blk_frozen h.blk i
theorem Bldr.below {B g o : Nat} {t : TypeId} {cs : List Value} {s : ByteArray} {w w' : World} (h : Bldr B g o t cs s w) (hb : Below w.heap.size w w') : Bldr B g o t cs s w' := by
  obtain ⟨v, hv, ho, hne⟩ := h.row
  exact ⟨blk_below h.blk hb, h.ptr, v, hv, ho.kept (grown_of_below hb none) (by cases h1 : v.ownBlock <;> simp), hne⟩
theorem Bldr.drewN {B g o : Nat} {t : TypeId} {cs : List Value} {s : ByteArray} {w : World} (h : Bldr B g o t cs s w) (n : Nat) : Bldr B g o t cs s (w.drewN n) := by
  obtain ⟨v, hv, ho, hne⟩ := h.row
  exact ⟨blk_drewN h.blk n, h.ptr, v, hv, pw_own_drewN ho n, hne⟩
theorem Bldr.drew {B g o : Nat} {t : TypeId} {cs : List Value} {s : ByteArray} {w : World} (h : Bldr B g o t cs s w) : Bldr B g o t cs s w.drew := by
  obtain ⟨v, hv, ho, hne⟩ := h.row
  exact ⟨blk_drew h.blk, h.ptr, v, hv, own_drew ho, hne⟩
set_option maxHeartbeats 1000000 in
set_option maxRecDepth 100000 in
theorem bldr_check (B g o : Nat) (t : TypeId) (cs : List Value) (s : ByteArray) (w : World) (T : BldrT t o cs.length) (h : Bldr B g o t cs s w) :
    Calls Tryd.prog 29 #[.pointer (some ⟨g, o, none⟩)] w fun e w' => e = .returned (.tuple #[]) ∧ Bldr B g o t (cs.set o (.pointer (some ⟨g, o, none⟩))) s w' ∧ w'.heap.size = w.heap.size ∧ w.grownBy w' (some g) := by
  obtain ⟨j, hj, hjs⟩ := Option.map_eq_some_iff.1 bldr_size
  have hl := T.len
  have hlo : o < cs.length := by omega
  rcases h.ptr with hp | hp
  · have c0 : w.cell? ⟨g, o, none⟩ = some (.pointer none) := (h.cell o).trans hp
    have hf := h.frozen o
    have hsh : w.shape? g = some (t, cs.length) := by simp [World.shape?, h.blk]
    have HH := Aside0.mk h
    have HP := Aside0.mk hp
    clear h hp
    go_enter Tryd.func29, Tryd.ntmps29
    go_wp2
    rw [Lib.run_to_unsafe w ⟨g, o, none⟩ Tryd.underlying45 Tryd.underlying83 hj (by rw [hjs]; decide) hsh hlo]
    simp only [Result.andThen]
    rw [Oper.upon_value]
    go_wp2
    rw [run_callFunc_extern Tryd.func39 (by kernel_rfl) (by kernel_rfl) (by kernel_rfl) (e := Extern.AbiNoEscape.same) (by kernel_rfl)]
    rw [Lib.run_noEscape]
    simp only [Result.andThen]
    rw [Oper.upon_value]
    go_wp2
    rw [Lib.run_from_unsafe w ⟨g, o, none⟩ Tryd.underlying83 Tryd.underlying45 hj hsh T.lies]
    simp only [Result.andThen]
    rw [Oper.upon_value]
    go_wp2
    go_end0
    obtain ⟨v, hv, ho, hne⟩ := HH.out.row
    have hg : w.grownBy (w.setCell ⟨g, o, none⟩ (.pointer (some ⟨g, o, none⟩))) (some g) :=
      ⟨rfl, rfl, rfl, by simp [World.setCell], fun k _ hk => Below.heap_setCell _ _ _ _ (fun e => hk (by rw [e]))⟩
    refine ⟨rfl, ⟨blk_put HH.out.blk o _ (by simp), Or.inr (by simp [hlo]), v, ?_, ho.kept hg (Or.inr hne), hne⟩, by simp [World.setCell], hg⟩
    rw [List.getElem?_set_ne (by omega)]; exact hv
  · have c0 : w.cell? ⟨g, o, none⟩ = some (.pointer (some ⟨g, o, none⟩)) := (h.cell o).trans hp
    have e : cs.set o (.pointer (some ⟨g, o, none⟩)) = cs := by
      apply List.ext_getElem?
      intro i
      rw [List.getElem?_set]
      split
      · rename_i h1; subst h1; first | exact hp.symm | (rw [if_pos hlo]; exact hp.symm)
      · rfl
    rw [e]
    have HH := Aside0.mk h
    clear h hp e
    go_enter Tryd.func29, Tryd.ntmps29
    go_wp2
    rw [Lib.run_neq_ptr_same w _ Tryd.underlying45 hj]
    go_wp2
    go_end0
    exact ⟨rfl, HH.out, rfl, ⟨rfl, rfl, rfl, Nat.le_refl _, fun _ _ _ => rfl⟩⟩
set_option maxHeartbeats 2000000 in
set_option maxRecDepth 100000 in
theorem bldr_write (B g o : Nat) (t : TypeId) (cs : List Value) (s x : ByteArray) (w : World) (T : BldrT t o cs.length) (h : Bldr B g o t cs s w) (hlen : s.size + x.size ≤ 140737488355328) (hBw : B ≤ w.heap.size) :
    Calls Tryd.prog 18 #[.pointer (some ⟨g, o, none⟩), .string x] w fun e w' => e = .returned (.tuple #[.int .i64 x.size, .nilIface]) ∧
      (∃ v, Bldr B g o t ((cs.set o (.pointer (some ⟨g, o, none⟩))).set (o + 1) v) (s ++ x) w') ∧ KeptG B g w w' := by
  obtain ⟨i0, hi, hz0, hz1, hz2⟩ := info_parts bldr_info5
  have hl := T.len
  go_enter Tryd.func18, Tryd.ntmps18
  go_wp2_with fail
  refine (bldr_check B g o t cs s _ T h).mono ?_
  rintro e w1 ⟨rfl, h1, hz, hg1⟩
  clear h
  obtain ⟨v, hv, ho, hne⟩ := h1.row
  have c1 : w1.cell? ⟨g, o + 1, none⟩ = some v := (h1.cell (o + 1)).trans hv
  have H1 := Aside0.mk h1
  have HV := Aside0.mk hv
  have HZ := Aside0.mk hz
  clear h1 hv hz
  go_wp2_with (at_builtin; refine Lib.wpList_append_own_string _ rfl _ _ 40 9 rfl B 5 i0 Tryd.underlying40 Tryd.underlying9 hi hz0 hz1 hz2 _ _ _ rfl ho x rfl ?c3 ?c4 ?c5 ?_)
  case c3 => unfold maxLen; omega
  case c4 => omega
  case c5 => rw [HZ.out]; exact hBw
  intro v' w2 hown' hgrow _
  have hlt : g < w1.heap.size := blk_lt H1.out.blk
  have hb2 := blk_grown H1.out.blk hgrow (fun e => hne e.symm)
  have d1 : w2.cell? ⟨g, o + 1, none⟩ = some v := by
    have := blk_cell hb2 (o + 1)
    exact this.trans (by simpa using HV.out)
  have f1 : w2.frozen? ⟨g, o + 1, none⟩ = false := blk_frozen hb2 _
  obtain ⟨ao, n', cap, rfl⟩ : ∃ ao n' cap, v' = .slice ao n' cap := by
    rcases hown'.2 with ⟨hv, _⟩ | ⟨g, cap, cur, hv, _⟩
    · exact ⟨_, _, _, hv⟩
    · exact ⟨_, _, _, hv⟩
  have HO := Aside0.mk hown'
  have HG := Aside0.mk hgrow
  have HB2 := Aside0.mk hb2
  have HO1 := Aside0.mk ho
  clear hown' hgrow hb2 ho c1
  go_wp2
  go_ret2
  have hg : w2.grownBy (w2.setCell ⟨g, o + 1, none⟩ (.slice ao n' cap)) (some g) :=
    ⟨rfl, rfl, rfl, by simp [World.setCell], fun k _ hk => Below.heap_setCell _ _ _ _ (fun e => hk (by rw [e]))⟩
  have hne2 : (Value.slice ao n' cap).ownBlock ≠ some g := by
    intro e
    rcases HO.out.2 with ⟨hv, _⟩ | ⟨g', cap', cur, hv, _, hh, _⟩
    · rw [hv] at e; simp [Value.ownBlock] at e
    · rw [hv] at e
      simp [Value.ownBlock] at e
      subst e
      rw [HB2.out] at hh
      injection hh with hh
      injection hh with _ hh _
      exact T.ne hh
  refine ⟨rfl, ⟨.slice ao n' cap, ?_, ?_, .slice ao n' cap, ?_, ?_, hne2⟩, ?_⟩
  · exact blk_put HB2.out (o + 1) _ (by simp)
  · rw [List.getElem?_set_ne (by omega)]; exact Or.inr (by rw [List.getElem?_set_self (by omega)])
  · rw [List.getElem?_set_self (by simp; omega)]
  · have := HO.out.kept hg (Or.inr hne2)
    rw [strCells_append]
    have hs : (s ++ x).size = s.size + x.size := ByteArray.size_append
    rw [hs]
    simpa [Lib.strCells_length] using this
  · exact (((KeptG.refl B g w).grown hg1 hBw (fun k hk => Or.inr (Option.some.inj hk).symm)).grown HG.out (by rw [HZ.out]; exact hBw) (fun k hk => Or.inl (HO1.out.lt k hk).1)).grown hg (Nat.le_trans (by rw [HZ.out]; exact hBw) HG.out.size) (fun k hk => Or.inr (Option.some.inj hk).symm)
set_option maxHeartbeats 1000000 in
set_option maxRecDepth 100000 in
theorem bldr_string (B g o : Nat) (t : TypeId) (cs : List Value) (s : ByteArray) (w : World) (h : Bldr B g o t cs s w) (hBw : B ≤ w.heap.size) :
    Calls Tryd.prog 21 #[.pointer (some ⟨g, o, none⟩)] w fun e w' => e = .returned (.string s) ∧ Below B w w' := by
  obtain ⟨v, hv, ho, hne⟩ := h.row
  by_cases h0 : s.size = 0
  · have hs : s = ⟨#[]⟩ := by
      cases s with
      | mk d =>
        have : d = #[] := Array.eq_empty_of_size_eq_zero h0
        rw [this]
    have hUS : ∀ (W : World) (q : Option Addr), (Builtin.unsafeString_ #[79, 3] 9 #[.pointer q, .int .i64 0]).run Tryd.prog W = .ok (.string .empty) W := fun W q => Lib.run_unsafeString_none W _ _ _ q
    rcases ho.2 with ⟨rfl, _⟩ | ⟨gr, cap, cur, rfl, hbg, hg, hnc, hcm, hcs, htake⟩
    · have c1 : w.drew.cell? ⟨g, o + 1, none⟩ = some (.slice none 0 0) := (h.cell (o + 1)).trans hv
      have hSD : (Builtin.unsafeSliceData_ #[40] 79 #[.slice none 0 0]).run Tryd.prog w.drew = .ok (.pointer none) w.drew := rfl
      clear h hv ho
      subst hs
      go_enter Tryd.func21, Tryd.ntmps21
      go_wp2
      go_region
      all_goals (go_wp2; go_ret; exact ⟨rfl, Below.drew (Below.refl B w)⟩)
    · rw [h0] at hv
      by_cases hc0 : cap = 0
      · subst hc0
        have hlt : g < w.heap.size := blk_lt h.blk
        have c0 : w.cell? ⟨g, o + 1, none⟩ = some (.slice (some ⟨gr, 0, none⟩) 0 0) := (h.cell (o + 1)).trans hv
        have c1 : w.drew.cell? ⟨g, o + 1, none⟩ = some (.slice (some ⟨gr, 0, none⟩) 0 0) := c0
        have hSD : (Builtin.unsafeSliceData_ #[40] 79 #[.slice (some ⟨gr, 0, none⟩) 0 0]).run Tryd.prog w.drew = .ok (.pointer (some ⟨w.drew.heap.size, 0, none⟩)) (w.drew.alloc (.view ⟨gr, 0, none⟩ 5)) :=
          Lib.run_unsafeSliceData_zero w.drew _ _ 5 Tryd.underlying79 ⟨gr, 0, none⟩ 0 (5, cur.size) (by have hg' : w.drew.heap[gr]? = some (.cells cur 5 (0, 0)) := hg; simp [World.shape?, hg'])
        have c2 : (w.drew.alloc (.view ⟨gr, 0, none⟩ 5)).cell? ⟨g, o + 1, none⟩ = some (.slice (some ⟨gr, 0, none⟩) 0 0) := (World.cell?_alloc_lt _ _ _ hlt).trans c1
        have c3 : (w.alloc (.view ⟨gr, 0, none⟩ 5)).drew.cell? ⟨g, o + 1, none⟩ = some (.slice (some ⟨gr, 0, none⟩) 0 0) := c2
        have HB := Aside0.mk hBw
        clear h hv ho hlt hbg hg hnc hcm hcs htake
        subst hs
        go_enter Tryd.func21, Tryd.ntmps21
        go_wp2
        go_region
        all_goals (go_wp2; go_ret; exact ⟨rfl, (Below.drew (Below.refl B w)).alloc HB.out _⟩)
      · have c1 : w.drew.cell? ⟨g, o + 1, none⟩ = some (.slice (some ⟨gr, 0, none⟩) 0 cap) := (h.cell (o + 1)).trans hv
        have hSD : (Builtin.unsafeSliceData_ #[40] 79 #[.slice (some ⟨gr, 0, none⟩) 0 cap]).run Tryd.prog w.drew = .ok (.pointer (some ⟨gr, 0, none⟩)) w.drew :=
          Lib.run_unsafeSliceData_row _ _ _ _ _ _ hc0
        clear h hv ho hc0 hbg hg hnc hcm hcs htake
        subst hs
        go_enter Tryd.func21, Tryd.ntmps21
        go_wp2
        go_region
        all_goals (go_wp2; go_ret; exact ⟨rfl, Below.drew (Below.refl B w)⟩)
  · obtain ⟨gr, cap, cur, rfl, hbg, hg, hnc, hcm, hcs, htake⟩ : ∃ gr cap cur, v = .slice (some ⟨gr, 0, none⟩) s.size cap ∧ B ≤ gr ∧ w.heap[gr]? = some (.cells cur 5 (0, 0)) ∧ s.size ≤ cap ∧ cap ≤ maxLen ∧ cur.size = cap * 1 ∧ cur.toList.take (s.size * 1) = Lib.strCells s := by
      rcases ho.2 with ⟨_, hz⟩ | ⟨gr, cap, cur, hv, r⟩
      · exact absurd hz h0
      · exact ⟨gr, cap, cur, hv, r⟩
    have c1 : w.drew.cell? ⟨g, o + 1, none⟩ = some (.slice (some ⟨gr, 0, none⟩) s.size cap) := (h.cell (o + 1)).trans hv
    have hsz : s.data.toList.length = s.size := Array.length_toList
    have hSD : (Builtin.unsafeSliceData_ #[40] 79 #[.slice (some ⟨gr, 0, none⟩) s.size cap]).run Tryd.prog w.drew = .ok (.pointer (some ⟨gr, 0, none⟩)) w.drew :=
      Lib.run_unsafeSliceData_row _ _ _ _ _ _ (by omega)
    have hUS : (Builtin.unsafeString_ #[79, 3] 9 #[.pointer (some ⟨gr, 0, none⟩), .int .i64 s.size]).run Tryd.prog w.drew = .ok (.string s) (w.drew.freeze ⟨gr, 0, none⟩ s.size) := by
      have := Lib.run_unsafeString_row (P := Tryd.prog) w.drew 79 3 9 5 Tryd.underlying79 (by kernel_rfl) gr cur.size (by have hg' : w.drew.heap[gr]? = some (.cells cur 5 (0, 0)) := hg; simp [World.shape?, hg']) s.data.toList (by intro e; rw [e] at hsz; simp at hsz; omega) (by omega) (by unfold maxLen at hcm; omega) (by
        intro j x hx
        have := ho.cells (g := gr) rfl j (.int .u8 x.toNat) (by rw [strCells_byteCells]; simp [Lib.byteCells, hx])
        exact this)
      rw [hsz] at this
      have e : (⟨s.data.toList.toArray⟩ : ByteArray) = s := by cases s; simp
      rw [e] at this
      exact this
    have HB := Aside0.mk hbg
    clear h hv ho hbg hg hnc hcm hcs htake hsz
    go_enter Tryd.func21, Tryd.ntmps21
    go_wp2
    go_region
    all_goals (go_wp2; go_ret; exact ⟨rfl, Lib.below_freeze (Below.drew (Below.refl B w)) (p := ⟨gr, 0, none⟩) HB.out _⟩)

end Go.Proofs.YthbnedjcaflofaaDoor.PPax
