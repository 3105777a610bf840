-- printed for this claim by a program of the claim (wip/tools/pp.py over the kit's print)
import Derived.Test.YtablpjlhhnfpkaaDoorPVarintManyx0
import Derived.Test.YtablpjlhhnfpkaaDoorPVarintManyx1
namespace Go.Proofs.YtablpjlhhnfpkaaDoor.PVarintMany
open Go.RowKit Go.Proofs.YtablpjlhhnfpkaaDoorW.PrintWords Go.Proofs.YtablpjlhhnfpkaaDoorW.PrintLast Go.Proofs.YtablpjlhhnfpkaaDoorW.PrintMore
attribute [local go_sem] max2_int min2_int max_two min_two max_three min_three max_four min_four   -- for this text's walks alone
set_option linter.unusedVariables false
set_option linter.unusedSimpArgs false

attribute [local go_sem] isSome_setCell_
/-! ### strings.Builder at a place of a block that the call has made -/
/-- In block g, from place o on, there is a strings.Builder that holds the bytes s: its row is its own (from block B on), and no part of g. -/
structure Bld (B g o : Nat) (t : TypeId) (cs : List Value) (s : ByteArray) (w : World) : Prop where
  blk : w.heap[g]? = some (.cells cs.toArray t (0, 0))
  low : B ≤ g
  ptr : cs[o]? = some (.pointer none) ∨ cs[o]? = some (.pointer (some ⟨g, o, none⟩))
  row : ∃ v, cs[o + 1]? = some v ∧ w.ownsRow B 5 1 v s.size (Lib.strCells s) ∧ v.ownBlock ≠ some g
/-- The type of the block has a strings.Builder at o. -/
structure BldT (t o n : Nat) : Prop where
  len : o + 1 < n
  lies : liesAt Tryd.prog Tryd.prog.depth t (n / Tryd.prog.cellsOf t) o 52 1 = true
  ne : t ≠ 5
theorem bld_size : (Tryd.prog.info? 52).map (·.size) = some 2 := by kernel_rfl
theorem bld_info5 : (Tryd.prog.info? 5).map (fun i => (i.zero, i.size, i.bytes)) = some (some (.int .u8 0), 1, 1) := by kernel_rfl
theorem Bld.cell {B g o : Nat} {t : TypeId} {cs : List Value} {s : ByteArray} {w : World} (h : Bld B g o t cs s w) (i : Nat) : w.cell? ⟨g, i, none⟩ = cs[i]? := by
  have := blk_cell h.blk i
  simpa using this
theorem Bld.frozen {B g o : Nat} {t : TypeId} {cs : List Value} {s : ByteArray} {w : World} (h : Bld B g o t cs s w) (i : Nat) : w.frozen? ⟨g, i, none⟩ = false := blk_frozen h.blk i
theorem Bld.below {B g o : Nat} {t : TypeId} {cs : List Value} {s : ByteArray} {w w' : World} (h : Bld B g o t cs s w) (hb : Below w.heap.size w w') : Bld B g o t cs s w' := by
  obtain ⟨v, hv, ho, hne⟩ := h.row
  exact ⟨blk_below h.blk hb, h.low, h.ptr, v, hv, ho.kept (grown_of_below hb none) (by cases h1 : v.ownBlock <;> simp), hne⟩
theorem Bld.drewN {B g o : Nat} {t : TypeId} {cs : List Value} {s : ByteArray} {w : World} (h : Bld B g o t cs s w) (n : Nat) : Bld B g o t cs s (w.drewN n) := by
  obtain ⟨v, hv, ho, hne⟩ := h.row
  exact ⟨blk_drewN h.blk n, h.low, h.ptr, v, hv, pw_own_drewN ho n, hne⟩
theorem Bld.drew {B g o : Nat} {t : TypeId} {cs : List Value} {s : ByteArray} {w : World} (h : Bld B g o t cs s w) : Bld B g o t cs s w.drew := by
  obtain ⟨v, hv, ho, hne⟩ := h.row
  exact ⟨blk_drew h.blk, h.low, h.ptr, v, hv, own_drew ho, hne⟩
theorem strCells_append (a b : ByteArray) : Lib.strCells (a ++ b) = Lib.strCells a ++ Lib.strCells b := by
  simp [Lib.strCells]
set_option maxHeartbeats 1000000 in
set_option maxRecDepth 100000 in
theorem bld_check (B g o : Nat) (t : TypeId) (cs : List Value) (s : ByteArray) (w : World) (T : BldT t o cs.length) (h : Bld B g o t cs s w) :
    Calls Tryd.prog 33 #[.pointer (some ⟨g, o, none⟩)] w fun e w' => e = .returned (.tuple #[]) ∧ Bld B g o t (cs.set o (.pointer (some ⟨g, o, none⟩))) s w' ∧ w'.heap.size = w.heap.size ∧ Below B w w' ∧ w.grownBy w' (some g) := by
  obtain ⟨j, hj, hjs⟩ := Option.map_eq_some_iff.1 bld_size
  have hl := T.len
  have hlo : o < cs.length := by omega
  rcases h.ptr with hp | hp
  · have c0 : w.cell? ⟨g, o, none⟩ = some (.pointer none) := (h.cell o).trans hp
    have hf := h.frozen o
    have hsh : w.shape? g = some (t, cs.length) := by simp [World.shape?, h.blk]
    have HH := Aside0.mk h
    have HP := Aside0.mk hp
    clear h hp
    go_enter Tryd.func33, Tryd.ntmps33
    go_wp2
    rw [Lib.run_to_unsafe w ⟨g, o, none⟩ Tryd.underlying50 Tryd.underlying64 hj (by rw [hjs]; decide) hsh hlo]
    simp only [Result.andThen]
    rw [Oper.upon_value]
    go_wp2
    rw [run_callFunc_extern Tryd.func34 (by kernel_rfl) (by kernel_rfl) (by kernel_rfl) (e := Extern.AbiNoEscape.same) (by kernel_rfl)]
    rw [Lib.run_noEscape]
    simp only [Result.andThen]
    rw [Oper.upon_value]
    go_wp2
    rw [Lib.run_from_unsafe w ⟨g, o, none⟩ Tryd.underlying64 Tryd.underlying50 hj hsh T.lies]
    simp only [Result.andThen]
    rw [Oper.upon_value]
    go_wp2
    go_end0
    obtain ⟨v, hv, ho, hne⟩ := HH.out.row
    have hg : w.grownBy (w.setCell ⟨g, o, none⟩ (.pointer (some ⟨g, o, none⟩))) (some g) :=
      ⟨rfl, rfl, rfl, by simp [World.setCell], fun k _ hk => Below.heap_setCell _ _ _ _ (fun e => hk (by rw [e]))⟩
    refine ⟨rfl, ⟨blk_put HH.out.blk o _ (by simp), HH.out.low, Or.inr (by simp [hlo]), v, ?_, ho.kept hg (Or.inr hne), hne⟩, by simp [World.setCell], (Below.refl B w).setCell (p := ⟨g, o, none⟩) HH.out.low _, hg⟩
    rw [List.getElem?_set_ne (by omega)]; exact hv
  · have c0 : w.cell? ⟨g, o, none⟩ = some (.pointer (some ⟨g, o, none⟩)) := (h.cell o).trans hp
    have e : cs.set o (.pointer (some ⟨g, o, none⟩)) = cs := by
      apply List.ext_getElem?
      intro i
      rw [List.getElem?_set]
      split
      · rename_i h1; subst h1; first | exact hp.symm | (rw [if_pos hlo]; exact hp.symm)
      · rfl
    rw [e]
    have HH := Aside0.mk h
    clear h hp e
    go_enter Tryd.func33, Tryd.ntmps33
    go_wp2
    rw [Lib.run_neq_ptr_same w _ Tryd.underlying50 hj]
    go_wp2
    go_end0
    exact ⟨rfl, HH.out, rfl, Below.refl B w, ⟨rfl, rfl, rfl, Nat.le_refl _, fun _ _ _ => rfl⟩⟩
set_option maxHeartbeats 2000000 in
set_option maxRecDepth 100000 in
theorem bld_write (B g o : Nat) (t : TypeId) (cs : List Value) (s x : ByteArray) (w : World) (T : BldT t o cs.length) (h : Bld B g o t cs s w) (hlen : s.size + x.size ≤ 140737488355328) (hBw : B ≤ w.heap.size) :
    Calls Tryd.prog 28 #[.pointer (some ⟨g, o, none⟩), .string x] w fun e w' => e = .returned (.tuple #[.int .i64 x.size, .nilIface]) ∧
      (∃ v, Bld B g o t ((cs.set o (.pointer (some ⟨g, o, none⟩))).set (o + 1) v) (s ++ x) w') ∧ Below B w w' := by
  obtain ⟨i0, hi, hz0, hz1, hz2⟩ := info_parts bld_info5
  have hl := T.len
  go_enter Tryd.func28, Tryd.ntmps28
  go_wp2_with fail
  refine (bld_check B g o t cs s _ T h).mono ?_
  rintro e w1 ⟨rfl, h1, hz, hb1, hg1⟩
  clear h
  obtain ⟨v, hv, ho, hne⟩ := h1.row
  have c1 : w1.cell? ⟨g, o + 1, none⟩ = some v := (h1.cell (o + 1)).trans hv
  have H1 := Aside0.mk h1
  have HV := Aside0.mk hv
  have HZ := Aside0.mk hz
  clear h1 hv hz
  go_wp2_with (at_builtin; refine Lib.wpList_append_own_string _ rfl _ _ 46 9 rfl B 5 i0 Tryd.underlying46 Tryd.underlying9 hi hz0 hz1 hz2 _ _ _ rfl ho x rfl ?c3 ?c4 ?c5 ?_)
  case c3 => unfold maxLen; omega
  case c4 => omega
  case c5 => rw [HZ.out]; exact hBw
  intro v' w2 hown' hgrow _
  have hlt : g < w1.heap.size := blk_lt H1.out.blk
  have hb2 := blk_grown H1.out.blk hgrow (fun e => hne e.symm)
  have d1 : w2.cell? ⟨g, o + 1, none⟩ = some v := by
    have := blk_cell hb2 (o + 1)
    exact this.trans (by simpa using HV.out)
  have f1 : w2.frozen? ⟨g, o + 1, none⟩ = false := blk_frozen hb2 _
  obtain ⟨ao, n', cap, rfl⟩ : ∃ ao n' cap, v' = .slice ao n' cap := by
    rcases hown'.2 with ⟨hv, _⟩ | ⟨g, cap, cur, hv, _⟩
    · exact ⟨_, _, _, hv⟩
    · exact ⟨_, _, _, hv⟩
  have HO := Aside0.mk hown'
  have HG := Aside0.mk hgrow
  have HB2 := Aside0.mk hb2
  have HO1 := Aside0.mk ho
  clear hown' hgrow hb2 ho c1
  go_wp2
  go_ret2
  have hg : w2.grownBy (w2.setCell ⟨g, o + 1, none⟩ (.slice ao n' cap)) (some g) :=
    ⟨rfl, rfl, rfl, by simp [World.setCell], fun k _ hk => Below.heap_setCell _ _ _ _ (fun e => hk (by rw [e]))⟩
  have hne2 : (Value.slice ao n' cap).ownBlock ≠ some g := by
    intro e
    rcases HO.out.2 with ⟨hv, _⟩ | ⟨g', cap', cur, hv, _, hh, _⟩
    · rw [hv] at e; simp [Value.ownBlock] at e
    · rw [hv] at e
      simp [Value.ownBlock] at e
      subst e
      rw [HB2.out] at hh
      injection hh with hh
      injection hh with _ hh _
      exact T.ne hh
  refine ⟨rfl, ⟨.slice ao n' cap, ?_, H1.out.low, ?_, .slice ao n' cap, ?_, ?_, hne2⟩, ?_⟩
  · exact blk_put HB2.out (o + 1) _ (by simp)
  · rw [List.getElem?_set_ne (by omega)]; exact Or.inr (by rw [List.getElem?_set_self (by omega)])
  · rw [List.getElem?_set_self (by simp; omega)]
  · have := HO.out.kept hg (Or.inr hne2)
    rw [strCells_append]
    have hs : (s ++ x).size = s.size + x.size := ByteArray.size_append
    rw [hs]
    simpa [Lib.strCells_length] using this
  · exact (hb1.grown HG.out (by rw [HZ.out]; exact hBw) (fun k hk => (HO1.out.lt k hk).1)).setCell (p := ⟨g, o + 1, none⟩) H1.out.low _
theorem strCells_byteCells (s : ByteArray) : Lib.strCells s = Lib.byteCells s.data.toList := by
  simp [Lib.strCells, Lib.byteCells]
set_option maxHeartbeats 1000000 in
set_option maxRecDepth 100000 in
theorem bld_string (B g o : Nat) (t : TypeId) (cs : List Value) (s : ByteArray) (w : World) (h : Bld B g o t cs s w) :
    Calls Tryd.prog 29 #[.pointer (some ⟨g, o, none⟩)] w fun e w' => e = .returned (.string s) ∧ Below B w w' := by
  obtain ⟨v, hv, ho, hne⟩ := h.row
  by_cases h0 : s.size = 0
  · have hs : s = ⟨#[]⟩ := by
      cases s with
      | mk d =>
        have : d = #[] := Array.eq_empty_of_size_eq_zero h0
        rw [this]
    have hUS : ∀ (W : World) (q : Option Addr), (Builtin.unsafeString_ #[61, 3] 9 #[.pointer q, .int .i64 0]).run Tryd.prog W = .ok (.string .empty) W := fun W q => Lib.run_unsafeString_none W _ _ _ q
    rcases ho.2 with ⟨rfl, _⟩ | ⟨gr, cap, cur, rfl, hbg, hg, hnc, hcm, hcs, htake⟩
    · have c1 : w.drew.cell? ⟨g, o + 1, none⟩ = some (.slice none 0 0) := (h.cell (o + 1)).trans hv
      have hSD : (Builtin.unsafeSliceData_ #[46] 61 #[.slice none 0 0]).run Tryd.prog w.drew = .ok (.pointer none) w.drew := rfl
      clear h hv ho
      subst hs
      go_enter Tryd.func29, Tryd.ntmps29
      go_wp2
      go_region
      all_goals (go_wp2; go_ret; exact ⟨rfl, Below.drew (Below.refl B w)⟩)
    · rw [h0] at hv
      by_cases hc0 : cap = 0
      · subst hc0
        have hlt : g < w.heap.size := blk_lt h.blk
        have c0 : w.cell? ⟨g, o + 1, none⟩ = some (.slice (some ⟨gr, 0, none⟩) 0 0) := (h.cell (o + 1)).trans hv
        have c1 : w.drew.cell? ⟨g, o + 1, none⟩ = some (.slice (some ⟨gr, 0, none⟩) 0 0) := c0
        have hSD : (Builtin.unsafeSliceData_ #[46] 61 #[.slice (some ⟨gr, 0, none⟩) 0 0]).run Tryd.prog w.drew = .ok (.pointer (some ⟨w.drew.heap.size, 0, none⟩)) (w.drew.alloc (.view ⟨gr, 0, none⟩ 5)) :=
          Lib.run_unsafeSliceData_zero w.drew _ _ 5 Tryd.underlying61 ⟨gr, 0, none⟩ 0 (5, cur.size) (by have hg' : w.drew.heap[gr]? = some (.cells cur 5 (0, 0)) := hg; simp [World.shape?, hg'])
        have c2 : (w.drew.alloc (.view ⟨gr, 0, none⟩ 5)).cell? ⟨g, o + 1, none⟩ = some (.slice (some ⟨gr, 0, none⟩) 0 0) := (World.cell?_alloc_lt _ _ _ hlt).trans c1
        have c3 : (w.alloc (.view ⟨gr, 0, none⟩ 5)).drew.cell? ⟨g, o + 1, none⟩ = some (.slice (some ⟨gr, 0, none⟩) 0 0) := c2
        have HB := Aside0.mk (Nat.le_of_lt (Nat.lt_of_le_of_lt h.low hlt))
        clear h hv ho hlt hbg hg hnc hcm hcs htake
        subst hs
        go_enter Tryd.func29, Tryd.ntmps29
        go_wp2
        go_region
        all_goals (go_wp2; go_ret; exact ⟨rfl, (Below.drew (Below.refl B w)).alloc HB.out _⟩)
      · have c1 : w.drew.cell? ⟨g, o + 1, none⟩ = some (.slice (some ⟨gr, 0, none⟩) 0 cap) := (h.cell (o + 1)).trans hv
        have hSD : (Builtin.unsafeSliceData_ #[46] 61 #[.slice (some ⟨gr, 0, none⟩) 0 cap]).run Tryd.prog w.drew = .ok (.pointer (some ⟨gr, 0, none⟩)) w.drew :=
          Lib.run_unsafeSliceData_row _ _ _ _ _ _ hc0
        clear h hv ho hc0 hbg hg hnc hcm hcs htake
        subst hs
        go_enter Tryd.func29, Tryd.ntmps29
        go_wp2
        go_region
        all_goals (go_wp2; go_ret; exact ⟨rfl, Below.drew (Below.refl B w)⟩)
  · obtain ⟨gr, cap, cur, rfl, hbg, hg, hnc, hcm, hcs, htake⟩ : ∃ gr cap cur, v = .slice (some ⟨gr, 0, none⟩) s.size cap ∧ B ≤ gr ∧ w.heap[gr]? = some (.cells cur 5 (0, 0)) ∧ s.size ≤ cap ∧ cap ≤ maxLen ∧ cur.size = cap * 1 ∧ cur.toList.take (s.size * 1) = Lib.strCells s := by
      rcases ho.2 with ⟨_, hz⟩ | ⟨gr, cap, cur, hv, r⟩
      · exact absurd hz h0
      · exact ⟨gr, cap, cur, hv, r⟩
    have c1 : w.drew.cell? ⟨g, o + 1, none⟩ = some (.slice (some ⟨gr, 0, none⟩) s.size cap) := (h.cell (o + 1)).trans hv
    have hsz : s.data.toList.length = s.size := Array.length_toList
    have hSD : (Builtin.unsafeSliceData_ #[46] 61 #[.slice (some ⟨gr, 0, none⟩) s.size cap]).run Tryd.prog w.drew = .ok (.pointer (some ⟨gr, 0, none⟩)) w.drew :=
      Lib.run_unsafeSliceData_row _ _ _ _ _ _ (by omega)
    have hUS : (Builtin.unsafeString_ #[61, 3] 9 #[.pointer (some ⟨gr, 0, none⟩), .int .i64 s.size]).run Tryd.prog w.drew = .ok (.string s) (w.drew.freeze ⟨gr, 0, none⟩ s.size) := by
      have := Lib.run_unsafeString_row (P := Tryd.prog) w.drew 61 3 9 5 Tryd.underlying61 (by kernel_rfl) gr cur.size (by have hg' : w.drew.heap[gr]? = some (.cells cur 5 (0, 0)) := hg; simp [World.shape?, hg']) s.data.toList (by intro e; rw [e] at hsz; simp at hsz; omega) (by omega) (by unfold maxLen at hcm; omega) (by
        intro j x hx
        have := ho.cells (g := gr) rfl j (.int .u8 x.toNat) (by rw [strCells_byteCells]; simp [Lib.byteCells, hx])
        exact this)
      rw [hsz] at this
      have e : (⟨s.data.toList.toArray⟩ : ByteArray) = s := by cases s; simp
      rw [e] at this
      exact this
    have HB := Aside0.mk hbg
    clear h hv ho hbg hg hnc hcm hcs htake hsz
    go_enter Tryd.func29, Tryd.ntmps29
    go_wp2
    go_region
    all_goals (go_wp2; go_ret; exact ⟨rfl, Lib.below_freeze (Below.drew (Below.refl B w)) (p := ⟨gr, 0, none⟩) HB.out _⟩)

/-! ### varint_Puts: function 17 -/
def putsL : List Int → ByteArray → Option (ByteArray × Int)
  | [], s => some (s, 0)
  | n :: t, s => (varint_Put.f n).bind fun p => if p.2 = 0 then (if s.size + p.1.size ≤ 140737488355328 then putsL t (s ++ p.1) else none) else some ((⟨#[]⟩ : ByteArray), p.2)
def varint_Puts.f (l0 : List Int) : Option (ByteArray × Int) := putsL l0 (⟨#[]⟩ : ByteArray)
theorem puts_T : BldT 52 0 2 := ⟨by decide, by kernel_rfl, by decide⟩
set_option maxHeartbeats 1600000 in
set_option maxRecDepth 100000 in
theorem varint_Puts.calls (A0 : Option Addr) (c0 : Nat) (l0 : List Int) (r1 : ByteArray) (r2 : Int) (w : World) (hr0 : Kd.C (Kd.int .u64) w A0 l0.length l0) (hc0 : l0.length ≤ c0) (ht : Tab w) (h : varint_Puts.f l0 = some (r1, r2)) :
    Calls Tryd.prog 17 #[.slice A0 l0.length c0] w fun e w' => e = .returned (.tuple #[.string r1, .int .i64 r2]) ∧ Below w.heap.size w w' := by
  have hn : l0.length ≤ 9223372036854775807 := hr0.2.1
  have HR := Aside0.mk hr0
  have HT := Aside0.mk ht
  have HF := Aside0.mk h
  clear hr0 ht h
  go_enter Tryd.func17, Tryd.ntmps17
  go_wp2
  obtain ⟨g, hg⟩ : ∃ g, g = w.heap.size := ⟨_, rfl⟩
  rw [← hg]
  have HG := Aside0.mk hg
  clear hg
  go_loopw [11] (fun i wr => ∃ (k : Nat) (p v : Value) (s : ByteArray), k ≤ l0.length ∧ i = .int .i64 k ∧ Aside0 (putsL (l0.drop k) s = some (r1, r2)) ∧ Aside0 (Bld w.heap.size g 0 52 [p, v] s wr) ∧ Aside0 (Below w.heap.size w wr)) (fun i _ => l0.length - (intOf i).toNat)
  case atStart =>
    refine ⟨0, .pointer none, .slice none 0 0, ⟨#[]⟩, by omega, rfl, ⟨by rw [List.drop_zero]; exact HF.out⟩, ⟨⟨by rw [HG.out]; exact heap_alloc_new _ _, by rw [HG.out]; exact Nat.le_refl _, Or.inl rfl, .slice none 0 0, rfl, World.ownsRow_nil _ _ _ _, by simp [Value.ownBlock]⟩⟩, ⟨below_alloc (Below.refl _ _) _⟩⟩
  case round =>
    obtain ⟨k, p, v, s, hk, rfl, HP, HD, HB⟩ := hrel
    by_cases hlt : k < l0.length
    · obtain ⟨ad, rfl, hx⟩ := Kd.at_int HR.out (k : Int) (by omega) (by omega)
      rw [Int.toNat_natCast] at hx
      replace hx := (HB.out.cell (World.block_lt_of_cell? w _ hx)).trans hx
      have e : l0.drop k = rd l0 (k : Int) :: l0.drop (k + 1) := by
        rw [List.drop_eq_getElem_cons hlt]
        congr 1
        unfold rd
        rw [Int.toNat_natCast, List.getD_eq_getElem?_getD, List.getElem?_eq_getElem hlt]
        rfl
      have hp := HP.out
      rw [e, putsL] at hp
      obtain ⟨⟨t1, t2⟩, h1, h2⟩ := Option.bind_eq_some_iff.1 hp
      have H1 := Aside0.mk h1
      clear HP hp h1 e
      go_wp2_with fail
      refine (varint_Put.calls _ _ _ _ (tab_below HT.out HB.out) H1.out).mono ?_
      rintro e w3 ⟨rfl, hb3⟩
      have HD3 := Aside0.mk (HD.out.below hb3)
      have HB3 := Aside0.mk (below_step HB.out hb3)
      clear hb3 hx
      by_cases h0 : t2 = 0
      · subst h0
        rw [if_pos rfl] at h2
        by_cases hs : s.size + t1.size ≤ 140737488355328
        · rw [if_pos hs] at h2
          have H2 := Aside0.mk h2
          have HS := Aside0.mk hs
          clear h2 hs
          go_wp2_with fail
          refine (bld_write _ _ _ _ _ _ _ _ puts_T HD3.out HS.out HB3.out.size).mono ?_
          rintro e w4 ⟨rfl, ⟨v4, hd4⟩, hb4⟩
          have HD4 := Aside0.mk hd4
          have HB4 := Aside0.mk (HB3.out.trans hb4)
          clear hd4 hb4
          go_wp2
          go_roundw
          case rel => exact ⟨k + 1, _, _, _, by omega, by go_num, H2, HD4, HB4⟩
          case measure => simp [intOf]; omega
        · rw [if_neg hs] at h2
          exact absurd h2 (by simp)
      · rw [if_neg h0] at h2
        have hne : (t2 != 0) = true := bne_iff_ne.2 h0
        have hne2 : (t2 == 0) = false := beq_eq_false_iff_ne.2 h0
        simp only [Option.some.injEq, Prod.mk.injEq] at h2
        obtain ⟨rfl, rfl⟩ := h2
        clear h0
        go_wp2
        go_ret2
        exact ⟨rfl, HB3.out⟩
    · have e : l0.drop k = [] := List.drop_of_length_le (by omega)
      have hp := HP.out
      rw [e, putsL] at hp
      simp only [Option.some.injEq, Prod.mk.injEq] at hp
      obtain ⟨rfl, rfl⟩ := hp
      have hk2 : l0.length ≤ k := by omega
      clear hlt HP
      go_wp2_with fail
      refine (bld_string _ _ _ _ _ _ _ HD.out).mono ?_
      rintro e w4 ⟨rfl, hb4⟩
      have HB4 := Aside0.mk hb4
      clear hb4
      go_wp2
      go_ret2
      exact ⟨rfl, HB.out.trans HB4.out⟩

/-! ### dominoref01_power: function 25 -/
def dominoref01_power.l0 : Nat → Int → Int → Int → Option (Int)
  | 0, _, _, _ => none
  | k + 1, x0, x3, x4 => if x4 < x0 then (dominoref01_power.l0 k x0 (IntKind.u64.wrap (x3 * 2)) (wrap64 (x4 + 1))) else (some x3)
def dominoref01_power.f (k : Nat) (a0 : Int) : Option (Int) := dominoref01_power.l0 k a0 1 0
theorem dominoref01_power.mono_l : ∀ k, (∀ y0 y1 y2, LeO (dominoref01_power.l0 k y0 y1 y2) (dominoref01_power.l0 (k + 1) y0 y1 y2))
  | 0 => fun _ _ _ r h => by simp [dominoref01_power.l0] at h
  | k + 1 => by
    have ih0 := dominoref01_power.mono_l k
    · intro y0 y1 y2
      unfold dominoref01_power.l0
      repeat' first
      | (with_reducible exact ih0 _ _ _)
      | (with_reducible exact LeO.refl _)
      | (with_reducible exact LeO.none _)
      | (with_reducible refine LeO.ite ?_ ?_)
      | (with_reducible refine LeO.bind ?_ (fun _ => ?_))
      | exact ih0 _ _ _
      | exact LeO.none _
      | refine LeO.ite ?_ ?_
      | refine LeO.bind ?_ (fun _ => ?_)
theorem dominoref01_power.mono : ∀ a0 k, LeO (dominoref01_power.f k a0) (dominoref01_power.f (k + 1) a0) := by
  intro a0 k
  have ih0 := dominoref01_power.mono_l k
  unfold dominoref01_power.f
  repeat' first
      | (with_reducible exact ih0 _ _ _)
      | (with_reducible exact LeO.refl _)
      | (with_reducible exact LeO.none _)
      | (with_reducible refine LeO.ite ?_ ?_)
      | (with_reducible refine LeO.bind ?_ (fun _ => ?_))
      | exact ih0 _ _ _
      | exact LeO.none _
      | refine LeO.ite ?_ ?_
      | refine LeO.bind ?_ (fun _ => ?_)
set_option maxHeartbeats 8000000 in
set_option maxRecDepth 100000 in
theorem dominoref01_power.calls (k : Nat) (a0 : Int) (r : Int) (w : World) (h : dominoref01_power.f k a0 = some r) :
    Calls Tryd.prog 25 #[.int .i64 a0] w fun e w' => e = .returned (.int .u64 r) ∧ Drawn0 w w' := by
  have H : (dominoref01_power.l0 k a0 1 0) = some r := h
  clear h
  have H' := Aside0.mk H
  clear H
  go_enter Tryd.func25, Tryd.ntmps25
  go_wp2
  go_loopg [3, 4] k (fun kq v3 v4 w' => ∃ (x3_1 : Int) (x4_1 : Int), v3 = .int .u64 x3_1 ∧ v4 = .int .i64 x4_1 ∧ Aside0 (dominoref01_power.l0 kq a0 x3_1 x4_1 = some r) ∧ Aside0 (kq ≤ k) ∧ Drawn0 w w')
  case atStart => exact ⟨(1), (0), (by first | rfl | (simp; done) | (simp [*]; done)), (by first | rfl | (simp; done) | (simp [*]; done)), H', ⟨Nat.le_refl _⟩, by repeat (first | exact Drawn0.refl _ | apply Drawn0.step)⟩
  case round =>
    clear H'
    obtain ⟨x3_1, x4_1, rfl, rfl, HA, HK1, ⟨m1, rfl⟩⟩ := hrel
    cases gk with
    | zero => exact absurd HA.out (by simp [dominoref01_power.l0])
    | succ k1 =>
      have H := HA.out
      clear HA
      simp only [dominoref01_power.l0] at H
      by_cases c2 : x4_1 < a0
      · rw [if_pos c2] at H
        have c2b0 : decide (x4_1 < a0) = true := decide_eq_true c2
        clear c2
        have H' := Aside0.mk H
        clear H
        go_wp2
        go_roundg k1
        case measure => have := HK1.out; omega
        case rel => exact ⟨(IntKind.u64.wrap (x3_1 * 2)), (wrap64 (x4_1 + 1)), (by first | rfl | (simp; done) | (simp [*]; done)), (by first | rfl | (simp; done) | (simp [*]; done)), H', ⟨by have := HK1.out; omega⟩, by repeat (first | exact Drawn0.refl _ | apply Drawn0.step)⟩
      · rw [if_neg c2] at H
        have c2b0 : decide (x4_1 < a0) = false := decide_eq_false c2
        clear c2
        obtain rfl := Option.some.inj H
        go_wp2
        go_ret
        exact ⟨by first | rfl | (simp; done) | (simp [*]; done), by repeat (first | exact Drawn0.refl _ | apply Drawn0.step)⟩

/-! ### dominoref01_Size: function 15 -/
def dominoref01_Size.f (k : Nat) (a0 : Int) : Option (Int) := (dominoref01_power.f k 6).bind fun t107 => (if a0 < t107 then (some 1) else ((dominoref01_power.f k 14).bind fun t108 => (if a0 < t108 then (some 2) else ((dominoref01_power.f k 30).bind fun t109 => (if a0 < t109 then (some 4) else ((dominoref01_power.f k 62).bind fun t110 => (if a0 < t110 then (some 8) else (some 0))))))))
theorem dominoref01_Size.mono : ∀ a0 k, LeO (dominoref01_Size.f k a0) (dominoref01_Size.f (k + 1) a0) := by
  intro a0 k
  unfold dominoref01_Size.f
  repeat' first
      | (with_reducible exact dominoref01_power.mono _ _)
      | (with_reducible exact LeO.refl _)
      | (with_reducible exact LeO.none _)
      | (with_reducible refine LeO.ite ?_ ?_)
      | (with_reducible refine LeO.bind ?_ (fun _ => ?_))
      | exact dominoref01_power.mono _ _
      | exact LeO.none _
      | refine LeO.ite ?_ ?_
      | refine LeO.bind ?_ (fun _ => ?_)
set_option maxHeartbeats 8000000 in
set_option maxRecDepth 100000 in
theorem dominoref01_Size.calls (k : Nat) (a0 : Int) (r : Int) (w : World) (h : dominoref01_Size.f k a0 = some r) :
    Calls Tryd.prog 15 #[.int .u64 a0] w fun e w' => e = .returned (.int .i64 r) ∧ Drawn0 w w' := by
  have H : ((dominoref01_power.f k 6).bind fun t107 => (if a0 < t107 then (some 1) else ((dominoref01_power.f k 14).bind fun t108 => (if a0 < t108 then (some 2) else ((dominoref01_power.f k 30).bind fun t109 => (if a0 < t109 then (some 4) else ((dominoref01_power.f k 62).bind fun t110 => (if a0 < t110 then (some 8) else (some 0))))))))) = some r := h
  clear h
  replace H := Option.bind_eq_some_iff.mp H
  obtain ⟨t107, A20, H⟩ := H
  replace H : (if a0 < t107 then (some 1) else ((dominoref01_power.f k 14).bind fun t108 => (if a0 < t108 then (some 2) else ((dominoref01_power.f k 30).bind fun t109 => (if a0 < t109 then (some 4) else ((dominoref01_power.f k 62).bind fun t110 => (if a0 < t110 then (some 8) else (some 0)))))))) = some r := H
  have A2 := Aside0.mk A20
  clear A20
  by_cases c3 : a0 < t107
  · rw [if_pos c3] at H
    have c3b0 : decide (a0 < t107) = true := decide_eq_true c3
    clear c3
    obtain rfl := Option.some.inj H
    go_enter Tryd.func15, Tryd.ntmps15
    go_wp2_with (first | ((with_reducible refine gate_callee (f := 25) rfl ?_); refine goesL_ (some 5) rfl rfl Tryd.func25 (by kernel_rfl) rfl #[.int .i64 6] rfl (by (try simp only [List.map_toArray, List.map_cons, List.map_nil]); first | done | rfl | (simp only [List.length_drop, List.length_take]; rfl)) ?_; (with_reducible refine (dominoref01_power.calls k 6 t107 _ A2.out).mono ?_); rintro e w' ⟨rfl, ⟨nd, rfl⟩⟩; refine ⟨_, rfl, ?_⟩))
    go_ret
    exact ⟨by first | rfl | (simp; done) | (simp [*]; done), by repeat (first | exact Drawn0.refl _ | apply Drawn0.step)⟩
  · rw [if_neg c3] at H
    have c3b0 : decide (a0 < t107) = false := decide_eq_false c3
    clear c3
    replace H := Option.bind_eq_some_iff.mp H
    obtain ⟨t108, A40, H⟩ := H
    replace H : (if a0 < t108 then (some 2) else ((dominoref01_power.f k 30).bind fun t109 => (if a0 < t109 then (some 4) else ((dominoref01_power.f k 62).bind fun t110 => (if a0 < t110 then (some 8) else (some 0)))))) = some r := H
    have A4 := Aside0.mk A40
    clear A40
    by_cases c5 : a0 < t108
    · rw [if_pos c5] at H
      have c5b0 : decide (a0 < t108) = true := decide_eq_true c5
      clear c5
      obtain rfl := Option.some.inj H
      go_enter Tryd.func15, Tryd.ntmps15
      go_wp2_with (first | ((with_reducible refine gate_callee (f := 25) rfl ?_); refine goesL_ (some 5) rfl rfl Tryd.func25 (by kernel_rfl) rfl #[.int .i64 6] rfl (by (try simp only [List.map_toArray, List.map_cons, List.map_nil]); first | done | rfl | (simp only [List.length_drop, List.length_take]; rfl)) ?_; (with_reducible refine (dominoref01_power.calls k 6 t107 _ A2.out).mono ?_); rintro e w' ⟨rfl, ⟨nd, rfl⟩⟩; refine ⟨_, rfl, ?_⟩) | ((with_reducible refine gate_callee (f := 25) rfl ?_); refine goesL_ (some 9) rfl rfl Tryd.func25 (by kernel_rfl) rfl #[.int .i64 14] rfl (by (try simp only [List.map_toArray, List.map_cons, List.map_nil]); first | done | rfl | (simp only [List.length_drop, List.length_take]; rfl)) ?_; (with_reducible refine (dominoref01_power.calls k 14 t108 _ A4.out).mono ?_); rintro e w' ⟨rfl, ⟨nd, rfl⟩⟩; refine ⟨_, rfl, ?_⟩))
      go_ret
      exact ⟨by first | rfl | (simp; done) | (simp [*]; done), by repeat (first | exact Drawn0.refl _ | apply Drawn0.step)⟩
    · rw [if_neg c5] at H
      have c5b0 : decide (a0 < t108) = false := decide_eq_false c5
      clear c5
      replace H := Option.bind_eq_some_iff.mp H
      obtain ⟨t109, A60, H⟩ := H
      replace H : (if a0 < t109 then (some 4) else ((dominoref01_power.f k 62).bind fun t110 => (if a0 < t110 then (some 8) else (some 0)))) = some r := H
      have A6 := Aside0.mk A60
      clear A60
      by_cases c7 : a0 < t109
      · rw [if_pos c7] at H
        have c7b0 : decide (a0 < t109) = true := decide_eq_true c7
        clear c7
        obtain rfl := Option.some.inj H
        go_enter Tryd.func15, Tryd.ntmps15
        go_wp2_with (first | ((with_reducible refine gate_callee (f := 25) rfl ?_); refine goesL_ (some 5) rfl rfl Tryd.func25 (by kernel_rfl) rfl #[.int .i64 6] rfl (by (try simp only [List.map_toArray, List.map_cons, List.map_nil]); first | done | rfl | (simp only [List.length_drop, List.length_take]; rfl)) ?_; (with_reducible refine (dominoref01_power.calls k 6 t107 _ A2.out).mono ?_); rintro e w' ⟨rfl, ⟨nd, rfl⟩⟩; refine ⟨_, rfl, ?_⟩) | ((with_reducible refine gate_callee (f := 25) rfl ?_); refine goesL_ (some 9) rfl rfl Tryd.func25 (by kernel_rfl) rfl #[.int .i64 14] rfl (by (try simp only [List.map_toArray, List.map_cons, List.map_nil]); first | done | rfl | (simp only [List.length_drop, List.length_take]; rfl)) ?_; (with_reducible refine (dominoref01_power.calls k 14 t108 _ A4.out).mono ?_); rintro e w' ⟨rfl, ⟨nd, rfl⟩⟩; refine ⟨_, rfl, ?_⟩) | ((with_reducible refine gate_callee (f := 25) rfl ?_); refine goesL_ (some 13) rfl rfl Tryd.func25 (by kernel_rfl) rfl #[.int .i64 30] rfl (by (try simp only [List.map_toArray, List.map_cons, List.map_nil]); first | done | rfl | (simp only [List.length_drop, List.length_take]; rfl)) ?_; (with_reducible refine (dominoref01_power.calls k 30 t109 _ A6.out).mono ?_); rintro e w' ⟨rfl, ⟨nd, rfl⟩⟩; refine ⟨_, rfl, ?_⟩))
        go_ret
        exact ⟨by first | rfl | (simp; done) | (simp [*]; done), by repeat (first | exact Drawn0.refl _ | apply Drawn0.step)⟩
      · rw [if_neg c7] at H
        have c7b0 : decide (a0 < t109) = false := decide_eq_false c7
        clear c7
        replace H := Option.bind_eq_some_iff.mp H
        obtain ⟨t110, A80, H⟩ := H
        replace H : (if a0 < t110 then (some 8) else (some 0)) = some r := H
        have A8 := Aside0.mk A80
        clear A80
        by_cases c9 : a0 < t110
        · rw [if_pos c9] at H
          have c9b0 : decide (a0 < t110) = true := decide_eq_true c9
          clear c9
          obtain rfl := Option.some.inj H
          go_enter Tryd.func15, Tryd.ntmps15
          go_wp2_with (first | ((with_reducible refine gate_callee (f := 25) rfl ?_); refine goesL_ (some 5) rfl rfl Tryd.func25 (by kernel_rfl) rfl #[.int .i64 6] rfl (by (try simp only [List.map_toArray, List.map_cons, List.map_nil]); first | done | rfl | (simp only [List.length_drop, List.length_take]; rfl)) ?_; (with_reducible refine (dominoref01_power.calls k 6 t107 _ A2.out).mono ?_); rintro e w' ⟨rfl, ⟨nd, rfl⟩⟩; refine ⟨_, rfl, ?_⟩) | ((with_reducible refine gate_callee (f := 25) rfl ?_); refine goesL_ (some 9) rfl rfl Tryd.func25 (by kernel_rfl) rfl #[.int .i64 14] rfl (by (try simp only [List.map_toArray, List.map_cons, List.map_nil]); first | done | rfl | (simp only [List.length_drop, List.length_take]; rfl)) ?_; (with_reducible refine (dominoref01_power.calls k 14 t108 _ A4.out).mono ?_); rintro e w' ⟨rfl, ⟨nd, rfl⟩⟩; refine ⟨_, rfl, ?_⟩) | ((with_reducible refine gate_callee (f := 25) rfl ?_); refine goesL_ (some 13) rfl rfl Tryd.func25 (by kernel_rfl) rfl #[.int .i64 30] rfl (by (try simp only [List.map_toArray, List.map_cons, List.map_nil]); first | done | rfl | (simp only [List.length_drop, List.length_take]; rfl)) ?_; (with_reducible refine (dominoref01_power.calls k 30 t109 _ A6.out).mono ?_); rintro e w' ⟨rfl, ⟨nd, rfl⟩⟩; refine ⟨_, rfl, ?_⟩) | ((with_reducible refine gate_callee (f := 25) rfl ?_); refine goesL_ (some 17) rfl rfl Tryd.func25 (by kernel_rfl) rfl #[.int .i64 62] rfl (by (try simp only [List.map_toArray, List.map_cons, List.map_nil]); first | done | rfl | (simp only [List.length_drop, List.length_take]; rfl)) ?_; (with_reducible refine (dominoref01_power.calls k 62 t110 _ A8.out).mono ?_); rintro e w' ⟨rfl, ⟨nd, rfl⟩⟩; refine ⟨_, rfl, ?_⟩))
          go_ret
          exact ⟨by first | rfl | (simp; done) | (simp [*]; done), by repeat (first | exact Drawn0.refl _ | apply Drawn0.step)⟩
        · rw [if_neg c9] at H
          have c9b0 : decide (a0 < t110) = false := decide_eq_false c9
          clear c9
          obtain rfl := Option.some.inj H
          go_enter Tryd.func15, Tryd.ntmps15
          go_wp2_with (first | ((with_reducible refine gate_callee (f := 25) rfl ?_); refine goesL_ (some 5) rfl rfl Tryd.func25 (by kernel_rfl) rfl #[.int .i64 6] rfl (by (try simp only [List.map_toArray, List.map_cons, List.map_nil]); first | done | rfl | (simp only [List.length_drop, List.length_take]; rfl)) ?_; (with_reducible refine (dominoref01_power.calls k 6 t107 _ A2.out).mono ?_); rintro e w' ⟨rfl, ⟨nd, rfl⟩⟩; refine ⟨_, rfl, ?_⟩) | ((with_reducible refine gate_callee (f := 25) rfl ?_); refine goesL_ (some 9) rfl rfl Tryd.func25 (by kernel_rfl) rfl #[.int .i64 14] rfl (by (try simp only [List.map_toArray, List.map_cons, List.map_nil]); first | done | rfl | (simp only [List.length_drop, List.length_take]; rfl)) ?_; (with_reducible refine (dominoref01_power.calls k 14 t108 _ A4.out).mono ?_); rintro e w' ⟨rfl, ⟨nd, rfl⟩⟩; refine ⟨_, rfl, ?_⟩) | ((with_reducible refine gate_callee (f := 25) rfl ?_); refine goesL_ (some 13) rfl rfl Tryd.func25 (by kernel_rfl) rfl #[.int .i64 30] rfl (by (try simp only [List.map_toArray, List.map_cons, List.map_nil]); first | done | rfl | (simp only [List.length_drop, List.length_take]; rfl)) ?_; (with_reducible refine (dominoref01_power.calls k 30 t109 _ A6.out).mono ?_); rintro e w' ⟨rfl, ⟨nd, rfl⟩⟩; refine ⟨_, rfl, ?_⟩) | ((with_reducible refine gate_callee (f := 25) rfl ?_); refine goesL_ (some 17) rfl rfl Tryd.func25 (by kernel_rfl) rfl #[.int .i64 62] rfl (by (try simp only [List.map_toArray, List.map_cons, List.map_nil]); first | done | rfl | (simp only [List.length_drop, List.length_take]; rfl)) ?_; (with_reducible refine (dominoref01_power.calls k 62 t110 _ A8.out).mono ?_); rintro e w' ⟨rfl, ⟨nd, rfl⟩⟩; refine ⟨_, rfl, ?_⟩))
          go_ret
          exact ⟨by first | rfl | (simp; done) | (simp [*]; done), by repeat (first | exact Drawn0.refl _ | apply Drawn0.step)⟩

/-! ### dominoref01_Fixed: function 24 -/
def dominoref01_Fixed.l0 : Nat → Int → List Int → Int → Option (ByteArray)
  | 0, _, _, _ => none
  | k + 1, x0, x5, x6 => if x6 ≥ 0 then ((dominoref01_power.f k (wrap64 (8 * x6))).bind fun t114 => (if t114 = 0 then (none) else (if x5.length < 140737488355328 then (dominoref01_Fixed.l0 k x0 (x5 ++ [(Int.tmod (IntKind.u64.wrap (Int.tdiv x0 t114)) 256) % 256]) (wrap64 (x6 - 1))) else (none)))) else (some (strOfNums x5))
def dominoref01_Fixed.f (k : Nat) (a0 : Int) (a1 : Int) : Option (ByteArray) := dominoref01_Fixed.l0 k a0 (([] : List Int)) ((mx (mn a1 8) 0) - 1)
theorem dominoref01_Fixed.mono_l : ∀ k, (∀ y0 y1 y2, LeO (dominoref01_Fixed.l0 k y0 y1 y2) (dominoref01_Fixed.l0 (k + 1) y0 y1 y2))
  | 0 => fun _ _ _ r h => by simp [dominoref01_Fixed.l0] at h
  | k + 1 => by
    have ih0 := dominoref01_Fixed.mono_l k
    · intro y0 y1 y2
      unfold dominoref01_Fixed.l0
      repeat' first
      | (with_reducible exact ih0 _ _ _)
      | (with_reducible exact dominoref01_power.mono _ _)
      | (with_reducible exact LeO.refl _)
      | (with_reducible exact LeO.none _)
      | (with_reducible refine LeO.ite ?_ ?_)
      | (with_reducible refine LeO.bind ?_ (fun _ => ?_))
      | exact ih0 _ _ _
      | exact dominoref01_power.mono _ _
      | exact LeO.none _
      | refine LeO.ite ?_ ?_
      | refine LeO.bind ?_ (fun _ => ?_)
theorem dominoref01_Fixed.mono : ∀ a0 a1 k, LeO (dominoref01_Fixed.f k a0 a1) (dominoref01_Fixed.f (k + 1) a0 a1) := by
  intro a0 a1 k
  have ih0 := dominoref01_Fixed.mono_l k
  unfold dominoref01_Fixed.f
  repeat' first
      | (with_reducible exact ih0 _ _ _)
      | (with_reducible exact dominoref01_power.mono _ _)
      | (with_reducible exact LeO.refl _)
      | (with_reducible exact LeO.none _)
      | (with_reducible refine LeO.ite ?_ ?_)
      | (with_reducible refine LeO.bind ?_ (fun _ => ?_))
      | exact ih0 _ _ _
      | exact dominoref01_power.mono _ _
      | exact LeO.none _
      | refine LeO.ite ?_ ?_
      | refine LeO.bind ?_ (fun _ => ?_)
set_option maxHeartbeats 8000000 in
set_option maxRecDepth 100000 in
theorem dominoref01_Fixed.calls (k : Nat) (a0 : Int) (a1 : Int) (r : ByteArray) (w : World) (h : dominoref01_Fixed.f k a0 a1 = some r) :
    Calls Tryd.prog 24 #[.int .u64 a0, .int .i64 a1] w fun e w' => e = .returned (.string r) ∧ Below w.heap.size w w' := by
  have HB := Aside0.mk (Below.refl w.heap.size w)
  have H : (dominoref01_Fixed.l0 k a0 (([] : List Int)) ((mx (mn a1 8) 0) - 1)) = some r := h
  clear h
  obtain ⟨y111, hy111⟩ : ∃ y_ : List Int, y_ = (([] : List Int)) := ⟨_, rfl⟩
  replace H : (dominoref01_Fixed.l0 k a0 y111 ((mx (mn a1 8) 0) - 1)) = some r := by first | (rw [hy111]; with_reducible exact H) | (have H2_ := (Option.bind_some _ _).symm.trans H; rw [hy111]; with_reducible exact H2_) | (have H2_ := (Option.bind_some _ _).symm.trans H; with_reducible exact H2_) | with_reducible exact H | (rw [hy111]; exact H) | exact H
  have Ny111 := Aside0.mk hy111
  clear hy111
  obtain ⟨ji3, hji3⟩ : ∃ j_ : Int, (mn a1 8) = j_ := ⟨_, rfl⟩
  replace H : (dominoref01_Fixed.l0 k a0 y111 ((mx (ji3) 0) - 1)) = some r := by first | (rw [hji3] at H; exact H) | (simp only [hji3] at H ⊢; exact H)
  (try (have hji3h : ji3 ≤ 8 := by (rw [← hji3]; unfold mn; (repeat' split) <;> omega)))
  (try (have hji3g : ji3 ≤ 64 := by omega))
  have hji3_ : (if 8 < a1 then 8 else a1) = ji3 := hji3
  obtain ⟨ji4, hji4⟩ : ∃ j_ : Int, (mx (ji3) 0) = j_ := ⟨_, rfl⟩
  replace H : (dominoref01_Fixed.l0 k a0 y111 ((ji4) - 1)) = some r := by first | (rw [hji4] at H; exact H) | (simp only [hji4] at H ⊢; exact H)
  have hji4_ : (if (ji3) < 0 then 0 else (ji3)) = ji4 := hji4
  have H' := Aside0.mk H
  clear H
  go_enter Tryd.func24, Tryd.ntmps24
  go_wp2_with (first | ((with_reducible refine gate_dst (N := 7) rfl ?_); refine Kd.R_lit (Kd.int .u8) _ 5 ?hg (N := 7) ?hd (xs := ([] : List Int)) (inner := []) (ok := fun _ => True) (okp := fun _ => True) ?hr ?hp (fun _ hk => hk) trivial (Below.refl _ _) (Nat.le_refl _) (by simp) ?_; (case hd => rfl); (case hg => rfl); (case hr => first | (go_simp; done) | (go_simp; rfl)); (case hp => exact (Reps.none _ _)); intro v112 w5 ho6 hb hg_ hnew_; clear hg_ hnew_; (first | rw [← Ny111.out] at ho6 | (simp only [Int.reduceToNat] at ho6; rw [← Ny111.out] at ho6)); have n0_ := Aside0.mk (Kd.R_lower ho6 (below_size (by repeat (first | (with_reducible first | exact HB.out | apply below_alloc | apply pw_below_drewN | apply below_drew1) | exact HB.out)))); have n1_ := Aside0.mk (below_step (by repeat (first | (with_reducible first | exact HB.out | apply below_alloc | apply pw_below_drewN | apply below_drew1) | exact HB.out)) hb); clear HB; have HO113 := n0_; have HB := n1_; clear n0_ n1_; clear hb ho6))
  go_loopg [5, 6] k (fun kq v5 v6 w' => ∃ (x5_1 : List Int) (x6_1 : Int), v6 = .int .i64 x6_1 ∧ Aside0 (dominoref01_Fixed.l0 kq a0 x5_1 x6_1 = some r) ∧ Aside0 (kq ≤ k) ∧ Aside0 (Kd.R (Kd.int .u8) 5 w' w.heap.size (fun _ => True) v5 x5_1) ∧ Aside0 (Below w.heap.size w w'))
  case atStart => exact ⟨(y111), ((ji4) - 1), (by first | rfl | (simp; done) | (simp only [← hji4] <;> (first | rfl | simp)) | (simp [*]; done)), H', ⟨Nat.le_refl _⟩, ⟨by (with_reducible repeat (first | apply Kd.R_alloc | apply Kd.R_drewN | apply Kd.R_drew)); exact HO113.out⟩, ⟨by repeat (first | (with_reducible first | exact HB.out | apply below_alloc | apply pw_below_drewN | apply below_drew1) | exact HB.out)⟩⟩
  case round =>
    clear H'
    try clear c2
    try clear p2
    obtain ⟨x5_1, x6_1, rfl, HA, HK1, HO_5, HB⟩ := hrel
    cases gk with
    | zero => exact absurd HA.out (by simp [dominoref01_Fixed.l0])
    | succ k1 =>
      have H := HA.out
      clear HA
      simp only [dominoref01_Fixed.l0] at H
      by_cases c7 : x6_1 ≥ 0
      · rw [if_pos c7] at H
        have c7b0 : decide (0 ≤ x6_1) = true := decide_eq_true c7
        clear c7
        replace H := Option.bind_eq_some_iff.mp H
        obtain ⟨t114, A80, H⟩ := H
        replace H : (if t114 = 0 then (none) else (if x5_1.length < 140737488355328 then (dominoref01_Fixed.l0 k1 a0 (x5_1 ++ [(Int.tmod (IntKind.u64.wrap (Int.tdiv a0 t114)) 256) % 256]) (wrap64 (x6_1 - 1))) else (none))) = some r := H
        have A8 := Aside0.mk A80
        clear A80
        by_cases c9 : t114 = 0
        · rw [if_pos c9] at H
          exact absurd H (by simp)
        · rw [if_neg c9] at H
          have c9b0 : (t114 == 0) = false := beq_eq_false_iff_ne.mpr c9
          have c9b1 : (t114 != 0) = true := bne_iff_ne.mpr c9
          by_cases c10 : x5_1.length < 140737488355328
          · rw [if_pos c10] at H
            have LMc10 := Aside0.mk c10
            clear c10
            obtain ⟨y115, hy115⟩ : ∃ y_ : List Int, y_ = (x5_1 ++ [(Int.tmod (IntKind.u64.wrap (Int.tdiv a0 t114)) 256) % 256]) := ⟨_, rfl⟩
            replace H : (dominoref01_Fixed.l0 k1 a0 y115 (wrap64 (x6_1 - 1))) = some r := by first | (rw [hy115]; with_reducible exact H) | (have H2_ := (Option.bind_some _ _).symm.trans H; rw [hy115]; with_reducible exact H2_) | (have H2_ := (Option.bind_some _ _).symm.trans H; with_reducible exact H2_) | with_reducible exact H | (rw [hy115]; exact H) | exact H
            have Ny115 := Aside0.mk hy115
            clear hy115
            have H' := Aside0.mk H
            clear H
            go_wp2_with (first | ((with_reducible refine gate_callee (f := 25) rfl ?_); refine goesL_ (some 20) rfl rfl Tryd.func25 (by kernel_rfl) rfl #[.int .i64 (wrap64 (8 * x6_1))] rfl (by (try simp only [List.map_toArray, List.map_cons, List.map_nil]); first | done | rfl | (simp only [List.length_drop, List.length_take]; rfl)) ?_; (with_reducible refine (dominoref01_power.calls k1 (wrap64 (8 * x6_1)) t114 _ A8.out).mono ?_); rintro e w' ⟨rfl, ⟨nd, rfl⟩⟩; refine ⟨_, rfl, ?_⟩) | ((with_reducible refine gate_builtin (b := .append) (xs := #[.tmp 16, .tmp 24]) rfl ?_); at_builtin; refine Kd.R_append (Kd.int .u8) (w0 := w) w.heap.size rfl (.tmp 16) (.tmp 24) 46 5 (.int .u8 0) 1 rfl Tryd.underlying46 info5 rfl (by decide) (by omega) u5 x5_1 ((Int.tmod (IntKind.u64.wrap (Int.tdiv a0 t114)) 256) % 256) [.int .u8 ((Int.tmod (IntKind.u64.wrap (Int.tdiv a0 t114)) 256) % 256)] (fun _ => True) (fun _ => False) rfl rfl ?aP (fun _ hk => hk.elim) ?aF ?aO ?aB ?aS ?aL ?_; (case aP => exact rfl); (case aB => exact (by repeat (first | (with_reducible first | exact HB.out | apply below_alloc | apply pw_below_drewN | apply below_drew1) | exact HB.out))); (case aF => exact (fun _ _ => trivial)); (case aO => exact (by (with_reducible repeat (first | apply Kd.R_alloc | apply Kd.R_drewN | apply Kd.R_drew)); exact HO_5.out)); (case aS => exact (below_size (by repeat (first | (with_reducible first | exact HB.out | apply below_alloc | apply pw_below_drewN | apply below_drew1) | exact HB.out)))); (case aL => have := LMc10.out; omega); intro v116 w11 ho hb hg hat; rw [← Ny115.out] at ho; have n0_ := Aside0.mk (hb); have n1_ := Aside0.mk (ho); clear HB; clear HO_5; have HB := n0_; have HO117 := n1_; clear n0_ n1_; clear ho hb hg hat))
            go_roundg k1
            case measure => have := HK1.out; omega
            case rel => exact ⟨(y115), (wrap64 (x6_1 - 1)), (by first | rfl | (simp; done) | (simp [*]; done)), H', ⟨by have := HK1.out; omega⟩, ⟨by (with_reducible repeat (first | apply Kd.R_alloc | apply Kd.R_drewN | apply Kd.R_drew)); exact HO117.out⟩, ⟨by repeat (first | (with_reducible first | exact HB.out | apply below_alloc | apply pw_below_drewN | apply below_drew1) | exact HB.out)⟩⟩
          · rw [if_neg c10] at H
            exact absurd H (by simp)
      · rw [if_neg c7] at H
        have c7b0 : decide (0 ≤ x6_1) = false := decide_eq_false c7
        clear c7
        obtain rfl := Option.some.inj H
        have hcv12 := own_string (P := Tryd.prog) Tryd.underlying46 Tryd.underlying5 Tryd.underlying9 (Kd.own_of_R HO_5.out)
        go_wp2
        go_ret
        exact ⟨by first | rfl | (simp [errW_none, errW_some] <;> rfl) | (simp only [← hji3, ← hji4]; first | rfl | (simp [errW_none, errW_some] <;> rfl)) | (simp [*, errW_none, errW_some] <;> rfl), by repeat (first | (with_reducible first | exact HB.out | apply below_alloc | apply pw_below_drewN | apply below_drew1) | exact HB.out)⟩

/-! ### dominoref01_Put: function 11 -/
def dominoref01_Put.f (k : Nat) (a0 : Int) : Option (ByteArray × Int) := (dominoref01_Size.f k a0).bind fun t118 => (if t118 = 1 then ((dominoref01_Fixed.f k a0 1).bind fun t119 => (some (t119, 0))) else (if t118 = 2 then ((dominoref01_power.f k 14).bind fun t120 => ((dominoref01_Fixed.f k (IntKind.u64.wrap (a0 + t120)) 2).bind fun t121 => (some (t121, 0)))) else (if t118 = 4 then ((dominoref01_power.f k 30).bind fun t122 => ((dominoref01_Fixed.f k (IntKind.u64.wrap (a0 + (IntKind.u64.wrap (2 * t122)))) 4).bind fun t123 => (some (t123, 0)))) else (if t118 = 8 then ((dominoref01_power.f k 62).bind fun t124 => ((dominoref01_Fixed.f k (IntKind.u64.wrap (a0 + (IntKind.u64.wrap (3 * t124)))) 8).bind fun t125 => (some (t125, 0)))) else (some ((⟨#[]⟩ : ByteArray), 1))))))
theorem dominoref01_Put.mono : ∀ a0 k, LeO (dominoref01_Put.f k a0) (dominoref01_Put.f (k + 1) a0) := by
  intro a0 k
  unfold dominoref01_Put.f
  repeat' first
      | (with_reducible exact dominoref01_Fixed.mono _ _ _)
      | (with_reducible exact dominoref01_Size.mono _ _)
      | (with_reducible exact dominoref01_power.mono _ _)
      | (with_reducible exact LeO.refl _)
      | (with_reducible exact LeO.none _)
      | (with_reducible refine LeO.ite ?_ ?_)
      | (with_reducible refine LeO.bind ?_ (fun _ => ?_))
      | exact dominoref01_Fixed.mono _ _ _
      | exact dominoref01_Size.mono _ _
      | exact dominoref01_power.mono _ _
      | exact LeO.none _
      | refine LeO.ite ?_ ?_
      | refine LeO.bind ?_ (fun _ => ?_)
set_option maxHeartbeats 8000000 in
set_option maxRecDepth 100000 in
theorem dominoref01_Put.calls (k : Nat) (a0 : Int) (r1 : ByteArray) (r2 : Int) (w : World) (h : dominoref01_Put.f k a0 = some (r1, r2)) :
    Calls Tryd.prog 11 #[.int .u64 a0] w fun e w' => e = .returned (.tuple #[.string r1, .int .i64 r2]) ∧ Below w.heap.size w w' := by
  have HB := Aside0.mk (Below.refl w.heap.size w)
  have H : ((dominoref01_Size.f k a0).bind fun t118 => (if t118 = 1 then ((dominoref01_Fixed.f k a0 1).bind fun t119 => (some (t119, 0))) else (if t118 = 2 then ((dominoref01_power.f k 14).bind fun t120 => ((dominoref01_Fixed.f k (IntKind.u64.wrap (a0 + t120)) 2).bind fun t121 => (some (t121, 0)))) else (if t118 = 4 then ((dominoref01_power.f k 30).bind fun t122 => ((dominoref01_Fixed.f k (IntKind.u64.wrap (a0 + (IntKind.u64.wrap (2 * t122)))) 4).bind fun t123 => (some (t123, 0)))) else (if t118 = 8 then ((dominoref01_power.f k 62).bind fun t124 => ((dominoref01_Fixed.f k (IntKind.u64.wrap (a0 + (IntKind.u64.wrap (3 * t124)))) 8).bind fun t125 => (some (t125, 0)))) else (some ((⟨#[]⟩ : ByteArray), 1))))))) = some (r1, r2) := h
  clear h
  replace H := Option.bind_eq_some_iff.mp H
  obtain ⟨t118, A20, H⟩ := H
  replace H : (if t118 = 1 then ((dominoref01_Fixed.f k a0 1).bind fun t119 => (some (t119, 0))) else (if t118 = 2 then ((dominoref01_power.f k 14).bind fun t120 => ((dominoref01_Fixed.f k (IntKind.u64.wrap (a0 + t120)) 2).bind fun t121 => (some (t121, 0)))) else (if t118 = 4 then ((dominoref01_power.f k 30).bind fun t122 => ((dominoref01_Fixed.f k (IntKind.u64.wrap (a0 + (IntKind.u64.wrap (2 * t122)))) 4).bind fun t123 => (some (t123, 0)))) else (if t118 = 8 then ((dominoref01_power.f k 62).bind fun t124 => ((dominoref01_Fixed.f k (IntKind.u64.wrap (a0 + (IntKind.u64.wrap (3 * t124)))) 8).bind fun t125 => (some (t125, 0)))) else (some ((⟨#[]⟩ : ByteArray), 1)))))) = some (r1, r2) := H
  have A2 := Aside0.mk A20
  clear A20
  by_cases c3 : t118 = 1
  · rw [if_pos c3] at H
    have c3b0 : (t118 == 1) = true := beq_iff_eq.mpr c3
    have c3b1 : (t118 != 1) = false := bne_eq_false_iff_eq.mpr c3
    clear c3
    replace H := Option.bind_eq_some_iff.mp H
    obtain ⟨t119, A40, H⟩ := H
    replace H : (some (t119, 0)) = some (r1, r2) := H
    have A4 := Aside0.mk A40
    clear A40
    simp only [Option.some.injEq, Prod.mk.injEq] at H
    obtain ⟨rfl, rfl⟩ := H
    go_enter Tryd.func11, Tryd.ntmps11
    go_wp2_with (first | ((with_reducible refine gate_callee (f := 15) rfl ?_); refine goesL_ (some 5) rfl rfl Tryd.func15 (by kernel_rfl) rfl #[.int .u64 a0] rfl (by (try simp only [List.map_toArray, List.map_cons, List.map_nil]); first | done | rfl | (simp only [List.length_drop, List.length_take]; rfl)) ?_; (with_reducible refine (dominoref01_Size.calls k a0 t118 _ A2.out).mono ?_); rintro e w' ⟨rfl, ⟨nd, rfl⟩⟩; refine ⟨_, rfl, ?_⟩) | ((with_reducible refine gate_callee (f := 24) rfl ?_); refine goesL_ (some 9) rfl rfl Tryd.func24 (by kernel_rfl) rfl #[.int .u64 a0, .int .i64 1] rfl (by (try simp only [List.map_toArray, List.map_cons, List.map_nil]); first | done | rfl | (simp only [List.length_drop, List.length_take]; rfl)) ?_; (with_reducible refine (dominoref01_Fixed.calls k a0 1 t119 _ A4.out).mono ?_); rintro e w5 ⟨rfl, hb⟩; refine ⟨_, rfl, ?_⟩; have n0_ := Aside0.mk (below_step (by repeat (first | (with_reducible first | exact HB.out | apply below_alloc | apply pw_below_drewN | apply below_drew1) | exact HB.out)) hb); clear HB; have HB := n0_; clear n0_; (try clear hb); (try clear hb2); (try clear hk); (try clear hi)))
    go_ret2
    exact ⟨by first | rfl | (simp [errW_none, errW_some] <;> rfl) | (simp [*, errW_none, errW_some] <;> rfl), by repeat (first | (with_reducible first | exact HB.out | apply below_alloc | apply pw_below_drewN | apply below_drew1) | exact HB.out)⟩
  · rw [if_neg c3] at H
    have c3b0 : (t118 == 1) = false := beq_eq_false_iff_ne.mpr c3
    have c3b1 : (t118 != 1) = true := bne_iff_ne.mpr c3
    by_cases c6 : t118 = 2
    · rw [if_pos c6] at H
      have c6b0 : (t118 == 2) = true := beq_iff_eq.mpr c6
      have c6b1 : (t118 != 2) = false := bne_eq_false_iff_eq.mpr c6
      clear c6
      replace H := Option.bind_eq_some_iff.mp H
      obtain ⟨t120, A70, H⟩ := H
      replace H : ((dominoref01_Fixed.f k (IntKind.u64.wrap (a0 + t120)) 2).bind fun t121 => (some (t121, 0))) = some (r1, r2) := H
      have A7 := Aside0.mk A70
      clear A70
      replace H := Option.bind_eq_some_iff.mp H
      obtain ⟨t121, A80, H⟩ := H
      replace H : (some (t121, 0)) = some (r1, r2) := H
      have A8 := Aside0.mk A80
      clear A80
      simp only [Option.some.injEq, Prod.mk.injEq] at H
      obtain ⟨rfl, rfl⟩ := H
      go_enter Tryd.func11, Tryd.ntmps11
      go_wp2_with (first | ((with_reducible refine gate_callee (f := 15) rfl ?_); refine goesL_ (some 5) rfl rfl Tryd.func15 (by kernel_rfl) rfl #[.int .u64 a0] rfl (by (try simp only [List.map_toArray, List.map_cons, List.map_nil]); first | done | rfl | (simp only [List.length_drop, List.length_take]; rfl)) ?_; (with_reducible refine (dominoref01_Size.calls k a0 t118 _ A2.out).mono ?_); rintro e w' ⟨rfl, ⟨nd, rfl⟩⟩; refine ⟨_, rfl, ?_⟩) | ((with_reducible refine gate_callee (f := 25) rfl ?_); refine goesL_ (some 13) rfl rfl Tryd.func25 (by kernel_rfl) rfl #[.int .i64 14] rfl (by (try simp only [List.map_toArray, List.map_cons, List.map_nil]); first | done | rfl | (simp only [List.length_drop, List.length_take]; rfl)) ?_; (with_reducible refine (dominoref01_power.calls k 14 t120 _ A7.out).mono ?_); rintro e w' ⟨rfl, ⟨nd, rfl⟩⟩; refine ⟨_, rfl, ?_⟩) | ((with_reducible refine gate_callee (f := 24) rfl ?_); refine goesL_ (some 15) rfl rfl Tryd.func24 (by kernel_rfl) rfl #[.int .u64 (IntKind.u64.wrap (a0 + t120)), .int .i64 2] rfl (by (try simp only [List.map_toArray, List.map_cons, List.map_nil]); first | done | rfl | (simp only [List.length_drop, List.length_take]; rfl)) ?_; (with_reducible refine (dominoref01_Fixed.calls k (IntKind.u64.wrap (a0 + t120)) 2 t121 _ A8.out).mono ?_); rintro e w9 ⟨rfl, hb⟩; refine ⟨_, rfl, ?_⟩; have n0_ := Aside0.mk (below_step (by repeat (first | (with_reducible first | exact HB.out | apply below_alloc | apply pw_below_drewN | apply below_drew1) | exact HB.out)) hb); clear HB; have HB := n0_; clear n0_; (try clear hb); (try clear hb2); (try clear hk); (try clear hi)))
      go_ret2
      exact ⟨by first | rfl | (simp [errW_none, errW_some] <;> rfl) | (simp [*, errW_none, errW_some] <;> rfl), by repeat (first | (with_reducible first | exact HB.out | apply below_alloc | apply pw_below_drewN | apply below_drew1) | exact HB.out)⟩
    · rw [if_neg c6] at H
      have c6b0 : (t118 == 2) = false := beq_eq_false_iff_ne.mpr c6
      have c6b1 : (t118 != 2) = true := bne_iff_ne.mpr c6
      by_cases c10 : t118 = 4
      · rw [if_pos c10] at H
        have c10b0 : (t118 == 4) = true := beq_iff_eq.mpr c10
        have c10b1 : (t118 != 4) = false := bne_eq_false_iff_eq.mpr c10
        clear c10
        replace H := Option.bind_eq_some_iff.mp H
        obtain ⟨t122, A110, H⟩ := H
        replace H : ((dominoref01_Fixed.f k (IntKind.u64.wrap (a0 + (IntKind.u64.wrap (2 * t122)))) 4).bind fun t123 => (some (t123, 0))) = some (r1, r2) := H
        have A11 := Aside0.mk A110
        clear A110
        replace H := Option.bind_eq_some_iff.mp H
        obtain ⟨t123, A120, H⟩ := H
        replace H : (some (t123, 0)) = some (r1, r2) := H
        have A12 := Aside0.mk A120
        clear A120
        simp only [Option.some.injEq, Prod.mk.injEq] at H
        obtain ⟨rfl, rfl⟩ := H
        go_enter Tryd.func11, Tryd.ntmps11
        go_wp2_with (first | ((with_reducible refine gate_callee (f := 15) rfl ?_); refine goesL_ (some 5) rfl rfl Tryd.func15 (by kernel_rfl) rfl #[.int .u64 a0] rfl (by (try simp only [List.map_toArray, List.map_cons, List.map_nil]); first | done | rfl | (simp only [List.length_drop, List.length_take]; rfl)) ?_; (with_reducible refine (dominoref01_Size.calls k a0 t118 _ A2.out).mono ?_); rintro e w' ⟨rfl, ⟨nd, rfl⟩⟩; refine ⟨_, rfl, ?_⟩) | ((with_reducible refine gate_callee (f := 25) rfl ?_); refine goesL_ (some 19) rfl rfl Tryd.func25 (by kernel_rfl) rfl #[.int .i64 30] rfl (by (try simp only [List.map_toArray, List.map_cons, List.map_nil]); first | done | rfl | (simp only [List.length_drop, List.length_take]; rfl)) ?_; (with_reducible refine (dominoref01_power.calls k 30 t122 _ A11.out).mono ?_); rintro e w' ⟨rfl, ⟨nd, rfl⟩⟩; refine ⟨_, rfl, ?_⟩) | ((with_reducible refine gate_callee (f := 24) rfl ?_); refine goesL_ (some 22) rfl rfl Tryd.func24 (by kernel_rfl) rfl #[.int .u64 (IntKind.u64.wrap (a0 + (IntKind.u64.wrap (2 * t122)))), .int .i64 4] rfl (by (try simp only [List.map_toArray, List.map_cons, List.map_nil]); first | done | rfl | (simp only [List.length_drop, List.length_take]; rfl)) ?_; (with_reducible refine (dominoref01_Fixed.calls k (IntKind.u64.wrap (a0 + (IntKind.u64.wrap (2 * t122)))) 4 t123 _ A12.out).mono ?_); rintro e w13 ⟨rfl, hb⟩; refine ⟨_, rfl, ?_⟩; have n0_ := Aside0.mk (below_step (by repeat (first | (with_reducible first | exact HB.out | apply below_alloc | apply pw_below_drewN | apply below_drew1) | exact HB.out)) hb); clear HB; have HB := n0_; clear n0_; (try clear hb); (try clear hb2); (try clear hk); (try clear hi)))
        go_ret2
        exact ⟨by first | rfl | (simp [errW_none, errW_some] <;> rfl) | (simp [*, errW_none, errW_some] <;> rfl), by repeat (first | (with_reducible first | exact HB.out | apply below_alloc | apply pw_below_drewN | apply below_drew1) | exact HB.out)⟩
      · rw [if_neg c10] at H
        have c10b0 : (t118 == 4) = false := beq_eq_false_iff_ne.mpr c10
        have c10b1 : (t118 != 4) = true := bne_iff_ne.mpr c10
        by_cases c14 : t118 = 8
        · rw [if_pos c14] at H
          have c14b0 : (t118 == 8) = true := beq_iff_eq.mpr c14
          have c14b1 : (t118 != 8) = false := bne_eq_false_iff_eq.mpr c14
          clear c14
          replace H := Option.bind_eq_some_iff.mp H
          obtain ⟨t124, A150, H⟩ := H
          replace H : ((dominoref01_Fixed.f k (IntKind.u64.wrap (a0 + (IntKind.u64.wrap (3 * t124)))) 8).bind fun t125 => (some (t125, 0))) = some (r1, r2) := H
          have A15 := Aside0.mk A150
          clear A150
          replace H := Option.bind_eq_some_iff.mp H
          obtain ⟨t125, A160, H⟩ := H
          replace H : (some (t125, 0)) = some (r1, r2) := H
          have A16 := Aside0.mk A160
          clear A160
          simp only [Option.some.injEq, Prod.mk.injEq] at H
          obtain ⟨rfl, rfl⟩ := H
          go_enter Tryd.func11, Tryd.ntmps11
          go_wp2_with (first | ((with_reducible refine gate_callee (f := 15) rfl ?_); refine goesL_ (some 5) rfl rfl Tryd.func15 (by kernel_rfl) rfl #[.int .u64 a0] rfl (by (try simp only [List.map_toArray, List.map_cons, List.map_nil]); first | done | rfl | (simp only [List.length_drop, List.length_take]; rfl)) ?_; (with_reducible refine (dominoref01_Size.calls k a0 t118 _ A2.out).mono ?_); rintro e w' ⟨rfl, ⟨nd, rfl⟩⟩; refine ⟨_, rfl, ?_⟩) | ((with_reducible refine gate_callee (f := 25) rfl ?_); refine goesL_ (some 26) rfl rfl Tryd.func25 (by kernel_rfl) rfl #[.int .i64 62] rfl (by (try simp only [List.map_toArray, List.map_cons, List.map_nil]); first | done | rfl | (simp only [List.length_drop, List.length_take]; rfl)) ?_; (with_reducible refine (dominoref01_power.calls k 62 t124 _ A15.out).mono ?_); rintro e w' ⟨rfl, ⟨nd, rfl⟩⟩; refine ⟨_, rfl, ?_⟩) | ((with_reducible refine gate_callee (f := 24) rfl ?_); refine goesL_ (some 29) rfl rfl Tryd.func24 (by kernel_rfl) rfl #[.int .u64 (IntKind.u64.wrap (a0 + (IntKind.u64.wrap (3 * t124)))), .int .i64 8] rfl (by (try simp only [List.map_toArray, List.map_cons, List.map_nil]); first | done | rfl | (simp only [List.length_drop, List.length_take]; rfl)) ?_; (with_reducible refine (dominoref01_Fixed.calls k (IntKind.u64.wrap (a0 + (IntKind.u64.wrap (3 * t124)))) 8 t125 _ A16.out).mono ?_); rintro e w17 ⟨rfl, hb⟩; refine ⟨_, rfl, ?_⟩; have n0_ := Aside0.mk (below_step (by repeat (first | (with_reducible first | exact HB.out | apply below_alloc | apply pw_below_drewN | apply below_drew1) | exact HB.out)) hb); clear HB; have HB := n0_; clear n0_; (try clear hb); (try clear hb2); (try clear hk); (try clear hi)))
          go_ret2
          exact ⟨by first | rfl | (simp [errW_none, errW_some] <;> rfl) | (simp [*, errW_none, errW_some] <;> rfl), by repeat (first | (with_reducible first | exact HB.out | apply below_alloc | apply pw_below_drewN | apply below_drew1) | exact HB.out)⟩
        · rw [if_neg c14] at H
          have c14b0 : (t118 == 8) = false := beq_eq_false_iff_ne.mpr c14
          have c14b1 : (t118 != 8) = true := bne_iff_ne.mpr c14
          simp only [Option.some.injEq, Prod.mk.injEq] at H
          obtain ⟨rfl, rfl⟩ := H
          go_enter Tryd.func11, Tryd.ntmps11
          go_wp2_with (first | ((with_reducible refine gate_callee (f := 15) rfl ?_); refine goesL_ (some 5) rfl rfl Tryd.func15 (by kernel_rfl) rfl #[.int .u64 a0] rfl (by (try simp only [List.map_toArray, List.map_cons, List.map_nil]); first | done | rfl | (simp only [List.length_drop, List.length_take]; rfl)) ?_; (with_reducible refine (dominoref01_Size.calls k a0 t118 _ A2.out).mono ?_); rintro e w' ⟨rfl, ⟨nd, rfl⟩⟩; refine ⟨_, rfl, ?_⟩))
          go_ret2
          exact ⟨by first | rfl | (simp [errW_none, errW_some] <;> rfl) | (simp [*, errW_none, errW_some] <;> rfl), by repeat (first | (with_reducible first | exact HB.out | apply below_alloc | apply pw_below_drewN | apply below_drew1) | exact HB.out)⟩

/-! ### dominoref01_Puts: function 18 -/
def dominoref01_Puts.l0 : Nat → List Int → ByteArray → Int → Option (ByteArray × Int)
  | 0, _, _, _ => none
  | k + 1, x0, x4, x5 => if x5 < (x0.length : Int) then (if 0 ≤ x5 then ((dominoref01_Put.f k (rd x0 x5)).bind fun bt127 => (if bt127.2 = 0 then (if x4.size + bt127.1.size ≤ 9223372036854775807 then (dominoref01_Puts.l0 k x0 (x4 ++ bt127.1) (wrap64 (x5 + 1))) else (none)) else (some ((⟨#[]⟩ : ByteArray), bt127.2)))) else (none)) else (some (x4, 0))
def dominoref01_Puts.f (k : Nat) (l0 : List Int) : Option (ByteArray × Int) := dominoref01_Puts.l0 k l0 (⟨#[]⟩ : ByteArray) 0
theorem dominoref01_Puts.mono_l : ∀ k, (∀ y0 y1 y2, LeO (dominoref01_Puts.l0 k y0 y1 y2) (dominoref01_Puts.l0 (k + 1) y0 y1 y2))
  | 0 => fun _ _ _ r h => by simp [dominoref01_Puts.l0] at h
  | k + 1 => by
    have ih0 := dominoref01_Puts.mono_l k
    · intro y0 y1 y2
      unfold dominoref01_Puts.l0
      repeat' first
      | (with_reducible exact ih0 _ _ _)
      | (with_reducible exact dominoref01_Put.mono _ _)
      | (with_reducible exact LeO.refl _)
      | (with_reducible exact LeO.none _)
      | (with_reducible refine LeO.ite ?_ ?_)
      | (with_reducible refine LeO.bind ?_ (fun _ => ?_))
      | exact ih0 _ _ _
      | exact dominoref01_Put.mono _ _
      | exact LeO.none _
      | refine LeO.ite ?_ ?_
      | refine LeO.bind ?_ (fun _ => ?_)
theorem dominoref01_Puts.mono : ∀ a0 k, LeO (dominoref01_Puts.f k a0) (dominoref01_Puts.f (k + 1) a0) := by
  intro a0 k
  have ih0 := dominoref01_Puts.mono_l k
  unfold dominoref01_Puts.f
  repeat' first
      | (with_reducible exact ih0 _ _ _)
      | (with_reducible exact dominoref01_Put.mono _ _)
      | (with_reducible exact LeO.refl _)
      | (with_reducible exact LeO.none _)
      | (with_reducible refine LeO.ite ?_ ?_)
      | (with_reducible refine LeO.bind ?_ (fun _ => ?_))
      | exact ih0 _ _ _
      | exact dominoref01_Put.mono _ _
      | exact LeO.none _
      | refine LeO.ite ?_ ?_
      | refine LeO.bind ?_ (fun _ => ?_)
set_option maxHeartbeats 8000000 in
set_option maxRecDepth 100000 in
theorem dominoref01_Puts.calls (k : Nat) (A0 : Option Addr) (c0 : Nat) (l0 : List Int) (r1 : ByteArray) (r2 : Int) (w : World) (hr0 : Kd.C (Kd.int .u64) w A0 l0.length l0) (hc0 : l0.length ≤ c0) (h : dominoref01_Puts.f k l0 = some (r1, r2)) :
    Calls Tryd.prog 18 #[.slice A0 l0.length c0] w fun e w' => e = .returned (.tuple #[.string r1, .int .i64 r2]) ∧ Below w.heap.size w w' := by
  have HR0 := Aside0.mk hr0
  have HC0 := Aside0.mk hc0
  clear hr0 hc0
  have HB := Aside0.mk (Below.refl w.heap.size w)
  have H : (dominoref01_Puts.l0 k l0 (⟨#[]⟩ : ByteArray) 0) = some (r1, r2) := h
  clear h
  have H' := Aside0.mk H
  clear H
  go_enter Tryd.func18, Tryd.ntmps18
  go_wp2
  go_loopg [4, 5] k (fun kq v4 v5 w' => ∃ (x4_1 : ByteArray) (x5_1 : Int), v4 = .string x4_1 ∧ v5 = .int .i64 x5_1 ∧ Aside0 (dominoref01_Puts.l0 kq l0 x4_1 x5_1 = some (r1, r2)) ∧ Aside0 (kq ≤ k) ∧ Aside0 (Below w.heap.size w w'))
  case atStart => exact ⟨((⟨#[]⟩ : ByteArray)), (0), (by first | rfl | (simp; done) | (simp [*]; done)), (by first | rfl | (simp; done) | (simp [*]; done)), H', ⟨Nat.le_refl _⟩, ⟨by repeat (first | (with_reducible first | exact HB.out | apply below_alloc | apply pw_below_drewN | apply below_drew1) | exact HB.out)⟩⟩
  case round =>
    clear H'
    try clear c1
    obtain ⟨x4_1, x5_1, rfl, rfl, HA, HK1, HB⟩ := hrel
    cases gk with
    | zero => exact absurd HA.out (by simp [dominoref01_Puts.l0])
    | succ k1 =>
      have H := HA.out
      clear HA
      simp only [dominoref01_Puts.l0] at H
      by_cases c2 : x5_1 < (l0.length : Int)
      · rw [if_pos c2] at H
        have c2b0 : decide (x5_1 < (l0.length : Int)) = true := decide_eq_true c2
        clear c2
        by_cases c3 : 0 ≤ x5_1
        · rw [if_pos c3] at H
          have c3b0 : decide (0 ≤ x5_1) = true := decide_eq_true c3
          clear c3
          replace H := Option.bind_eq_some_iff.mp H
          obtain ⟨⟨t127, t128⟩, A40, H⟩ := H
          replace H : (if t128 = 0 then (if x4_1.size + t127.size ≤ 9223372036854775807 then (dominoref01_Puts.l0 k1 l0 (x4_1 ++ t127) (wrap64 (x5_1 + 1))) else (none)) else (some ((⟨#[]⟩ : ByteArray), t128))) = some (r1, r2) := H
          have A4 := Aside0.mk A40
          clear A40
          by_cases c5 : t128 = 0
          · rw [if_pos c5] at H
            have c5b0 : (t128 == 0) = true := beq_iff_eq.mpr c5
            have c5b1 : (t128 != 0) = false := bne_eq_false_iff_eq.mpr c5
            clear c5
            by_cases c6 : x4_1.size + t127.size ≤ 9223372036854775807
            · rw [if_pos c6] at H
              have c6b0 := eq_true c6
              have c6b1 : decide (x4_1.size + t127.size ≤ 9223372036854775807) = true := decide_eq_true c6
              try have c6b2 : (9223372036854775807 < x4_1.size + t127.size) = False := eq_false (Nat.not_lt.2 c6)
              have H' := Aside0.mk H
              clear H
              have p126 : 0 ≤ (x5_1 : Int) := of_decide_eq_true (by first | (with_reducible assumption) | assumption)
              have q126 : x5_1 < (l0.length : Int) := of_decide_eq_true (by first | (with_reducible assumption) | assumption)
              obtain ⟨ad126, e126, hx126_0⟩ := Kd.at_int HR0.out x5_1 p126 q126
              cases e126
              replace hx126_0 := (HB.out.cell (World.block_lt_of_cell? w _ hx126_0)).trans hx126_0
              replace p126 := eq_true p126
              replace q126 := eq_true q126
              go_wp2_with (first | ((with_reducible refine gate_callee (f := 11) rfl ?_); refine goesL_ (some 19) rfl rfl Tryd.func11 (by kernel_rfl) rfl #[.int .u64 (rd l0 x5_1)] rfl (by (try simp only [List.map_toArray, List.map_cons, List.map_nil]); first | done | rfl | (simp only [List.length_drop, List.length_take]; rfl)) ?_; (with_reducible refine (dominoref01_Put.calls k1 (rd l0 x5_1) t127 t128 _ A4.out).mono ?_); rintro e w7 ⟨rfl, hb⟩; refine ⟨_, rfl, ?_⟩; have n0_ := Aside0.mk (below_step (by repeat (first | (with_reducible first | exact HB.out | apply below_alloc | apply pw_below_drewN | apply below_drew1) | exact HB.out)) hb); clear HB; have HB := n0_; clear n0_; (try clear hb); (try clear hb2); (try clear hk); (try clear hi)))
              go_roundg k1
              case measure => have := HK1.out; omega
              case rel => exact ⟨(x4_1 ++ t127), (wrap64 (x5_1 + 1)), (by first | rfl | (simp; done) | (simp [*]; done)), (by first | rfl | (simp; done) | (simp [*]; done)), H', ⟨by have := HK1.out; omega⟩, ⟨by repeat (first | (with_reducible first | exact HB.out | apply below_alloc | apply pw_below_drewN | apply below_drew1) | exact HB.out)⟩⟩
            · rw [if_neg c6] at H
              exact absurd H (by simp)
          · rw [if_neg c5] at H
            have c5b0 : (t128 == 0) = false := beq_eq_false_iff_ne.mpr c5
            have c5b1 : (t128 != 0) = true := bne_iff_ne.mpr c5
            simp only [Option.some.injEq, Prod.mk.injEq] at H
            obtain ⟨rfl, rfl⟩ := H
            have p126 : 0 ≤ (x5_1 : Int) := of_decide_eq_true (by first | (with_reducible assumption) | assumption)
            have q126 : x5_1 < (l0.length : Int) := of_decide_eq_true (by first | (with_reducible assumption) | assumption)
            obtain ⟨ad126, e126, hx126_0⟩ := Kd.at_int HR0.out x5_1 p126 q126
            cases e126
            replace hx126_0 := (HB.out.cell (World.block_lt_of_cell? w _ hx126_0)).trans hx126_0
            replace p126 := eq_true p126
            replace q126 := eq_true q126
            go_wp2_with (first | ((with_reducible refine gate_callee (f := 11) rfl ?_); refine goesL_ (some 19) rfl rfl Tryd.func11 (by kernel_rfl) rfl #[.int .u64 (rd l0 x5_1)] rfl (by (try simp only [List.map_toArray, List.map_cons, List.map_nil]); first | done | rfl | (simp only [List.length_drop, List.length_take]; rfl)) ?_; (with_reducible refine (dominoref01_Put.calls k1 (rd l0 x5_1) t127 t128 _ A4.out).mono ?_); rintro e w8 ⟨rfl, hb⟩; refine ⟨_, rfl, ?_⟩; have n0_ := Aside0.mk (below_step (by repeat (first | (with_reducible first | exact HB.out | apply below_alloc | apply pw_below_drewN | apply below_drew1) | exact HB.out)) hb); clear HB; have HB := n0_; clear n0_; (try clear hb); (try clear hb2); (try clear hk); (try clear hi)))
            go_ret2
            exact ⟨by first | rfl | (simp [errW_none, errW_some] <;> rfl) | (simp [*, errW_none, errW_some] <;> rfl), by repeat (first | (with_reducible first | exact HB.out | apply below_alloc | apply pw_below_drewN | apply below_drew1) | exact HB.out)⟩
        · rw [if_neg c3] at H
          exact absurd H (by simp)
      · rw [if_neg c2] at H
        have c2b0 : decide (x5_1 < (l0.length : Int)) = false := decide_eq_false c2
        clear c2
        simp only [Option.some.injEq, Prod.mk.injEq] at H
        obtain ⟨rfl, rfl⟩ := H
        go_wp2
        go_ret2
        exact ⟨by first | rfl | (simp [errW_none, errW_some] <;> rfl) | (simp [*, errW_none, errW_some] <;> rfl), by repeat (first | (with_reducible first | exact HB.out | apply below_alloc | apply pw_below_drewN | apply below_drew1) | exact HB.out)⟩

end Go.Proofs.YtablpjlhhnfpkaaDoor.PVarintMany
