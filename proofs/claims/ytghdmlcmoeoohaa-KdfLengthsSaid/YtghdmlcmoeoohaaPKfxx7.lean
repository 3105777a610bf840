-- printed for this claim by a program of the claim (wip/tools/pp.py over the kit's print)
import Derived.Test.YtghdmlcmoeoohaaPKfxx0
import Derived.Test.YtghdmlcmoeoohaaPKfxx2
import Derived.Test.YtghdmlcmoeoohaaPKfxx4
import Derived.Test.YtghdmlcmoeoohaaPKfxx5
import Derived.Test.YtghdmlcmoeoohaaPKfxx6
namespace Go.Proofs.Ytghdmlcmoeoohaa.PKfx
open Go.RowKit Go.Proofs.YtghdmlcmoeoohaaW.PrintWords Go.Proofs.YtghdmlcmoeoohaaW.PrintLast Go.Proofs.YtghdmlcmoeoohaaW.PrintMore
attribute [local go_sem] max2_int min2_int max_two min_two max_three min_three max_four min_four   -- for this text's walks alone
set_option linter.unusedVariables false
set_option linter.unusedSimpArgs false

attribute [local go_sem] isSome_setCell_
/-! ### kdf_secret_derive: function 32 -/
def kdf_secret_derive.f (k : Nat) (a0 : ByteArray) (a1 : Int) (a2 : ByteArray) (l3 : List ByteArray) : Option (ByteArray) := (strings_Join.f l3 (⟨#[]⟩ : ByteArray)).bind fun t135 => ((kdf_Label.f k a0 a2 t135 a1).bind fun bt136 => (some bt136.1))
theorem kdf_secret_derive.mono : ∀ a0 a1 a2 a3 k, LeO (kdf_secret_derive.f k a0 a1 a2 a3) (kdf_secret_derive.f (k + 1) a0 a1 a2 a3) := by
 intro a0 a1 a2 a3 k
 unfold kdf_secret_derive.f
 repeat' first
   | (with_reducible exact kdf_Label.mono _ _ _ _ _)
   | (with_reducible exact LeO.refl _)
   | (with_reducible exact LeO.none _)
   | (with_reducible refine LeO.ite ?_ ?_)
   | (with_reducible refine LeO.bind ?_ (fun _ => ?_))
   | exact kdf_Label.mono _ _ _ _ _
   | exact LeO.none _
   | refine LeO.ite ?_ ?_
   | refine LeO.bind ?_ (fun _ => ?_)
set_option maxHeartbeats 8000000 in
set_option maxRecDepth 100000 in
theorem kdf_secret_derive.calls (k : Nat) (a0 : ByteArray) (a1 : Int) (a2 : ByteArray) (A3 : Option Addr) (c3 : Nat) (l3 : List ByteArray) (r : ByteArray) (w : World) (hr3 : Kd.C Kd.string w A3 l3.length l3) (hc3 : l3.length ≤ c3) (h : kdf_secret_derive.f k a0 a1 a2 l3 = some r) :
  Calls Try.prog 32 #[.string a0, .int .i64 a1, .string a2, .slice A3 l3.length c3] w fun e w' => e = .returned (.string r) ∧ Below w.heap.size w w' := by
 have HR3 := Aside0.mk hr3
 have HC3 := Aside0.mk hc3
 clear hr3 hc3
 have HB := Aside0.mk (Below.refl w.heap.size w)
 have H : ((strings_Join.f l3 (⟨#[]⟩ : ByteArray)).bind fun t135 => ((kdf_Label.f k a0 a2 t135 a1).bind fun bt136 => (some bt136.1))) = some r := h
 clear h
 replace H := Option.bind_eq_some_iff.mp H
 obtain ⟨t135, A50, H⟩ := H
 replace H : ((kdf_Label.f k a0 a2 t135 a1).bind fun bt136 => (some bt136.1)) = some r := H
 have A5 := Aside0.mk A50
 clear A50
 replace H := Option.bind_eq_some_iff.mp H
 obtain ⟨⟨t136, t137⟩, A60, H⟩ := H
 replace H : (some t136) = some r := H
 have A6 := Aside0.mk A60
 clear A60
 obtain rfl := Option.some.inj H
 go_enter Try.func32, Try.ntmps32
 go_wp2_with (first | ((with_reducible refine gate_callee (f := 29) rfl ?_); refine goesL_ (some 15) rfl rfl Try.func29 (by kernel_rfl) rfl #[.slice A3 l3.length c3, .string (⟨#[]⟩ : ByteArray)] rfl (by (try simp only [List.map_toArray, List.map_cons, List.map_nil]); first | done | rfl | (simp only [List.length_drop, List.length_take]; rfl)) ?_; (with_reducible refine (strings_Join.calls _ _ l3 (⟨#[]⟩ : ByteArray) t135 _ ?side1 ?side2 A5.out).mono ?_); (case side1 => repeat (first | exact HR3.out | (with_reducible refine Kd.C_alloc ?_ _) | (with_reducible refine Kd.C_drewN ?_ _) | (with_reducible refine Kd.C_drew ?_))); (case side2 => exact HC3.out); rintro e w7 ⟨rfl, hb⟩; refine ⟨_, rfl, ?_⟩; have n0_ := Aside0.mk (below_step (by repeat (first | (with_reducible first | exact HB.out | apply below_alloc | apply pw_below_drewN | apply below_drew1) | exact HB.out)) hb); clear HB; have HB := n0_; clear n0_; (try clear hb); (try clear hb2); (try clear hk); (try clear hi)) | ((with_reducible refine gate_callee (f := 12) rfl ?_); refine goesL_ (some 17) rfl rfl Try.func12 (by kernel_rfl) rfl #[.string a0, .string a2, .string t135, .int .i64 a1] rfl (by (try simp only [List.map_toArray, List.map_cons, List.map_nil]); first | done | rfl | (simp only [List.length_drop, List.length_take]; rfl)) ?_; (with_reducible refine (kdf_Label.calls k a0 a2 t135 a1 t136 t137 _ A6.out).mono ?_); rintro e w8 ⟨rfl, hb⟩; refine ⟨_, rfl, ?_⟩; have n0_ := Aside0.mk (below_step (by repeat (first | (with_reducible first | exact HB.out | apply below_alloc | apply pw_below_drewN | apply below_drew1) | exact HB.out)) hb); clear HB; have HB := n0_; clear n0_; (try clear hb); (try clear hb2); (try clear hk); (try clear hi)))
 go_ret
 exact ⟨by first | rfl | (simp [errW_none, errW_some] <;> rfl) | (simp [*, errW_none, errW_some] <;> rfl), by repeat (first | (with_reducible first | exact HB.out | apply below_alloc | apply pw_below_drewN | apply below_drew1) | exact HB.out)⟩

/-! ### kdf_Next: function 23 -/
def kdf_Next.f (k : Nat) (a0 : ByteArray) : Option (ByteArray) := (kdf_secret_derive.f k a0 32 (⟨#[113, 117, 105, 99, 32, 107, 117]⟩ : ByteArray) ([] : List ByteArray)).bind fun t138 => (some t138)
theorem kdf_Next.mono : ∀ a0 k, LeO (kdf_Next.f k a0) (kdf_Next.f (k + 1) a0) := by
 intro a0 k
 unfold kdf_Next.f
 repeat' first
   | (with_reducible exact kdf_secret_derive.mono _ _ _ _ _)
   | (with_reducible exact LeO.refl _)
   | (with_reducible exact LeO.none _)
   | (with_reducible refine LeO.ite ?_ ?_)
   | (with_reducible refine LeO.bind ?_ (fun _ => ?_))
   | exact kdf_secret_derive.mono _ _ _ _ _
   | exact LeO.none _
   | refine LeO.ite ?_ ?_
   | refine LeO.bind ?_ (fun _ => ?_)
set_option maxHeartbeats 8000000 in
set_option maxRecDepth 100000 in
theorem kdf_Next.calls (k : Nat) (a0 : ByteArray) (r : ByteArray) (w : World) (h : kdf_Next.f k a0 = some r) :
  Calls Try.prog 23 #[.string a0] w fun e w' => e = .returned (.string r) ∧ Below w.heap.size w w' := by
 have HB := Aside0.mk (Below.refl w.heap.size w)
 have H : ((kdf_secret_derive.f k a0 32 (⟨#[113, 117, 105, 99, 32, 107, 117]⟩ : ByteArray) ([] : List ByteArray)).bind fun t138 => (some t138)) = some r := h
 clear h
 replace H := Option.bind_eq_some_iff.mp H
 obtain ⟨t138, A20, H⟩ := H
 replace H : (some t138) = some r := H
 have A2 := Aside0.mk A20
 clear A20
 obtain rfl := Option.some.inj H
 go_enter Try.func23, Try.ntmps23
 go_wp2_with (first | ((with_reducible refine gate_callee (f := 32) rfl ?_); refine goesL_ (some 4) rfl rfl Try.func32 (by kernel_rfl) rfl #[.string a0, .int .i64 32, .string (⟨#[113, 117, 105, 99, 32, 107, 117]⟩ : ByteArray), .slice none 0 0] rfl (by (try simp only [List.map_toArray, List.map_cons, List.map_nil]); first | done | rfl | (simp only [List.length_drop, List.length_take]; rfl)) ?_; (refine (kdf_secret_derive.calls k a0 32 (⟨#[113, 117, 105, 99, 32, 107, 117]⟩ : ByteArray) _ _ ([] : List ByteArray) t138 _ ?side1 ?side2 A2.out).mono ?_); (case side1 => exact Kd.C_nil _ _); (case side2 => exact Nat.le_refl _); rintro e w3 ⟨rfl, hb⟩; refine ⟨_, rfl, ?_⟩; have n0_ := Aside0.mk (below_step (by repeat (first | (with_reducible first | exact HB.out | apply below_alloc | apply pw_below_drewN | apply below_drew1) | exact HB.out)) hb); clear HB; have HB := n0_; clear n0_; (try clear hb); (try clear hb2); (try clear hk); (try clear hi)))
 go_ret
 exact ⟨by first | rfl | (simp [errW_none, errW_some] <;> rfl) | (simp [*, errW_none, errW_some] <;> rfl), by repeat (first | (with_reducible first | exact HB.out | apply below_alloc | apply pw_below_drewN | apply below_drew1) | exact HB.out)⟩

-- NOT PRINTED: function 40 (strings_Builder_WriteByte)

/-! ### strings.Builder at a place of a block that the call has made -/
/-- Below B all is as it was, but for block g. -/
structure KeptG (B g : Nat) (w w' : World) : Prop where
 os : w'.os = w.os
 tape : w'.tape = w.tape
 output : w'.output = w.output
 size : w.heap.size ≤ w'.heap.size
 block : ∀ k, k < B → k ≠ g → w'.heap[k]? = w.heap[k]?
theorem KeptG.refl (B g : Nat) (w : World) : KeptG B g w w := ⟨rfl, rfl, rfl, Nat.le_refl _, fun _ _ _ => rfl⟩
theorem KeptG.trans {B g : Nat} {a b c : World} (h1 : KeptG B g a b) (h2 : KeptG B g b c) : KeptG B g a c :=
 ⟨h2.os.trans h1.os, h2.tape.trans h1.tape, h2.output.trans h1.output, Nat.le_trans h1.size h2.size, fun k hk hg => (h2.block k hk hg).trans (h1.block k hk hg)⟩
theorem KeptG.grown {B g : Nat} {a w w' : World} {row : Option Nat} (h : KeptG B g a w) (hg : w.grownBy w' row) (hB : B ≤ w.heap.size) (hr : ∀ k, row = some k → B ≤ k ∨ k = g) : KeptG B g a w' :=
 h.trans ⟨hg.os, hg.tape, hg.output, hg.size, fun k hk hkg => hg.block k (by omega) (fun e => by rcases hr k e.symm with h | h <;> omega)⟩
theorem KeptG.alloc {B g : Nat} {a w : World} (h : KeptG B g a w) (hB : B ≤ w.heap.size) (o : Obj) : KeptG B g a (w.alloc o) :=
 h.trans ⟨rfl, rfl, rfl, by simp, fun k hk _ => heap_alloc_old _ _ (by omega)⟩
theorem KeptG.ofBelow {B g : Nat} {a w w' : World} (h : KeptG B g a w) (hb : Below B w w') : KeptG B g a w' :=
 h.trans ⟨hb.os, hb.tape, hb.output, hb.size, fun k hk _ => hb.block k hk⟩
theorem KeptG.below {B g C : Nat} {a w : World} (h : KeptG B g a w) (hB : C ≤ B) (hg : C ≤ g) : Below C a w :=
 ⟨h.os, h.tape, h.output, h.size, fun k hk => h.block k (by omega) (by omega)⟩
theorem KeptG.cell {B g : Nat} {a w : World} (h : KeptG B g a w) (p : Addr) (hp : p.block < B) (hg : p.block ≠ g) : w.cell? p = a.cell? p := by
 unfold World.cell?
 rw [h.block _ hp hg]
/-- In block g, from place o on, there is a strings.Builder that holds the bytes s: its row is its own (from block B on), and no part of g. -/
structure Bldr (B g o : Nat) (t : TypeId) (cs : List Value) (s : ByteArray) (w : World) : Prop where
 blk : w.heap[g]? = some (.cells cs.toArray t (0, 0))
 ptr : cs[o]? = some (.pointer none) ∨ cs[o]? = some (.pointer (some ⟨g, o, none⟩))
 row : ∃ v, cs[o + 1]? = some v ∧ w.ownsRow B 5 1 v s.size (Lib.strCells s) ∧ v.ownBlock ≠ some g
/-- The type of the block has a strings.Builder at o. -/
structure BldrT (t o n : Nat) : Prop where
 len : o + 1 < n
 lies : liesAt Try.prog Try.prog.depth t (n / Try.prog.cellsOf t) o 60 1 = true
 ne : t ≠ 5
theorem bldr_size : (Try.prog.info? 60).map (·.size) = some 2 := by kernel_rfl
theorem bldr_info5 : (Try.prog.info? 5).map (fun i => (i.zero, i.size, i.bytes)) = some (some (.int .u8 0), 1, 1) := by kernel_rfl
theorem Bldr.cell {B g o : Nat} {t : TypeId} {cs : List Value} {s : ByteArray} {w : World} (h : Bldr B g o t cs s w) (i : Nat) : w.cell? ⟨g, i, none⟩ = cs[i]? := by
 have := blk_cell h.blk i
 simpa using this
theorem Bldr.frozen {B g o : Nat} {t : TypeId} {cs : List Value} {s : ByteArray} {w : World} (h : Bldr B g o t cs s w) (i : Nat) : w.frozen? ⟨g, i, none⟩ = false := blk_frozen h.blk i
theorem Bldr.below {B g o : Nat} {t : TypeId} {cs : List Value} {s : ByteArray} {w w' : World} (h : Bldr B g o t cs s w) (hb : Below w.heap.size w w') : Bldr B g o t cs s w' := by
 obtain ⟨v, hv, ho, hne⟩ := h.row
 exact ⟨blk_below h.blk hb, h.ptr, v, hv, ho.kept (grown_of_below hb none) (by cases h1 : v.ownBlock <;> simp), hne⟩
theorem Bldr.drewN {B g o : Nat} {t : TypeId} {cs : List Value} {s : ByteArray} {w : World} (h : Bldr B g o t cs s w) (n : Nat) : Bldr B g o t cs s (w.drewN n) := by
 obtain ⟨v, hv, ho, hne⟩ := h.row
 exact ⟨blk_drewN h.blk n, h.ptr, v, hv, pw_own_drewN ho n, hne⟩
theorem Bldr.drew {B g o : Nat} {t : TypeId} {cs : List Value} {s : ByteArray} {w : World} (h : Bldr B g o t cs s w) : Bldr B g o t cs s w.drew := by
 obtain ⟨v, hv, ho, hne⟩ := h.row
 exact ⟨blk_drew h.blk, h.ptr, v, hv, own_drew ho, hne⟩
theorem strCells_append (a b : ByteArray) : Lib.strCells (a ++ b) = Lib.strCells a ++ Lib.strCells b := by
 simp [Lib.strCells]
set_option maxHeartbeats 1000000 in
set_option maxRecDepth 100000 in
theorem bldr_check (B g o : Nat) (t : TypeId) (cs : List Value) (s : ByteArray) (w : World) (T : BldrT t o cs.length) (h : Bldr B g o t cs s w) :
  Calls Try.prog 53 #[.pointer (some ⟨g, o, none⟩)] w fun e w' => e = .returned (.tuple #[]) ∧ Bldr B g o t (cs.set o (.pointer (some ⟨g, o, none⟩))) s w' ∧ w'.heap.size = w.heap.size ∧ w.grownBy w' (some g) := by
 obtain ⟨j, hj, hjs⟩ := Option.map_eq_some_iff.1 bldr_size
 have hl := T.len
 have hlo : o < cs.length := by omega
 rcases h.ptr with hp | hp
 ·have c0 : w.cell? ⟨g, o, none⟩ = some (.pointer none) := (h.cell o).trans hp
  have hf := h.frozen o
  have hsh : w.shape? g = some (t, cs.length) := by simp [World.shape?, h.blk]
  have HH := Aside0.mk h
  have HP := Aside0.mk hp
  clear h hp
  go_enter Try.func53, Try.ntmps53
  go_wp2
  rw [Lib.run_to_unsafe w ⟨g, o, none⟩ Try.underlying58 Try.underlying98 hj (by rw [hjs]; decide) hsh hlo]
  simp only [Result.andThen]
  rw [Oper.upon_value]
  go_wp2
  rw [run_callFunc_extern Try.func64 (by kernel_rfl) (by kernel_rfl) (by kernel_rfl) (e := Extern.AbiNoEscape.same) (by kernel_rfl)]
  rw [Lib.run_noEscape]
  simp only [Result.andThen]
  rw [Oper.upon_value]
  go_wp2
  rw [Lib.run_from_unsafe w ⟨g, o, none⟩ Try.underlying98 Try.underlying58 hj hsh T.lies]
  simp only [Result.andThen]
  rw [Oper.upon_value]
  go_wp2
  go_end0
  obtain ⟨v, hv, ho, hne⟩ := HH.out.row
  have hg : w.grownBy (w.setCell ⟨g, o, none⟩ (.pointer (some ⟨g, o, none⟩))) (some g) :=
   ⟨rfl, rfl, rfl, by simp [World.setCell], fun k _ hk => Below.heap_setCell _ _ _ _ (fun e => hk (by rw [e]))⟩
  refine ⟨rfl, ⟨blk_put HH.out.blk o _ (by simp), Or.inr (by simp [hlo]), v, ?_, ho.kept hg (Or.inr hne), hne⟩, by simp [World.setCell], hg⟩
  rw [List.getElem?_set_ne (by omega)]; exact hv
 ·have c0 : w.cell? ⟨g, o, none⟩ = some (.pointer (some ⟨g, o, none⟩)) := (h.cell o).trans hp
  have e : cs.set o (.pointer (some ⟨g, o, none⟩)) = cs := by
   apply List.ext_getElem?
   intro i
   rw [List.getElem?_set]
   split
   ·rename_i h1; subst h1; first | exact hp.symm | (rw [if_pos hlo]; exact hp.symm)
   ·rfl
  rw [e]
  have HH := Aside0.mk h
  clear h hp e
  go_enter Try.func53, Try.ntmps53
  go_wp2
  rw [Lib.run_neq_ptr_same w _ Try.underlying58 hj]
  go_wp2
  go_end0
  exact ⟨rfl, HH.out, rfl, ⟨rfl, rfl, rfl, Nat.le_refl _, fun _ _ _ => rfl⟩⟩
set_option maxHeartbeats 2000000 in
set_option maxRecDepth 100000 in
theorem bldr_write (B g o : Nat) (t : TypeId) (cs : List Value) (s x : ByteArray) (w : World) (T : BldrT t o cs.length) (h : Bldr B g o t cs s w) (hlen : s.size + x.size ≤ 140737488355328) (hBw : B ≤ w.heap.size) :
  Calls Try.prog 43 #[.pointer (some ⟨g, o, none⟩), .string x] w fun e w' => e = .returned (.tuple #[.int .i64 x.size, .nilIface]) ∧
   (∃ v, Bldr B g o t ((cs.set o (.pointer (some ⟨g, o, none⟩))).set (o + 1) v) (s ++ x) w') ∧ KeptG B g w w' := by
 obtain ⟨i0, hi, hz0, hz1, hz2⟩ := info_parts bldr_info5
 have hl := T.len
 go_enter Try.func43, Try.ntmps43
 go_wp2_with fail
 refine (bldr_check B g o t cs s _ T h).mono ?_
 rintro e w1 ⟨rfl, h1, hz, hg1⟩
 clear h
 obtain ⟨v, hv, ho, hne⟩ := h1.row
 have c1 : w1.cell? ⟨g, o + 1, none⟩ = some v := (h1.cell (o + 1)).trans hv
 have H1 := Aside0.mk h1
 have HV := Aside0.mk hv
 have HZ := Aside0.mk hz
 clear h1 hv hz
 go_wp2_with (at_builtin; refine Lib.wpList_append_own_string _ rfl _ _ 46 9 rfl B 5 i0 Try.underlying46 Try.underlying9 hi hz0 hz1 hz2 _ _ _ rfl ho x rfl ?c3 ?c4 ?c5 ?_)
 case c3 => unfold maxLen; omega
 case c4 => omega
 case c5 => rw [HZ.out]; exact hBw
 intro v' w2 hown' hgrow _
 have hlt : g < w1.heap.size := blk_lt H1.out.blk
 have hb2 := blk_grown H1.out.blk hgrow (fun e => hne e.symm)
 have d1 : w2.cell? ⟨g, o + 1, none⟩ = some v := by
  have := blk_cell hb2 (o + 1)
  exact this.trans (by simpa using HV.out)
 have f1 : w2.frozen? ⟨g, o + 1, none⟩ = false := blk_frozen hb2 _
 obtain ⟨ao, n', cap, rfl⟩ : ∃ ao n' cap, v' = .slice ao n' cap := by
  rcases hown'.2 with ⟨hv, _⟩ | ⟨g, cap, cur, hv, _⟩
  ·exact ⟨_, _, _, hv⟩
  ·exact ⟨_, _, _, hv⟩
 have HO := Aside0.mk hown'
 have HG := Aside0.mk hgrow
 have HB2 := Aside0.mk hb2
 have HO1 := Aside0.mk ho
 clear hown' hgrow hb2 ho c1
 go_wp2
 go_ret2
 have hg : w2.grownBy (w2.setCell ⟨g, o + 1, none⟩ (.slice ao n' cap)) (some g) :=
  ⟨rfl, rfl, rfl, by simp [World.setCell], fun k _ hk => Below.heap_setCell _ _ _ _ (fun e => hk (by rw [e]))⟩
 have hne2 : (Value.slice ao n' cap).ownBlock ≠ some g := by
  intro e
  rcases HO.out.2 with ⟨hv, _⟩ | ⟨g', cap', cur, hv, _, hh, _⟩
  ·rw [hv] at e; simp [Value.ownBlock] at e
  ·rw [hv] at e
   simp [Value.ownBlock] at e
   subst e
   rw [HB2.out] at hh
   injection hh with hh
   injection hh with _ hh _
   exact T.ne hh
 refine ⟨rfl, ⟨.slice ao n' cap, ?_, ?_, .slice ao n' cap, ?_, ?_, hne2⟩, ?_⟩
 ·exact blk_put HB2.out (o + 1) _ (by simp)
 ·rw [List.getElem?_set_ne (by omega)]; exact Or.inr (by rw [List.getElem?_set_self (by omega)])
 ·rw [List.getElem?_set_self (by simp; omega)]
 ·have := HO.out.kept hg (Or.inr hne2)
  rw [strCells_append]
  have hs : (s ++ x).size = s.size + x.size := ByteArray.size_append
  rw [hs]
  simpa [Lib.strCells_length] using this
 ·exact (((KeptG.refl B g w).grown hg1 hBw (fun k hk => Or.inr (Option.some.inj hk).symm)).grown HG.out (by rw [HZ.out]; exact hBw) (fun k hk => Or.inl (HO1.out.lt k hk).1)).grown hg (Nat.le_trans (by rw [HZ.out]; exact hBw) HG.out.size) (fun k hk => Or.inr (Option.some.inj hk).symm)
theorem strCells_one_ (x : Int) (h : 0 ≤ x ∧ x ≤ 255) : Lib.strCells (strOfNums [x]) = [.int .u8 x] := by
 obtain ⟨n, rfl⟩ : ∃ n : Nat, x = (n : Int) := ⟨x.toNat, by omega⟩
 have hn : n < 256 := by omega
 have e : ((UInt8.ofNat n).toNat : Int) = (n : Int) := by simp; omega
 show [Value.int .u8 ((UInt8.ofNat ((n : Int)).toNat).toNat : Int)] = _
 rw [Int.toNat_natCast, e]
set_option maxHeartbeats 2000000 in
set_option maxRecDepth 100000 in
theorem bldr_byte (B g o : Nat) (t : TypeId) (cs : List Value) (s : ByteArray) (x : Int) (w : World) (T : BldrT t o cs.length) (h : Bldr B g o t cs s w) (hlen : s.size + 1 ≤ 140737488355328) (hBw : B ≤ w.heap.size) (hx : 0 ≤ x ∧ x ≤ 255) :
  Calls Try.prog 40 #[.pointer (some ⟨g, o, none⟩), .int .u8 x] w fun e w' => e = .returned .nilIface ∧
   (∃ v, Bldr B g o t ((cs.set o (.pointer (some ⟨g, o, none⟩))).set (o + 1) v) (s ++ strOfNums [x]) w') ∧ KeptG B g w w' := by
 obtain ⟨i0, hi, hz0, hz1, hz2⟩ := info_parts bldr_info5
 have hl := T.len
 go_enter Try.func40, Try.ntmps40
 go_wp2_with fail
 refine (bldr_check B g o t cs s _ T h).mono ?_
 rintro e w1 ⟨rfl, h1, hz, hg1⟩
 clear h
 obtain ⟨v, hv, ho, hne⟩ := h1.row
 have c1 : w1.cell? ⟨g, o + 1, none⟩ = some v := (h1.cell (o + 1)).trans hv
 have H1 := Aside0.mk h1
 have HV := Aside0.mk hv
 have HZ := Aside0.mk hz
 clear h1 hv hz
 have ho' := ho.alloc (.cells #[.int .u8 x] 5)
 go_wp2_with (at_builtin; refine wpList_append_own _ rfl _ _ 46 rfl B 5 i0 (.int .u8 0) 1 1 Try.underlying46 hi hz0 hz1 hz2 rfl (by decide) _ _ _ rfl ho' ⟨w1.heap.size, 0, none⟩ 1 1 [.int .u8 x] rfl rfl ?c1 ?c2 ?c3 ?c4 ?c5 ?_)
 case c1 => exact cell_one_new _ _ _
 case c2 => simp [Value.oneCell']
 case c3 => unfold maxLen; omega
 case c4 => omega
 case c5 => simp; rw [HZ.out]; omega
 intro v' w2 hown' hgrow _
 have hlt : g < w1.heap.size := blk_lt H1.out.blk
 have hb2 := blk_grown (blk_alloc H1.out.blk _) hgrow (fun e => hne e.symm)
 have d1 : w2.cell? ⟨g, o + 1, none⟩ = some v := by
  have := blk_cell hb2 (o + 1)
  exact this.trans (by simpa using HV.out)
 have f1 : w2.frozen? ⟨g, o + 1, none⟩ = false := blk_frozen hb2 _
 obtain ⟨ao, n', cap, rfl⟩ : ∃ ao n' cap, v' = .slice ao n' cap := by
  rcases hown'.2 with ⟨hv, _⟩ | ⟨g, cap, cur, hv, _⟩
  ·exact ⟨_, _, _, hv⟩
  ·exact ⟨_, _, _, hv⟩
 have HO := Aside0.mk hown'
 have HG := Aside0.mk hgrow
 have HB2 := Aside0.mk hb2
 have HO1 := Aside0.mk ho
 clear hown' hgrow hb2 ho ho' c1
 go_wp2
 go_ret
 have hg : w2.grownBy (w2.setCell ⟨g, o + 1, none⟩ (.slice ao n' cap)) (some g) :=
  ⟨rfl, rfl, rfl, by simp [World.setCell], fun k _ hk => Below.heap_setCell _ _ _ _ (fun e => hk (by rw [e]))⟩
 have hne2 : (Value.slice ao n' cap).ownBlock ≠ some g := by
  intro e
  rcases HO.out.2 with ⟨hv, _⟩ | ⟨g', cap', cur, hv, _, hh, _⟩
  ·rw [hv] at e; simp [Value.ownBlock] at e
  ·rw [hv] at e
   simp [Value.ownBlock] at e
   subst e
   rw [HB2.out] at hh
   injection hh with hh
   injection hh with _ hh _
   exact T.ne hh
 refine ⟨rfl, ⟨.slice ao n' cap, ?_, ?_, .slice ao n' cap, ?_, ?_, hne2⟩, ?_⟩
 ·exact blk_put HB2.out (o + 1) _ (by simp)
 ·rw [List.getElem?_set_ne (by omega)]; exact Or.inr (by rw [List.getElem?_set_self (by omega)])
 ·rw [List.getElem?_set_self (by simp; omega)]
 ·have := HO.out.kept hg (Or.inr hne2)
  rw [strCells_append, strCells_one_ x hx]
  have hs : (s ++ strOfNums [x]).size = s.size + 1 := ByteArray.size_append
  rw [hs]
  exact this
 ·exact ((((KeptG.refl B g w).grown hg1 hBw (fun k hk => Or.inr (Option.some.inj hk).symm)).alloc (by rw [HZ.out]; exact hBw) _).grown HG.out (by simp; rw [HZ.out]; omega) (fun k hk => Or.inl (HO1.out.lt k hk).1)).grown hg (Nat.le_trans (by simp; rw [HZ.out]; omega) HG.out.size) (fun k hk => Or.inr (Option.some.inj hk).symm)
theorem strCells_byteCells (s : ByteArray) : Lib.strCells s = Lib.byteCells s.data.toList := by
 simp [Lib.strCells, Lib.byteCells]
set_option maxHeartbeats 1000000 in
set_option maxRecDepth 100000 in
theorem bldr_string (B g o : Nat) (t : TypeId) (cs : List Value) (s : ByteArray) (w : World) (h : Bldr B g o t cs s w) (hBw : B ≤ w.heap.size) :
  Calls Try.prog 41 #[.pointer (some ⟨g, o, none⟩)] w fun e w' => e = .returned (.string s) ∧ Below B w w' := by
 obtain ⟨v, hv, ho, hne⟩ := h.row
 by_cases h0 : s.size = 0
 ·have hs : s = ⟨#[]⟩ := by
   cases s with
   | mk d =>
    have : d = #[] := Array.eq_empty_of_size_eq_zero h0
    rw [this]
  have hUS : ∀ (W : World) (q : Option Addr), (Builtin.unsafeString_ #[86, 3] 9 #[.pointer q, .int .i64 0]).run Try.prog W = .ok (.string .empty) W := fun W q => Lib.run_unsafeString_none W _ _ _ q
  rcases ho.2 with ⟨rfl, _⟩ | ⟨gr, cap, cur, rfl, hbg, hg, hnc, hcm, hcs, htake⟩
  ·have c1 : w.drew.cell? ⟨g, o + 1, none⟩ = some (.slice none 0 0) := (h.cell (o + 1)).trans hv
   have hSD : (Builtin.unsafeSliceData_ #[46] 86 #[.slice none 0 0]).run Try.prog w.drew = .ok (.pointer none) w.drew := rfl
   clear h hv ho
   subst hs
   go_enter Try.func41, Try.ntmps41
   go_wp2
   go_region
   all_goals (go_wp2; go_ret; exact ⟨rfl, Below.drew (Below.refl B w)⟩)
  ·rw [h0] at hv
   by_cases hc0 : cap = 0
   ·subst hc0
    have hlt : g < w.heap.size := blk_lt h.blk
    have c0 : w.cell? ⟨g, o + 1, none⟩ = some (.slice (some ⟨gr, 0, none⟩) 0 0) := (h.cell (o + 1)).trans hv
    have c1 : w.drew.cell? ⟨g, o + 1, none⟩ = some (.slice (some ⟨gr, 0, none⟩) 0 0) := c0
    have hSD : (Builtin.unsafeSliceData_ #[46] 86 #[.slice (some ⟨gr, 0, none⟩) 0 0]).run Try.prog w.drew = .ok (.pointer (some ⟨w.drew.heap.size, 0, none⟩)) (w.drew.alloc (.view ⟨gr, 0, none⟩ 5)) :=
     Lib.run_unsafeSliceData_zero w.drew _ _ 5 Try.underlying86 ⟨gr, 0, none⟩ 0 (5, cur.size) (by have hg' : w.drew.heap[gr]? = some (.cells cur 5 (0, 0)) := hg; simp [World.shape?, hg'])
    have c2 : (w.drew.alloc (.view ⟨gr, 0, none⟩ 5)).cell? ⟨g, o + 1, none⟩ = some (.slice (some ⟨gr, 0, none⟩) 0 0) := (World.cell?_alloc_lt _ _ _ hlt).trans c1
    have c3 : (w.alloc (.view ⟨gr, 0, none⟩ 5)).drew.cell? ⟨g, o + 1, none⟩ = some (.slice (some ⟨gr, 0, none⟩) 0 0) := c2
    have HB := Aside0.mk hBw
    clear h hv ho hlt hbg hg hnc hcm hcs htake
    subst hs
    go_enter Try.func41, Try.ntmps41
    go_wp2
    go_region
    all_goals (go_wp2; go_ret; exact ⟨rfl, (Below.drew (Below.refl B w)).alloc HB.out _⟩)
   ·have c1 : w.drew.cell? ⟨g, o + 1, none⟩ = some (.slice (some ⟨gr, 0, none⟩) 0 cap) := (h.cell (o + 1)).trans hv
    have hSD : (Builtin.unsafeSliceData_ #[46] 86 #[.slice (some ⟨gr, 0, none⟩) 0 cap]).run Try.prog w.drew = .ok (.pointer (some ⟨gr, 0, none⟩)) w.drew :=
     Lib.run_unsafeSliceData_row _ _ _ _ _ _ hc0
    clear h hv ho hc0 hbg hg hnc hcm hcs htake
    subst hs
    go_enter Try.func41, Try.ntmps41
    go_wp2
    go_region
    all_goals (go_wp2; go_ret; exact ⟨rfl, Below.drew (Below.refl B w)⟩)
 ·obtain ⟨gr, cap, cur, rfl, hbg, hg, hnc, hcm, hcs, htake⟩ : ∃ gr cap cur, v = .slice (some ⟨gr, 0, none⟩) s.size cap ∧ B ≤ gr ∧ w.heap[gr]? = some (.cells cur 5 (0, 0)) ∧ s.size ≤ cap ∧ cap ≤ maxLen ∧ cur.size = cap * 1 ∧ cur.toList.take (s.size * 1) = Lib.strCells s := by
   rcases ho.2 with ⟨_, hz⟩ | ⟨gr, cap, cur, hv, r⟩
   ·exact absurd hz h0
   ·exact ⟨gr, cap, cur, hv, r⟩
  have c1 : w.drew.cell? ⟨g, o + 1, none⟩ = some (.slice (some ⟨gr, 0, none⟩) s.size cap) := (h.cell (o + 1)).trans hv
  have hsz : s.data.toList.length = s.size := Array.length_toList
  have hSD : (Builtin.unsafeSliceData_ #[46] 86 #[.slice (some ⟨gr, 0, none⟩) s.size cap]).run Try.prog w.drew = .ok (.pointer (some ⟨gr, 0, none⟩)) w.drew :=
   Lib.run_unsafeSliceData_row _ _ _ _ _ _ (by omega)
  have hUS : (Builtin.unsafeString_ #[86, 3] 9 #[.pointer (some ⟨gr, 0, none⟩), .int .i64 s.size]).run Try.prog w.drew = .ok (.string s) (w.drew.freeze ⟨gr, 0, none⟩ s.size) := by
   have := Lib.run_unsafeString_row (P := Try.prog) w.drew 86 3 9 5 Try.underlying86 (by kernel_rfl) gr cur.size (by have hg' : w.drew.heap[gr]? = some (.cells cur 5 (0, 0)) := hg; simp [World.shape?, hg']) s.data.toList (by intro e; rw [e] at hsz; simp at hsz; omega) (by omega) (by unfold maxLen at hcm; omega) (by
    intro j x hx
    have := ho.cells (g := gr) rfl j (.int .u8 x.toNat) (by rw [strCells_byteCells]; simp [Lib.byteCells, hx])
    exact this)
   rw [hsz] at this
   have e : (⟨s.data.toList.toArray⟩ : ByteArray) = s := by cases s; simp
   rw [e] at this
   exact this
  have HB := Aside0.mk hbg
  clear h hv ho hbg hg hnc hcm hcs htake hsz
  go_enter Try.func41, Try.ntmps41
  go_wp2
  go_region
  all_goals (go_wp2; go_ret; exact ⟨rfl, Lib.below_freeze (Below.drew (Below.refl B w)) (p := ⟨gr, 0, none⟩) HB.out _⟩)

/-! ### digest_Hex: function 28 -/
def hxBA : ByteArray := ⟨#[48, 49, 50, 51, 52, 53, 54, 55, 56, 57, 97, 98, 99, 100, 101, 102]⟩
def hexL (s : ByteArray) : Nat → Nat → ByteArray → ByteArray
 | 0, _, acc => acc
 | r + 1, i, acc => hexL s r (i + 1) (acc ++ strOfNums [bt hxBA (bt s (i : Int) / 16)] ++ strOfNums [bt hxBA (Go.bits .and .u8 (bt s (i : Int)) 15)])
def hexF (s : ByteArray) : ByteArray := hexL s s.size 0 ⟨#[]⟩
def digest_Hex.f (a0 : ByteArray) : Option (ByteArray) := if a0.size ≤ 1099511627776 then some (hexF a0) else none
theorem and15 : ∀ n : Fin 256, Go.bits .and .u8 (n.val : Int) 15 = ((n.val % 16 : Nat) : Int) := by decide +kernel
theorem hx_at (n : Nat) : (∀ h : n < (⟨#[48, 49, 50, 51, 52, 53, 54, 55, 56, 57, 97, 98, 99, 100, 101, 102]⟩ : ByteArray).size, (((⟨#[48, 49, 50, 51, 52, 53, 54, 55, 56, 57, 97, 98, 99, 100, 101, 102]⟩ : ByteArray)[n]'h).toNat : Int) = bt hxBA (n : Int)) := fun h => by
 have := bt_at hxBA (n : Int) (by rw [Int.toNat_natCast]; exact h)
 rw [← this]
 rfl
theorem bytes_getD (s : ByteArray) (j : Nat) (h : j < s.size) : (bytesOf s).getD j 0 = bt s (j : Int) := by
 unfold bytesOf bt
 rw [Int.toNat_natCast, dif_pos h]
 simp [List.getD_eq_getElem?_getD, h]
 rfl
theorem builder_T : BldrT 60 0 2 := ⟨by decide, by kernel_rfl, by decide⟩
set_option maxHeartbeats 2000000 in
set_option maxRecDepth 100000 in
theorem digest_Hex.calls (a0 : ByteArray) (r : ByteArray) (w : World) (h : digest_Hex.f a0 = some r) :
  Calls Try.prog 28 #[.string a0] w fun e w' => e = .returned (.string r) ∧ Below w.heap.size w w' := by
 unfold digest_Hex.f at h
 by_cases hg : a0.size ≤ 1099511627776
 rotate_left
 ·rw [if_neg hg] at h
  simp at h
 rw [if_pos hg] at h
 obtain rfl := Option.some.inj h
 clear h
 obtain ⟨wA, hwA⟩ : ∃ W, W = w.alloc (.cells #[.pointer none, .slice none 0 0] 60) := ⟨_, rfl⟩
 have hzA : wA.heap.size = w.heap.size + 1 := by rw [hwA]; simp
 have hcv := Lib.run_convert_string_bytes (P := Try.prog) wA 9 46 5 a0 Try.underlying9 Try.underlying46 Try.underlying5
 have HR := Aside0.mk (BRow.new wA a0)
 rw [hwA] at hcv
 have hq : (w.alloc (.cells #[.pointer none, .slice none 0 0] 60)).heap.size = w.heap.size + 1 := by simp
 rw [hq] at hcv
 go_enter Try.func28, Try.ntmps28
 go_wp2
 clear hcv hq
 obtain ⟨w1, hw1⟩ : ∃ W, W = Lib.bytesWorld (w.alloc (.cells #[.pointer none, .slice none 0 0] 60)) 5 a0 := ⟨_, rfl⟩
 rw [← hw1]
 generalize grownCap _ _ _ _ = cap0
 obtain ⟨gb, hgb⟩ : ∃ g, g = w.heap.size := ⟨_, rfl⟩
 obtain ⟨gs, hgs⟩ : ∃ g, g = w.heap.size + 1 := ⟨_, rfl⟩
 obtain ⟨Br, hBr⟩ : ∃ g, g = w1.heap.size := ⟨_, rfl⟩
 have hz1 : Br = w.heap.size + 2 := by rw [hBr, hw1, Lib.bytesWorld_size]; simp
 have hR1 : BRow gs (bytesOf a0) wA w1 := by
  have := HR.out
  rw [hzA, ← hgs] at this
  rw [hw1, ← hwA]
  exact this
 have hb1 : w1.heap[gb]? = some (.cells #[.pointer none, .slice none 0 0] 60 (0, 0)) := by
  rw [hR1.below.block gb (by omega), hwA, hgb]
  exact heap_alloc_new _ _
 have HB0 : Aside0 (Bldr Br gb 0 60 [.pointer none, .slice none 0 0] ⟨#[]⟩ w1) := ⟨hb1, Or.inl rfl, .slice none 0 0, rfl, own_nil w1 Br _ _, by simp [Value.ownBlock]⟩
 have HW : Aside0 (Below w.heap.size w w1) := ⟨(((Below.refl w.heap.size w).alloc (Nat.le_refl _) _).trans (by rw [← hwA]; exact hR1.below.mono (by omega)))⟩
 have HC : Aside0 (∀ j, j < a0.size → w1.cell? ⟨gs, j, none⟩ = some (.int .u8 (bt a0 (j : Int)))) := ⟨fun j hj => by
  rw [hR1.cell j (by rw [bytesOf_length]; exact hj)]
  rw [bytes_getD a0 j hj]⟩
 have HZ := Aside0.mk (And.intro hgb (And.intro hgs (And.intro hBr hz1)))
 have hgs2 : gs = gb + 1 := by omega
 rw [← hgb, ← hgs2]
 clear hgs2 hw1 hR1 hb1 hwA hzA hgb hgs hBr hz1 HR
 have HF : Aside0 (hexL a0 a0.size 0 ⟨#[]⟩ = hexF a0) := ⟨rfl⟩
 go_loopg [5, 9] a0.size (fun r s5 s9 wr => ∃ (i : Nat) (acc : ByteArray) (p v : Value), i + r = a0.size ∧ s9 = .int .i64 (i : Int) ∧ acc.size ≤ 2 * i ∧ Aside0 (hexL a0 r i acc = hexF a0) ∧ Aside0 (Bldr Br gb 0 60 [p, v] acc wr) ∧ Aside0 (KeptG Br gb w1 wr))
 case atStart => exact ⟨0, _, _, _, by omega, rfl, by decide, HF, HB0, ⟨KeptG.refl _ _ _⟩⟩
 case round =>
  obtain ⟨i, acc, p, v, hi, rfl, hacc, HX, HB, HK⟩ := hrel
  cases gk with
  | zero =>
   have hi2 : a0.size ≤ i := by omega
   have hsz : Br ≤ wr.heap.size := by rw [HZ.out.2.2.1]; exact HK.out.size
   go_wp2_with fail
   refine (bldr_string Br gb 0 60 _ acc wr HB.out hsz).mono ?_
   rintro e w3 ⟨rfl, hb⟩
   have HB3 := Aside0.mk hb
   clear hb hsz
   go_wp2
   go_ret
   obtain ⟨e1, e2, e3, e4⟩ := HZ.out
   have hx := HX.out
   rw [hexL] at hx
   refine ⟨by rw [← hx]; rfl, HW.out.trans ((HK.out.ofBelow HB3.out).below (by omega) (by omega))⟩
  | succ r =>
   have hin : i < a0.size := by omega
   have hii : (i : Int) < (a0.size : Int) := by omega
   obtain ⟨e1, e2, e3, e4⟩ := HZ.out
   have hsz : Br ≤ wr.heap.size := by rw [e3]; exact HK.out.size
   have hc : wr.cell? ⟨gs, i, none⟩ = some (.int .u8 (bt a0 (i : Int))) := (HK.out.cell ⟨gs, i, none⟩ (by simp only; omega) (by simp only; omega)).trans (HC.out i hin)
   clear e1 e2 e3 e4
   have hx := HX.out
   rw [hexL] at hx
   obtain ⟨n, hn, hn2⟩ : ∃ n : Nat, bt a0 (i : Int) = (n : Int) ∧ n < 256 := by
    have := bt_range a0 (i : Int)
    exact ⟨(bt a0 (i : Int)).toNat, by omega, by omega⟩
   rw [hn] at hc hx
   have h15 := and15 ⟨n, hn2⟩
   simp only at h15
   rw [h15] at hx
   have t1 : ((n : Int) / 16).toNat = n / 16 := by omega
   have t2 : (n : Int) / 16 < 16 := by omega
   have t3 : 0 ≤ (n : Int) / 16 := by omega
   have t4 : n / 16 < 16 := by omega
   have x1 := hx_at (n / 16)
   have x2 := hx_at (n % 16)
   rw [show ((n / 16 : Nat) : Int) = (n : Int) / 16 from by omega] at x1
   rw [show ((n % 16 : Nat) : Int) = (n : Int) % 16 from by omega] at x2
   have r1 := bt_range hxBA ((n : Int) / 16)
   have r2 := bt_range hxBA ((n : Int) % 16)
   rw [show ((n % 16 : Nat) : Int) = (n : Int) % 16 from by omega] at hx h15
   have t5 : ((n : Int) % 16).toNat = n % 16 := by omega
   have t6 : (n : Int) % 16 < 16 := by omega
   have t7 : 0 ≤ (n : Int) % 16 := by omega
   have t8 : n % 16 < 16 := by omega
   have HX2 := Aside0.mk hx
   have HN := Aside0.mk hn
   clear hx HX hn
   go_wp2_with fail
   refine (bldr_byte Br gb 0 60 [p, v] acc _ wr builder_T HB.out (by omega) hsz r1).mono ?_
   rintro e w3 ⟨rfl, ⟨v3, hb3⟩, hk3⟩
   have HB3 := Aside0.mk hb3
   have HK3 := Aside0.mk (HK.out.trans hk3)
   have hsz3 : Br ≤ w3.heap.size := Nat.le_trans hsz hk3.size
   have hs3 : (acc ++ strOfNums [bt hxBA ((n : Int) / 16)]).size = acc.size + 1 := by rw [ByteArray.size_append]; rfl
   have HS3 := Aside0.mk hs3
   clear hb3 hk3 hs3
   go_wp2_with fail
   refine (bldr_byte Br gb 0 60 [.pointer (some ⟨gb, 0, none⟩), v3] _ _ w3 builder_T HB3.out (by rw [HS3.out]; omega) hsz3 r2).mono ?_
   rintro e w4 ⟨rfl, ⟨v4, hb4⟩, hk4⟩
   have HB4 := Aside0.mk hb4
   have HK4 := Aside0.mk (HK3.out.trans hk4)
   clear hb4 hk4
   go_wp2
   go_roundg r
   case measure => omega
   case rel =>
    refine ⟨i + 1, _, _, _, by omega, by go_num, ?_, HX2, HB4, HK4⟩
    rw [ByteArray.size_append, HS3.out]
    show acc.size + 1 + 1 ≤ _
    omega

/-! ### dominolaw08_shown: function 9 -/
def dominolaw08_shown.f (k : Nat)  : Option (Bool) := (kdf_Mac.f (⟨#[74, 101, 102, 101]⟩ : ByteArray) (([(⟨#[119, 104, 97, 116, 32, 100, 111, 32, 121, 97, 32, 119, 97, 110, 116, 32]⟩ : ByteArray), (⟨#[102, 111, 114, 32, 110, 111, 116, 104, 105, 110, 103, 63]⟩ : ByteArray)] : List ByteArray))).bind fun t142 => ((digest_Hex.f t142).bind fun t143 => (if t143.toList = ([53, 98, 100, 99, 99, 49, 52, 54, 98, 102, 54, 48, 55, 53, 52, 101, 54, 97, 48, 52, 50, 52, 50, 54, 48, 56, 57, 53, 55, 53, 99, 55, 53, 97, 48, 48, 51, 102, 48, 56, 57, 100, 50, 55, 51, 57, 56, 51, 57, 100, 101, 99, 53, 56, 98, 57, 54, 52, 101, 99, 51, 56, 52, 51] : List UInt8) then ((kdf_Next.f k (⟨#[120]⟩ : ByteArray)).bind fun t144 => (some ((t144.size : Int) == 32))) else (none)))
theorem dominolaw08_shown.mono : ∀ k, LeO (dominolaw08_shown.f k ) (dominolaw08_shown.f (k + 1) ) := by
 intro  k
 unfold dominolaw08_shown.f
 repeat' first
   | (with_reducible exact kdf_Next.mono _ _)
   | (with_reducible exact LeO.refl _)
   | (with_reducible exact LeO.none _)
   | (with_reducible refine LeO.ite ?_ ?_)
   | (with_reducible refine LeO.bind ?_ (fun _ => ?_))
   | exact kdf_Next.mono _ _
   | exact LeO.none _
   | refine LeO.ite ?_ ?_
   | refine LeO.bind ?_ (fun _ => ?_)
set_option maxHeartbeats 8000000 in
set_option maxRecDepth 100000 in
theorem dominolaw08_shown.calls (k : Nat)  (r : Bool) (w : World) (h : dominolaw08_shown.f k  = some r) :
  Calls Try.prog 9 #[] w fun e w' => e = .returned (.bool r) ∧ Below w.heap.size w w' := by
 have HB := Aside0.mk (Below.refl w.heap.size w)
 have H : ((kdf_Mac.f (⟨#[74, 101, 102, 101]⟩ : ByteArray) (([(⟨#[119, 104, 97, 116, 32, 100, 111, 32, 121, 97, 32, 119, 97, 110, 116, 32]⟩ : ByteArray), (⟨#[102, 111, 114, 32, 110, 111, 116, 104, 105, 110, 103, 63]⟩ : ByteArray)] : List ByteArray))).bind fun t142 => ((digest_Hex.f t142).bind fun t143 => (if t143.toList = ([53, 98, 100, 99, 99, 49, 52, 54, 98, 102, 54, 48, 55, 53, 52, 101, 54, 97, 48, 52, 50, 52, 50, 54, 48, 56, 57, 53, 55, 53, 99, 55, 53, 97, 48, 48, 51, 102, 48, 56, 57, 100, 50, 55, 51, 57, 56, 51, 57, 100, 101, 99, 53, 56, 98, 57, 54, 52, 101, 99, 51, 56, 52, 51] : List UInt8) then ((kdf_Next.f k (⟨#[120]⟩ : ByteArray)).bind fun t144 => (some ((t144.size : Int) == 32))) else (none)))) = some r := h
 clear h
 obtain ⟨y139, hy139⟩ : ∃ y_ : List ByteArray, y_ = (([(⟨#[119, 104, 97, 116, 32, 100, 111, 32, 121, 97, 32, 119, 97, 110, 116, 32]⟩ : ByteArray), (⟨#[102, 111, 114, 32, 110, 111, 116, 104, 105, 110, 103, 63]⟩ : ByteArray)] : List ByteArray)) := ⟨_, rfl⟩
 replace H : ((kdf_Mac.f (⟨#[74, 101, 102, 101]⟩ : ByteArray) y139).bind fun t142 => ((digest_Hex.f t142).bind fun t143 => (if t143.toList = ([53, 98, 100, 99, 99, 49, 52, 54, 98, 102, 54, 48, 55, 53, 52, 101, 54, 97, 48, 52, 50, 52, 50, 54, 48, 56, 57, 53, 55, 53, 99, 55, 53, 97, 48, 48, 51, 102, 48, 56, 57, 100, 50, 55, 51, 57, 56, 51, 57, 100, 101, 99, 53, 56, 98, 57, 54, 52, 101, 99, 51, 56, 52, 51] : List UInt8) then ((kdf_Next.f k (⟨#[120]⟩ : ByteArray)).bind fun t144 => (some ((t144.size : Int) == 32))) else (none)))) = some r := by first | (rw [hy139]; with_reducible exact H) | (have H2_ := (Option.bind_some _ _).symm.trans H; rw [hy139]; with_reducible exact H2_) | (have H2_ := (Option.bind_some _ _).symm.trans H; with_reducible exact H2_) | with_reducible exact H | (rw [hy139]; exact H) | exact H
 have Ny139 := Aside0.mk hy139
 clear hy139
 replace H := Option.bind_eq_some_iff.mp H
 obtain ⟨t142, A10, H⟩ := H
 replace H : ((digest_Hex.f t142).bind fun t143 => (if t143.toList = ([53, 98, 100, 99, 99, 49, 52, 54, 98, 102, 54, 48, 55, 53, 52, 101, 54, 97, 48, 52, 50, 52, 50, 54, 48, 56, 57, 53, 55, 53, 99, 55, 53, 97, 48, 48, 51, 102, 48, 56, 57, 100, 50, 55, 51, 57, 56, 51, 57, 100, 101, 99, 53, 56, 98, 57, 54, 52, 101, 99, 51, 56, 52, 51] : List UInt8) then ((kdf_Next.f k (⟨#[120]⟩ : ByteArray)).bind fun t144 => (some ((t144.size : Int) == 32))) else (none))) = some r := H
 have A1 := Aside0.mk A10
 clear A10
 replace H := Option.bind_eq_some_iff.mp H
 obtain ⟨t143, A20, H⟩ := H
 replace H : (if t143.toList = ([53, 98, 100, 99, 99, 49, 52, 54, 98, 102, 54, 48, 55, 53, 52, 101, 54, 97, 48, 52, 50, 52, 50, 54, 48, 56, 57, 53, 55, 53, 99, 55, 53, 97, 48, 48, 51, 102, 48, 56, 57, 100, 50, 55, 51, 57, 56, 51, 57, 100, 101, 99, 53, 56, 98, 57, 54, 52, 101, 99, 51, 56, 52, 51] : List UInt8) then ((kdf_Next.f k (⟨#[120]⟩ : ByteArray)).bind fun t144 => (some ((t144.size : Int) == 32))) else (none)) = some r := H
 have A2 := Aside0.mk A20
 clear A20
 by_cases c3 : t143.toList = ([53, 98, 100, 99, 99, 49, 52, 54, 98, 102, 54, 48, 55, 53, 52, 101, 54, 97, 48, 52, 50, 52, 50, 54, 48, 56, 57, 53, 55, 53, 99, 55, 53, 97, 48, 48, 51, 102, 48, 56, 57, 100, 50, 55, 51, 57, 56, 51, 57, 100, 101, 99, 53, 56, 98, 57, 54, 52, 101, 99, 51, 56, 52, 51] : List UInt8)
 ·rw [if_pos c3] at H
  have c3b0 : (t143.toList == ([53, 98, 100, 99, 99, 49, 52, 54, 98, 102, 54, 48, 55, 53, 52, 101, 54, 97, 48, 52, 50, 52, 50, 54, 48, 56, 57, 53, 55, 53, 99, 55, 53, 97, 48, 48, 51, 102, 48, 56, 57, 100, 50, 55, 51, 57, 56, 51, 57, 100, 101, 99, 53, 56, 98, 57, 54, 52, 101, 99, 51, 56, 52, 51] : List UInt8)) = true := beq_iff_eq.mpr c3
  have c3b1 : (t143.toList != ([53, 98, 100, 99, 99, 49, 52, 54, 98, 102, 54, 48, 55, 53, 52, 101, 54, 97, 48, 52, 50, 52, 50, 54, 48, 56, 57, 53, 55, 53, 99, 55, 53, 97, 48, 48, 51, 102, 48, 56, 57, 100, 50, 55, 51, 57, 56, 51, 57, 100, 101, 99, 53, 56, 98, 57, 54, 52, 101, 99, 51, 56, 52, 51] : List UInt8)) = false := bne_eq_false_iff_eq.mpr c3
  clear c3
  replace H := Option.bind_eq_some_iff.mp H
  obtain ⟨t144, A40, H⟩ := H
  replace H : (some ((t144.size : Int) == 32)) = some r := H
  have A4 := Aside0.mk A40
  clear A40
  obtain rfl := Option.some.inj H
  go_enter Try.func9, Try.ntmps9
  go_wp2_with (first | ((with_reducible refine gate_dst (N := 1) rfl ?_); (try (refine gate_guard (by rfl) ?_; dsimp only)); refine Kd.R_lit Kd.string _ 9 ?hg (N := 1) ?hd (xs := ([(⟨#[119, 104, 97, 116, 32, 100, 111, 32, 121, 97, 32, 119, 97, 110, 116, 32]⟩ : ByteArray), (⟨#[102, 111, 114, 32, 110, 111, 116, 104, 105, 110, 103, 63]⟩ : ByteArray)] : List ByteArray)) (inner := [.string (⟨#[119, 104, 97, 116, 32, 100, 111, 32, 121, 97, 32, 119, 97, 110, 116, 32]⟩ : ByteArray), .string (⟨#[102, 111, 114, 32, 110, 111, 116, 104, 105, 110, 103, 63]⟩ : ByteArray)]) (ok := fun _ => True) (okp := fun _ => True) ?hr ?hp (fun _ hk => hk) trivial (Below.refl _ _) (Nat.le_refl _) (by simp) ?_; (case hd => rfl); (case hg => rfl); (case hr => first | (go_simp; done) | (go_simp; rfl)); (case hp => exact (Reps.one (show Kd.M Kd.string _ _ _ (⟨#[119, 104, 97, 116, 32, 100, 111, 32, 121, 97, 32, 119, 97, 110, 116, 32]⟩ : ByteArray) [.string (⟨#[119, 104, 97, 116, 32, 100, 111, 32, 121, 97, 32, 119, 97, 110, 116, 32]⟩ : ByteArray)] from rfl) (Reps.one (show Kd.M Kd.string _ _ _ (⟨#[102, 111, 114, 32, 110, 111, 116, 104, 105, 110, 103, 63]⟩ : ByteArray) [.string (⟨#[102, 111, 114, 32, 110, 111, 116, 104, 105, 110, 103, 63]⟩ : ByteArray)] from rfl) (Reps.none _ _)))); intro v140 w5 ho6 hb hg_ hnew_; clear hg_ hnew_; (first | rw [← Ny139.out] at ho6 | (simp only [Int.reduceToNat] at ho6; rw [← Ny139.out] at ho6)); have n0_ := Aside0.mk (Kd.R_lower ho6 (below_size (by repeat (first | (with_reducible first | exact HB.out | apply below_alloc | apply pw_below_drewN | apply below_drew1) | exact HB.out)))); have n1_ := Aside0.mk (below_step (by repeat (first | (with_reducible first | exact HB.out | apply below_alloc | apply pw_below_drewN | apply below_drew1) | exact HB.out)) hb); clear HB; have HO141 := n0_; have HB := n1_; clear n0_ n1_; clear hb ho6; obtain ⟨Ao7, co7, eo7⟩ := Kd.R_slice HO141.out; subst eo7) | ((with_reducible refine gate_callee (f := 18) rfl ?_); refine goesL_ (some 2) rfl rfl Try.func18 (by kernel_rfl) rfl #[.string (⟨#[74, 101, 102, 101]⟩ : ByteArray), .slice Ao7 y139.length co7] rfl (by (try simp only [List.map_toArray, List.map_cons, List.map_nil]); first | done | rfl | (simp only [List.length_drop, List.length_take]; rfl)) ?_; (with_reducible refine (kdf_Mac.calls (⟨#[74, 101, 102, 101]⟩ : ByteArray) _ _ y139 t142 _ ?side1 ?side2 A1.out).mono ?_); (case side1 => repeat (first | exact (Kd.R_reads' HO141.out).2.2 | (with_reducible refine Kd.C_alloc ?_ _) | (with_reducible refine Kd.C_drewN ?_ _) | (with_reducible refine Kd.C_drew ?_))); (case side2 => exact (Kd.R_reads' HO141.out).2.1); rintro e w8 ⟨rfl, hb⟩; refine ⟨_, rfl, ?_⟩; have n0_ := Aside0.mk (Kd.R_below (by (with_reducible repeat (first | apply Kd.R_alloc | apply Kd.R_drewN | apply Kd.R_drew)); exact HO141.out) hb); have n1_ := Aside0.mk (below_step (by repeat (first | (with_reducible first | exact HB.out | apply below_alloc | apply pw_below_drewN | apply below_drew1) | exact HB.out)) hb); clear HO141; clear HB; have HO141 := n0_; have HB := n1_; clear n0_ n1_; (try clear hb); (try clear hb2); (try clear hk); (try clear hi)) | ((with_reducible refine gate_callee (f := 28) rfl ?_); refine goesL_ (some 3) rfl rfl Try.func28 (by kernel_rfl) rfl #[.string t142] rfl (by (try simp only [List.map_toArray, List.map_cons, List.map_nil]); first | done | rfl | (simp only [List.length_drop, List.length_take]; rfl)) ?_; (with_reducible refine (digest_Hex.calls t142 t143 _ A2.out).mono ?_); rintro e w9 ⟨rfl, hb⟩; refine ⟨_, rfl, ?_⟩; have n0_ := Aside0.mk (Kd.R_below (by (with_reducible repeat (first | apply Kd.R_alloc | apply Kd.R_drewN | apply Kd.R_drew)); exact HO141.out) hb); have n1_ := Aside0.mk (below_step (by repeat (first | (with_reducible first | exact HB.out | apply below_alloc | apply pw_below_drewN | apply below_drew1) | exact HB.out)) hb); clear HO141; clear HB; have HO141 := n0_; have HB := n1_; clear n0_ n1_; (try clear hb); (try clear hb2); (try clear hk); (try clear hi)) | (go_at_call 23; (with_reducible refine (kdf_Next.calls k (⟨#[120]⟩ : ByteArray) t144 _ A4.out).mono ?_); rintro e w10 ⟨rfl, hb⟩; have n0_ := Aside0.mk (Kd.R_below (by (with_reducible repeat (first | apply Kd.R_alloc | apply Kd.R_drewN | apply Kd.R_drew)); exact HO141.out) hb); have n1_ := Aside0.mk (below_step (by repeat (first | (with_reducible first | exact HB.out | apply below_alloc | apply pw_below_drewN | apply below_drew1) | exact HB.out)) hb); clear HO141; clear HB; have HO141 := n0_; have HB := n1_; clear n0_ n1_; (try clear hb); (try clear hb2); (try clear hk); (try clear hi)))
  go_ret
  exact ⟨by first | rfl | (simp [errW_none, errW_some] <;> rfl) | (simp [*, errW_none, errW_some] <;> rfl), by repeat (first | (with_reducible first | exact HB.out | apply below_alloc | apply pw_below_drewN | apply below_drew1) | exact HB.out)⟩
 ·rw [if_neg c3] at H
  exact absurd H (by simp)

/-! ### dominolaw08_bounded: function 16 -/
def dominolaw08_bounded.l0 : Nat → List ByteArray → Int → Int → Option (Bool)
 | 0, _, _, _ => none
 | k + 1, x0, x3, x4 => if x4 < (x0.length : Int) then (if 0 ≤ x4 then (dominolaw08_bounded.l0 k x0 (wrap64 (x3 + ((rdOf ByteArray.empty x0 x4).size : Int))) (wrap64 (x4 + 1))) else (none)) else (if (x0.length : Int) ≤ 20 then (some (decide (x3 ≤ 600))) else (some false))
def dominolaw08_bounded.f (k : Nat) (l0 : List ByteArray) : Option (Bool) := dominolaw08_bounded.l0 k l0 0 0
theorem dominolaw08_bounded.mono_l : ∀ k, (∀ y0 y1 y2, LeO (dominolaw08_bounded.l0 k y0 y1 y2) (dominolaw08_bounded.l0 (k + 1) y0 y1 y2))
 | 0 => fun _ _ _ r h => by simp [dominolaw08_bounded.l0] at h
 | k + 1 => by
  have ih0 := dominolaw08_bounded.mono_l k
  ·intro y0 y1 y2
   unfold dominolaw08_bounded.l0
   repeat' first
   | (with_reducible exact ih0 _ _ _)
   | (with_reducible exact LeO.refl _)
   | (with_reducible exact LeO.none _)
   | (with_reducible refine LeO.ite ?_ ?_)
   | (with_reducible refine LeO.bind ?_ (fun _ => ?_))
   | exact ih0 _ _ _
   | exact LeO.none _
   | refine LeO.ite ?_ ?_
   | refine LeO.bind ?_ (fun _ => ?_)
theorem dominolaw08_bounded.mono : ∀ a0 k, LeO (dominolaw08_bounded.f k a0) (dominolaw08_bounded.f (k + 1) a0) := by
 intro a0 k
 have ih0 := dominolaw08_bounded.mono_l k
 unfold dominolaw08_bounded.f
 repeat' first
   | (with_reducible exact ih0 _ _ _)
   | (with_reducible exact LeO.refl _)
   | (with_reducible exact LeO.none _)
   | (with_reducible refine LeO.ite ?_ ?_)
   | (with_reducible refine LeO.bind ?_ (fun _ => ?_))
   | exact ih0 _ _ _
   | exact LeO.none _
   | refine LeO.ite ?_ ?_
   | refine LeO.bind ?_ (fun _ => ?_)
set_option maxHeartbeats 8000000 in
set_option maxRecDepth 100000 in
theorem dominolaw08_bounded.calls (k : Nat) (A0 : Option Addr) (c0 : Nat) (l0 : List ByteArray) (r : Bool) (w : World) (hr0 : Kd.C Kd.string w A0 l0.length l0) (hc0 : l0.length ≤ c0) (h : dominolaw08_bounded.f k l0 = some r) :
  Calls Try.prog 16 #[.slice A0 l0.length c0] w fun e w' => e = .returned (.bool r) ∧ Drawn0 w w' := by
 have HR0 := Aside0.mk hr0
 have HC0 := Aside0.mk hc0
 clear hr0 hc0
 have H : (dominolaw08_bounded.l0 k l0 0 0) = some r := h
 clear h
 have H' := Aside0.mk H
 clear H
 go_enter Try.func16, Try.ntmps16
 go_wp2
 go_loopg [3, 4] k (fun kq v3 v4 w' => ∃ (x3_1 : Int) (x4_1 : Int), v3 = .int .i64 x3_1 ∧ v4 = .int .i64 x4_1 ∧ Aside0 (dominolaw08_bounded.l0 kq l0 x3_1 x4_1 = some r) ∧ Aside0 (kq ≤ k) ∧ Drawn0 w w')
 case atStart => exact ⟨(0), (0), (by first | rfl | (simp; done) | (simp [*]; done)), (by first | rfl | (simp; done) | (simp [*]; done)), H', ⟨Nat.le_refl _⟩, by repeat (first | exact Drawn0.refl _ | apply Drawn0.step)⟩
 case round =>
  clear H'
  try clear c1
  obtain ⟨x3_1, x4_1, rfl, rfl, HA, HK1, ⟨m1, rfl⟩⟩ := hrel
  cases gk with
  | zero => exact absurd HA.out (by simp [dominolaw08_bounded.l0])
  | succ k1 =>
   have H := HA.out
   clear HA
   simp only [dominolaw08_bounded.l0] at H
   by_cases c2 : x4_1 < (l0.length : Int)
   ·rw [if_pos c2] at H
    have c2b0 : decide (x4_1 < (l0.length : Int)) = true := decide_eq_true c2
    clear c2
    by_cases c3 : 0 ≤ x4_1
    ·rw [if_pos c3] at H
     have c3b0 : decide (0 ≤ x4_1) = true := decide_eq_true c3
     clear c3
     have H' := Aside0.mk H
     clear H
     have p145 : 0 ≤ (x4_1 : Int) := of_decide_eq_true (by first | (with_reducible assumption) | assumption)
     have q145 : x4_1 < (l0.length : Int) := of_decide_eq_true (by first | (with_reducible assumption) | assumption)
     obtain ⟨ad145, e145, hx145_0⟩ := Kd.at_string HR0.out x4_1 p145 q145
     cases e145
     replace p145 := eq_true p145
     replace q145 := eq_true q145
     go_wp2
     go_roundg k1
     case measure => have := HK1.out; omega
     case rel => exact ⟨(wrap64 (x3_1 + ((rdOf ByteArray.empty l0 x4_1).size : Int))), (wrap64 (x4_1 + 1)), (by first | rfl | (simp; done) | (simp [*]; done)), (by first | rfl | (simp; done) | (simp [*]; done)), H', ⟨by have := HK1.out; omega⟩, by repeat (first | exact Drawn0.refl _ | apply Drawn0.step)⟩
    ·rw [if_neg c3] at H
     exact absurd H (by simp)
   ·rw [if_neg c2] at H
    have c2b0 : decide (x4_1 < (l0.length : Int)) = false := decide_eq_false c2
    clear c2
    by_cases c4 : (l0.length : Int) ≤ 20
    ·rw [if_pos c4] at H
     have c4b0 : decide ((l0.length : Int) ≤ 20) = true := decide_eq_true c4
     have c4b1 : decide (l0.length ≤ 20) = true := decide_eq_true (by omega)
     clear c4
     obtain rfl := Option.some.inj H
     go_wp2
     go_ret
     exact ⟨by first | rfl | (simp; done) | (simp [*]; done), by repeat (first | exact Drawn0.refl _ | apply Drawn0.step)⟩
    ·rw [if_neg c4] at H
     have c4b0 : decide ((l0.length : Int) ≤ 20) = false := decide_eq_false c4
     have c4b1 : decide (l0.length ≤ 20) = false := decide_eq_false (by omega)
     clear c4
     obtain rfl := Option.some.inj H
     go_wp2
     go_ret
     exact ⟨by first | rfl | (simp; done) | (simp [*]; done), by repeat (first | exact Drawn0.refl _ | apply Drawn0.step)⟩

/-! ### dominoref07_Join: function 17 -/
def dominoref07_Join.l0 : Nat → List ByteArray → ByteArray → Int → Option (ByteArray)
 | 0, _, _, _ => none
 | k + 1, x0, x3, x4 => if x4 < (x0.length : Int) then (if 0 ≤ x4 then (if x3.size + (rdOf ByteArray.empty x0 x4).size ≤ 9223372036854775807 then (dominoref07_Join.l0 k x0 (x3 ++ (rdOf ByteArray.empty x0 x4)) (wrap64 (x4 + 1))) else (none)) else (none)) else (some x3)
def dominoref07_Join.f (k : Nat) (l0 : List ByteArray) : Option (ByteArray) := dominoref07_Join.l0 k l0 (⟨#[]⟩ : ByteArray) 0
theorem dominoref07_Join.mono_l : ∀ k, (∀ y0 y1 y2, LeO (dominoref07_Join.l0 k y0 y1 y2) (dominoref07_Join.l0 (k + 1) y0 y1 y2))
 | 0 => fun _ _ _ r h => by simp [dominoref07_Join.l0] at h
 | k + 1 => by
  have ih0 := dominoref07_Join.mono_l k
  ·intro y0 y1 y2
   unfold dominoref07_Join.l0
   repeat' first
   | (with_reducible exact ih0 _ _ _)
   | (with_reducible exact LeO.refl _)
   | (with_reducible exact LeO.none _)
   | (with_reducible refine LeO.ite ?_ ?_)
   | (with_reducible refine LeO.bind ?_ (fun _ => ?_))
   | exact ih0 _ _ _
   | exact LeO.none _
   | refine LeO.ite ?_ ?_
   | refine LeO.bind ?_ (fun _ => ?_)
theorem dominoref07_Join.mono : ∀ a0 k, LeO (dominoref07_Join.f k a0) (dominoref07_Join.f (k + 1) a0) := by
 intro a0 k
 have ih0 := dominoref07_Join.mono_l k
 unfold dominoref07_Join.f
 repeat' first
   | (with_reducible exact ih0 _ _ _)
   | (with_reducible exact LeO.refl _)
   | (with_reducible exact LeO.none _)
   | (with_reducible refine LeO.ite ?_ ?_)
   | (with_reducible refine LeO.bind ?_ (fun _ => ?_))
   | exact ih0 _ _ _
   | exact LeO.none _
   | refine LeO.ite ?_ ?_
   | refine LeO.bind ?_ (fun _ => ?_)
set_option maxHeartbeats 8000000 in
set_option maxRecDepth 100000 in
theorem dominoref07_Join.calls (k : Nat) (A0 : Option Addr) (c0 : Nat) (l0 : List ByteArray) (r : ByteArray) (w : World) (hr0 : Kd.C Kd.string w A0 l0.length l0) (hc0 : l0.length ≤ c0) (h : dominoref07_Join.f k l0 = some r) :
  Calls Try.prog 17 #[.slice A0 l0.length c0] w fun e w' => e = .returned (.string r) ∧ Drawn0 w w' := by
 have HR0 := Aside0.mk hr0
 have HC0 := Aside0.mk hc0
 clear hr0 hc0
 have H : (dominoref07_Join.l0 k l0 (⟨#[]⟩ : ByteArray) 0) = some r := h
 clear h
 have H' := Aside0.mk H
 clear H
 go_enter Try.func17, Try.ntmps17
 go_wp2
 go_loopg [3, 4] k (fun kq v3 v4 w' => ∃ (x3_1 : ByteArray) (x4_1 : Int), v3 = .string x3_1 ∧ v4 = .int .i64 x4_1 ∧ Aside0 (dominoref07_Join.l0 kq l0 x3_1 x4_1 = some r) ∧ Aside0 (kq ≤ k) ∧ Drawn0 w w')
 case atStart => exact ⟨((⟨#[]⟩ : ByteArray)), (0), (by first | rfl | (simp; done) | (simp [*]; done)), (by first | rfl | (simp; done) | (simp [*]; done)), H', ⟨Nat.le_refl _⟩, by repeat (first | exact Drawn0.refl _ | apply Drawn0.step)⟩
 case round =>
  clear H'
  try clear c1
  obtain ⟨x3_1, x4_1, rfl, rfl, HA, HK1, ⟨m1, rfl⟩⟩ := hrel
  cases gk with
  | zero => exact absurd HA.out (by simp [dominoref07_Join.l0])
  | succ k1 =>
   have H := HA.out
   clear HA
   simp only [dominoref07_Join.l0] at H
   by_cases c2 : x4_1 < (l0.length : Int)
   ·rw [if_pos c2] at H
    have c2b0 : decide (x4_1 < (l0.length : Int)) = true := decide_eq_true c2
    clear c2
    by_cases c3 : 0 ≤ x4_1
    ·rw [if_pos c3] at H
     have c3b0 : decide (0 ≤ x4_1) = true := decide_eq_true c3
     clear c3
     by_cases c4 : x3_1.size + (rdOf ByteArray.empty l0 x4_1).size ≤ 9223372036854775807
     ·rw [if_pos c4] at H
      have c4b0 := eq_true c4
      have c4b1 : decide (x3_1.size + (rdOf ByteArray.empty l0 x4_1).size ≤ 9223372036854775807) = true := decide_eq_true c4
      try have c4b2 : (9223372036854775807 < x3_1.size + (rdOf ByteArray.empty l0 x4_1).size) = False := eq_false (Nat.not_lt.2 c4)
      have H' := Aside0.mk H
      clear H
      have p146 : 0 ≤ (x4_1 : Int) := of_decide_eq_true (by first | (with_reducible assumption) | assumption)
      have q146 : x4_1 < (l0.length : Int) := of_decide_eq_true (by first | (with_reducible assumption) | assumption)
      obtain ⟨ad146, e146, hx146_0⟩ := Kd.at_string HR0.out x4_1 p146 q146
      cases e146
      replace p146 := eq_true p146
      replace q146 := eq_true q146
      go_wp2
      go_roundg k1
      case measure => have := HK1.out; omega
      case rel => exact ⟨(x3_1 ++ (rdOf ByteArray.empty l0 x4_1)), (wrap64 (x4_1 + 1)), (by first | rfl | (simp; done) | (simp [*]; done)), (by first | rfl | (simp; done) | (simp [*]; done)), H', ⟨by have := HK1.out; omega⟩, by repeat (first | exact Drawn0.refl _ | apply Drawn0.step)⟩
     ·rw [if_neg c4] at H
      exact absurd H (by simp)
    ·rw [if_neg c3] at H
     exact absurd H (by simp)
   ·rw [if_neg c2] at H
    have c2b0 : decide (x4_1 < (l0.length : Int)) = false := decide_eq_false c2
    clear c2
    obtain rfl := Option.some.inj H
    go_wp2
    go_ret
    exact ⟨by first | rfl | (simp; done) | (simp [*]; done), by repeat (first | exact Drawn0.refl _ | apply Drawn0.step)⟩

/-! ### dominoref07_power: function 52 -/
def dominoref07_power.l0 : Nat → Int → Int → Int → Option (Int)
 | 0, _, _, _ => none
 | k + 1, x0, x3, x4 => if x4 < x0 then (dominoref07_power.l0 k x0 (IntKind.u64.wrap (x3 * 2)) (wrap64 (x4 + 1))) else (some x3)
def dominoref07_power.f (k : Nat) (a0 : Int) : Option (Int) := dominoref07_power.l0 k a0 1 0
theorem dominoref07_power.mono_l : ∀ k, (∀ y0 y1 y2, LeO (dominoref07_power.l0 k y0 y1 y2) (dominoref07_power.l0 (k + 1) y0 y1 y2))
 | 0 => fun _ _ _ r h => by simp [dominoref07_power.l0] at h
 | k + 1 => by
  have ih0 := dominoref07_power.mono_l k
  ·intro y0 y1 y2
   unfold dominoref07_power.l0
   repeat' first
   | (with_reducible exact ih0 _ _ _)
   | (with_reducible exact LeO.refl _)
   | (with_reducible exact LeO.none _)
   | (with_reducible refine LeO.ite ?_ ?_)
   | (with_reducible refine LeO.bind ?_ (fun _ => ?_))
   | exact ih0 _ _ _
   | exact LeO.none _
   | refine LeO.ite ?_ ?_
   | refine LeO.bind ?_ (fun _ => ?_)
theorem dominoref07_power.mono : ∀ a0 k, LeO (dominoref07_power.f k a0) (dominoref07_power.f (k + 1) a0) := by
 intro a0 k
 have ih0 := dominoref07_power.mono_l k
 unfold dominoref07_power.f
 repeat' first
   | (with_reducible exact ih0 _ _ _)
   | (with_reducible exact LeO.refl _)
   | (with_reducible exact LeO.none _)
   | (with_reducible refine LeO.ite ?_ ?_)
   | (with_reducible refine LeO.bind ?_ (fun _ => ?_))
   | exact ih0 _ _ _
   | exact LeO.none _
   | refine LeO.ite ?_ ?_
   | refine LeO.bind ?_ (fun _ => ?_)
set_option maxHeartbeats 8000000 in
set_option maxRecDepth 100000 in
theorem dominoref07_power.calls (k : Nat) (a0 : Int) (r : Int) (w : World) (h : dominoref07_power.f k a0 = some r) :
  Calls Try.prog 52 #[.int .i64 a0] w fun e w' => e = .returned (.int .u64 r) ∧ Drawn0 w w' := by
 have H : (dominoref07_power.l0 k a0 1 0) = some r := h
 clear h
 have H' := Aside0.mk H
 clear H
 go_enter Try.func52, Try.ntmps52
 go_wp2
 go_loopg [3, 4] k (fun kq v3 v4 w' => ∃ (x3_1 : Int) (x4_1 : Int), v3 = .int .u64 x3_1 ∧ v4 = .int .i64 x4_1 ∧ Aside0 (dominoref07_power.l0 kq a0 x3_1 x4_1 = some r) ∧ Aside0 (kq ≤ k) ∧ Drawn0 w w')
 case atStart => exact ⟨(1), (0), (by first | rfl | (simp; done) | (simp [*]; done)), (by first | rfl | (simp; done) | (simp [*]; done)), H', ⟨Nat.le_refl _⟩, by repeat (first | exact Drawn0.refl _ | apply Drawn0.step)⟩
 case round =>
  clear H'
  obtain ⟨x3_1, x4_1, rfl, rfl, HA, HK1, ⟨m1, rfl⟩⟩ := hrel
  cases gk with
  | zero => exact absurd HA.out (by simp [dominoref07_power.l0])
  | succ k1 =>
   have H := HA.out
   clear HA
   simp only [dominoref07_power.l0] at H
   by_cases c2 : x4_1 < a0
   ·rw [if_pos c2] at H
    have c2b0 : decide (x4_1 < a0) = true := decide_eq_true c2
    clear c2
    have H' := Aside0.mk H
    clear H
    go_wp2
    go_roundg k1
    case measure => have := HK1.out; omega
    case rel => exact ⟨(IntKind.u64.wrap (x3_1 * 2)), (wrap64 (x4_1 + 1)), (by first | rfl | (simp; done) | (simp [*]; done)), (by first | rfl | (simp; done) | (simp [*]; done)), H', ⟨by have := HK1.out; omega⟩, by repeat (first | exact Drawn0.refl _ | apply Drawn0.step)⟩
   ·rw [if_neg c2] at H
    have c2b0 : decide (x4_1 < a0) = false := decide_eq_false c2
    clear c2
    obtain rfl := Option.some.inj H
    go_wp2
    go_ret
    exact ⟨by first | rfl | (simp; done) | (simp [*]; done), by repeat (first | exact Drawn0.refl _ | apply Drawn0.step)⟩

-- NOT PRINTED: function 50 (dominoref07_filled)

-- NOT PRINTED: function 62 (dominoref07_constants)

/-! ### dominoref07_turn: function 63 -/
def dominoref07_turn.f (k : Nat) (a0 : Int) (a1 : Int) : Option (Int) := (dominoref07_power.f k a1).bind fun t147 => (if t147 = 0 then (none) else ((dominoref07_power.f k (wrap64 (32 - a1))).bind fun t148 => (some (IntKind.u64.wrap ((IntKind.u64.wrap (Int.tdiv a0 t147)) + (IntKind.u64.wrap ((Int.tmod a0 t147) * t148)))))))
theorem dominoref07_turn.mono : ∀ a0 a1 k, LeO (dominoref07_turn.f k a0 a1) (dominoref07_turn.f (k + 1) a0 a1) := by
 intro a0 a1 k
 unfold dominoref07_turn.f
 repeat' first
   | (with_reducible exact dominoref07_power.mono _ _)
   | (with_reducible exact LeO.refl _)
   | (with_reducible exact LeO.none _)
   | (with_reducible refine LeO.ite ?_ ?_)
   | (with_reducible refine LeO.bind ?_ (fun _ => ?_))
   | exact dominoref07_power.mono _ _
   | exact LeO.none _
   | refine LeO.ite ?_ ?_
   | refine LeO.bind ?_ (fun _ => ?_)
set_option maxHeartbeats 8000000 in
set_option maxRecDepth 100000 in
theorem dominoref07_turn.calls (k : Nat) (a0 : Int) (a1 : Int) (r : Int) (w : World) (h : dominoref07_turn.f k a0 a1 = some r) :
  Calls Try.prog 63 #[.int .u64 a0, .int .i64 a1] w fun e w' => e = .returned (.int .u64 r) ∧ Drawn0 w w' := by
 have H : ((dominoref07_power.f k a1).bind fun t147 => (if t147 = 0 then (none) else ((dominoref07_power.f k (wrap64 (32 - a1))).bind fun t148 => (some (IntKind.u64.wrap ((IntKind.u64.wrap (Int.tdiv a0 t147)) + (IntKind.u64.wrap ((Int.tmod a0 t147) * t148)))))))) = some r := h
 clear h
 replace H := Option.bind_eq_some_iff.mp H
 obtain ⟨t147, A30, H⟩ := H
 replace H : (if t147 = 0 then (none) else ((dominoref07_power.f k (wrap64 (32 - a1))).bind fun t148 => (some (IntKind.u64.wrap ((IntKind.u64.wrap (Int.tdiv a0 t147)) + (IntKind.u64.wrap ((Int.tmod a0 t147) * t148))))))) = some r := H
 have A3 := Aside0.mk A30
 clear A30
 by_cases c4 : t147 = 0
 ·rw [if_pos c4] at H
  exact absurd H (by simp)
 ·rw [if_neg c4] at H
  have c4b0 : (t147 == 0) = false := beq_eq_false_iff_ne.mpr c4
  have c4b1 : (t147 != 0) = true := bne_iff_ne.mpr c4
  replace H := Option.bind_eq_some_iff.mp H
  obtain ⟨t148, A50, H⟩ := H
  replace H : (some (IntKind.u64.wrap ((IntKind.u64.wrap (Int.tdiv a0 t147)) + (IntKind.u64.wrap ((Int.tmod a0 t147) * t148))))) = some r := H
  have A5 := Aside0.mk A50
  clear A50
  obtain rfl := Option.some.inj H
  go_enter Try.func63, Try.ntmps63
  go_wp2_with (first | (go_at_call 52; (with_reducible refine (dominoref07_power.calls k a1 t147 _ A3.out).mono ?_); rintro e w' ⟨rfl, ⟨nd, rfl⟩⟩; (try first | exact ⟨rfl, _, World.drewN_drewN _ _ _⟩ | exact ⟨rfl, _, Eq.trans (World.drewN_drewN _ _ _) (congrArg (World.drewN _) (Nat.add_assoc _ _ _))⟩)) | (go_at_call 52; (with_reducible refine (dominoref07_power.calls k a1 t147 _ A3.out).mono ?_); rintro e w' ⟨rfl, ⟨nd, rfl⟩⟩; (try first | exact ⟨rfl, _, World.drewN_drewN _ _ _⟩ | exact ⟨rfl, _, Eq.trans (World.drewN_drewN _ _ _) (congrArg (World.drewN _) (Nat.add_assoc _ _ _))⟩)) | (go_at_call 52; (with_reducible refine (dominoref07_power.calls k (wrap64 (32 - a1)) t148 _ A5.out).mono ?_); rintro e w' ⟨rfl, ⟨nd, rfl⟩⟩; (try first | exact ⟨rfl, _, World.drewN_drewN _ _ _⟩ | exact ⟨rfl, _, Eq.trans (World.drewN_drewN _ _ _) (congrArg (World.drewN _) (Nat.add_assoc _ _ _))⟩)))
  repeat (go_quiet (first | (go_at_call 52; (with_reducible refine (dominoref07_power.calls k a1 t147 _ A3.out).mono ?_); rintro e w' ⟨rfl, ⟨nd, rfl⟩⟩; (try first | exact ⟨rfl, _, World.drewN_drewN _ _ _⟩ | exact ⟨rfl, _, Eq.trans (World.drewN_drewN _ _ _) (congrArg (World.drewN _) (Nat.add_assoc _ _ _))⟩)) | (go_at_call 52; (with_reducible refine (dominoref07_power.calls k a1 t147 _ A3.out).mono ?_); rintro e w' ⟨rfl, ⟨nd, rfl⟩⟩; (try first | exact ⟨rfl, _, World.drewN_drewN _ _ _⟩ | exact ⟨rfl, _, Eq.trans (World.drewN_drewN _ _ _) (congrArg (World.drewN _) (Nat.add_assoc _ _ _))⟩)) | (go_at_call 52; (with_reducible refine (dominoref07_power.calls k (wrap64 (32 - a1)) t148 _ A5.out).mono ?_); rintro e w' ⟨rfl, ⟨nd, rfl⟩⟩; (try first | exact ⟨rfl, _, World.drewN_drewN _ _ _⟩ | exact ⟨rfl, _, Eq.trans (World.drewN_drewN _ _ _) (congrArg (World.drewN _) (Nat.add_assoc _ _ _))⟩))); try go_wp2_with (first | (go_at_call 52; (with_reducible refine (dominoref07_power.calls k a1 t147 _ A3.out).mono ?_); rintro e w' ⟨rfl, ⟨nd, rfl⟩⟩; (try first | exact ⟨rfl, _, World.drewN_drewN _ _ _⟩ | exact ⟨rfl, _, Eq.trans (World.drewN_drewN _ _ _) (congrArg (World.drewN _) (Nat.add_assoc _ _ _))⟩)) | (go_at_call 52; (with_reducible refine (dominoref07_power.calls k a1 t147 _ A3.out).mono ?_); rintro e w' ⟨rfl, ⟨nd, rfl⟩⟩; (try first | exact ⟨rfl, _, World.drewN_drewN _ _ _⟩ | exact ⟨rfl, _, Eq.trans (World.drewN_drewN _ _ _) (congrArg (World.drewN _) (Nat.add_assoc _ _ _))⟩)) | (go_at_call 52; (with_reducible refine (dominoref07_power.calls k (wrap64 (32 - a1)) t148 _ A5.out).mono ?_); rintro e w' ⟨rfl, ⟨nd, rfl⟩⟩; (try first | exact ⟨rfl, _, World.drewN_drewN _ _ _⟩ | exact ⟨rfl, _, Eq.trans (World.drewN_drewN _ _ _) (congrArg (World.drewN _) (Nat.add_assoc _ _ _))⟩))))
  go_ret
  exact ⟨by first | rfl | (simp; done) | (simp [*]; done), by repeat (first | exact Drawn0.refl _ | apply Drawn0.step)⟩

-- NOT PRINTED: function 51 (dominoref07_block)

end Go.Proofs.Ytghdmlcmoeoohaa.PKfx
