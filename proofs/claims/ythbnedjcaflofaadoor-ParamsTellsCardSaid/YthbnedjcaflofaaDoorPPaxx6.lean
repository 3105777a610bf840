-- printed for this claim by a program of the claim (wip/tools/pp.py over the kit's print)
import Derived.Test.YthbnedjcaflofaaDoorPPaxx0
import Derived.Test.YthbnedjcaflofaaDoorPPaxx1
import Derived.Test.YthbnedjcaflofaaDoorPPaxx2
import Derived.Test.YthbnedjcaflofaaDoorPPaxx3
import Derived.Test.YthbnedjcaflofaaDoorPPaxx4
import Derived.Test.YthbnedjcaflofaaDoorPPaxx5
namespace Go.Proofs.YthbnedjcaflofaaDoor.PPax
open Go.RowKit Go.Proofs.YthbnedjcaflofaaDoorW.PrintWords Go.Proofs.YthbnedjcaflofaaDoorW.PrintLast Go.Proofs.YthbnedjcaflofaaDoorW.PrintMore
attribute [local go_sem] max2_int min2_int max_two min_two max_three min_three max_four min_four   -- for this text's walks alone
set_option linter.unusedVariables false
set_option linter.unusedSimpArgs false

attribute [local go_sem] isSome_setCell_
attribute [local go_sem high] eqA24
/-! ### params_Get: function 11 -/
/-- The place of a number's field. -/
def fldOf (n : Int) : Option Nat:=if n = 1 then some 0 else if n = 3 then some 1 else if n = 4 then some 2 else if n = 5 then some 3 else if n = 6 then some 4 else if n = 7 then some 5 else if n = 8 then some 6 else if n = 9 then some 7 else if n = 10 then some 8 else if n = 11 then some 9 else if n = 14 then some 10 else none
/-- One pair: refused (none),or the fields and the token behind it. -/
def getStep (k : Nat) (v : List Int) (tok : ByteArray) (had : List Int) (x : Int × Option ByteArray) : Option (Option (List Int × ByteArray)) :=
 match x.2 with
 | none => some none
 | some s => if cntT x.1 had = 0 then (if x.1 = 2 then (if (s.size : Int) = 16 then some (some (v,s)) else some none) else
   match fldOf x.1 with
   | none => some (some (v,tok))
   | some i => (varint_Get.f k s).bind fun g => if g.2.2 = 0 then (if g.2.1.toList = ([] : List UInt8) then some (some (v.set i g.1,tok)) else some none) else some none) else some none
def getFold (k : Nat) : List (Int × Option ByteArray) → List Int → ByteArray → List Int → Option (Option (List Int × ByteArray))
 | [],v,tok,_ => some (some (v,tok))
 | x :: t,v,tok,had => if (Lit.int .u64 x.1).wf = true then (getStep k v tok had x).bind fun r => (match r with
   | none => some none
   | some q => getFold k t q.1 q.2 (had ++ [x.1])) else none
def params_Get.f (k : Nat) (a0 : ByteArray) : Option (Int × Int × Int × Int × Int × Int × Int × Int × Int × Int × Int × ByteArray × Int) :=
 (prsL k a0).bind fun xs => if xs.length < 4611686018427387904 then (getFold k xs [0,65527,0,0,0,0,0,0,3,25,2] (⟨#[]⟩ : ByteArray) []).bind fun r => (match r with
  | none => some (0,0,0,0,0,0,0,0,0,0,0,(⟨#[]⟩ : ByteArray),50)
  | some q => (params_Check.f (rd q.1 0) (rd q.1 1) (rd q.1 2) (rd q.1 3) (rd q.1 4) (rd q.1 5) (rd q.1 6) (rd q.1 7) (rd q.1 8) (rd q.1 9) (rd q.1 10) q.2).bind fun e =>
    if e = 0 then some (rd q.1 0,rd q.1 1,rd q.1 2,rd q.1 3,rd q.1 4,rd q.1 5,rd q.1 6,rd q.1 7,rd q.1 8,rd q.1 9,rd q.1 10,q.2,0) else some (0,0,0,0,0,0,0,0,0,0,0,(⟨#[]⟩ : ByteArray),e)) else none
theorem prsL.mono : ∀ k s,LeO (prsL k s) (prsL (k + 1) s)
 | 0,s => LeO.none _
 | k + 1,s => by
  rw [prsL,prsL]
  refine LeO.ite (LeO.refl _) (LeO.bind (varint_Gets.mono _ _ _) fun g => LeO.ite (LeO.ite (LeO.ite (LeO.ite (LeO.refl _) (LeO.bind (prsL.mono k _) fun _ => LeO.refl _)) (LeO.refl _)) (LeO.refl _)) (LeO.refl _))
theorem getStep.mono (k : Nat) (v : List Int) (tok : ByteArray) (had : List Int) (x : Int × Option ByteArray) : LeO (getStep k v tok had x) (getStep (k + 1) v tok had x):=by
 obtain ⟨z,_|s⟩:=x
 ·exact LeO.refl _
 ·rw [getStep,getStep]
  dsimp only
  refine LeO.ite (LeO.ite (LeO.refl _) ?_) (LeO.refl _)
  cases fldOf z with
  | none => exact LeO.refl _
  | some i => exact LeO.bind (varint_Get.mono _ _) fun _ => LeO.refl _
theorem getFold.mono (k : Nat) : ∀ (xs : List (Int × Option ByteArray)) (v : List Int) (tok : ByteArray) (had : List Int),LeO (getFold k xs v tok had) (getFold (k + 1) xs v tok had)
 | [],_,_,_ => LeO.refl _
 | x :: t,v,tok,had => by
  rw [getFold,getFold]
  refine LeO.ite (LeO.bind (getStep.mono k v tok had x) fun r => ?_) (LeO.refl _)
  cases r with
  | none => exact LeO.refl _
  | some q => exact getFold.mono k t _ _ _
theorem params_Get.mono : ∀ a0 k,LeO (params_Get.f k a0) (params_Get.f (k + 1) a0):=fun a0 k =>
 LeO.bind (prsL.mono k a0) fun xs => LeO.ite (LeO.bind (getFold.mono k xs _ _ _) fun _ => LeO.refl _) (LeO.refl _)
def zrC : Array Value:=#[Value.int .u64 0,Value.int .u64 0,Value.int .u64 0,Value.int .u64 0,Value.int .u64 0,Value.int .u64 0,Value.int .u64 0,Value.int .u64 0,Value.int .u64 0,Value.int .u64 0,Value.int .u64 0,Value.string (⟨#[]⟩ : ByteArray)]
/-- The block of the parameters. -/
def prmC (v : List Int) (tok : ByteArray) : Array Value:=(v.map (Value.int .u64) ++ [Value.string tok]).toArray
/-- What holds between two rounds. -/
def GetI (k : Nat) (w : World) (xs : List (Int × Option ByteArray)) (R : Option (List Int × ByteArray)) (g2 g3 g4 g5 : Nat) (pre : List (Int × Option ByteArray)) (W : World) : Prop :=
 ∃ (v : List Int) (tok : ByteArray) (had : List Int) (rest : List (Int × Option ByteArray)) (om : Obj),xs = pre ++ rest ∧ getFold k rest v tok had = some R ∧ v.length = 11 ∧ had.length = pre.length ∧
  W.heap[g2]? = some (.cells zrC 24 (0,0)) ∧ W.heap[g3]? = some (.cells #[.int .i64 0] 27 (0,0)) ∧ W.heap[g4]? = some (.cells (prmC v tok) 24 (0,0)) ∧
  W.heap[g5]? = some (.cells (plcs g4) 49 (0,0)) ∧ W.heap[g5 + 1 + 1]? = some (.cells #[.map (some (g5 + 1))] 61 (0,0)) ∧ W.heap[g5 + 1]? = some om ∧ MapObj om had had.length ∧ Below w.heap.size w W
/-- What holds where the text was refused. -/
def GetX (w : World) (R : Option (List Int × ByteArray)) (g2 g3 : Nat) (_ : List (Int × Option ByteArray)) (W : World) : Prop :=
 R = none ∧ W.heap[g2]? = some (.cells zrC 24 (0,0)) ∧ W.heap[g3]? = some (.cells #[.int .i64 50] 27 (0,0)) ∧ Below w.heap.size w W
theorem below_abi {w X Y : World} {bs B : Nat} (h : Below w.heap.size w X) (hbs : w.heap.size ≤ bs) (hB : w.heap.size ≤ B) (hb : ∀ k,k < B → k ≠ bs → Y.heap[k]? = X.heap[k]?) (hz : X.heap.size ≤ Y.heap.size) (h1 : Y.os = X.os) (h2 : Y.tape = X.tape) (h3 : Y.output = X.output) : Below w.heap.size w Y :=
 h.trans ⟨h1,h2,h3,hz,fun k hk => hb k (by omega) (by omega)⟩
theorem getI_abi {k : Nat} {w : World} {xs : List (Int × Option ByteArray)} {R : Option (List Int × ByteArray)} {g2 g3 g4 g5 bs B : Nat} (ho : w.heap.size = g2 ∧ g3 = g2 + 1 ∧ g3 < g4 ∧ g4 < g5 ∧ bs = g5 + 3 ∧ bs < B) : Abi bs B (GetI k w xs R g2 g3 g4 g5):=by
 rintro s X Y ⟨v,tok,had,rest,om,a1,a2,a3,a4,b2,b3,b4,b5,b6,bm,hm,hb⟩ hY hz h1 h2 h3
 exact ⟨v,tok,had,rest,om,a1,a2,a3,a4,(hY _ (by omega) (by omega)).trans b2,(hY _ (by omega) (by omega)).trans b3,(hY _ (by omega) (by omega)).trans b4,(hY _ (by omega) (by omega)).trans b5,(hY _ (by omega) (by omega)).trans b6,(hY _ (by omega) (by omega)).trans bm,hm,below_abi hb (by omega) (by omega) hY hz h1 h2 h3⟩
theorem getX_abi {w : World} {R : Option (List Int × ByteArray)} {g2 g3 bs B : Nat} (ho : w.heap.size = g2 ∧ g3 = g2 + 1 ∧ g3 < bs ∧ bs < B) : Abi bs B (GetX w R g2 g3):=by
 rintro s X Y ⟨a1,b2,b3,hb⟩ hY hz h1 h2 h3
 exact ⟨a1,(hY _ (by omega) (by omega)).trans b2,(hY _ (by omega) (by omega)).trans b3,below_abi hb (by omega) (by omega) hY hz h1 h2 h3⟩
theorem ptrOf_put {B : Nat} {x : Int × Option ByteArray} {v : Array Value} {W : World} (h : PtrOf B x v W) {l : Nat} {o : Obj} (o' : Obj) (hl : W.heap[l]? = some o) (ho : o.isCells = false) : PtrOf B x v (W.putObj l o'):=by
 obtain ⟨p,rfl,hp⟩:=h
 refine ⟨p,rfl,?_⟩
 revert hp
 cases x.2 with
 | none => exact id
 | some s =>
  rintro ⟨b,rfl,hb,hc⟩
  refine ⟨b,rfl,hb,(World.putObj_heap_other ?_).trans hc⟩
  rintro rfl
  rw [hl] at hc
  cases hc
  cases ho
theorem plc_at (g : Nat) (z : Int) (h : 0 ≤ z ∧ z ≤ 14) : (plcs g)[z.toNat]? = some (match fldOf z with
  | some i => .pointer (some ⟨g,i,none⟩)
  | none => .pointer none):=by
 have h2 : z = 0 ∨ z = 1 ∨ z = 2 ∨ z = 3 ∨ z = 4 ∨ z = 5 ∨ z = 6 ∨ z = 7 ∨ z = 8 ∨ z = 9 ∨ z = 10 ∨ z = 11 ∨ z = 12 ∨ z = 13 ∨ z = 14:=by omega
 rcases h2 with rfl|rfl|rfl|rfl|rfl|rfl|rfl|rfl|rfl|rfl|rfl|rfl|rfl|rfl|rfl <;> rfl
theorem fldOf_lt {z : Int} {i : Nat} (h : fldOf z = some i) : 0 ≤ z ∧ z ≤ 14 ∧ i < 11:=by
 unfold fldOf at h
 repeat' split at h
 all_goals first|(cases h;omega)|cases h
theorem fldOf_big {z : Int} (h : ¬ z ≤ 14) : fldOf z = none:=by
 cases hf : fldOf z with
 | none => rfl
 | some i => exact absurd (fldOf_lt hf).2.1 h
theorem wf_u64 {z : Int} (h : (Lit.int .u64 z).wf = true) : 0 ≤ z:=by
 have h2:=h
 simp [Lit.wf] at h2
 exact Int.le_trans (by decide) h2.1
theorem prmC_num {v : List Int} {tok : ByteArray} {i : Nat} (h : i < v.length) : (prmC v tok)[i]? = some (.int .u64 (rd v (i : Int))):=by
 simp [prmC,h,rd,List.getElem?_append_left,List.getD_eq_getElem?_getD]
theorem prmC_tok {v : List Int} {tok : ByteArray} (h : v.length = 11) : (prmC v tok)[11]? = some (.string tok):=by
 simp [prmC,h,List.getElem?_append_right]
theorem prmC_setTok {v : List Int} {tok : ByteArray} (h : v.length = 11) (s : ByteArray) : (prmC v tok).setIfInBounds 11 (.string s) = prmC v s:=by
 simp [prmC,List.set_append,h]
theorem prmC_setNum {v : List Int} {tok : ByteArray} {i : Nat} (h : i < v.length) (y : Int) : (prmC v tok).setIfInBounds i (.int .u64 y) = prmC (v.set i y) tok:=by
 simp [prmC,List.set_append,h,List.map_set]
def zrS (W : World) (g2 g3 : Nat) (e : Int) : World:=((((((((((((W.setCell ⟨g2,0,none⟩ (.int .u64 0)).setCell ⟨g2,1,none⟩ (.int .u64 0)).setCell ⟨g2,2,none⟩ (.int .u64 0)).setCell ⟨g2,3,none⟩ (.int .u64 0)).setCell ⟨g2,4,none⟩ (.int .u64 0)).setCell ⟨g2,5,none⟩ (.int .u64 0)).setCell ⟨g2,6,none⟩ (.int .u64 0)).setCell ⟨g2,7,none⟩ (.int .u64 0)).setCell ⟨g2,8,none⟩ (.int .u64 0)).setCell ⟨g2,9,none⟩ (.int .u64 0)).setCell ⟨g2,10,none⟩ (.int .u64 0)).setCell ⟨g2,11,none⟩ (.string (⟨#[]⟩ : ByteArray))).setCell ⟨g3,0,none⟩ (.int .i64 e)
theorem zrS_ {w W : World} {g2 g3 : Nat} {q : Int} (e : Int) (b2 : W.heap[g2]? = some (.cells zrC 24 (0,0))) (b3 : W.heap[g3]? = some (.cells #[.int .i64 q] 27 (0,0))) (hne : g2 ≠ g3) (h2 : w.heap.size ≤ g2) (h3 : w.heap.size ≤ g3) (hb : Below w.heap.size w W) :
  (zrS W g2 g3 e).heap[g2]? = some (.cells zrC 24 (0,0)) ∧ (zrS W g2 g3 e).heap[g3]? = some (.cells #[.int .i64 e] 27 (0,0)) ∧ Below w.heap.size w (zrS W g2 g3 e) ∧ (zrS W g2 g3 e).heap.size = W.heap.size ∧ (∀ k,k ≠ g2 → k ≠ g3 → (zrS W g2 g3 e).heap[k]? = W.heap[k]?):=by
 have hfar : ∀ k,k ≠ g2 → ((((((((((((W.setCell ⟨g2,0,none⟩ (.int .u64 0)).setCell ⟨g2,1,none⟩ (.int .u64 0)).setCell ⟨g2,2,none⟩ (.int .u64 0)).setCell ⟨g2,3,none⟩ (.int .u64 0)).setCell ⟨g2,4,none⟩ (.int .u64 0)).setCell ⟨g2,5,none⟩ (.int .u64 0)).setCell ⟨g2,6,none⟩ (.int .u64 0)).setCell ⟨g2,7,none⟩ (.int .u64 0)).setCell ⟨g2,8,none⟩ (.int .u64 0)).setCell ⟨g2,9,none⟩ (.int .u64 0)).setCell ⟨g2,10,none⟩ (.int .u64 0)).setCell ⟨g2,11,none⟩ (.string (⟨#[]⟩ : ByteArray))).heap[k]? = W.heap[k]?:=fun k hk => by
  repeat refine (Below.heap_setCell _ _ _ _ hk).trans ?_
  rfl
 refine ⟨(Below.heap_setCell _ _ _ _ hne).trans (blk_put (cs':=zrC) (blk_put (cs':=zrC) (blk_put (cs':=zrC) (blk_put (cs':=zrC) (blk_put (cs':=zrC) (blk_put (cs':=zrC) (blk_put (cs':=zrC) (blk_put (cs':=zrC) (blk_put (cs':=zrC) (blk_put (cs':=zrC) (blk_put (cs':=zrC) (blk_put (cs':=zrC) b2 0 (.int .u64 0) rfl) 1 (.int .u64 0) rfl) 2 (.int .u64 0) rfl) 3 (.int .u64 0) rfl) 4 (.int .u64 0) rfl) 5 (.int .u64 0) rfl) 6 (.int .u64 0) rfl) 7 (.int .u64 0) rfl) 8 (.int .u64 0) rfl) 9 (.int .u64 0) rfl) 10 (.int .u64 0) rfl) 11 (.string (⟨#[]⟩ : ByteArray)) rfl),blk_put ((hfar g3 (fun e => hne e.symm)).trans b3) 0 (.int .i64 e) rfl,?_,?_,fun k h2 h3 => (Below.heap_setCell _ _ _ _ h3).trans (hfar k h2)⟩
 ·unfold zrS
  repeat refine Below.setCell ?_ (by first|exact h3|exact h2) _
  exact hb
 ·simp [zrS,World.setCell]
/-- A round that goes on: the block of the parameters alone has turned since the number was noted. -/
theorem get_on {k : Nat} {w W' w6 Wn : World} {xs pre t : List (Int × Option ByteArray)} {R : Option (List Int × ByteArray)} {g2 g3 g4 g5 bs B : Nat} {z : Int} {s : Option ByteArray} {had v' : List Int} {tok' : ByteArray} {om1 : Obj} {a : Act}
  (ho : w.heap.size = g2 ∧ g3 = g2 + 1 ∧ g3 < g4 ∧ g4 < g5 ∧ bs = g5 + 3 ∧ bs < B) (h1 : xs = pre ++ (z,s) :: t) (h2 : had.length = pre.length) (hf : getFold k t v' tok' (had ++ [z]) = some R) (hl : v'.length = 11)
  (b2 : w6.heap[g2]? = some (.cells zrC 24 (0,0))) (b3 : w6.heap[g3]? = some (.cells #[.int .i64 0] 27 (0,0))) (b5 : w6.heap[g5]? = some (.cells (plcs g4) 49 (0,0)))
  (b6 : w6.heap[g5 + 1 + 1]? = some (.cells #[.map (some (g5 + 1))] 61 (0,0))) (bm : w6.heap[g5 + 1]? = some om1) (hm : MapObj om1 (had ++ [z]) (had.length + 1)) (hb : Below w.heap.size w w6)
  (hkf : KeepsFrom B W' w6) (hks : w6.heap[bs]? = W'.heap[bs]?) (h4 : Wn.heap[g4]? = some (.cells (prmC v' tok') 24 (0,0)))
  (hk : ∀ q,q ≠ g4 → Wn.heap[q]? = w6.heap[q]?) (hz : w6.heap.size ≤ Wn.heap.size) (hbn : Below w.heap.size w Wn) : rfPost B bs (GetI k w xs R g2 g3 g4 g5) (GetX w R g2 g3) (pre ++ [(z,s)]) W' .normal a Wn :=
 ⟨hkf.trans ⟨hz,fun q o hq hqo _ => (hk q (by omega)).trans hqo⟩,(hk bs (by omega)).trans hks,
  v',tok',had ++ [z],t,om1,by rw [h1];simp,hf,hl,by simp [h2],(hk _ (by omega)).trans b2,(hk _ (by omega)).trans b3,h4,(hk _ (by omega)).trans b5,(hk _ (by omega)).trans b6,(hk _ (by omega)).trans bm,by rw [show (((had ++ [z]).length : Nat) : Int) = (had.length : Int) + 1 by simp];exact hm,hbn⟩
/-- A round that refuses the text. -/
theorem get_off {k : Nat} {w W' w6 : World} {xs pre : List (Int × Option ByteArray)} {R : Option (List Int × ByteArray)} {g2 g3 g4 g5 bs B : Nat} {q : Int} {a : Act} {x : Int × Option ByteArray}
  (ho : w.heap.size = g2 ∧ g3 = g2 + 1 ∧ g3 < g4 ∧ g4 < g5 ∧ bs = g5 + 3 ∧ bs < B) (hR : R = none) (b2 : w6.heap[g2]? = some (.cells zrC 24 (0,0))) (b3 : w6.heap[g3]? = some (.cells #[.int .i64 q] 27 (0,0)))
  (hb : Below w.heap.size w w6) (hkf : KeepsFrom B W' w6) : rfPost B bs (GetI k w xs R g2 g3 g4 g5) (GetX w R g2 g3) (pre ++ [x]) W' .ret a (zrS w6 g2 g3 50):=by
 obtain ⟨z2,z3,zb,zz,zk⟩:=zrS_ 50 b2 b3 (by omega) (by omega) (by omega) hb
 exact ⟨hkf.trans ⟨Nat.le_of_eq zz.symm,fun q o hq hqo _ => (zk q (by omega) (by omega)).trans hqo⟩,hR,z2,z3,zb⟩
def flS (W : World) (g2 g3 : Nat) (e x0 x1 x2 x3 x4 x5 x6 x7 x8 x9 x10 : Int) (tok : ByteArray) : World:=((((((((((((W.setCell ⟨g2,0,none⟩ (.int .u64 x0)).setCell ⟨g2,1,none⟩ (.int .u64 x1)).setCell ⟨g2,2,none⟩ (.int .u64 x2)).setCell ⟨g2,3,none⟩ (.int .u64 x3)).setCell ⟨g2,4,none⟩ (.int .u64 x4)).setCell ⟨g2,5,none⟩ (.int .u64 x5)).setCell ⟨g2,6,none⟩ (.int .u64 x6)).setCell ⟨g2,7,none⟩ (.int .u64 x7)).setCell ⟨g2,8,none⟩ (.int .u64 x8)).setCell ⟨g2,9,none⟩ (.int .u64 x9)).setCell ⟨g2,10,none⟩ (.int .u64 x10)).setCell ⟨g2,11,none⟩ (.string tok)).setCell ⟨g3,0,none⟩ (.int .i64 e)
theorem flS_ {w W : World} {g2 g3 : Nat} {q : Int} (e x0 x1 x2 x3 x4 x5 x6 x7 x8 x9 x10 : Int) (tok : ByteArray) (b2 : W.heap[g2]? = some (.cells zrC 24 (0,0))) (b3 : W.heap[g3]? = some (.cells #[.int .i64 q] 27 (0,0))) (hne : g2 ≠ g3) (h2 : w.heap.size ≤ g2) (h3 : w.heap.size ≤ g3) (hb : Below w.heap.size w W) :
  (flS W g2 g3 e x0 x1 x2 x3 x4 x5 x6 x7 x8 x9 x10 tok).heap[g2]? = some (.cells #[.int .u64 x0,.int .u64 x1,.int .u64 x2,.int .u64 x3,.int .u64 x4,.int .u64 x5,.int .u64 x6,.int .u64 x7,.int .u64 x8,.int .u64 x9,.int .u64 x10,.string tok] 24 (0,0)) ∧ (flS W g2 g3 e x0 x1 x2 x3 x4 x5 x6 x7 x8 x9 x10 tok).heap[g3]? = some (.cells #[.int .i64 e] 27 (0,0)) ∧ Below w.heap.size w (flS W g2 g3 e x0 x1 x2 x3 x4 x5 x6 x7 x8 x9 x10 tok) ∧ (∀ k,k ≠ g2 → k ≠ g3 → (flS W g2 g3 e x0 x1 x2 x3 x4 x5 x6 x7 x8 x9 x10 tok).heap[k]? = W.heap[k]?):=by
 have hfar : ∀ k,k ≠ g2 → ((((((((((((W.setCell ⟨g2,0,none⟩ (.int .u64 x0)).setCell ⟨g2,1,none⟩ (.int .u64 x1)).setCell ⟨g2,2,none⟩ (.int .u64 x2)).setCell ⟨g2,3,none⟩ (.int .u64 x3)).setCell ⟨g2,4,none⟩ (.int .u64 x4)).setCell ⟨g2,5,none⟩ (.int .u64 x5)).setCell ⟨g2,6,none⟩ (.int .u64 x6)).setCell ⟨g2,7,none⟩ (.int .u64 x7)).setCell ⟨g2,8,none⟩ (.int .u64 x8)).setCell ⟨g2,9,none⟩ (.int .u64 x9)).setCell ⟨g2,10,none⟩ (.int .u64 x10)).setCell ⟨g2,11,none⟩ (.string tok)).heap[k]? = W.heap[k]?:=fun k hk => by
  repeat refine (Below.heap_setCell _ _ _ _ hk).trans ?_
  rfl
 refine ⟨(Below.heap_setCell _ _ _ _ hne).trans (blk_put (cs':=#[.int .u64 x0,.int .u64 x1,.int .u64 x2,.int .u64 x3,.int .u64 x4,.int .u64 x5,.int .u64 x6,.int .u64 x7,.int .u64 x8,.int .u64 x9,.int .u64 x10,.string tok]) (blk_put (cs':=#[.int .u64 x0,.int .u64 x1,.int .u64 x2,.int .u64 x3,.int .u64 x4,.int .u64 x5,.int .u64 x6,.int .u64 x7,.int .u64 x8,.int .u64 x9,.int .u64 x10,.string (⟨#[]⟩ : ByteArray)]) (blk_put (cs':=#[.int .u64 x0,.int .u64 x1,.int .u64 x2,.int .u64 x3,.int .u64 x4,.int .u64 x5,.int .u64 x6,.int .u64 x7,.int .u64 x8,.int .u64 x9,.int .u64 0,.string (⟨#[]⟩ : ByteArray)]) (blk_put (cs':=#[.int .u64 x0,.int .u64 x1,.int .u64 x2,.int .u64 x3,.int .u64 x4,.int .u64 x5,.int .u64 x6,.int .u64 x7,.int .u64 x8,.int .u64 0,.int .u64 0,.string (⟨#[]⟩ : ByteArray)]) (blk_put (cs':=#[.int .u64 x0,.int .u64 x1,.int .u64 x2,.int .u64 x3,.int .u64 x4,.int .u64 x5,.int .u64 x6,.int .u64 x7,.int .u64 0,.int .u64 0,.int .u64 0,.string (⟨#[]⟩ : ByteArray)]) (blk_put (cs':=#[.int .u64 x0,.int .u64 x1,.int .u64 x2,.int .u64 x3,.int .u64 x4,.int .u64 x5,.int .u64 x6,.int .u64 0,.int .u64 0,.int .u64 0,.int .u64 0,.string (⟨#[]⟩ : ByteArray)]) (blk_put (cs':=#[.int .u64 x0,.int .u64 x1,.int .u64 x2,.int .u64 x3,.int .u64 x4,.int .u64 x5,.int .u64 0,.int .u64 0,.int .u64 0,.int .u64 0,.int .u64 0,.string (⟨#[]⟩ : ByteArray)]) (blk_put (cs':=#[.int .u64 x0,.int .u64 x1,.int .u64 x2,.int .u64 x3,.int .u64 x4,.int .u64 0,.int .u64 0,.int .u64 0,.int .u64 0,.int .u64 0,.int .u64 0,.string (⟨#[]⟩ : ByteArray)]) (blk_put (cs':=#[.int .u64 x0,.int .u64 x1,.int .u64 x2,.int .u64 x3,.int .u64 0,.int .u64 0,.int .u64 0,.int .u64 0,.int .u64 0,.int .u64 0,.int .u64 0,.string (⟨#[]⟩ : ByteArray)]) (blk_put (cs':=#[.int .u64 x0,.int .u64 x1,.int .u64 x2,.int .u64 0,.int .u64 0,.int .u64 0,.int .u64 0,.int .u64 0,.int .u64 0,.int .u64 0,.int .u64 0,.string (⟨#[]⟩ : ByteArray)]) (blk_put (cs':=#[.int .u64 x0,.int .u64 x1,.int .u64 0,.int .u64 0,.int .u64 0,.int .u64 0,.int .u64 0,.int .u64 0,.int .u64 0,.int .u64 0,.int .u64 0,.string (⟨#[]⟩ : ByteArray)]) (blk_put (cs':=#[.int .u64 x0,.int .u64 0,.int .u64 0,.int .u64 0,.int .u64 0,.int .u64 0,.int .u64 0,.int .u64 0,.int .u64 0,.int .u64 0,.int .u64 0,.string (⟨#[]⟩ : ByteArray)]) b2 0 (.int .u64 x0) rfl) 1 (.int .u64 x1) rfl) 2 (.int .u64 x2) rfl) 3 (.int .u64 x3) rfl) 4 (.int .u64 x4) rfl) 5 (.int .u64 x5) rfl) 6 (.int .u64 x6) rfl) 7 (.int .u64 x7) rfl) 8 (.int .u64 x8) rfl) 9 (.int .u64 x9) rfl) 10 (.int .u64 x10) rfl) 11 (.string tok) rfl),blk_put ((hfar g3 (fun e => hne e.symm)).trans b3) 0 (.int .i64 e) rfl,?_,fun k h2 h3 => (Below.heap_setCell _ _ _ _ h3).trans (hfar k h2)⟩
 unfold flS
 repeat refine Below.setCell ?_ (by first|exact h3|exact h2) _
 exact hb
theorem get_end {w Wz : World} {tmps : Array Value} {g2 g3 D : Nat} {cs : Array Value} {e : Int} (h2 : tmps.getD 2 undef = .pointer (some ⟨g2,0,none⟩)) (h3 : tmps.getD 3 undef = .pointer (some ⟨g3,0,none⟩))
  (b2 : Wz.heap[g2]? = some (.cells cs 24 (0,0))) (b3 : Wz.heap[g3]? = some (.cells #[.int .i64 e] 27 (0,0))) (hcs : cs.size = 12) (hD : Wz.heap[D]? = some (.deferred (some []))) (hDw : w.heap.size ≤ D) (hb : Below w.heap.size w Wz) :
  bodyPostM Fence.wide 6 Tryd.prog Tryd.f11 (fun e_1 w' => e_1 = .returned (.tuple #[.agg cs,.int .i64 e]) ∧ Below w.heap.size w w') .ret { tmps:=tmps,defers:=[{ target:=.collected D,args:=#[] }] } Wz:=by
 refine ⟨by simp,.inl ⟨_,_,rfl,run_takeDeferred hD,?_⟩⟩
 have n2 : g2 ≠ D:=by rintro rfl;rw [b2] at hD;cases hD
 have n3 : g3 ≠ D:=by rintro rfl;rw [b3] at hD;cases hD
 have c2 : (Wz.putObj D (.deferred none)).heap[g2]? = some (.cells cs 24 (0,0)):=(World.putObj_heap_other n2).trans b2
 have c3 : (Wz.putObj D (.deferred none)).heap[g3]? = some (.cells #[.int .i64 e] 27 (0,0)):=(World.putObj_heap_other n3).trans b3
 have hc3 : (Wz.putObj D (.deferred none)).cell? ⟨g3,0,none⟩ = some (.int .i64 e):=(kc_ c3 0).trans rfl
 have hbz : Below w.heap.size w (Wz.putObj D (.deferred none)):=hb.trans ⟨rfl,rfl,rfl,by simp,fun k hk => World.putObj_heap_other (by omega)⟩
 refine ⟨.tuple #[.agg cs,.int .i64 e],?_,rfl,hbz⟩
 have hl:=run_loadVar_row (P:=Tryd.prog) (Wz.putObj D (.deferred none)) g2 24 24 cs (0,0) _ c2 Tryd.underlying24 rfl (by rw [hcs];kernel_rfl)
 have h2' : tmps[2]?.getD undef = .pointer (some ⟨g2,0,none⟩):=by simpa using h2
 have h3' : tmps[3]?.getD undef = .pointer (some ⟨g3,0,none⟩):=by simpa using h3
 have hl3 : (loadVar 27 ⟨g3,0,none⟩).run Tryd.prog (Wz.putObj D (.deferred none)) = .ok (.int .i64 e) (Wz.putObj D (.deferred none)):=by simp [go_sem,hc3]
 simp [results,Tryd.f11,h2',h3',asAddr,hl,hl3]
attribute [local go_sem] Oper.semAt_some
set_option maxRecDepth 100000 in
set_option maxHeartbeats 8000000 in
theorem params_Get.calls (k : Nat) (a0 : ByteArray) (r1 r2 r3 r4 r5 r6 r7 r8 r9 r10 r11 : Int) (r12 : ByteArray) (r13 : Int) (w : World) (h : params_Get.f k a0 = some (r1,r2,r3,r4,r5,r6,r7,r8,r9,r10,r11,r12,r13)) :
  Calls Tryd.prog 11 #[.string a0] w fun e w' => e = .returned (.tuple #[.agg #[.int .u64 r1,.int .u64 r2,.int .u64 r3,.int .u64 r4,.int .u64 r5,.int .u64 r6,.int .u64 r7,.int .u64 r8,.int .u64 r9,.int .u64 r10,.int .u64 r11,.string r12],.int .i64 r13]) ∧ Below w.heap.size w w':=by
 have hu24:=Tryd.underlying24
 replace h:=Option.bind_eq_some_iff.mp h
 obtain ⟨xs,hxs,h⟩:=h
 have HX:=am_ hxs
 have HF:=am_ h
 clear hxs h
 refine (callsIn_wide (n:=6)).1 ?_
 have h1 : 1 ≤ 6:=by omega
 have hro : Fence.wide.round = none:=rfl
 refine callsIn_of_wp_marks Tryd.func11 rfl trivial ?_ hro
 simp only [Tryd.ntmps11,List.size_toArray,List.length_cons,List.length_nil,Nat.reduceAdd,Nat.reduceSub,Array.replicate_succ,Array.replicate_zero,List.push_toArray,List.append_toArray,List.nil_append,List.cons_append]
 gi_wp2
 refine ⟨trivial,?_⟩
 refine (callsIn_wide.2 (params_Default.calls 0 65527 0 0 0 0 0 0 3 25 2 (⟨#[]⟩ : ByteArray) _ rfl)).mono ?_
 rintro e w1 ⟨rfl,hb⟩
 have B1:=am_ hb
 clear hb
 have b2 : w1.heap[w.heap.size]? = some (.cells zrC 24 (0,0)):=(B1.out.block _ (by simp;omega)).trans ((Below.heap_alloc _ _ _ (by simp)).trans (World.alloc_heap_new w _))
 have b3 : w1.heap[w.heap.size + 1]? = some (.cells #[.int .i64 0] 27 (0,0)):=(B1.out.block _ (by simp)).trans (by have h:=World.alloc_heap_new (w.alloc (.cells zrC 24 (0,0))) (.cells #[.int .i64 0] 27 (0,0));rw [World.size_alloc] at h;exact h)
 have hb1 : Below w.heap.size w w1:=(((Below.refl _ w).alloc (Nat.le_refl _) _).alloc (by simp) _).trans (B1.out.mono (by simp;omega))
 have hz1 : w.heap.size + 2 ≤ w1.heap.size:=by have:=B1.out.size;simp at this;omega
 have K2:=am_ b2
 have K3:=am_ b3
 have HB:=am_ hb1
 have HZ:=am_ hz1
 clear b2 b3 hb1 hz1 B1
 gi_wp2
 obtain ⟨g2,hg2⟩ : ∃ g,g = w.heap.size:=⟨_,rfl⟩
 obtain ⟨g3,hg3⟩ : ∃ g,g = w.heap.size + 1:=⟨_,rfl⟩
 obtain ⟨g4,hg4⟩ : ∃ g,g = w1.heap.size:=⟨_,rfl⟩
 rw [← hg3] at K3 ⊢
 refine ⟨trivial,?_⟩
 refine (callsIn_wide.2 (places_c w1.heap.size _)).mono ?_
 rintro e w2 ⟨rfl,hb⟩
 have b4 : w2.heap[w1.heap.size]? = some (.cells (prmC [0,65527,0,0,0,0,0,0,3,25,2] (⟨#[]⟩ : ByteArray)) 24 (0,0)):=(hb.block _ (by simp)).trans (World.alloc_heap_new w1 _)
 have hb2 : Below w1.heap.size w1 w2:=((Below.refl _ w1).alloc (Nat.le_refl _) _).trans (hb.mono (by simp))
 have hz2 : w1.heap.size + 1 ≤ w2.heap.size:=by have:=hb.size;simp at this;omega
 have n2:=am_ ((hb2.block _ (by have:=HZ.out;omega)).trans K2.out)
 have n3:=am_ ((hb2.block _ (by have:=HZ.out;omega)).trans K3.out)
 have nb:=am_ (HB.out.trans (hb2.mono (by have:=HZ.out;omega)))
 have K4:=am_ b4
 clear K2 K3 HB hb b4
 have HB2:=am_ hb2
 have HZ2:=am_ hz2
 clear hb2 hz2
 rw [← hg4] at K4 HZ2 ⊢
 have HG4:=am_ hg4
 have HG3:=am_ hg3
 clear hg4 hg3
 simp only [plcs]
 have hmk : ∀ W : World,(Instr.makeMap 61 none).run Tryd.prog W = .ok (.map (some W.heap.size)) (W.alloc (.map #[] 0)):=fun _ => rfl
 gi_wp2
 refine ⟨trivial,?_⟩
 have e3 : (w2.alloc (.cells (plcs g4) 49)).heap.size = w2.heap.size + 1:=World.size_alloc _ _
 have e4 : ((w2.alloc (.cells (plcs g4) 49)).alloc (.map #[] 0)).heap.size = w2.heap.size + 1 + 1:=by rw [World.size_alloc,e3]
 have e5 : (((w2.alloc (.cells (plcs g4) 49)).alloc (.map #[] 0)).alloc (.cells #[.map (some (w2.heap.size + 1))] 61)).heap.size = w2.heap.size + 1 + 1 + 1:=by rw [World.size_alloc,e4]
 obtain ⟨w4,hw4⟩ : ∃ W,W = ((w2.alloc (.cells (plcs g4) 49)).alloc (.map #[] 0)).alloc (.cells #[.map (some (w2.heap.size + 1))] 61):=⟨_,rfl⟩
 have p5 : w4.heap[w2.heap.size]? = some (.cells (plcs g4) 49 (0,0)):=by
  rw [hw4];exact (Below.heap_alloc _ _ _ (by rw [e4];omega)).trans ((Below.heap_alloc _ _ _ (by rw [e3];omega)).trans (World.alloc_heap_new w2 _))
 have pm : w4.heap[w2.heap.size + 1]? = some (.map #[] 0):=by
  rw [hw4];exact (Below.heap_alloc _ _ _ (by rw [e4];omega)).trans (by have h:=World.alloc_heap_new (w2.alloc (.cells (plcs g4) 49)) (.map #[] 0);rw [e3] at h;exact h)
 have p6 : w4.heap[w2.heap.size + 1 + 1]? = some (.cells #[.map (some (w2.heap.size + 1))] 61 (0,0)):=by
  rw [hw4];have h:=World.alloc_heap_new ((w2.alloc (.cells (plcs g4) 49)).alloc (.map #[] 0)) (.cells #[.map (some (w2.heap.size + 1))] 61);rw [e4] at h;exact h
 have hb4 : Below w2.heap.size w2 w4:=by
  rw [hw4];exact (((Below.refl _ w2).alloc (Nat.le_refl _) _).alloc (by rw [e3];omega) _).alloc (by rw [e4];omega) _
 have hz4 : w4.heap.size = w2.heap.size + 3:=by rw [hw4,e5]
 simp only [plcs] at hw4
 rw [← hw4]
 have P5:=am_ p5
 have P6:=am_ p6
 have PM:=am_ pm
 have HB4:=am_ hb4
 have HZ4:=am_ hz4
 clear p5 p6 pm hb4 hz4 e3 e4 e5 hw4
 refine (callsIn_wide.2 (pairs_c a0 w4)).mono ?_
 rintro e w5 ⟨rfl,hbx,hb⟩
 have hk : ∀ k,k < w4.heap.size → w5.heap[k]? = w4.heap[k]?:=fun k hk => hb.block k hk
 have K2:=am_ ((hk _ (by have:=HG3.out;have:=HG4.out;have:=HZ2.out;have:=HZ.out;have:=HZ4.out;have:=HZ2.out;have:=HZ.out;omega)).trans ((HB4.out.block _ (by have:=HG3.out;have:=HG4.out;have:=HZ2.out;have:=HZ.out;have:=HZ2.out;have:=HZ.out;omega)).trans n2.out))
 have K3:=am_ ((hk _ (by have:=HG3.out;have:=HG4.out;have:=HZ2.out;have:=HZ.out;have:=HZ4.out;have:=HZ2.out;have:=HZ.out;omega)).trans ((HB4.out.block _ (by have:=HG3.out;have:=HG4.out;have:=HZ2.out;have:=HZ.out;have:=HZ2.out;have:=HZ.out;omega)).trans n3.out))
 have K4':=am_ ((hk _ (by have:=HG3.out;have:=HG4.out;have:=HZ2.out;have:=HZ.out;have:=HZ4.out;have:=HZ2.out;omega)).trans ((HB4.out.block _ (by have:=HG3.out;have:=HG4.out;have:=HZ2.out;have:=HZ.out;have:=HZ2.out;omega)).trans K4.out))
 have K5:=am_ ((hk _ (by have:=HG3.out;have:=HG4.out;have:=HZ2.out;have:=HZ.out;have:=HZ4.out;omega)).trans P5.out)
 have K6:=am_ ((hk _ (by have:=HG3.out;have:=HG4.out;have:=HZ2.out;have:=HZ.out;have:=HZ4.out;omega)).trans P6.out)
 have KM:=am_ ((hk _ (by have:=HG3.out;have:=HG4.out;have:=HZ2.out;have:=HZ.out;have:=HZ4.out;omega)).trans PM.out)
 have KS:=am_ hbx
 have HB:=am_ (nb.out.trans ((HB4.out.trans (hb.mono (by have:=HG3.out;have:=HG4.out;have:=HZ2.out;have:=HZ.out;have:=HZ4.out;omega))).mono (by have:=HG3.out;have:=HG4.out;have:=HZ2.out;have:=HZ.out;have:=HZ2.out;have:=HZ.out;omega)))
 have HO : Aside0 (w.heap.size = g2 ∧ g3 = g2 + 1 ∧ g3 < g4 ∧ g4 < w2.heap.size ∧ w4.heap.size = w2.heap.size + 3 ∧ w4.heap.size < w5.heap.size):=⟨by have:=HZ4.out;have:=HZ2.out;have:=HZ.out;have:=HG3.out;have:=HG4.out;have:=(Array.getElem?_eq_some_iff.1 hbx).1;omega⟩
 rw [← hg2] at K2 ⊢
 clear hk hb hbx K4 P5 P6 PM HB4 HZ4 HZ2 HZ n2 n3 nb HG3 HG4 hg2
 have H:=HF.out
 by_cases hlen : xs.length < 4611686018427387904
 case neg =>
  rw [if_neg hlen] at H
  exact absurd H (by simp)
 rw [if_pos hlen] at H
 replace H:=Option.bind_eq_some_iff.mp H
 obtain ⟨R,hR,H⟩:=H
 have HL:=am_ hlen
 have HFR:=am_ hR
 have HEND:=am_ H
 clear H hlen hR HF
 generalize w2.heap.size = g5 at K5 K6 KM HO ⊢
 generalize w4.heap.size = bs at KS HO ⊢
 gi_wp2
 refine wpIn_range (gf:=35) (lb:=#[.pointer (some ⟨bs,0,none⟩)]) hro h1 rfl trivial (fun _ _ => rfl) (PtrOf w5.heap.size) ?hCs bs (by have:=HO.out;omega) xs ?hseq (GetI k w xs R g2 g3 g4 g5) (GetX w R g2 g3) (getI_abi (by have:=HO.out;omega)) (getX_abi (by have:=HO.out;omega)) ?h0 ?hbody ?hdone ?hstop
 case hCs =>
  rintro x v W ⟨p,rfl,_⟩
  rfl
 case hseq =>
  intro l J Jx W hb hz hJ hY h0
  exact pairs1_in k 5 (by omega) l bs W.heap.size a0 xs HX.out J Jx W (by have:=HO.out;omega) (Nat.le_refl _) hJ ((hb.block bs (by have:=HO.out;omega)).trans KS.out) (fun pre x v W1 hj hp hc => hY pre x v W1 hj hp (by
   obtain ⟨p,rfl,hp⟩:=hc
   refine ⟨p,rfl,?_⟩
   revert hp
   cases x.2 with
   | none => exact id
   | some s => exact fun ⟨b,h1,h2,h3⟩ => ⟨b,h1,by omega,h3⟩)) h0
 case h0 => exact ⟨_,_,[],xs,.map #[] 0,rfl,HFR.out,rfl,rfl,K2.out,K3.out,K4'.out,K5.out,K6.out,KM.out,mapObj_nil,HB.out⟩
 case hbody =>
  intro l pre x v W hl hI hpre hcf
  obtain ⟨p,rfl,hp⟩:=id hcf
  refine ⟨?A,fun X => GetI k w xs R g2 g3 g4 g5 pre X ∧ PtrOf w5.heap.size x #[.int .u64 x.1,p] X,?h1,?h2,?h3⟩
  case h2 =>
   intro K hK
   gi_wp2
   exact hK _ (KeepsFrom.refl _ _) rfl ⟨hI,hcf⟩
  case h1 =>
   rintro X l' o o' hl' ⟨hI',hc'⟩ ho hoc
   exact ⟨(getI_abi (bs:=bs) (B:=w5.heap.size) (by have:=HO.out;omega)).put o' hI' hl',ptrOf_put hc' _ ho hoc⟩
  case h3 =>
   rintro W' hz' ⟨hI',p',hpe,hp'⟩
   obtain ⟨v,tok,had,rest,om,a1,a2,a3,a4,b2,b3,b4,b5,b6,bm,hm,hb⟩:=hI'
   obtain ⟨z,xo⟩:=x
   obtain ⟨t,ht⟩:=hpre
   obtain rfl : p = p':=by
    injection hpe with e1
    injection e1 with _ e1
    injection e1 with e1 _
   clear hpe hp hcf hI
   obtain rfl : rest = (z,xo) :: t:=by
    rw [a1,List.append_assoc] at ht
    exact (List.append_cancel_left ht).symm
   rw [getFold] at a2
   by_cases hwf : (Lit.int .u64 z).wf = true
   case neg =>
    rw [if_neg hwf] at a2
    exact absurd a2 (by simp)
   rw [if_pos hwf] at a2
   have hn : (had.length : Int) + 1 ≤ 9223372036854775807:=by
    have h1:=HL.out
    rw [a1] at h1
    simp only [List.length_append,List.length_cons] at h1
    omega
   have hl1:=had_look bm hm hwf
   obtain ⟨w6,om1,hrun,bm1,hm1,hg1⟩:=had_store bm hm hwf hn
   have hl2:=had_look bm1 hm1 hwf
   rw [cntT_snoc,if_pos rfl] at hl2
   have hc0:=(cntT_le z had).1
   obtain ⟨c,hcc⟩ : ∃ c,cntT z had = c:=⟨_,rfl⟩
   rw [hcc] at hl1 hrun hl2 hc0
   have ho:=HO.out
   have hkk : ∀ q,q ≠ g5 + 1 → q < w5.heap.size → w6.heap[q]? = W'.heap[q]?:=fun q h1 h2 => hg1.block q (by omega) (fun e => h1 (Option.some.inj e))
   have c6 : W'.cell? ⟨g5 + 1 + 1,0,none⟩ = some (.map (some (g5 + 1))):=(kc_ b6 0).trans rfl
   have b2':=(hkk g2 (by omega) (by omega)).trans b2
   have b3':=(hkk g3 (by omega) (by omega)).trans b3
   have b4':=(hkk g4 (by omega) (by omega)).trans b4
   have b5':=(hkk g5 (by omega) (by omega)).trans b5
   have b6':=(hkk (g5 + 1 + 1) (by omega) (by omega)).trans b6
   have hb' : Below w.heap.size w w6:=hb.grown hg1 hb.size (fun q e => by cases e;omega)
   have hkf : KeepsFrom w5.heap.size W' w6:=KeepsFrom.of_grownBy hg1 (fun q e => by cases e;omega)
   have hks : w6.heap[bs]? = W'.heap[bs]?:=hkk bs (by omega) (by omega)
   have hkb : ∀ q o,w5.heap.size ≤ q → W'.heap[q]? = some o → w6.heap[q]? = some o:=fun q o h1 h2 => (hg1.block q (Array.getElem?_eq_some_iff.1 h2).1 (fun e => by cases e;omega)).trans h2
   have HKB:=am_ hkb
   have HZ0:=am_ (wf_u64 hwf)
   have c6' : w6.cell? ⟨g5 + 1 + 1,0,none⟩ = some (.map (some (g5 + 1))):=(kc_ b6' 0).trans rfl
   have HKF:=am_ hkf
   have HKS:=am_ hks
   have HBW:=am_ hb'
   have HM1:=am_ hm1
   have BM1:=am_ bm1
   have A2:=am_ a2
   have A1:=am_ a1
   have A3:=am_ a3
   have A4:=am_ a4
   have HCC:=am_ hcc
   have HC0:=am_ hc0
   have HOO:=am_ ho
   have B2:=am_ b2'
   have B3:=am_ b3'
   have B4:=am_ b4'
   have B5:=am_ b5'
   have B6:=am_ b6'
   clear hkb hkf hks hb' hm1 bm1 a1 a2 a3 a4 hcc hc0 ho b2 b3 b4 b5 b6 b6' b4' b5' bm hm hb hg1 hkk ht hn hwf
   have hc2_0 : w6.cell? ⟨g2,0,none⟩ = some (.int .u64 0):=(kc_ b2' 0).trans rfl
   have hf2_0:=blk_frozen b2' 0
   have hc2_1 : w6.cell? ⟨g2,1,none⟩ = some (.int .u64 0):=(kc_ b2' 1).trans rfl
   have hf2_1:=blk_frozen b2' 1
   have hc2_2 : w6.cell? ⟨g2,2,none⟩ = some (.int .u64 0):=(kc_ b2' 2).trans rfl
   have hf2_2:=blk_frozen b2' 2
   have hc2_3 : w6.cell? ⟨g2,3,none⟩ = some (.int .u64 0):=(kc_ b2' 3).trans rfl
   have hf2_3:=blk_frozen b2' 3
   have hc2_4 : w6.cell? ⟨g2,4,none⟩ = some (.int .u64 0):=(kc_ b2' 4).trans rfl
   have hf2_4:=blk_frozen b2' 4
   have hc2_5 : w6.cell? ⟨g2,5,none⟩ = some (.int .u64 0):=(kc_ b2' 5).trans rfl
   have hf2_5:=blk_frozen b2' 5
   have hc2_6 : w6.cell? ⟨g2,6,none⟩ = some (.int .u64 0):=(kc_ b2' 6).trans rfl
   have hf2_6:=blk_frozen b2' 6
   have hc2_7 : w6.cell? ⟨g2,7,none⟩ = some (.int .u64 0):=(kc_ b2' 7).trans rfl
   have hf2_7:=blk_frozen b2' 7
   have hc2_8 : w6.cell? ⟨g2,8,none⟩ = some (.int .u64 0):=(kc_ b2' 8).trans rfl
   have hf2_8:=blk_frozen b2' 8
   have hc2_9 : w6.cell? ⟨g2,9,none⟩ = some (.int .u64 0):=(kc_ b2' 9).trans rfl
   have hf2_9:=blk_frozen b2' 9
   have hc2_10 : w6.cell? ⟨g2,10,none⟩ = some (.int .u64 0):=(kc_ b2' 10).trans rfl
   have hf2_10:=blk_frozen b2' 10
   have hc2_11 : w6.cell? ⟨g2,11,none⟩ = some (.string (⟨#[]⟩ : ByteArray)):=(kc_ b2' 11).trans rfl
   have hf2_11:=blk_frozen b2' 11
   have hc3 : w6.cell? ⟨g3,0,none⟩ = some (.int .i64 0):=(kc_ b3' 0).trans rfl
   have hf3:=blk_frozen b3' 0
   clear b2' b3'
   have hne1 : g2 ≠ g3:=by have:=HOO.out;omega
   have hne2 : g3 ≠ g2:=by have:=HOO.out;omega
   dsimp only
   dsimp only at hp'
   cases xo with
   | none =>
    obtain rfl:=hp'
    have hR : R = none:=by
     have h:=A2.out
     rw [getStep] at h
     exact (Option.some.inj h).symm
    have HR:=am_ hR
    clear hR
    gi_wp2
    exact get_off HOO.out HR.out B2.out B3.out HBW.out HKF.out
   | some s =>
    obtain ⟨b,rfl,hbb,hbc⟩:=hp'
    have hbx : w6.cell? ⟨b,0,none⟩ = some (.string s):=(kc_ (HKB.out b _ hbb hbc) 0).trans rfl
    have HBB:=am_ hbb
    have HBC:=am_ (HKB.out b _ hbb hbc)
    clear hbb hbc
    have h:=A2.out
    clear A2
    rw [getStep] at h
    dsimp only at h
    rw [HCC.out] at h
    by_cases c1 : c = 0
    case neg =>
     rw [if_neg c1] at h
     have HR:=am_ (show R = none from (Option.some.inj h).symm)
     have c1b : decide (1 < c + 1) = true:=decide_eq_true (by have:=HC0.out;omega)
     clear h c1
     gi_wp2
     exact get_off HOO.out HR.out B2.out B3.out HBW.out HKF.out
    rw [if_pos c1] at h
    have c1b : decide (1 < c + 1) = false:=decide_eq_false (by omega)
    clear c1
    by_cases c2 : z = 2
    case pos =>
     rw [if_pos c2] at h
     have c2b : (z == 2) = true:=beq_iff_eq.mpr c2
     clear c2
     have c11 : w6.cell? ⟨g4,11,none⟩ = some (.string tok):=(kc_ B4.out 11).trans (prmC_tok A3.out)
     have f11:=blk_frozen B4.out 11
     have hne3 : g2 ≠ g4:=by have:=HOO.out;omega
     have hne4 : g4 ≠ g2:=by have:=HOO.out;omega
     have hne5 : g3 ≠ g4:=by have:=HOO.out;omega
     have hne6 : g4 ≠ g3:=by have:=HOO.out;omega
     by_cases c3 : (s.size : Int) = 16
     ·rw [if_pos c3] at h
      have c3b : ((s.size : Int) == 16) = true:=beq_iff_eq.mpr c3
      have c3c : ((s.size : Int) != 16) = false:=bne_eq_false_iff_eq.mpr c3
      clear c3
      gi_wp2
      exact get_on HOO.out A1.out A4.out h A3.out B2.out B3.out B5.out B6.out BM1.out HM1.out HBW.out HKF.out HKS.out (blk_put B4.out 11 (.string s) (prmC_setTok A3.out s)) (fun q hq => Below.heap_setCell _ _ _ _ hq) (by simp [World.setCell]) (HBW.out.setCell (by have:=HOO.out;show w.heap.size ≤ g4;omega) _)
     ·rw [if_neg c3] at h
      have HR:=am_ (show R = none from (Option.some.inj h).symm)
      have c3b : ((s.size : Int) == 16) = false:=beq_eq_false_iff_ne.mpr c3
      have c3c : ((s.size : Int) != 16) = true:=bne_iff_ne.mpr c3
      clear c3 h
      gi_wp2
      refine get_off (w6:=w6.setCell ⟨g4,11,none⟩ (.string s)) HOO.out HR.out ((Below.heap_setCell _ _ _ _ hne3).trans B2.out) ((Below.heap_setCell _ _ _ _ hne5).trans B3.out) (HBW.out.setCell (by have:=HOO.out;show w.heap.size ≤ g4;omega) _) (HKF.out.trans ⟨by simp [World.setCell],fun q o hq hqo _ => (Below.heap_setCell _ _ _ _ (by have:=HOO.out;show q ≠ g4;omega)).trans hqo⟩)
    rw [if_neg c2] at h
    have c2b : (z == 2) = false:=beq_eq_false_iff_ne.mpr c2
    clear c2
    have hz0:=HZ0.out
    by_cases c4 : z ≤ 14
    case neg =>
     rw [fldOf_big c4] at h
     have c4b : decide (z ≤ 14) = false:=decide_eq_false c4
     clear c4 hz0
     gi_wp2
     exact get_on HOO.out A1.out A4.out h A3.out B2.out B3.out B5.out B6.out BM1.out HM1.out HBW.out HKF.out HKS.out B4.out (fun _ _ => rfl) (Nat.le_refl _) HBW.out
    have c4b : decide (z ≤ 14) = true:=decide_eq_true c4
    have c5 : w6.cell? ⟨g5,z.toNat,none⟩ = _:=(kc_ B5.out z.toNat).trans (plc_at g4 z ⟨hz0,c4⟩)
    cases hf : fldOf z with
    | none =>
     rw [hf] at c5 h
     dsimp only at c5 h
     have n1 : (z < 0) = False:=eq_false (by omega)
     have n2 : (0 ≤ z) = True:=eq_true (by omega)
     have n3 : (z < 15) = True:=eq_true (by omega)
     have n4 : (z.toNat < 15) = True:=eq_true (by omega)
     clear c4 hz0
     gi_wp2
     exact get_on HOO.out A1.out A4.out h A3.out B2.out B3.out B5.out B6.out BM1.out HM1.out HBW.out HKF.out HKS.out B4.out (fun _ _ => rfl) (Nat.le_refl _) HBW.out
    | some i =>
     rw [hf] at c5 h
     dsimp only at c5 h
     obtain ⟨-,-,hi11⟩:=fldOf_lt hf
     have n1 : (z < 0) = False:=eq_false (by omega)
     have n2 : (0 ≤ z) = True:=eq_true (by omega)
     have n3 : (z < 15) = True:=eq_true (by omega)
     have n4 : (z.toNat < 15) = True:=eq_true (by omega)
     have ci : w6.cell? ⟨g4,i,none⟩ = some (.int .u64 (rd v (i : Int))):=(kc_ B4.out i).trans (prmC_num (by have:=A3.out;omega))
     have fi:=blk_frozen B4.out i
     have hne3 : g2 ≠ g4:=by have:=HOO.out;omega
     have hne4 : g4 ≠ g2:=by have:=HOO.out;omega
     have hne5 : g3 ≠ g4:=by have:=HOO.out;omega
     have hne6 : g4 ≠ g3:=by have:=HOO.out;omega
     have HI:=am_ hi11
     clear c4 hz0 hi11 hf
     replace h:=Option.bind_eq_some_iff.mp h
     obtain ⟨q,hq,h⟩:=h
     replace hq:=Option.bind_eq_some_iff.mp hq
     obtain ⟨⟨t1,t2,t3⟩,hg,hq⟩:=hq
     dsimp only at hq
     have HG:=am_ hg
     have HH:=am_ h
     have HQ:=am_ hq
     clear hg h hq
     gi_wp2
     refine ⟨trivial,?_⟩
     refine (show CallsIn (Fence.wide.inRound l) _ _ _ _ _ _ from callsIn_wide.2 (varint_Get.calls k s t1 t2 t3 w6 HG.out)).mono ?_
     rintro e w7' ⟨rfl,⟨nd,rfl⟩⟩
     have hb7 : Below w6.heap.size w6 (w6.drewN nd):=pn_ (Below.refl _ _) nd
     generalize w6.drewN nd = w7 at hb7 ⊢
     have hk7 : ∀ q o,w6.heap[q]? = some o → w7.heap[q]? = some o:=fun q o h => (hb7.block q (Array.getElem?_eq_some_iff.1 h).1).trans h
     have C2:=am_ (hk7 _ _ B2.out)
     have C3:=am_ (hk7 _ _ B3.out)
     have C4:=am_ (hk7 _ _ B4.out)
     have C5:=am_ (hk7 _ _ B5.out)
     have C6:=am_ (hk7 _ _ B6.out)
     have CM:=am_ (hk7 _ _ BM1.out)
     have HBC:=am_ (HBW.out.trans (hb7.mono HBW.out.size))
     have HKC:=am_ (HKF.out.trans ⟨hb7.size,fun q o _ hqo _ => hk7 q o hqo⟩)
     have hsz:=hz'
     have HKSC : Aside0 (w7.heap[bs]? = W'.heap[bs]?):=⟨(hb7.block bs (by have:=HKF.out.size;have:=HOO.out;omega)).trans HKS.out⟩
     have c5' : w7.cell? ⟨g5,z.toNat,none⟩ = some (.pointer (some ⟨g4,i,none⟩)):=(hb7.cell (p:=⟨g5,z.toNat,none⟩) (Array.getElem?_eq_some_iff.1 B5.out).1).trans c5
     have ci' : w7.cell? ⟨g4,i,none⟩ = some (.int .u64 (rd v (i : Int))):=(kc_ C4.out i).trans (prmC_num (by have:=A3.out;have:=HI.out;omega))
     have fi':=blk_frozen C4.out i
     clear hb7 hk7 c5 ci fi hc2_0 hc2_1 hc2_2 hc2_3 hc2_4 hc2_5 hc2_6 hc2_7 hc2_8 hc2_9 hc2_10 hc2_11 hf2_0 hf2_1 hf2_2 hf2_3 hf2_4 hf2_5 hf2_6 hf2_7 hf2_8 hf2_9 hf2_10 hf2_11 hc3 hf3 hsz
     have hc2_0 : w7.cell? ⟨g2,0,none⟩ = some (.int .u64 0):=(kc_ C2.out 0).trans rfl
     have hf2_0:=blk_frozen C2.out 0
     have hc2_1 : w7.cell? ⟨g2,1,none⟩ = some (.int .u64 0):=(kc_ C2.out 1).trans rfl
     have hf2_1:=blk_frozen C2.out 1
     have hc2_2 : w7.cell? ⟨g2,2,none⟩ = some (.int .u64 0):=(kc_ C2.out 2).trans rfl
     have hf2_2:=blk_frozen C2.out 2
     have hc2_3 : w7.cell? ⟨g2,3,none⟩ = some (.int .u64 0):=(kc_ C2.out 3).trans rfl
     have hf2_3:=blk_frozen C2.out 3
     have hc2_4 : w7.cell? ⟨g2,4,none⟩ = some (.int .u64 0):=(kc_ C2.out 4).trans rfl
     have hf2_4:=blk_frozen C2.out 4
     have hc2_5 : w7.cell? ⟨g2,5,none⟩ = some (.int .u64 0):=(kc_ C2.out 5).trans rfl
     have hf2_5:=blk_frozen C2.out 5
     have hc2_6 : w7.cell? ⟨g2,6,none⟩ = some (.int .u64 0):=(kc_ C2.out 6).trans rfl
     have hf2_6:=blk_frozen C2.out 6
     have hc2_7 : w7.cell? ⟨g2,7,none⟩ = some (.int .u64 0):=(kc_ C2.out 7).trans rfl
     have hf2_7:=blk_frozen C2.out 7
     have hc2_8 : w7.cell? ⟨g2,8,none⟩ = some (.int .u64 0):=(kc_ C2.out 8).trans rfl
     have hf2_8:=blk_frozen C2.out 8
     have hc2_9 : w7.cell? ⟨g2,9,none⟩ = some (.int .u64 0):=(kc_ C2.out 9).trans rfl
     have hf2_9:=blk_frozen C2.out 9
     have hc2_10 : w7.cell? ⟨g2,10,none⟩ = some (.int .u64 0):=(kc_ C2.out 10).trans rfl
     have hf2_10:=blk_frozen C2.out 10
     have hc2_11 : w7.cell? ⟨g2,11,none⟩ = some (.string (⟨#[]⟩ : ByteArray)):=(kc_ C2.out 11).trans rfl
     have hf2_11:=blk_frozen C2.out 11
     have hc3 : w7.cell? ⟨g3,0,none⟩ = some (.int .i64 0):=(kc_ C3.out 0).trans rfl
     have hf3:=blk_frozen C3.out 0
     have hq:=HQ.out
     have h:=HH.out
     by_cases c6 : t3 = 0
     case neg =>
      rw [if_neg c6] at hq
      have c6b : (t3 == 0) = false:=beq_eq_false_iff_ne.mpr c6
      have c6c : (t3 != 0) = true:=bne_iff_ne.mpr c6
      obtain rfl:=Option.some.inj hq
      have HR:=am_ (show R = none from (Option.some.inj h).symm)
      clear c6 h hq
      gi_wp2
      exact get_off HOO.out HR.out C2.out C3.out HBC.out HKC.out
     rw [if_pos c6] at hq
     have c6b : (t3 == 0) = true:=beq_iff_eq.mpr c6
     have c6c : (t3 != 0) = false:=bne_eq_false_iff_eq.mpr c6
     clear c6
     by_cases c7 : t2.toList = ([] : List UInt8)
     case neg =>
      rw [if_neg c7] at hq
      have c7b : (t2.toList == ([] : List UInt8)) = false:=beq_eq_false_iff_ne.mpr c7
      have c7c : (t2.toList != ([] : List UInt8)) = true:=bne_iff_ne.mpr c7
      obtain rfl:=Option.some.inj hq
      have HR:=am_ (show R = none from (Option.some.inj h).symm)
      clear c7 h hq
      gi_wp2
      exact get_off HOO.out HR.out C2.out C3.out HBC.out HKC.out
     rw [if_pos c7] at hq
     have c7b : (t2.toList == ([] : List UInt8)) = true:=beq_iff_eq.mpr c7
     have c7c : (t2.toList != ([] : List UInt8)) = false:=bne_eq_false_iff_eq.mpr c7
     obtain rfl:=Option.some.inj hq
     have hh:=am_ h
     clear c7 hq h
     gi_wp2
     exact get_on HOO.out A1.out A4.out hh.out (by rw [List.length_set];exact A3.out) C2.out C3.out C5.out C6.out CM.out HM1.out HBC.out HKC.out HKSC.out (blk_put C4.out i (.int .u64 t1) (prmC_setNum (by have:=A3.out;have:=HI.out;omega) t1)) (fun q hq => Below.heap_setCell _ _ _ _ hq) (by simp [World.setCell]) (HBC.out.setCell (by have:=HOO.out;show w.heap.size ≤ g4;omega) _)
 case hdone =>
  rintro D W hD ⟨v,tok,had,rest,om,a1,a2,a3,a4,b2,b3,b4,b5,b6,bm,hm,hb⟩ hdf
  obtain rfl : rest = []:=by
   have h:=congrArg List.length a1
   simp only [List.length_append] at h
   exact List.eq_nil_of_length_eq_zero (by omega)
  have hR : some (v,tok) = R:=by rw [getFold] at a2;exact Option.some.inj a2
  subst hR
  obtain ⟨x0,x1,x2,x3,x4,x5,x6,x7,x8,x9,x10,rfl⟩ : ∃ x0 x1 x2 x3 x4 x5 x6 x7 x8 x9 x10,v = [x0,x1,x2,x3,x4,x5,x6,x7,x8,x9,x10]:=by
   match v,a3 with
   | [x0,x1,x2,x3,x4,x5,x6,x7,x8,x9,x10],_ => exact ⟨x0,x1,x2,x3,x4,x5,x6,x7,x8,x9,x10,rfl⟩
  have h:=HEND.out
  replace h:=Option.bind_eq_some_iff.mp h
  obtain ⟨e,he,h⟩:=h
  have HE : Aside0 (params_Check.f x0 x1 x2 x3 x4 x5 x6 x7 x8 x9 x10 tok = some e):=⟨he⟩
  replace h : (if e = 0 then some (x0,x1,x2,x3,x4,x5,x6,x7,x8,x9,x10,tok,0) else some (0,0,0,0,0,0,0,0,0,0,0,(⟨#[]⟩ : ByteArray),e)) = some (r1,r2,r3,r4,r5,r6,r7,r8,r9,r10,r11,r12,r13):=h
  have H:=am_ h
  have B2:=am_ b2
  have B3:=am_ b3
  have B4:=am_ b4
  have HBW:=am_ hb
  have HDF:=am_ hdf
  have hc2_0 : W.cell? ⟨g2,0,none⟩ = some (.int .u64 0):=(kc_ b2 0).trans rfl
  have hf2_0:=blk_frozen b2 0
  have hc2_1 : W.cell? ⟨g2,1,none⟩ = some (.int .u64 0):=(kc_ b2 1).trans rfl
  have hf2_1:=blk_frozen b2 1
  have hc2_2 : W.cell? ⟨g2,2,none⟩ = some (.int .u64 0):=(kc_ b2 2).trans rfl
  have hf2_2:=blk_frozen b2 2
  have hc2_3 : W.cell? ⟨g2,3,none⟩ = some (.int .u64 0):=(kc_ b2 3).trans rfl
  have hf2_3:=blk_frozen b2 3
  have hc2_4 : W.cell? ⟨g2,4,none⟩ = some (.int .u64 0):=(kc_ b2 4).trans rfl
  have hf2_4:=blk_frozen b2 4
  have hc2_5 : W.cell? ⟨g2,5,none⟩ = some (.int .u64 0):=(kc_ b2 5).trans rfl
  have hf2_5:=blk_frozen b2 5
  have hc2_6 : W.cell? ⟨g2,6,none⟩ = some (.int .u64 0):=(kc_ b2 6).trans rfl
  have hf2_6:=blk_frozen b2 6
  have hc2_7 : W.cell? ⟨g2,7,none⟩ = some (.int .u64 0):=(kc_ b2 7).trans rfl
  have hf2_7:=blk_frozen b2 7
  have hc2_8 : W.cell? ⟨g2,8,none⟩ = some (.int .u64 0):=(kc_ b2 8).trans rfl
  have hf2_8:=blk_frozen b2 8
  have hc2_9 : W.cell? ⟨g2,9,none⟩ = some (.int .u64 0):=(kc_ b2 9).trans rfl
  have hf2_9:=blk_frozen b2 9
  have hc2_10 : W.cell? ⟨g2,10,none⟩ = some (.int .u64 0):=(kc_ b2 10).trans rfl
  have hf2_10:=blk_frozen b2 10
  have hc2_11 : W.cell? ⟨g2,11,none⟩ = some (.string (⟨#[]⟩ : ByteArray)):=(kc_ b2 11).trans rfl
  have hf2_11:=blk_frozen b2 11
  have hc4_0 : W.cell? ⟨g4,0,none⟩ = some (.int .u64 x0):=(kc_ b4 0).trans rfl
  have hc4_1 : W.cell? ⟨g4,1,none⟩ = some (.int .u64 x1):=(kc_ b4 1).trans rfl
  have hc4_2 : W.cell? ⟨g4,2,none⟩ = some (.int .u64 x2):=(kc_ b4 2).trans rfl
  have hc4_3 : W.cell? ⟨g4,3,none⟩ = some (.int .u64 x3):=(kc_ b4 3).trans rfl
  have hc4_4 : W.cell? ⟨g4,4,none⟩ = some (.int .u64 x4):=(kc_ b4 4).trans rfl
  have hc4_5 : W.cell? ⟨g4,5,none⟩ = some (.int .u64 x5):=(kc_ b4 5).trans rfl
  have hc4_6 : W.cell? ⟨g4,6,none⟩ = some (.int .u64 x6):=(kc_ b4 6).trans rfl
  have hc4_7 : W.cell? ⟨g4,7,none⟩ = some (.int .u64 x7):=(kc_ b4 7).trans rfl
  have hc4_8 : W.cell? ⟨g4,8,none⟩ = some (.int .u64 x8):=(kc_ b4 8).trans rfl
  have hc4_9 : W.cell? ⟨g4,9,none⟩ = some (.int .u64 x9):=(kc_ b4 9).trans rfl
  have hc4_10 : W.cell? ⟨g4,10,none⟩ = some (.int .u64 x10):=(kc_ b4 10).trans rfl
  have hc4_11 : W.cell? ⟨g4,11,none⟩ = some (.string tok):=(kc_ b4 11).trans rfl
  have hc3 : W.cell? ⟨g3,0,none⟩ = some (.int .i64 0):=(kc_ b3 0).trans rfl
  have hf3:=blk_frozen b3 0
  have hne1 : g2 ≠ g3:=by have:=HO.out;omega
  have hne2 : g3 ≠ g2:=by have:=HO.out;omega
  have hne3 : g2 ≠ g4:=by have:=HO.out;omega
  have hne4 : g4 ≠ g2:=by have:=HO.out;omega
  have hne5 : g3 ≠ g4:=by have:=HO.out;omega
  have hne6 : g4 ≠ g3:=by have:=HO.out;omega
  clear a1 a2 a3 a4 b2 b3 b4 b5 b6 bm hm hb hdf h he K2 K3 K4' K5 K6 KM KS HB HFR HEND
  gi_wp2
  refine ⟨trivial,?_⟩
  refine (callsIn_wide.2 (params_Check.calls x0 x1 x2 x3 x4 x5 x6 x7 x8 x9 x10 tok e W HE.out)).mono ?_
  rintro e' w7 ⟨rfl,hb7⟩
  have hk7 : ∀ q o,W.heap[q]? = some o → w7.heap[q]? = some o:=fun q o h => (hb7.block q (Array.getElem?_eq_some_iff.1 h).1).trans h
  have C2:=am_ (hk7 _ _ B2.out)
  have C3:=am_ (hk7 _ _ B3.out)
  have C4:=am_ (hk7 _ _ B4.out)
  have CD:=am_ (hk7 _ _ HDF.out)
  have HBC:=am_ (HBW.out.trans (hb7.mono HBW.out.size))
  clear hb7 hk7 hc3 hf3 hc2_0 hf2_0 hc4_0 hc2_1 hf2_1 hc4_1 hc2_2 hf2_2 hc4_2 hc2_3 hf2_3 hc4_3 hc2_4 hf2_4 hc4_4 hc2_5 hf2_5 hc4_5 hc2_6 hf2_6 hc4_6 hc2_7 hf2_7 hc4_7 hc2_8 hf2_8 hc4_8 hc2_9 hf2_9 hc4_9 hc2_10 hf2_10 hc4_10 hc2_11 hf2_11 hc4_11 B2 B3 B4 HBW HDF
  have hc2_0 : w7.cell? ⟨g2,0,none⟩ = some (.int .u64 0):=(kc_ C2.out 0).trans rfl
  have hf2_0:=blk_frozen C2.out 0
  have hc2_1 : w7.cell? ⟨g2,1,none⟩ = some (.int .u64 0):=(kc_ C2.out 1).trans rfl
  have hf2_1:=blk_frozen C2.out 1
  have hc2_2 : w7.cell? ⟨g2,2,none⟩ = some (.int .u64 0):=(kc_ C2.out 2).trans rfl
  have hf2_2:=blk_frozen C2.out 2
  have hc2_3 : w7.cell? ⟨g2,3,none⟩ = some (.int .u64 0):=(kc_ C2.out 3).trans rfl
  have hf2_3:=blk_frozen C2.out 3
  have hc2_4 : w7.cell? ⟨g2,4,none⟩ = some (.int .u64 0):=(kc_ C2.out 4).trans rfl
  have hf2_4:=blk_frozen C2.out 4
  have hc2_5 : w7.cell? ⟨g2,5,none⟩ = some (.int .u64 0):=(kc_ C2.out 5).trans rfl
  have hf2_5:=blk_frozen C2.out 5
  have hc2_6 : w7.cell? ⟨g2,6,none⟩ = some (.int .u64 0):=(kc_ C2.out 6).trans rfl
  have hf2_6:=blk_frozen C2.out 6
  have hc2_7 : w7.cell? ⟨g2,7,none⟩ = some (.int .u64 0):=(kc_ C2.out 7).trans rfl
  have hf2_7:=blk_frozen C2.out 7
  have hc2_8 : w7.cell? ⟨g2,8,none⟩ = some (.int .u64 0):=(kc_ C2.out 8).trans rfl
  have hf2_8:=blk_frozen C2.out 8
  have hc2_9 : w7.cell? ⟨g2,9,none⟩ = some (.int .u64 0):=(kc_ C2.out 9).trans rfl
  have hf2_9:=blk_frozen C2.out 9
  have hc2_10 : w7.cell? ⟨g2,10,none⟩ = some (.int .u64 0):=(kc_ C2.out 10).trans rfl
  have hf2_10:=blk_frozen C2.out 10
  have hc2_11 : w7.cell? ⟨g2,11,none⟩ = some (.string (⟨#[]⟩ : ByteArray)):=(kc_ C2.out 11).trans rfl
  have hf2_11:=blk_frozen C2.out 11
  have hc4_0 : w7.cell? ⟨g4,0,none⟩ = some (.int .u64 x0):=(kc_ C4.out 0).trans rfl
  have hc4_1 : w7.cell? ⟨g4,1,none⟩ = some (.int .u64 x1):=(kc_ C4.out 1).trans rfl
  have hc4_2 : w7.cell? ⟨g4,2,none⟩ = some (.int .u64 x2):=(kc_ C4.out 2).trans rfl
  have hc4_3 : w7.cell? ⟨g4,3,none⟩ = some (.int .u64 x3):=(kc_ C4.out 3).trans rfl
  have hc4_4 : w7.cell? ⟨g4,4,none⟩ = some (.int .u64 x4):=(kc_ C4.out 4).trans rfl
  have hc4_5 : w7.cell? ⟨g4,5,none⟩ = some (.int .u64 x5):=(kc_ C4.out 5).trans rfl
  have hc4_6 : w7.cell? ⟨g4,6,none⟩ = some (.int .u64 x6):=(kc_ C4.out 6).trans rfl
  have hc4_7 : w7.cell? ⟨g4,7,none⟩ = some (.int .u64 x7):=(kc_ C4.out 7).trans rfl
  have hc4_8 : w7.cell? ⟨g4,8,none⟩ = some (.int .u64 x8):=(kc_ C4.out 8).trans rfl
  have hc4_9 : w7.cell? ⟨g4,9,none⟩ = some (.int .u64 x9):=(kc_ C4.out 9).trans rfl
  have hc4_10 : w7.cell? ⟨g4,10,none⟩ = some (.int .u64 x10):=(kc_ C4.out 10).trans rfl
  have hc4_11 : w7.cell? ⟨g4,11,none⟩ = some (.string tok):=(kc_ C4.out 11).trans rfl
  have hc3 : w7.cell? ⟨g3,0,none⟩ = some (.int .i64 0):=(kc_ C3.out 0).trans rfl
  have hf3:=blk_frozen C3.out 0
  have h:=H.out
  by_cases c1 : e = 0
  ·rw [if_pos c1] at h
   have c1b : (e == 0) = true:=beq_iff_eq.mpr c1
   have c1c : (e != 0) = false:=bne_eq_false_iff_eq.mpr c1
   clear c1 H
   simp only [Option.some.injEq,Prod.mk.injEq] at h
   obtain ⟨rfl,rfl,rfl,rfl,rfl,rfl,rfl,rfl,rfl,rfl,rfl,rfl,rfl⟩:=h
   gi_wp2
   obtain ⟨z2,z3,zb,zk⟩:=flS_ 0 x0 x1 x2 x3 x4 x5 x6 x7 x8 x9 x10 tok C2.out C3.out hne1 (by have:=HO.out;omega) (by have:=HO.out;omega) HBC.out
   exact get_end (Wz:=flS w7 g2 g3 0 x0 x1 x2 x3 x4 x5 x6 x7 x8 x9 x10 tok) (cs:=#[.int .u64 x0,.int .u64 x1,.int .u64 x2,.int .u64 x3,.int .u64 x4,.int .u64 x5,.int .u64 x6,.int .u64 x7,.int .u64 x8,.int .u64 x9,.int .u64 x10,.string tok]) rfl rfl z2 z3 rfl ((zk D (by have:=HO.out;omega) (by have:=HO.out;omega)).trans CD.out) (by have:=HO.out;omega) zb
  ·rw [if_neg c1] at h
   have c1b : (e == 0) = false:=beq_eq_false_iff_ne.mpr c1
   have c1c : (e != 0) = true:=bne_iff_ne.mpr c1
   clear c1 H
   simp only [Option.some.injEq,Prod.mk.injEq] at h
   obtain ⟨rfl,rfl,rfl,rfl,rfl,rfl,rfl,rfl,rfl,rfl,rfl,rfl,rfl⟩:=h
   gi_wp2
   obtain ⟨z2,z3,zb,zz,zk⟩:=zrS_ e C2.out C3.out hne1 (by have:=HO.out;omega) (by have:=HO.out;omega) HBC.out
   exact get_end (Wz:=zrS w7 g2 g3 e) (cs:=zrC) rfl rfl z2 z3 rfl ((zk D (by have:=HO.out;omega) (by have:=HO.out;omega)).trans CD.out) (by have:=HO.out;omega) zb
 case hstop =>
  rintro D pre W hD _ ⟨hR,b2,b3,hb⟩ hdf
  subst hR
  have h:=HEND.out
  simp only [Option.some.injEq,Prod.mk.injEq] at h
  obtain ⟨rfl,rfl,rfl,rfl,rfl,rfl,rfl,rfl,rfl,rfl,rfl,rfl,rfl⟩:=h
  gi_wp2
  exact get_end (cs:=zrC) rfl rfl b2 b3 rfl hdf (by have:=HO.out;omega) hb

/-! ### dominolaw05_shown: function 8 -/
def dominolaw05_shown.f (k : Nat)  : Option (Bool):=(params_Default.f).bind fun bt108 => ((params_Put.f bt108.1 bt108.2.1 64 bt108.2.2.2.1 bt108.2.2.2.2.1 bt108.2.2.2.2.2.1 bt108.2.2.2.2.2.2.1 bt108.2.2.2.2.2.2.2.1 bt108.2.2.2.2.2.2.2.2.1 bt108.2.2.2.2.2.2.2.2.2.1 bt108.2.2.2.2.2.2.2.2.2.2.1 bt108.2.2.2.2.2.2.2.2.2.2.2).bind fun bt121 => ((params_Get.f k bt121.1).bind fun bt123 => (if bt121.2 = 0 then (if bt123.2.2.2.2.2.2.2.2.2.2.2.2 = 0 then (if bt121.1.toList = ([4,2,64,64] : List UInt8) then (if (bt123.1 == bt108.1 && (bt123.2.1 == bt108.2.1 && (bt123.2.2.1 == 64 && (bt123.2.2.2.1 == bt108.2.2.2.1 && (bt123.2.2.2.2.1 == bt108.2.2.2.2.1 && (bt123.2.2.2.2.2.1 == bt108.2.2.2.2.2.1 && (bt123.2.2.2.2.2.2.1 == bt108.2.2.2.2.2.2.1 && (bt123.2.2.2.2.2.2.2.1 == bt108.2.2.2.2.2.2.2.1 && (bt123.2.2.2.2.2.2.2.2.1 == bt108.2.2.2.2.2.2.2.2.1 && (bt123.2.2.2.2.2.2.2.2.2.1 == bt108.2.2.2.2.2.2.2.2.2.1 && (bt123.2.2.2.2.2.2.2.2.2.2.1 == bt108.2.2.2.2.2.2.2.2.2.2.1 && (bt123.2.2.2.2.2.2.2.2.2.2.2.1.toList == bt108.2.2.2.2.2.2.2.2.2.2.2.toList)))))))))))) = true then ((params_Check.f 0 0 0 0 0 0 0 0 0 0 0 (⟨#[]⟩ : ByteArray)).bind fun t137 => (some (t137 == 50))) else (none)) else (none)) else (none)) else (none))))
theorem dominolaw05_shown.mono : ∀ k,LeO (dominolaw05_shown.f k ) (dominolaw05_shown.f (k + 1) ):=by
 intro  k
 unfold dominolaw05_shown.f
 repeat' first
   | (with_reducible exact params_Get.mono _ _)
   | (with_reducible exact LeO.refl _)
   | (with_reducible exact LeO.none _)
   | (with_reducible refine LeO.ite ?_ ?_)
   | (with_reducible refine LeO.bind ?_ (fun _ => ?_))
   | exact params_Get.mono _ _
   | exact LeO.none _
   | refine LeO.ite ?_ ?_
   | refine LeO.bind ?_ (fun _ => ?_)
set_option maxHeartbeats 8000000 in
set_option maxRecDepth 100000 in
theorem dominolaw05_shown.calls (k : Nat)  (r : Bool) (w : World) (ht : Tab w) (h : dominolaw05_shown.f k  = some r) :
  Calls Tryd.prog 8 #[] w fun e w' => e = .returned (.bool r) ∧ Below w.heap.size w w':=by
 have HTab:=am_ ht
 clear ht
 have hu24:=Tryd.underlying24
 have HB:=am_ (Below.refl w.heap.size w)
 have H : ((params_Default.f).bind fun bt108 => ((params_Put.f bt108.1 bt108.2.1 64 bt108.2.2.2.1 bt108.2.2.2.2.1 bt108.2.2.2.2.2.1 bt108.2.2.2.2.2.2.1 bt108.2.2.2.2.2.2.2.1 bt108.2.2.2.2.2.2.2.2.1 bt108.2.2.2.2.2.2.2.2.2.1 bt108.2.2.2.2.2.2.2.2.2.2.1 bt108.2.2.2.2.2.2.2.2.2.2.2).bind fun bt121 => ((params_Get.f k bt121.1).bind fun bt123 => (if bt121.2 = 0 then (if bt123.2.2.2.2.2.2.2.2.2.2.2.2 = 0 then (if bt121.1.toList = ([4,2,64,64] : List UInt8) then (if (bt123.1 == bt108.1 && (bt123.2.1 == bt108.2.1 && (bt123.2.2.1 == 64 && (bt123.2.2.2.1 == bt108.2.2.2.1 && (bt123.2.2.2.2.1 == bt108.2.2.2.2.1 && (bt123.2.2.2.2.2.1 == bt108.2.2.2.2.2.1 && (bt123.2.2.2.2.2.2.1 == bt108.2.2.2.2.2.2.1 && (bt123.2.2.2.2.2.2.2.1 == bt108.2.2.2.2.2.2.2.1 && (bt123.2.2.2.2.2.2.2.2.1 == bt108.2.2.2.2.2.2.2.2.1 && (bt123.2.2.2.2.2.2.2.2.2.1 == bt108.2.2.2.2.2.2.2.2.2.1 && (bt123.2.2.2.2.2.2.2.2.2.2.1 == bt108.2.2.2.2.2.2.2.2.2.2.1 && (bt123.2.2.2.2.2.2.2.2.2.2.2.1.toList == bt108.2.2.2.2.2.2.2.2.2.2.2.toList)))))))))))) = true then ((params_Check.f 0 0 0 0 0 0 0 0 0 0 0 (⟨#[]⟩ : ByteArray)).bind fun t137 => (some (t137 == 50))) else (none)) else (none)) else (none)) else (none))))) = some r:=h
 clear h
 replace H:=Option.bind_eq_some_iff.mp H
 obtain ⟨⟨t108,t109,t110,t111,t112,t113,t114,t115,t116,t117,t118,t119⟩,A10,H⟩:=H
 replace H : ((params_Put.f t108 t109 64 t111 t112 t113 t114 t115 t116 t117 t118 t119).bind fun bt121 => ((params_Get.f k bt121.1).bind fun bt123 => (if bt121.2 = 0 then (if bt123.2.2.2.2.2.2.2.2.2.2.2.2 = 0 then (if bt121.1.toList = ([4,2,64,64] : List UInt8) then (if (bt123.1 == t108 && (bt123.2.1 == t109 && (bt123.2.2.1 == 64 && (bt123.2.2.2.1 == t111 && (bt123.2.2.2.2.1 == t112 && (bt123.2.2.2.2.2.1 == t113 && (bt123.2.2.2.2.2.2.1 == t114 && (bt123.2.2.2.2.2.2.2.1 == t115 && (bt123.2.2.2.2.2.2.2.2.1 == t116 && (bt123.2.2.2.2.2.2.2.2.2.1 == t117 && (bt123.2.2.2.2.2.2.2.2.2.2.1 == t118 && (bt123.2.2.2.2.2.2.2.2.2.2.2.1.toList == t119.toList)))))))))))) = true then ((params_Check.f 0 0 0 0 0 0 0 0 0 0 0 (⟨#[]⟩ : ByteArray)).bind fun t137 => (some (t137 == 50))) else (none)) else (none)) else (none)) else (none)))) = some r:=H
 have A1:=am_ A10
 clear A10
 replace H:=Option.bind_eq_some_iff.mp H
 obtain ⟨⟨t121,t122⟩,A20,H⟩:=H
 replace H : ((params_Get.f k t121).bind fun bt123 => (if t122 = 0 then (if bt123.2.2.2.2.2.2.2.2.2.2.2.2 = 0 then (if t121.toList = ([4,2,64,64] : List UInt8) then (if (bt123.1 == t108 && (bt123.2.1 == t109 && (bt123.2.2.1 == 64 && (bt123.2.2.2.1 == t111 && (bt123.2.2.2.2.1 == t112 && (bt123.2.2.2.2.2.1 == t113 && (bt123.2.2.2.2.2.2.1 == t114 && (bt123.2.2.2.2.2.2.2.1 == t115 && (bt123.2.2.2.2.2.2.2.2.1 == t116 && (bt123.2.2.2.2.2.2.2.2.2.1 == t117 && (bt123.2.2.2.2.2.2.2.2.2.2.1 == t118 && (bt123.2.2.2.2.2.2.2.2.2.2.2.1.toList == t119.toList)))))))))))) = true then ((params_Check.f 0 0 0 0 0 0 0 0 0 0 0 (⟨#[]⟩ : ByteArray)).bind fun t137 => (some (t137 == 50))) else (none)) else (none)) else (none)) else (none))) = some r:=H
 have A2:=am_ A20
 clear A20
 replace H:=Option.bind_eq_some_iff.mp H
 obtain ⟨⟨t123,t124,t125,t126,t127,t128,t129,t130,t131,t132,t133,t134,t135⟩,A30,H⟩:=H
 replace H : (if t122 = 0 then (if t135 = 0 then (if t121.toList = ([4,2,64,64] : List UInt8) then (if (t123 == t108 && (t124 == t109 && (t125 == 64 && (t126 == t111 && (t127 == t112 && (t128 == t113 && (t129 == t114 && (t130 == t115 && (t131 == t116 && (t132 == t117 && (t133 == t118 && (t134.toList == t119.toList)))))))))))) = true then ((params_Check.f 0 0 0 0 0 0 0 0 0 0 0 (⟨#[]⟩ : ByteArray)).bind fun t137 => (some (t137 == 50))) else (none)) else (none)) else (none)) else (none)) = some r:=H
 have A3:=am_ A30
 clear A30
 by_cases c4 : t122 = 0
 ·rw [if_pos c4] at H
  have c4b0 : (t122 == 0) = true:=beq_iff_eq.mpr c4
  have c4b1 : (t122 != 0) = false:=bne_eq_false_iff_eq.mpr c4
  clear c4
  by_cases c5 : t135 = 0
  ·rw [if_pos c5] at H
   have c5b0 : (t135 == 0) = true:=beq_iff_eq.mpr c5
   have c5b1 : (t135 != 0) = false:=bne_eq_false_iff_eq.mpr c5
   clear c5
   by_cases c6 : t121.toList = ([4,2,64,64] : List UInt8)
   ·rw [if_pos c6] at H
    have c6b0 : (t121.toList == ([4,2,64,64] : List UInt8)) = true:=beq_iff_eq.mpr c6
    have c6b1 : (t121.toList != ([4,2,64,64] : List UInt8)) = false:=bne_eq_false_iff_eq.mpr c6
    clear c6
    by_cases c7 : (t123 == t108 && (t124 == t109 && (t125 == 64 && (t126 == t111 && (t127 == t112 && (t128 == t113 && (t129 == t114 && (t130 == t115 && (t131 == t116 && (t132 == t117 && (t133 == t118 && (t134.toList == t119.toList)))))))))))) = true
    ·rw [if_pos c7] at H
     have c7b0 : (t123 == t108 && (t124 == t109 && (t125 == 64 && (t126 == t111 && (t127 == t112 && (t128 == t113 && (t129 == t114 && (t130 == t115 && (t131 == t116 && (t132 == t117 && (t133 == t118 && (t134.toList == t119.toList)))))))))))) = true:=c7
     have c7q:=c7
     simp only [Bool.not_false,Bool.not_true,Bool.true_and,Bool.and_eq_true,Bool.or_eq_false_iff,Bool.not_eq_eq_eq_not,beq_iff_eq] at c7q
     replace c7q:=eq_true c7q
     (try (have c7b1 : decide (t123 = t108 && (t124 == t109 && (t125 == 64 && (t126 == t111 && (t127 == t112 && (t128 == t113 && (t129 == t114 && (t130 == t115 && (t131 == t116 && (t132 == t117 && (t133 == t118 && (t134.toList == t119.toList)))))))))))) = true:=by simpa using c7))
     (try (have c7b2 : (t123 == t108 && (t124 == t109 && (t125 == 64 && (t126 == t111 && (t127 == t112 && (t128 == t113 && (t129 == t114 && (t130 == t115 && (t131 == t116 && (t132 == t117 && (t133 == t118 && (t134.toList == t119.toList)))))))))))) = true:=by simpa using c7))
     clear c7
     replace H:=Option.bind_eq_some_iff.mp H
     obtain ⟨t137,A80,H⟩:=H
     replace H : (some (t137 == 50)) = some r:=H
     have A8:=am_ A80
     clear A80
     obtain rfl:=Option.some.inj H
     go_enter Tryd.func8,Tryd.ntmps8
     go_wp2_with (first|((with_reducible refine gate_callee (f:=15) rfl ?_);refine goesL_ (some 6) rfl rfl Tryd.func15 (by kernel_rfl) rfl #[] rfl (by (try simp only [List.map_toArray,List.map_cons,List.map_nil]);first|done|rfl|(simp only [List.length_drop,List.length_take];rfl)) ?_;(with_reducible refine (params_Default.calls  t108 t109 t110 t111 t112 t113 t114 t115 t116 t117 t118 t119 _ A1.out).mono ?_);rintro e w9 ⟨rfl,hb⟩;refine ⟨_,rfl,?_⟩;have n0_:=am_ (below_step (by repeat (first|(with_reducible first|exact HB.out|apply ba_|apply pn_|apply pd_)|exact HB.out)) hb);clear HB;have HB:=n0_;clear n0_;(try clear hb);(try clear hb2);(try clear hk);(try clear hi))|((with_reducible refine gate_dst (N:=1) rfl ?_);refine box_event ?hg (N:=1) ?hd (cs:=kk0_) (t:=24) ?hr ?_;(case hd => rfl);(case hg => rfl);(case hr => first|(go_simp;done)|(go_simp;rfl));intro gb120 hg w10 hbox hb;have n0_:=am_ (below_step (by repeat (first|(with_reducible first|exact HB.out|apply ba_|apply pn_|apply pd_)|exact HB.out)) hb);have n1_:=am_ (hbox);have n2_:=am_ ((by rw [hg];exact (below_size (by repeat (first|(with_reducible first|exact HB.out|apply ba_|apply pn_|apply pd_)|exact HB.out))) : w.heap.size ≤ gb120));have n3_:=am_ ((by rw [hg];exact (below_size (by repeat (first|(with_reducible first|exact HB.out|apply ba_|apply pn_|apply pd_)|exact HB.out))) : w.heap.size ≤ gb120));clear HB;have HB:=n0_;have BK120:=n1_;have GW120:=n2_;have GE120:=n3_;clear n0_ n1_ n2_ n3_;clear hb hbox hg;have hcz11_0 : w10.cell? ⟨gb120,0,none⟩ = some (.int .u64 0):=(kc_ BK120.out 0).trans rfl;have hcz11_1 : w10.cell? ⟨gb120,1,none⟩ = some (.int .u64 0):=(kc_ BK120.out 1).trans rfl;have hcz11_2 : w10.cell? ⟨gb120,2,none⟩ = some (.int .u64 0):=(kc_ BK120.out 2).trans rfl;have hcz11_3 : w10.cell? ⟨gb120,3,none⟩ = some (.int .u64 0):=(kc_ BK120.out 3).trans rfl;have hcz11_4 : w10.cell? ⟨gb120,4,none⟩ = some (.int .u64 0):=(kc_ BK120.out 4).trans rfl;have hcz11_5 : w10.cell? ⟨gb120,5,none⟩ = some (.int .u64 0):=(kc_ BK120.out 5).trans rfl;have hcz11_6 : w10.cell? ⟨gb120,6,none⟩ = some (.int .u64 0):=(kc_ BK120.out 6).trans rfl;have hcz11_7 : w10.cell? ⟨gb120,7,none⟩ = some (.int .u64 0):=(kc_ BK120.out 7).trans rfl;have hcz11_8 : w10.cell? ⟨gb120,8,none⟩ = some (.int .u64 0):=(kc_ BK120.out 8).trans rfl;have hcz11_9 : w10.cell? ⟨gb120,9,none⟩ = some (.int .u64 0):=(kc_ BK120.out 9).trans rfl;have hcz11_10 : w10.cell? ⟨gb120,10,none⟩ = some (.int .u64 0):=(kc_ BK120.out 10).trans rfl;have hcz11_11 : w10.cell? ⟨gb120,11,none⟩ = some (.string (⟨#[]⟩ : ByteArray)):=(kc_ BK120.out 11).trans rfl;have hfz11_0:=blk_frozen BK120.out 0;have hfz11_1:=blk_frozen BK120.out 1;have hfz11_2:=blk_frozen BK120.out 2;have hfz11_3:=blk_frozen BK120.out 3;have hfz11_4:=blk_frozen BK120.out 4;have hfz11_5:=blk_frozen BK120.out 5;have hfz11_6:=blk_frozen BK120.out 6;have hfz11_7:=blk_frozen BK120.out 7;have hfz11_8:=blk_frozen BK120.out 8;have hfz11_9:=blk_frozen BK120.out 9;have hfz11_10:=blk_frozen BK120.out 10;have hfz11_11:=blk_frozen BK120.out 11; skip)|((with_reducible refine gate_callee (f:=9) rfl ?_);refine goesL_ (some 10) rfl rfl Tryd.func9 (by kernel_rfl) rfl #[.agg #[.int .u64 t108,.int .u64 t109,.int .u64 64,.int .u64 t111,.int .u64 t112,.int .u64 t113,.int .u64 t114,.int .u64 t115,.int .u64 t116,.int .u64 t117,.int .u64 t118,.string t119]] rfl (by (try simp only [List.map_toArray,List.map_cons,List.map_nil]);first|done|rfl|(simp only [List.length_drop,List.length_take];rfl)) ?_;(with_reducible refine (params_Put.calls t108 t109 64 t111 t112 t113 t114 t115 t116 t117 t118 t119 t121 t122 _ (by first|exact HTab.out|exact tab_below HTab.out HB.out|exact tab_below HTab.out (by repeat (first|exact HB.out|exact Below.refl _ _|apply ba_|apply pn_|apply pd_|refine bs_ ?_ GE120.out|refine bs_ ?_ GE136.out))) A2.out).mono ?_);rintro e w12 ⟨rfl,hb⟩;refine ⟨_,rfl,?_⟩;have n0_:=am_ (blk_below (g:=gb120) (o:=.cells #[.int .u64 t108,.int .u64 t109,.int .u64 64,.int .u64 t111,.int .u64 t112,.int .u64 t113,.int .u64 t114,.int .u64 t115,.int .u64 t116,.int .u64 t117,.int .u64 t118,.string t119] 24 (0,0)) (by (with_reducible repeat (first|refine kn_ ?_ _|refine kd_ ?_|refine ka_ ?_ _));refine blk_put (cs:=#[.int .u64 t108,.int .u64 t109,.int .u64 t110,.int .u64 t111,.int .u64 t112,.int .u64 t113,.int .u64 t114,.int .u64 t115,.int .u64 t116,.int .u64 t117,.int .u64 t118,.string t119]) ?_ 2 _ rfl;(with_reducible repeat (first|refine kn_ ?_ _|refine kd_ ?_|refine ka_ ?_ _));refine blk_put (cs:=#[.int .u64 t108,.int .u64 t109,.int .u64 t110,.int .u64 t111,.int .u64 t112,.int .u64 t113,.int .u64 t114,.int .u64 t115,.int .u64 t116,.int .u64 t117,.int .u64 t118,.string (⟨#[]⟩ : ByteArray)]) ?_ 11 _ rfl;(with_reducible repeat (first|refine kn_ ?_ _|refine kd_ ?_|refine ka_ ?_ _));refine blk_put (cs:=#[.int .u64 t108,.int .u64 t109,.int .u64 t110,.int .u64 t111,.int .u64 t112,.int .u64 t113,.int .u64 t114,.int .u64 t115,.int .u64 t116,.int .u64 t117,.int .u64 0,.string (⟨#[]⟩ : ByteArray)]) ?_ 10 _ rfl;(with_reducible repeat (first|refine kn_ ?_ _|refine kd_ ?_|refine ka_ ?_ _));refine blk_put (cs:=#[.int .u64 t108,.int .u64 t109,.int .u64 t110,.int .u64 t111,.int .u64 t112,.int .u64 t113,.int .u64 t114,.int .u64 t115,.int .u64 t116,.int .u64 0,.int .u64 0,.string (⟨#[]⟩ : ByteArray)]) ?_ 9 _ rfl;(with_reducible repeat (first|refine kn_ ?_ _|refine kd_ ?_|refine ka_ ?_ _));refine blk_put (cs:=#[.int .u64 t108,.int .u64 t109,.int .u64 t110,.int .u64 t111,.int .u64 t112,.int .u64 t113,.int .u64 t114,.int .u64 t115,.int .u64 0,.int .u64 0,.int .u64 0,.string (⟨#[]⟩ : ByteArray)]) ?_ 8 _ rfl;(with_reducible repeat (first|refine kn_ ?_ _|refine kd_ ?_|refine ka_ ?_ _));refine blk_put (cs:=#[.int .u64 t108,.int .u64 t109,.int .u64 t110,.int .u64 t111,.int .u64 t112,.int .u64 t113,.int .u64 t114,.int .u64 0,.int .u64 0,.int .u64 0,.int .u64 0,.string (⟨#[]⟩ : ByteArray)]) ?_ 7 _ rfl;(with_reducible repeat (first|refine kn_ ?_ _|refine kd_ ?_|refine ka_ ?_ _));refine blk_put (cs:=#[.int .u64 t108,.int .u64 t109,.int .u64 t110,.int .u64 t111,.int .u64 t112,.int .u64 t113,.int .u64 0,.int .u64 0,.int .u64 0,.int .u64 0,.int .u64 0,.string (⟨#[]⟩ : ByteArray)]) ?_ 6 _ rfl;(with_reducible repeat (first|refine kn_ ?_ _|refine kd_ ?_|refine ka_ ?_ _));refine blk_put (cs:=#[.int .u64 t108,.int .u64 t109,.int .u64 t110,.int .u64 t111,.int .u64 t112,.int .u64 0,.int .u64 0,.int .u64 0,.int .u64 0,.int .u64 0,.int .u64 0,.string (⟨#[]⟩ : ByteArray)]) ?_ 5 _ rfl;(with_reducible repeat (first|refine kn_ ?_ _|refine kd_ ?_|refine ka_ ?_ _));refine blk_put (cs:=#[.int .u64 t108,.int .u64 t109,.int .u64 t110,.int .u64 t111,.int .u64 0,.int .u64 0,.int .u64 0,.int .u64 0,.int .u64 0,.int .u64 0,.int .u64 0,.string (⟨#[]⟩ : ByteArray)]) ?_ 4 _ rfl;(with_reducible repeat (first|refine kn_ ?_ _|refine kd_ ?_|refine ka_ ?_ _));refine blk_put (cs:=#[.int .u64 t108,.int .u64 t109,.int .u64 t110,.int .u64 0,.int .u64 0,.int .u64 0,.int .u64 0,.int .u64 0,.int .u64 0,.int .u64 0,.int .u64 0,.string (⟨#[]⟩ : ByteArray)]) ?_ 3 _ rfl;(with_reducible repeat (first|refine kn_ ?_ _|refine kd_ ?_|refine ka_ ?_ _));refine blk_put (cs:=#[.int .u64 t108,.int .u64 t109,.int .u64 0,.int .u64 0,.int .u64 0,.int .u64 0,.int .u64 0,.int .u64 0,.int .u64 0,.int .u64 0,.int .u64 0,.string (⟨#[]⟩ : ByteArray)]) ?_ 2 _ rfl;(with_reducible repeat (first|refine kn_ ?_ _|refine kd_ ?_|refine ka_ ?_ _));refine blk_put (cs:=#[.int .u64 t108,.int .u64 0,.int .u64 0,.int .u64 0,.int .u64 0,.int .u64 0,.int .u64 0,.int .u64 0,.int .u64 0,.int .u64 0,.int .u64 0,.string (⟨#[]⟩ : ByteArray)]) ?_ 1 _ rfl;(with_reducible repeat (first|refine kn_ ?_ _|refine kd_ ?_|refine ka_ ?_ _));refine blk_put (cs:=kk0_) ?_ 0 _ rfl;(with_reducible repeat (first|refine kn_ ?_ _|refine kd_ ?_|refine ka_ ?_ _));exact BK120.out) hb);have n1_:=am_ (below_step (by repeat (first|(with_reducible first|exact HB.out|apply ba_|apply pn_|apply pd_|refine bs_ ?_ GE120.out)|exact HB.out)) hb);clear BK120;clear HB;have BK120:=n0_;have HB:=n1_;clear n0_ n1_;(try clear hb);(try clear hb2);(try clear hk);(try clear hi))|((with_reducible refine gate_callee (f:=11) rfl ?_);refine goesL_ (some 15) rfl rfl Tryd.func11 (by kernel_rfl) rfl #[.string t121] rfl (by (try simp only [List.map_toArray,List.map_cons,List.map_nil]);first|done|rfl|(simp only [List.length_drop,List.length_take];rfl)) ?_;(with_reducible refine (params_Get.calls k t121 t123 t124 t125 t126 t127 t128 t129 t130 t131 t132 t133 t134 t135 _ A3.out).mono ?_);rintro e w13 ⟨rfl,hb⟩;refine ⟨_,rfl,?_⟩;have n0_:=am_ (blk_below (g:=gb120) (o:=.cells #[.int .u64 t108,.int .u64 t109,.int .u64 64,.int .u64 t111,.int .u64 t112,.int .u64 t113,.int .u64 t114,.int .u64 t115,.int .u64 t116,.int .u64 t117,.int .u64 t118,.string t119] 24 (0,0)) (by (with_reducible repeat (first|refine kn_ ?_ _|refine kd_ ?_|refine ka_ ?_ _));exact BK120.out) hb);have n1_:=am_ (below_step (by repeat (first|(with_reducible first|exact HB.out|apply ba_|apply pn_|apply pd_|refine bs_ ?_ GE120.out)|exact HB.out)) hb);clear BK120;clear HB;have BK120:=n0_;have HB:=n1_;clear n0_ n1_;(try clear hb);(try clear hb2);(try clear hk);(try clear hi))|((with_reducible refine gate_dst (N:=4) rfl ?_);refine box_event ?hg (N:=4) ?hd (cs:=kk0_) (t:=24) ?hr ?_;(case hd => rfl);(case hg => rfl);(case hr => first|(go_simp;done)|(go_simp;rfl));intro gb136 hg w14 hbox hb;have n0_:=am_ (blk_below (g:=gb120) (o:=.cells #[.int .u64 t108,.int .u64 t109,.int .u64 64,.int .u64 t111,.int .u64 t112,.int .u64 t113,.int .u64 t114,.int .u64 t115,.int .u64 t116,.int .u64 t117,.int .u64 t118,.string t119] 24 (0,0)) (by (with_reducible repeat (first|refine kn_ ?_ _|refine kd_ ?_|refine ka_ ?_ _));exact BK120.out) hb);have n1_:=am_ (below_step (by repeat (first|(with_reducible first|exact HB.out|apply ba_|apply pn_|apply pd_|refine bs_ ?_ GE120.out)|exact HB.out)) hb);have n2_:=am_ (hbox);have n3_:=am_ ((by rw [hg];exact (below_size (by repeat (first|(with_reducible first|exact HB.out|apply ba_|apply pn_|apply pd_|refine bs_ ?_ GE120.out)|exact HB.out))) : w.heap.size ≤ gb136));have n4_:=am_ ((by rw [hg];exact (below_size (by repeat (first|(with_reducible first|exact HB.out|apply ba_|apply pn_|apply pd_|refine bs_ ?_ GE120.out)|exact HB.out))) : w.heap.size ≤ gb136));have n5_:=am_ ((by rw [hg];exact Nat.ne_of_lt (blk_lt (g:=gb120) (o:=.cells #[.int .u64 t108,.int .u64 t109,.int .u64 64,.int .u64 t111,.int .u64 t112,.int .u64 t113,.int .u64 t114,.int .u64 t115,.int .u64 t116,.int .u64 t117,.int .u64 t118,.string t119] 24 (0,0)) (by (with_reducible repeat (first|refine kn_ ?_ _|refine kd_ ?_|refine ka_ ?_ _));exact BK120.out)) : gb120 ≠ gb136));have n6_:=am_ ((by rw [hg];exact Nat.ne_of_gt (blk_lt (g:=gb120) (o:=.cells #[.int .u64 t108,.int .u64 t109,.int .u64 64,.int .u64 t111,.int .u64 t112,.int .u64 t113,.int .u64 t114,.int .u64 t115,.int .u64 t116,.int .u64 t117,.int .u64 t118,.string t119] 24 (0,0)) (by (with_reducible repeat (first|refine kn_ ?_ _|refine kd_ ?_|refine ka_ ?_ _));exact BK120.out)) : gb136 ≠ gb120));clear BK120;clear HB;have BK120:=n0_;have HB:=n1_;have BK136:=n2_;have GW136:=n3_;have GE136:=n4_;have NB120_136:=n5_;have NB136_120:=n6_;clear n0_ n1_ n2_ n3_ n4_ n5_ n6_;clear hb hbox hg;have hnb15:=NB136_120.out;have hnc15:=NB120_136.out;have hcz16_0 : w14.cell? ⟨gb136,0,none⟩ = some (.int .u64 0):=(kc_ BK136.out 0).trans rfl;have hcz16_1 : w14.cell? ⟨gb136,1,none⟩ = some (.int .u64 0):=(kc_ BK136.out 1).trans rfl;have hcz16_2 : w14.cell? ⟨gb136,2,none⟩ = some (.int .u64 0):=(kc_ BK136.out 2).trans rfl;have hcz16_3 : w14.cell? ⟨gb136,3,none⟩ = some (.int .u64 0):=(kc_ BK136.out 3).trans rfl;have hcz16_4 : w14.cell? ⟨gb136,4,none⟩ = some (.int .u64 0):=(kc_ BK136.out 4).trans rfl;have hcz16_5 : w14.cell? ⟨gb136,5,none⟩ = some (.int .u64 0):=(kc_ BK136.out 5).trans rfl;have hcz16_6 : w14.cell? ⟨gb136,6,none⟩ = some (.int .u64 0):=(kc_ BK136.out 6).trans rfl;have hcz16_7 : w14.cell? ⟨gb136,7,none⟩ = some (.int .u64 0):=(kc_ BK136.out 7).trans rfl;have hcz16_8 : w14.cell? ⟨gb136,8,none⟩ = some (.int .u64 0):=(kc_ BK136.out 8).trans rfl;have hcz16_9 : w14.cell? ⟨gb136,9,none⟩ = some (.int .u64 0):=(kc_ BK136.out 9).trans rfl;have hcz16_10 : w14.cell? ⟨gb136,10,none⟩ = some (.int .u64 0):=(kc_ BK136.out 10).trans rfl;have hcz16_11 : w14.cell? ⟨gb136,11,none⟩ = some (.string (⟨#[]⟩ : ByteArray)):=(kc_ BK136.out 11).trans rfl;have hfz16_0:=blk_frozen BK136.out 0;have hfz16_1:=blk_frozen BK136.out 1;have hfz16_2:=blk_frozen BK136.out 2;have hfz16_3:=blk_frozen BK136.out 3;have hfz16_4:=blk_frozen BK136.out 4;have hfz16_5:=blk_frozen BK136.out 5;have hfz16_6:=blk_frozen BK136.out 6;have hfz16_7:=blk_frozen BK136.out 7;have hfz16_8:=blk_frozen BK136.out 8;have hfz16_9:=blk_frozen BK136.out 9;have hfz16_10:=blk_frozen BK136.out 10;have hfz16_11:=blk_frozen BK136.out 11;have hcz17_0 : w14.cell? ⟨gb120,0,none⟩ = some (.int .u64 t108):=(kc_ BK120.out 0).trans rfl;have hcz17_1 : w14.cell? ⟨gb120,1,none⟩ = some (.int .u64 t109):=(kc_ BK120.out 1).trans rfl;have hcz17_2 : w14.cell? ⟨gb120,2,none⟩ = some (.int .u64 64):=(kc_ BK120.out 2).trans rfl;have hcz17_3 : w14.cell? ⟨gb120,3,none⟩ = some (.int .u64 t111):=(kc_ BK120.out 3).trans rfl;have hcz17_4 : w14.cell? ⟨gb120,4,none⟩ = some (.int .u64 t112):=(kc_ BK120.out 4).trans rfl;have hcz17_5 : w14.cell? ⟨gb120,5,none⟩ = some (.int .u64 t113):=(kc_ BK120.out 5).trans rfl;have hcz17_6 : w14.cell? ⟨gb120,6,none⟩ = some (.int .u64 t114):=(kc_ BK120.out 6).trans rfl;have hcz17_7 : w14.cell? ⟨gb120,7,none⟩ = some (.int .u64 t115):=(kc_ BK120.out 7).trans rfl;have hcz17_8 : w14.cell? ⟨gb120,8,none⟩ = some (.int .u64 t116):=(kc_ BK120.out 8).trans rfl;have hcz17_9 : w14.cell? ⟨gb120,9,none⟩ = some (.int .u64 t117):=(kc_ BK120.out 9).trans rfl;have hcz17_10 : w14.cell? ⟨gb120,10,none⟩ = some (.int .u64 t118):=(kc_ BK120.out 10).trans rfl;have hcz17_11 : w14.cell? ⟨gb120,11,none⟩ = some (.string t119):=(kc_ BK120.out 11).trans rfl;have hfz17_0:=blk_frozen BK120.out 0;have hfz17_1:=blk_frozen BK120.out 1;have hfz17_2:=blk_frozen BK120.out 2;have hfz17_3:=blk_frozen BK120.out 3;have hfz17_4:=blk_frozen BK120.out 4;have hfz17_5:=blk_frozen BK120.out 5;have hfz17_6:=blk_frozen BK120.out 6;have hfz17_7:=blk_frozen BK120.out 7;have hfz17_8:=blk_frozen BK120.out 8;have hfz17_9:=blk_frozen BK120.out 9;have hfz17_10:=blk_frozen BK120.out 10;have hfz17_11:=blk_frozen BK120.out 11; skip)|(go_at_call 13;(with_reducible refine (params_Check.calls 0 0 0 0 0 0 0 0 0 0 0 (⟨#[]⟩ : ByteArray) t137 _ A8.out).mono ?_);rintro e w18 ⟨rfl,hb⟩;have n0_:=am_ (blk_below (g:=gb120) (o:=.cells #[.int .u64 t108,.int .u64 t109,.int .u64 64,.int .u64 t111,.int .u64 t112,.int .u64 t113,.int .u64 t114,.int .u64 t115,.int .u64 t116,.int .u64 t117,.int .u64 t118,.string t119] 24 (0,0)) (by (with_reducible repeat (first|refine kn_ ?_ _|refine kd_ ?_|refine ka_ ?_ _));refine blk_far ?_ NB120_136.out _;(with_reducible repeat (first|refine kn_ ?_ _|refine kd_ ?_|refine ka_ ?_ _));refine blk_far ?_ NB120_136.out _;(with_reducible repeat (first|refine kn_ ?_ _|refine kd_ ?_|refine ka_ ?_ _));refine blk_far ?_ NB120_136.out _;(with_reducible repeat (first|refine kn_ ?_ _|refine kd_ ?_|refine ka_ ?_ _));refine blk_far ?_ NB120_136.out _;(with_reducible repeat (first|refine kn_ ?_ _|refine kd_ ?_|refine ka_ ?_ _));refine blk_far ?_ NB120_136.out _;(with_reducible repeat (first|refine kn_ ?_ _|refine kd_ ?_|refine ka_ ?_ _));refine blk_far ?_ NB120_136.out _;(with_reducible repeat (first|refine kn_ ?_ _|refine kd_ ?_|refine ka_ ?_ _));refine blk_far ?_ NB120_136.out _;(with_reducible repeat (first|refine kn_ ?_ _|refine kd_ ?_|refine ka_ ?_ _));refine blk_far ?_ NB120_136.out _;(with_reducible repeat (first|refine kn_ ?_ _|refine kd_ ?_|refine ka_ ?_ _));refine blk_far ?_ NB120_136.out _;(with_reducible repeat (first|refine kn_ ?_ _|refine kd_ ?_|refine ka_ ?_ _));refine blk_far ?_ NB120_136.out _;(with_reducible repeat (first|refine kn_ ?_ _|refine kd_ ?_|refine ka_ ?_ _));refine blk_far ?_ NB120_136.out _;(with_reducible repeat (first|refine kn_ ?_ _|refine kd_ ?_|refine ka_ ?_ _));refine blk_far ?_ NB120_136.out _;(with_reducible repeat (first|refine kn_ ?_ _|refine kd_ ?_|refine ka_ ?_ _));exact BK120.out) hb);have n1_:=am_ (blk_below (g:=gb136) (o:=.cells #[.int .u64 t123,.int .u64 t124,.int .u64 t125,.int .u64 t126,.int .u64 t127,.int .u64 t128,.int .u64 t129,.int .u64 t130,.int .u64 t131,.int .u64 t132,.int .u64 t133,.string t134] 24 (0,0)) (by (with_reducible repeat (first|refine kn_ ?_ _|refine kd_ ?_|refine ka_ ?_ _));refine blk_put (cs:=#[.int .u64 t123,.int .u64 t124,.int .u64 t125,.int .u64 t126,.int .u64 t127,.int .u64 t128,.int .u64 t129,.int .u64 t130,.int .u64 t131,.int .u64 t132,.int .u64 t133,.string (⟨#[]⟩ : ByteArray)]) ?_ 11 _ rfl;(with_reducible repeat (first|refine kn_ ?_ _|refine kd_ ?_|refine ka_ ?_ _));refine blk_put (cs:=#[.int .u64 t123,.int .u64 t124,.int .u64 t125,.int .u64 t126,.int .u64 t127,.int .u64 t128,.int .u64 t129,.int .u64 t130,.int .u64 t131,.int .u64 t132,.int .u64 0,.string (⟨#[]⟩ : ByteArray)]) ?_ 10 _ rfl;(with_reducible repeat (first|refine kn_ ?_ _|refine kd_ ?_|refine ka_ ?_ _));refine blk_put (cs:=#[.int .u64 t123,.int .u64 t124,.int .u64 t125,.int .u64 t126,.int .u64 t127,.int .u64 t128,.int .u64 t129,.int .u64 t130,.int .u64 t131,.int .u64 0,.int .u64 0,.string (⟨#[]⟩ : ByteArray)]) ?_ 9 _ rfl;(with_reducible repeat (first|refine kn_ ?_ _|refine kd_ ?_|refine ka_ ?_ _));refine blk_put (cs:=#[.int .u64 t123,.int .u64 t124,.int .u64 t125,.int .u64 t126,.int .u64 t127,.int .u64 t128,.int .u64 t129,.int .u64 t130,.int .u64 0,.int .u64 0,.int .u64 0,.string (⟨#[]⟩ : ByteArray)]) ?_ 8 _ rfl;(with_reducible repeat (first|refine kn_ ?_ _|refine kd_ ?_|refine ka_ ?_ _));refine blk_put (cs:=#[.int .u64 t123,.int .u64 t124,.int .u64 t125,.int .u64 t126,.int .u64 t127,.int .u64 t128,.int .u64 t129,.int .u64 0,.int .u64 0,.int .u64 0,.int .u64 0,.string (⟨#[]⟩ : ByteArray)]) ?_ 7 _ rfl;(with_reducible repeat (first|refine kn_ ?_ _|refine kd_ ?_|refine ka_ ?_ _));refine blk_put (cs:=#[.int .u64 t123,.int .u64 t124,.int .u64 t125,.int .u64 t126,.int .u64 t127,.int .u64 t128,.int .u64 0,.int .u64 0,.int .u64 0,.int .u64 0,.int .u64 0,.string (⟨#[]⟩ : ByteArray)]) ?_ 6 _ rfl;(with_reducible repeat (first|refine kn_ ?_ _|refine kd_ ?_|refine ka_ ?_ _));refine blk_put (cs:=#[.int .u64 t123,.int .u64 t124,.int .u64 t125,.int .u64 t126,.int .u64 t127,.int .u64 0,.int .u64 0,.int .u64 0,.int .u64 0,.int .u64 0,.int .u64 0,.string (⟨#[]⟩ : ByteArray)]) ?_ 5 _ rfl;(with_reducible repeat (first|refine kn_ ?_ _|refine kd_ ?_|refine ka_ ?_ _));refine blk_put (cs:=#[.int .u64 t123,.int .u64 t124,.int .u64 t125,.int .u64 t126,.int .u64 0,.int .u64 0,.int .u64 0,.int .u64 0,.int .u64 0,.int .u64 0,.int .u64 0,.string (⟨#[]⟩ : ByteArray)]) ?_ 4 _ rfl;(with_reducible repeat (first|refine kn_ ?_ _|refine kd_ ?_|refine ka_ ?_ _));refine blk_put (cs:=#[.int .u64 t123,.int .u64 t124,.int .u64 t125,.int .u64 0,.int .u64 0,.int .u64 0,.int .u64 0,.int .u64 0,.int .u64 0,.int .u64 0,.int .u64 0,.string (⟨#[]⟩ : ByteArray)]) ?_ 3 _ rfl;(with_reducible repeat (first|refine kn_ ?_ _|refine kd_ ?_|refine ka_ ?_ _));refine blk_put (cs:=#[.int .u64 t123,.int .u64 t124,.int .u64 0,.int .u64 0,.int .u64 0,.int .u64 0,.int .u64 0,.int .u64 0,.int .u64 0,.int .u64 0,.int .u64 0,.string (⟨#[]⟩ : ByteArray)]) ?_ 2 _ rfl;(with_reducible repeat (first|refine kn_ ?_ _|refine kd_ ?_|refine ka_ ?_ _));refine blk_put (cs:=#[.int .u64 t123,.int .u64 0,.int .u64 0,.int .u64 0,.int .u64 0,.int .u64 0,.int .u64 0,.int .u64 0,.int .u64 0,.int .u64 0,.int .u64 0,.string (⟨#[]⟩ : ByteArray)]) ?_ 1 _ rfl;(with_reducible repeat (first|refine kn_ ?_ _|refine kd_ ?_|refine ka_ ?_ _));refine blk_put (cs:=kk0_) ?_ 0 _ rfl;(with_reducible repeat (first|refine kn_ ?_ _|refine kd_ ?_|refine ka_ ?_ _));exact BK136.out) hb);have n2_:=am_ (below_step (by repeat (first|(with_reducible first|exact HB.out|apply ba_|apply pn_|apply pd_|refine bs_ ?_ GE120.out|refine bs_ ?_ GE136.out)|exact HB.out)) hb);clear BK120;clear BK136;clear HB;have BK120:=n0_;have BK136:=n1_;have HB:=n2_;clear n0_ n1_ n2_;(try clear hb);(try clear hb2);(try clear hk);(try clear hi)))
     go_ret
     exact ⟨by first|rfl|(have hq_:=of_eq_true c7q;simp [errW_none,errW_some,hq_,bne];done)|(have hq_:=of_eq_true c7q;simp [errW_none,errW_some,hq_,bne];rfl)|(simp [errW_none,errW_some] <;> rfl)|(simp [*,errW_none,errW_some] <;> rfl),by repeat (first|(with_reducible first|exact HB.out|apply ba_|apply pn_|apply pd_|refine bs_ ?_ GE120.out|refine bs_ ?_ GE136.out)|exact HB.out)⟩
    ·rw [if_neg c7] at H
     exact absurd H (by simp)
   ·rw [if_neg c6] at H
    exact absurd H (by simp)
  ·rw [if_neg c5] at H
   exact absurd H (by simp)
 ·rw [if_neg c4] at H
  exact absurd H (by simp)

end Go.Proofs.YthbnedjcaflofaaDoor.PPax
