-- printed for this claim by a program of the claim (wip/tools/pp.py over the kit's print)
import Derived.Test.YtocagkmnefkniaaPSqcx0
import Derived.Test.YtocagkmnefkniaaPSqcx2
import Derived.Test.YtocagkmnefkniaaPSqcx4
import Derived.Test.YtocagkmnefkniaaPSqcx5
import Derived.Test.YtocagkmnefkniaaPSqcx8
import Derived.Test.YtocagkmnefkniaaPSqcx9
namespace Go.Proofs.Ytocagkmnefkniaa.PSqc
open Go.RowKit Go.Proofs.YtocagkmnefkniaaW.PrintWords Go.Proofs.YtocagkmnefkniaaW.PrintLast Go.Proofs.YtocagkmnefkniaaW.PrintMore
attribute [local go_sem] max2_int min2_int max_two min_two max_three min_three max_four min_four   -- for this text's walks alone
set_option linter.unusedVariables false
set_option linter.unusedSimpArgs false

attribute [local go_sem] isSome_setCell_
/-! ### dominolaw15_SendqEnd: function 6 -/
mutual
def dominolaw15_SendqEnd.j0 : Nat → ByteArray → Int → Bool → Bool → Option (Bool)
 | 0,_,_,_,_ => none
 | k + 1,x0,x1,x2,x26 => if x26 = true then ((dominolaw15_shown.f k).bind fun t236 => (some t236)) else ((sendq_Write.f k 0 0 (⟨#[]⟩ : ByteArray) ([] : List (S67)) ([] : List (S67)) false false false x0 500).bind fun bt237 => (if x2 = true then (dominolaw15_SendqEnd.j1 k x0 x1 x2 bt237.1 bt237.2.1 bt237.2.2.1 bt237.2.2.2.1 bt237.2.2.2.2.1 bt237.2.2.2.2.2.1 bt237.2.2.2.2.2.2.1 bt237.2.2.2.2.2.2.2.1) else ((sendq_Finish.f bt237.1 bt237.2.1 bt237.2.2.1 bt237.2.2.2.1 bt237.2.2.2.2.1 bt237.2.2.2.2.2.1 bt237.2.2.2.2.2.2.1 bt237.2.2.2.2.2.2.2.1).bind fun bt251 => (dominolaw15_SendqEnd.j1 k x0 x1 x2 bt251.1 bt251.2.1 bt251.2.2.1 bt251.2.2.2.1 bt251.2.2.2.2.1 bt251.2.2.2.2.2.1 bt251.2.2.2.2.2.2.1 bt251.2.2.2.2.2.2.2))))
def dominolaw15_SendqEnd.j1 : Nat → ByteArray → Int → Bool → Int → Int → ByteArray → List (S67) → List (S67) → Bool → Bool → Bool → Option (Bool)
 | 0,_,_,_,_,_,_,_,_,_,_,_ => none
 | k + 1,x0,x1,x2,x251000,x251001,x251002,x251003,x251004,x251005,x251006,x251007 => dominolaw15_SendqEnd.l0 k x0 x2 (wrap64 (1 + (Int.tmod (wrap64 (x1)) 50))) 0 x251000 x251001 x251002 x251003 x251004 x251005 x251006 x251007
def dominolaw15_SendqEnd.j4 : Nat → ByteArray → Bool → Int → Int → Int → ByteArray → List (S67) → List (S67) → Bool → Bool → Bool → Option (Bool)
 | 0,_,_,_,_,_,_,_,_,_,_,_ => none
 | k + 1,x0,x2,x9,x251000,x251001,x251002,x251003,x251004,x251005,x251006,x251007 => if x2 = true then ((sendq_Finish.f x251000 x251001 x251002 x251003 x251004 x251005 x251006 x251007).bind fun bt293 => ((sendq_Next.f bt293.1 bt293.2.1 bt293.2.2.1 bt293.2.2.2.1 bt293.2.2.2.2.1 bt293.2.2.2.2.2.1 bt293.2.2.2.2.2.2.1 bt293.2.2.2.2.2.2.2 x9 0).bind fun bt305 => ((sendq_Done.f bt293.1 bt293.2.1 bt293.2.2.1 bt293.2.2.2.1 bt293.2.2.2.2.1 bt293.2.2.2.2.2.1 bt293.2.2.2.2.2.2.1 bt293.2.2.2.2.2.2.2).bind fun t309 => (if t309 = true then (none) else (if bt305.1 = (IntKind.u64.wrap ((x0.size : Int))) then (if bt305.2.1.toList = ([] : List UInt8) then (if bt305.2.2.1 = true then (if bt305.2.2.2 = true then ((sendq_Sent.f k bt293.1 bt293.2.1 bt293.2.2.1 bt293.2.2.2.1 bt293.2.2.2.2.1 bt293.2.2.2.2.2.1 bt293.2.2.2.2.2.2.1 bt293.2.2.2.2.2.2.2 bt305.1 0 true).bind fun bt310 => ((sendq_Acked.f k bt310.1 bt310.2.1 bt310.2.2.1 bt310.2.2.2.1 bt310.2.2.2.2.1 bt310.2.2.2.2.2.1 bt310.2.2.2.2.2.2.1 bt310.2.2.2.2.2.2.2 bt305.1 0 true).bind fun bt322 => ((sendq_Done.f bt322.1 bt322.2.1 bt322.2.2.1 bt322.2.2.2.1 bt322.2.2.2.2.1 bt322.2.2.2.2.2.1 bt322.2.2.2.2.2.2.1 bt322.2.2.2.2.2.2.2).bind fun t334 => (some t334)))) else (none)) else (none)) else (none)) else (none)))))) else ((sendq_Done.f x251000 x251001 x251002 x251003 x251004 x251005 x251006 x251007).bind fun t292 => (some t292))
def dominolaw15_SendqEnd.l0 : Nat → ByteArray → Bool → Int → Int → Int → Int → ByteArray → List (S67) → List (S67) → Bool → Bool → Bool → Option (Bool)
 | 0,_,_,_,_,_,_,_,_,_,_,_,_ => none
 | k + 1,x0,x2,x9,x10,x251000,x251001,x251002,x251003,x251004,x251005,x251006,x251007 => if x10 < 250 then ((sendq_Next.f x251000 x251001 x251002 x251003 x251004 x251005 x251006 x251007 x9 1000).bind fun bt263 => (if bt263.2.2.2 = true then (if (IntKind.u64.wrap (bt263.1 + (IntKind.u64.wrap ((bt263.2.1.size : Int))))) = (IntKind.u64.wrap ((x0.size : Int))) then (dominolaw15_SendqEnd.j3 k x0 x2 x9 x10 bt263.1 bt263.2.1 bt263.2.2.1 (bt263.2.2.1 != (!x2)) x251000 x251001 x251002 x251003 x251004 x251005 x251006 x251007) else (dominolaw15_SendqEnd.j3 k x0 x2 x9 x10 bt263.1 bt263.2.1 bt263.2.2.1 (bt263.2.2.1 != false) x251000 x251001 x251002 x251003 x251004 x251005 x251006 x251007)) else (dominolaw15_SendqEnd.j4 k x0 x2 x9 x251000 x251001 x251002 x251003 x251004 x251005 x251006 x251007))) else (dominolaw15_SendqEnd.j4 k x0 x2 x9 x251000 x251001 x251002 x251003 x251004 x251005 x251006 x251007)
def dominolaw15_SendqEnd.j3 : Nat → ByteArray → Bool → Int → Int → Int → ByteArray → Bool → Bool → Int → Int → ByteArray → List (S67) → List (S67) → Bool → Bool → Bool → Option (Bool)
 | 0,_,_,_,_,_,_,_,_,_,_,_,_,_,_,_,_ => none
 | k + 1,x0,x2,x9,x10,x11,x12,x13,x71,x251000,x251001,x251002,x251003,x251004,x251005,x251006,x251007 => if x71 = true then (none) else ((sendq_Sent.f k x251000 x251001 x251002 x251003 x251004 x251005 x251006 x251007 x11 (x12.size : Int) x13).bind fun bt267 => ((sendq_Acked.f k bt267.1 bt267.2.1 bt267.2.2.1 bt267.2.2.2.1 bt267.2.2.2.2.1 bt267.2.2.2.2.2.1 bt267.2.2.2.2.2.2.1 bt267.2.2.2.2.2.2.2 x11 (x12.size : Int) x13).bind fun bt279 => ((sendq_Done.f bt279.1 bt279.2.1 bt279.2.2.1 bt279.2.2.2.1 bt279.2.2.2.2.1 bt279.2.2.2.2.2.1 bt279.2.2.2.2.2.2.1 bt279.2.2.2.2.2.2.2).bind fun t291 => (if (t291 != x13) = true then (none) else (dominolaw15_SendqEnd.l0 k x0 x2 x9 (wrap64 (x10 + 1)) bt279.1 bt279.2.1 bt279.2.2.1 bt279.2.2.2.1 bt279.2.2.2.2.1 bt279.2.2.2.2.2.1 bt279.2.2.2.2.2.2.1 bt279.2.2.2.2.2.2.2)))))
end
def dominolaw15_SendqEnd.f (k : Nat) (a0 : ByteArray) (a1 : Int) (a2 : Bool) : Option (Bool):=if (a0.size : Int) > 200 then (dominolaw15_SendqEnd.j0 k a0 a1 a2 true) else ((dominolaw15_shown.f k).bind fun t235 => (dominolaw15_SendqEnd.j0 k a0 a1 a2 (!t235)))
theorem dominolaw15_SendqEnd.mono_l : ∀ k,(∀ y0 y1 y2 y3,LeO (dominolaw15_SendqEnd.j0 k y0 y1 y2 y3) (dominolaw15_SendqEnd.j0 (k + 1) y0 y1 y2 y3)) ∧ (∀ y0 y1 y2 y3 y4 y5 y6 y7 y8 y9 y10,LeO (dominolaw15_SendqEnd.j1 k y0 y1 y2 y3 y4 y5 y6 y7 y8 y9 y10) (dominolaw15_SendqEnd.j1 (k + 1) y0 y1 y2 y3 y4 y5 y6 y7 y8 y9 y10)) ∧ (∀ y0 y1 y2 y3 y4 y5 y6 y7 y8 y9 y10,LeO (dominolaw15_SendqEnd.j4 k y0 y1 y2 y3 y4 y5 y6 y7 y8 y9 y10) (dominolaw15_SendqEnd.j4 (k + 1) y0 y1 y2 y3 y4 y5 y6 y7 y8 y9 y10)) ∧ (∀ y0 y1 y2 y3 y4 y5 y6 y7 y8 y9 y10 y11,LeO (dominolaw15_SendqEnd.l0 k y0 y1 y2 y3 y4 y5 y6 y7 y8 y9 y10 y11) (dominolaw15_SendqEnd.l0 (k + 1) y0 y1 y2 y3 y4 y5 y6 y7 y8 y9 y10 y11)) ∧ (∀ y0 y1 y2 y3 y4 y5 y6 y7 y8 y9 y10 y11 y12 y13 y14 y15,LeO (dominolaw15_SendqEnd.j3 k y0 y1 y2 y3 y4 y5 y6 y7 y8 y9 y10 y11 y12 y13 y14 y15) (dominolaw15_SendqEnd.j3 (k + 1) y0 y1 y2 y3 y4 y5 y6 y7 y8 y9 y10 y11 y12 y13 y14 y15))
 | 0 => ⟨fun _ _ _ _ r h => by simp [dominolaw15_SendqEnd.j0] at h,fun _ _ _ _ _ _ _ _ _ _ _ r h => by simp [dominolaw15_SendqEnd.j1] at h,fun _ _ _ _ _ _ _ _ _ _ _ r h => by simp [dominolaw15_SendqEnd.j4] at h,fun _ _ _ _ _ _ _ _ _ _ _ _ r h => by simp [dominolaw15_SendqEnd.l0] at h,fun _ _ _ _ _ _ _ _ _ _ _ _ _ _ _ _ r h => by simp [dominolaw15_SendqEnd.j3] at h⟩
 | k + 1 => by
  obtain ⟨ih0,ih1,ih2,ih3,ih4⟩:=dominolaw15_SendqEnd.mono_l k
  refine ⟨?_,?_,?_,?_,?_⟩
  ·intro y0 y1 y2 y3
   unfold dominolaw15_SendqEnd.j0
   repeat' first
   | (with_reducible exact ih0 _ _ _ _)
   | (with_reducible exact ih1 _ _ _ _ _ _ _ _ _ _ _)
   | (with_reducible exact ih2 _ _ _ _ _ _ _ _ _ _ _)
   | (with_reducible exact ih3 _ _ _ _ _ _ _ _ _ _ _ _)
   | (with_reducible exact ih4 _ _ _ _ _ _ _ _ _ _ _ _ _ _ _ _)
   | (with_reducible exact dominolaw15_shown.mono _)
   | (with_reducible exact sendq_Acked.mono _ _ _ _ _ _ _ _ _ _ _ _)
   | (with_reducible exact sendq_Sent.mono _ _ _ _ _ _ _ _ _ _ _ _)
   | (with_reducible exact sendq_Write.mono _ _ _ _ _ _ _ _ _ _ _)
   | (with_reducible exact LeO.refl _)
   | (with_reducible exact LeO.none _)
   | (with_reducible refine LeO.ite ?_ ?_)
   | (with_reducible refine LeO.bind ?_ (fun _ => ?_))
   | exact ih0 _ _ _ _
   | exact ih1 _ _ _ _ _ _ _ _ _ _ _
   | exact ih2 _ _ _ _ _ _ _ _ _ _ _
   | exact ih3 _ _ _ _ _ _ _ _ _ _ _ _
   | exact ih4 _ _ _ _ _ _ _ _ _ _ _ _ _ _ _ _
   | exact dominolaw15_shown.mono _
   | exact sendq_Acked.mono _ _ _ _ _ _ _ _ _ _ _ _
   | exact sendq_Sent.mono _ _ _ _ _ _ _ _ _ _ _ _
   | exact sendq_Write.mono _ _ _ _ _ _ _ _ _ _ _
   | exact LeO.none _
   | refine LeO.ite ?_ ?_
   | refine LeO.bind ?_ (fun _ => ?_)
  ·intro y0 y1 y2 y3 y4 y5 y6 y7 y8 y9 y10
   unfold dominolaw15_SendqEnd.j1
   repeat' first
   | (with_reducible exact ih0 _ _ _ _)
   | (with_reducible exact ih1 _ _ _ _ _ _ _ _ _ _ _)
   | (with_reducible exact ih2 _ _ _ _ _ _ _ _ _ _ _)
   | (with_reducible exact ih3 _ _ _ _ _ _ _ _ _ _ _ _)
   | (with_reducible exact ih4 _ _ _ _ _ _ _ _ _ _ _ _ _ _ _ _)
   | (with_reducible exact dominolaw15_shown.mono _)
   | (with_reducible exact sendq_Acked.mono _ _ _ _ _ _ _ _ _ _ _ _)
   | (with_reducible exact sendq_Sent.mono _ _ _ _ _ _ _ _ _ _ _ _)
   | (with_reducible exact sendq_Write.mono _ _ _ _ _ _ _ _ _ _ _)
   | (with_reducible exact LeO.refl _)
   | (with_reducible exact LeO.none _)
   | (with_reducible refine LeO.ite ?_ ?_)
   | (with_reducible refine LeO.bind ?_ (fun _ => ?_))
   | exact ih0 _ _ _ _
   | exact ih1 _ _ _ _ _ _ _ _ _ _ _
   | exact ih2 _ _ _ _ _ _ _ _ _ _ _
   | exact ih3 _ _ _ _ _ _ _ _ _ _ _ _
   | exact ih4 _ _ _ _ _ _ _ _ _ _ _ _ _ _ _ _
   | exact dominolaw15_shown.mono _
   | exact sendq_Acked.mono _ _ _ _ _ _ _ _ _ _ _ _
   | exact sendq_Sent.mono _ _ _ _ _ _ _ _ _ _ _ _
   | exact sendq_Write.mono _ _ _ _ _ _ _ _ _ _ _
   | exact LeO.none _
   | refine LeO.ite ?_ ?_
   | refine LeO.bind ?_ (fun _ => ?_)
  ·intro y0 y1 y2 y3 y4 y5 y6 y7 y8 y9 y10
   unfold dominolaw15_SendqEnd.j4
   repeat' first
   | (with_reducible exact ih0 _ _ _ _)
   | (with_reducible exact ih1 _ _ _ _ _ _ _ _ _ _ _)
   | (with_reducible exact ih2 _ _ _ _ _ _ _ _ _ _ _)
   | (with_reducible exact ih3 _ _ _ _ _ _ _ _ _ _ _ _)
   | (with_reducible exact ih4 _ _ _ _ _ _ _ _ _ _ _ _ _ _ _ _)
   | (with_reducible exact dominolaw15_shown.mono _)
   | (with_reducible exact sendq_Acked.mono _ _ _ _ _ _ _ _ _ _ _ _)
   | (with_reducible exact sendq_Sent.mono _ _ _ _ _ _ _ _ _ _ _ _)
   | (with_reducible exact sendq_Write.mono _ _ _ _ _ _ _ _ _ _ _)
   | (with_reducible exact LeO.refl _)
   | (with_reducible exact LeO.none _)
   | (with_reducible refine LeO.ite ?_ ?_)
   | (with_reducible refine LeO.bind ?_ (fun _ => ?_))
   | exact ih0 _ _ _ _
   | exact ih1 _ _ _ _ _ _ _ _ _ _ _
   | exact ih2 _ _ _ _ _ _ _ _ _ _ _
   | exact ih3 _ _ _ _ _ _ _ _ _ _ _ _
   | exact ih4 _ _ _ _ _ _ _ _ _ _ _ _ _ _ _ _
   | exact dominolaw15_shown.mono _
   | exact sendq_Acked.mono _ _ _ _ _ _ _ _ _ _ _ _
   | exact sendq_Sent.mono _ _ _ _ _ _ _ _ _ _ _ _
   | exact sendq_Write.mono _ _ _ _ _ _ _ _ _ _ _
   | exact LeO.none _
   | refine LeO.ite ?_ ?_
   | refine LeO.bind ?_ (fun _ => ?_)
  ·intro y0 y1 y2 y3 y4 y5 y6 y7 y8 y9 y10 y11
   unfold dominolaw15_SendqEnd.l0
   repeat' first
   | (with_reducible exact ih0 _ _ _ _)
   | (with_reducible exact ih1 _ _ _ _ _ _ _ _ _ _ _)
   | (with_reducible exact ih2 _ _ _ _ _ _ _ _ _ _ _)
   | (with_reducible exact ih3 _ _ _ _ _ _ _ _ _ _ _ _)
   | (with_reducible exact ih4 _ _ _ _ _ _ _ _ _ _ _ _ _ _ _ _)
   | (with_reducible exact dominolaw15_shown.mono _)
   | (with_reducible exact sendq_Acked.mono _ _ _ _ _ _ _ _ _ _ _ _)
   | (with_reducible exact sendq_Sent.mono _ _ _ _ _ _ _ _ _ _ _ _)
   | (with_reducible exact sendq_Write.mono _ _ _ _ _ _ _ _ _ _ _)
   | (with_reducible exact LeO.refl _)
   | (with_reducible exact LeO.none _)
   | (with_reducible refine LeO.ite ?_ ?_)
   | (with_reducible refine LeO.bind ?_ (fun _ => ?_))
   | exact ih0 _ _ _ _
   | exact ih1 _ _ _ _ _ _ _ _ _ _ _
   | exact ih2 _ _ _ _ _ _ _ _ _ _ _
   | exact ih3 _ _ _ _ _ _ _ _ _ _ _ _
   | exact ih4 _ _ _ _ _ _ _ _ _ _ _ _ _ _ _ _
   | exact dominolaw15_shown.mono _
   | exact sendq_Acked.mono _ _ _ _ _ _ _ _ _ _ _ _
   | exact sendq_Sent.mono _ _ _ _ _ _ _ _ _ _ _ _
   | exact sendq_Write.mono _ _ _ _ _ _ _ _ _ _ _
   | exact LeO.none _
   | refine LeO.ite ?_ ?_
   | refine LeO.bind ?_ (fun _ => ?_)
  ·intro y0 y1 y2 y3 y4 y5 y6 y7 y8 y9 y10 y11 y12 y13 y14 y15
   unfold dominolaw15_SendqEnd.j3
   repeat' first
   | (with_reducible exact ih0 _ _ _ _)
   | (with_reducible exact ih1 _ _ _ _ _ _ _ _ _ _ _)
   | (with_reducible exact ih2 _ _ _ _ _ _ _ _ _ _ _)
   | (with_reducible exact ih3 _ _ _ _ _ _ _ _ _ _ _ _)
   | (with_reducible exact ih4 _ _ _ _ _ _ _ _ _ _ _ _ _ _ _ _)
   | (with_reducible exact dominolaw15_shown.mono _)
   | (with_reducible exact sendq_Acked.mono _ _ _ _ _ _ _ _ _ _ _ _)
   | (with_reducible exact sendq_Sent.mono _ _ _ _ _ _ _ _ _ _ _ _)
   | (with_reducible exact sendq_Write.mono _ _ _ _ _ _ _ _ _ _ _)
   | (with_reducible exact LeO.refl _)
   | (with_reducible exact LeO.none _)
   | (with_reducible refine LeO.ite ?_ ?_)
   | (with_reducible refine LeO.bind ?_ (fun _ => ?_))
   | exact ih0 _ _ _ _
   | exact ih1 _ _ _ _ _ _ _ _ _ _ _
   | exact ih2 _ _ _ _ _ _ _ _ _ _ _
   | exact ih3 _ _ _ _ _ _ _ _ _ _ _ _
   | exact ih4 _ _ _ _ _ _ _ _ _ _ _ _ _ _ _ _
   | exact dominolaw15_shown.mono _
   | exact sendq_Acked.mono _ _ _ _ _ _ _ _ _ _ _ _
   | exact sendq_Sent.mono _ _ _ _ _ _ _ _ _ _ _ _
   | exact sendq_Write.mono _ _ _ _ _ _ _ _ _ _ _
   | exact LeO.none _
   | refine LeO.ite ?_ ?_
   | refine LeO.bind ?_ (fun _ => ?_)
theorem dominolaw15_SendqEnd.mono : ∀ a0 a1 a2 k,LeO (dominolaw15_SendqEnd.f k a0 a1 a2) (dominolaw15_SendqEnd.f (k + 1) a0 a1 a2):=by
 intro a0 a1 a2 k
 obtain ⟨ih0,ih1,ih2,ih3,ih4⟩:=dominolaw15_SendqEnd.mono_l k
 unfold dominolaw15_SendqEnd.f
 repeat' first
   | (with_reducible exact ih0 _ _ _ _)
   | (with_reducible exact ih1 _ _ _ _ _ _ _ _ _ _ _)
   | (with_reducible exact ih2 _ _ _ _ _ _ _ _ _ _ _)
   | (with_reducible exact ih3 _ _ _ _ _ _ _ _ _ _ _ _)
   | (with_reducible exact ih4 _ _ _ _ _ _ _ _ _ _ _ _ _ _ _ _)
   | (with_reducible exact dominolaw15_shown.mono _)
   | (with_reducible exact sendq_Acked.mono _ _ _ _ _ _ _ _ _ _ _ _)
   | (with_reducible exact sendq_Sent.mono _ _ _ _ _ _ _ _ _ _ _ _)
   | (with_reducible exact sendq_Write.mono _ _ _ _ _ _ _ _ _ _ _)
   | (with_reducible exact LeO.refl _)
   | (with_reducible exact LeO.none _)
   | (with_reducible refine LeO.ite ?_ ?_)
   | (with_reducible refine LeO.bind ?_ (fun _ => ?_))
   | exact ih0 _ _ _ _
   | exact ih1 _ _ _ _ _ _ _ _ _ _ _
   | exact ih2 _ _ _ _ _ _ _ _ _ _ _
   | exact ih3 _ _ _ _ _ _ _ _ _ _ _ _
   | exact ih4 _ _ _ _ _ _ _ _ _ _ _ _ _ _ _ _
   | exact dominolaw15_shown.mono _
   | exact sendq_Acked.mono _ _ _ _ _ _ _ _ _ _ _ _
   | exact sendq_Sent.mono _ _ _ _ _ _ _ _ _ _ _ _
   | exact sendq_Write.mono _ _ _ _ _ _ _ _ _ _ _
   | exact LeO.none _
   | refine LeO.ite ?_ ?_
   | refine LeO.bind ?_ (fun _ => ?_)
set_option maxHeartbeats 8000000 in
set_option maxRecDepth 100000 in
theorem dominolaw15_SendqEnd.calls (k : Nat) (a0 : ByteArray) (a1 : Int) (a2 : Bool) (r : Bool) (w : World) (h : dominolaw15_SendqEnd.f k a0 a1 a2 = some r) :
  Calls Try.prog 6 #[.string a0,.int .u8 a1,.bool a2] w fun e w' => e = .returned (.bool r) ∧ Below w.heap.size w w':=by
 have hu29:=Try.underlying29
 have HB:=am_ (Below.refl w.heap.size w)
 have H : (if (a0.size : Int) > 200 then (dominolaw15_SendqEnd.j0 k a0 a1 a2 true) else ((dominolaw15_shown.f k).bind fun t235 => (dominolaw15_SendqEnd.j0 k a0 a1 a2 (!t235)))) = some r:=h
 clear h
 have HC4:=am_ H
 clear H
 go_enter Try.func6,Try.ntmps6
 go_upto_region 1 with (fail)
 go_cut [26] (fun v26 wc => ∃ (kq : Nat) (x26_3 : Bool),v26 = .bool x26_3 ∧ Aside0 (dominolaw15_SendqEnd.j0 kq a0 a1 a2 x26_3 = some r) ∧ Aside0 (kq ≤ k) ∧ Aside0 (Below w.heap.size w wc))
 case first =>
  have H:=HC4.out
  clear HC4
  by_cases c5 : (a0.size : Int) > 200
  ·rw [if_pos c5] at H
   have c5b0 : decide (200 < (a0.size : Int)) = true:=decide_eq_true c5
   have c5b1 : decide (200 < a0.size) = true:=decide_eq_true (by omega)
   clear c5
   (first|rw [c5b0]|(simp only [i64_w,i32_w];rw [c5b0])|skip)
   have H':=am_ H
   clear H
   go_wp2
   go_meet
   case rel => exact ⟨_,(true),(by first|rfl|(simp;done)|(simp [*];done)),H',⟨by first|omega|exact Nat.le_refl _⟩,⟨by repeat (first|(with_reducible first|exact HB.out|apply ba_|apply pn_|apply pd_)|exact HB.out)⟩⟩
  ·rw [if_neg c5] at H
   have c5b0 : decide (200 < (a0.size : Int)) = false:=decide_eq_false c5
   have c5b1 : decide (200 < a0.size) = false:=decide_eq_false (by omega)
   clear c5
   (first|rw [c5b0]|(simp only [i64_w,i32_w];rw [c5b0])|skip)
   replace H:=Option.bind_eq_some_iff.mp H
   obtain ⟨t235,A60,H⟩:=H
   replace H : (dominolaw15_SendqEnd.j0 k a0 a1 a2 (!t235)) = some r:=H
   have A6:=am_ A60
   clear A60
   have H':=am_ H
   clear H
   go_wp2_with (first|(go_at_call 9;(with_reducible refine (dominolaw15_shown.calls k  t235 _ A6.out).mono ?_);rintro e w7 ⟨rfl,hb⟩;have n0_:=am_ (below_step (by repeat (first|(with_reducible first|exact HB.out|apply ba_|apply pn_|apply pd_)|exact HB.out)) hb);clear HB;have HB:=n0_;clear n0_;(try clear hb);(try clear hb2);(try clear hk);(try clear hi)))
   go_meet
   case rel => exact ⟨_,(!t235),(by first|rfl|(simp;done)|(simp [*];done)),H',⟨by first|omega|exact Nat.le_refl _⟩,⟨by repeat (first|(with_reducible first|exact HB.out|apply ba_|apply pn_|apply pd_)|exact HB.out)⟩⟩
 case rest =>
  clear HC4
  try clear p2;try clear c5
  try clear c5b0;try clear c5b1;try clear c6
  obtain ⟨kq,x26_3,rfl,HA,HJ3,HB⟩:=hcut
  cases kq with
  | zero => exact absurd HA.out (by simp [dominolaw15_SendqEnd.j0])
  | succ kj3 =>
   have H:=HA.out
   clear HA
   simp only [dominolaw15_SendqEnd.j0] at H
   by_cases c8 : x26_3 = true
   ·subst c8
    have H1 : ((dominolaw15_shown.f kj3).bind fun t236 => (some t236)) = some r:=by rw [if_pos rfl] at H;exact H
    clear H
    have H:=H1
    clear H1
    replace H:=Option.bind_eq_some_iff.mp H
    obtain ⟨t236,A90,H⟩:=H
    replace H : (some t236) = some r:=H
    have A9:=am_ A90
    clear A90
    obtain rfl:=Option.some.inj H
    go_wp2_with (first|((with_reducible refine gate_callee (f:=9) rfl ?_);refine goesL_ (some 27) rfl rfl Try.func9 (by kernel_rfl) rfl #[] rfl (by (try simp only [List.map_toArray,List.map_cons,List.map_nil]);first|done|rfl|(simp only [List.length_drop,List.length_take];rfl)) ?_;(with_reducible refine (dominolaw15_shown.calls kj3  t236 _ A9.out).mono ?_);rintro e w10 ⟨rfl,hb⟩;refine ⟨_,rfl,?_⟩;have n0_:=am_ (below_step (by repeat (first|(with_reducible first|exact HB.out|apply ba_|apply pn_|apply pd_)|exact HB.out)) hb);clear HB;have HB:=n0_;clear n0_;(try clear hb);(try clear hb2);(try clear hk);(try clear hi)))
    go_ret
    exact ⟨by first|rfl|(simp [errW_none,errW_some] <;> rfl)|(simp [*,errW_none,errW_some] <;> rfl),by repeat (first|(with_reducible first|exact HB.out|apply ba_|apply pn_|apply pd_)|exact HB.out)⟩
   ·replace c8:=Bool.eq_false_iff.mpr c8
    subst c8
    have H1 : ((sendq_Write.f kj3 0 0 (⟨#[]⟩ : ByteArray) ([] : List (S67)) ([] : List (S67)) false false false a0 500).bind fun bt237 => (if a2 = true then (dominolaw15_SendqEnd.j1 kj3 a0 a1 a2 bt237.1 bt237.2.1 bt237.2.2.1 bt237.2.2.2.1 bt237.2.2.2.2.1 bt237.2.2.2.2.2.1 bt237.2.2.2.2.2.2.1 bt237.2.2.2.2.2.2.2.1) else ((sendq_Finish.f bt237.1 bt237.2.1 bt237.2.2.1 bt237.2.2.2.1 bt237.2.2.2.2.1 bt237.2.2.2.2.2.1 bt237.2.2.2.2.2.2.1 bt237.2.2.2.2.2.2.2.1).bind fun bt251 => (dominolaw15_SendqEnd.j1 kj3 a0 a1 a2 bt251.1 bt251.2.1 bt251.2.2.1 bt251.2.2.2.1 bt251.2.2.2.2.1 bt251.2.2.2.2.2.1 bt251.2.2.2.2.2.2.1 bt251.2.2.2.2.2.2.2)))) = some r:=by rw [if_neg (show ¬ (false = true) by decide)] at H;exact H
    clear H
    have H:=H1
    clear H1
    replace H:=Option.bind_eq_some_iff.mp H
    obtain ⟨⟨t237,t238,t239,t240,t243,t246,t247,t248,t249⟩,A110,H⟩:=H
    replace H : (if a2 = true then (dominolaw15_SendqEnd.j1 kj3 a0 a1 a2 t237 t238 t239 t240 t243 t246 t247 t248) else ((sendq_Finish.f t237 t238 t239 t240 t243 t246 t247 t248).bind fun bt251 => (dominolaw15_SendqEnd.j1 kj3 a0 a1 a2 bt251.1 bt251.2.1 bt251.2.2.1 bt251.2.2.2.1 bt251.2.2.2.2.1 bt251.2.2.2.2.2.1 bt251.2.2.2.2.2.2.1 bt251.2.2.2.2.2.2.2))) = some r:=H
    have A11:=am_ A110
    clear A110
    have HC12:=am_ H
    clear H
    go_upto_if 35 with (first|((with_reducible refine gate_callee (f:=12) rfl ?_);refine goesL_ (some 31) rfl rfl Try.func12 (by kernel_rfl) rfl #[.agg #[.int .u64 0,.int .u64 0,.string (⟨#[]⟩ : ByteArray),.slice none 0 0,.slice none 0 0,.bool false,.bool false,.bool false],.string a0,.int .i64 500] rfl (by (try simp only [List.map_toArray,List.map_cons,List.map_nil]);first|done|rfl|(simp only [List.length_drop,List.length_take];rfl)) ?_;(refine (sendq_Write.calls kj3 0 0 (⟨#[]⟩ : ByteArray) (fun k_ => False) _ _ ([] : List (S67)) (fun k_ => False) _ _ ([] : List (S67)) false false false a0 500 t237 t238 t239 t240 t243 t246 t247 t248 t249 _ ?side1 ?side2 A11.out).mono ?_);(case side1 => exact Kd.V_nil _ _ _ _ _);(case side2 => exact Kd.V_nil _ _ _ _ _);rintro e w13 ⟨v241,v244,rfl,ho0,ho1,hb⟩;refine ⟨_,rfl,?_⟩;have n0_:=am_ (Kd.V_lower (Kd.V_mono (ok':=fun k_ => True) ho0 (fun k_ hk_ => trivial)) (below_size (by repeat (first|(with_reducible first|exact HB.out|apply ba_|apply pn_|apply pd_)|exact HB.out))));have n1_:=am_ (Kd.V_lower (Kd.V_mono (ok':=fun k_ => True) ho1 (fun k_ hk_ => trivial)) (below_size (by repeat (first|(with_reducible first|exact HB.out|apply ba_|apply pn_|apply pd_)|exact HB.out))));have n2_:=am_ (below_step (by repeat (first|(with_reducible first|exact HB.out|apply ba_|apply pn_|apply pd_)|exact HB.out)) hb);clear HB;have HO242:=n0_;have HO245:=n1_;have HB:=n2_;clear n0_ n1_ n2_;(try clear hb);(try clear hb2);(try clear hk);(try clear hi);(try clear ho0);(try clear ho1))|((with_reducible refine gate_dst (N:=7) rfl ?_);(try (refine gate_guard (by rfl) ?_;dsimp only));refine box_event ?hg (N:=7) ?hd (cs:=#[.int .u64 0,.int .u64 0,.string (⟨#[]⟩ : ByteArray),.slice none 0 0,.slice none 0 0,.bool false,.bool false,.bool false]) (t:=29) ?hr ?_;(case hd => rfl);(case hg => rfl);(case hr => first|(go_simp;done)|(go_simp;rfl));intro gb250 hg w14 hbox hb;have n0_:=am_ (Kd.V_below (Kd.V_elderB (by (with_reducible repeat (first|apply Kd.V_alloc|apply Kd.V_drewN|apply Kd.V_drew));exact HO242.out) gb250 (Nat.le_of_eq hg.symm)) hb);have n1_:=am_ (Kd.V_below (Kd.V_elderB (by (with_reducible repeat (first|apply Kd.V_alloc|apply Kd.V_drewN|apply Kd.V_drew));exact HO245.out) gb250 (Nat.le_of_eq hg.symm)) hb);have n2_:=am_ (below_step (by repeat (first|(with_reducible first|exact HB.out|apply ba_|apply pn_|apply pd_)|exact HB.out)) hb);have n3_:=am_ (hbox);have n4_:=am_ ((by rw [hg];exact (below_size (by repeat (first|(with_reducible first|exact HB.out|apply ba_|apply pn_|apply pd_)|exact HB.out))) : w.heap.size ≤ gb250));have n5_:=am_ ((by rw [hg];exact (below_size (by repeat (first|(with_reducible first|exact HB.out|apply ba_|apply pn_|apply pd_)|exact HB.out))) : w.heap.size ≤ gb250));clear HO242;clear HO245;clear HB;have HO242:=n0_;have HO245:=n1_;have HB:=n2_;have BK250:=n3_;have GW250:=n4_;have GE250:=n5_;clear n0_ n1_ n2_ n3_ n4_ n5_;clear hb hbox hg;have hcz15_0 : w14.cell? ⟨gb250,0,none⟩ = some (.int .u64 0):=(kc_ BK250.out 0).trans rfl;have hcz15_1 : w14.cell? ⟨gb250,1,none⟩ = some (.int .u64 0):=(kc_ BK250.out 1).trans rfl;have hcz15_2 : w14.cell? ⟨gb250,2,none⟩ = some (.string (⟨#[]⟩ : ByteArray)):=(kc_ BK250.out 2).trans rfl;have hcz15_3 : w14.cell? ⟨gb250,3,none⟩ = some (.slice none 0 0):=(kc_ BK250.out 3).trans rfl;have hcz15_4 : w14.cell? ⟨gb250,4,none⟩ = some (.slice none 0 0):=(kc_ BK250.out 4).trans rfl;have hcz15_5 : w14.cell? ⟨gb250,5,none⟩ = some (.bool false):=(kc_ BK250.out 5).trans rfl;have hcz15_6 : w14.cell? ⟨gb250,6,none⟩ = some (.bool false):=(kc_ BK250.out 6).trans rfl;have hcz15_7 : w14.cell? ⟨gb250,7,none⟩ = some (.bool false):=(kc_ BK250.out 7).trans rfl;have hfz15_0:=blk_frozen BK250.out 0;have hfz15_1:=blk_frozen BK250.out 1;have hfz15_2:=blk_frozen BK250.out 2;have hfz15_3:=blk_frozen BK250.out 3;have hfz15_4:=blk_frozen BK250.out 4;have hfz15_5:=blk_frozen BK250.out 5;have hfz15_6:=blk_frozen BK250.out 6;have hfz15_7:=blk_frozen BK250.out 7;obtain ⟨Ao16,co16,eo16⟩:=Kd.V_slice HO242.out;subst eo16;obtain ⟨Ao17,co17,eo17⟩:=Kd.V_slice HO245.out;subst eo17)|((with_reducible refine gate_store (t:=29) (p:=7) rfl ?_);refine store_event (t:=29) (p:=7) (v:=?vo_w18) (w1:=((((((((w14.setCell ⟨gb250,0,none⟩ (.int .u64 t237)).setCell ⟨gb250,1,none⟩ (.int .u64 t238)).setCell ⟨gb250,2,none⟩ (.string t239)).setCell ⟨gb250,3,none⟩ (.slice Ao16 t240.length co16)).setCell ⟨gb250,4,none⟩ (.slice Ao17 t243.length co17)).setCell ⟨gb250,5,none⟩ (.bool t246)).setCell ⟨gb250,6,none⟩ (.bool t247)).setCell ⟨gb250,7,none⟩ (.bool t248))) ?hg ?ho ?hn ?hr ?_;(case ho => rfl);(case hg => rfl);(case hn => rfl);(case hr => first|(go_simp;done)|(go_simp;rfl));intro w18 hw;have n0_ : Aside0 (Kd.V k67 67 w18 w.heap.size (fun k_ => k_ ≠ gb250) (.slice Ao16 t240.length co16) t240):=⟨(by rw [hw];exact (by (with_reducible repeat (first|apply Kd.V_alloc|apply Kd.V_drewN|apply Kd.V_drew));exact Kd.V_mono (Kd.V_far (p:=⟨gb250,7,none⟩) (Kd.V_far (p:=⟨gb250,6,none⟩) (Kd.V_far (p:=⟨gb250,5,none⟩) (Kd.V_far (p:=⟨gb250,4,none⟩) (Kd.V_far (p:=⟨gb250,3,none⟩) (Kd.V_far (p:=⟨gb250,2,none⟩) (Kd.V_far (p:=⟨gb250,1,none⟩) (Kd.V_far (p:=⟨gb250,0,none⟩) (Kd.V_mono HO242.out (fun k_ hk => (⟨hk,hk.2⟩ : _ ∧ k_ ≠ gb250))) (fun _ hk => hk.2) (.int .u64 t237)) (fun _ hk => hk.2) (.int .u64 t238)) (fun _ hk => hk.2) (.string t239)) (fun _ hk => hk.2) (.slice Ao16 t240.length co16)) (fun _ hk => hk.2) (.slice Ao17 t243.length co17)) (fun _ hk => hk.2) (.bool t246)) (fun _ hk => hk.2) (.bool t247)) (fun _ hk => hk.2) (.bool t248)) (fun _ hk => hk.1.2)))⟩;have n1_ : Aside0 (Kd.V k67 67 w18 w.heap.size (fun k_ => k_ ≠ gb250) (.slice Ao17 t243.length co17) t243):=⟨(by rw [hw];exact (by (with_reducible repeat (first|apply Kd.V_alloc|apply Kd.V_drewN|apply Kd.V_drew));exact Kd.V_mono (Kd.V_far (p:=⟨gb250,7,none⟩) (Kd.V_far (p:=⟨gb250,6,none⟩) (Kd.V_far (p:=⟨gb250,5,none⟩) (Kd.V_far (p:=⟨gb250,4,none⟩) (Kd.V_far (p:=⟨gb250,3,none⟩) (Kd.V_far (p:=⟨gb250,2,none⟩) (Kd.V_far (p:=⟨gb250,1,none⟩) (Kd.V_far (p:=⟨gb250,0,none⟩) (Kd.V_mono HO245.out (fun k_ hk => (⟨hk,hk.2⟩ : _ ∧ k_ ≠ gb250))) (fun _ hk => hk.2) (.int .u64 t237)) (fun _ hk => hk.2) (.int .u64 t238)) (fun _ hk => hk.2) (.string t239)) (fun _ hk => hk.2) (.slice Ao16 t240.length co16)) (fun _ hk => hk.2) (.slice Ao17 t243.length co17)) (fun _ hk => hk.2) (.bool t246)) (fun _ hk => hk.2) (.bool t247)) (fun _ hk => hk.2) (.bool t248)) (fun _ hk => hk.1.2)))⟩;have n2_ : Aside0 (w18.heap[gb250]? = some (.cells #[.int .u64 t237,.int .u64 t238,.string t239,.slice Ao16 t240.length co16,.slice Ao17 t243.length co17,.bool t246,.bool t247,.bool t248] 29 (0,0))):=⟨(by rw [hw];exact (by (with_reducible repeat (first|refine kn_ ?_ _|refine kd_ ?_|refine ka_ ?_ _));refine blk_put (cs:=#[.int .u64 t237,.int .u64 t238,.string t239,.slice Ao16 t240.length co16,.slice Ao17 t243.length co17,.bool t246,.bool t247,.bool false]) ?_ 7 _ rfl;(with_reducible repeat (first|refine kn_ ?_ _|refine kd_ ?_|refine ka_ ?_ _));refine blk_put (cs:=#[.int .u64 t237,.int .u64 t238,.string t239,.slice Ao16 t240.length co16,.slice Ao17 t243.length co17,.bool t246,.bool false,.bool false]) ?_ 6 _ rfl;(with_reducible repeat (first|refine kn_ ?_ _|refine kd_ ?_|refine ka_ ?_ _));refine blk_put (cs:=#[.int .u64 t237,.int .u64 t238,.string t239,.slice Ao16 t240.length co16,.slice Ao17 t243.length co17,.bool false,.bool false,.bool false]) ?_ 5 _ rfl;(with_reducible repeat (first|refine kn_ ?_ _|refine kd_ ?_|refine ka_ ?_ _));refine blk_put (cs:=#[.int .u64 t237,.int .u64 t238,.string t239,.slice Ao16 t240.length co16,.slice none 0 0,.bool false,.bool false,.bool false]) ?_ 4 _ rfl;(with_reducible repeat (first|refine kn_ ?_ _|refine kd_ ?_|refine ka_ ?_ _));refine blk_put (cs:=#[.int .u64 t237,.int .u64 t238,.string t239,.slice none 0 0,.slice none 0 0,.bool false,.bool false,.bool false]) ?_ 3 _ rfl;(with_reducible repeat (first|refine kn_ ?_ _|refine kd_ ?_|refine ka_ ?_ _));refine blk_put (cs:=#[.int .u64 t237,.int .u64 t238,.string (⟨#[]⟩ : ByteArray),.slice none 0 0,.slice none 0 0,.bool false,.bool false,.bool false]) ?_ 2 _ rfl;(with_reducible repeat (first|refine kn_ ?_ _|refine kd_ ?_|refine ka_ ?_ _));refine blk_put (cs:=#[.int .u64 t237,.int .u64 0,.string (⟨#[]⟩ : ByteArray),.slice none 0 0,.slice none 0 0,.bool false,.bool false,.bool false]) ?_ 1 _ rfl;(with_reducible repeat (first|refine kn_ ?_ _|refine kd_ ?_|refine ka_ ?_ _));refine blk_put (cs:=#[.int .u64 0,.int .u64 0,.string (⟨#[]⟩ : ByteArray),.slice none 0 0,.slice none 0 0,.bool false,.bool false,.bool false]) ?_ 0 _ rfl;(with_reducible repeat (first|refine kn_ ?_ _|refine kd_ ?_|refine ka_ ?_ _));exact BK250.out))⟩;have n3_ : Aside0 (Below w.heap.size w w18):=⟨(by rw [hw];exact (by repeat (first|(with_reducible first|exact HB.out|apply ba_|apply pn_|apply pd_|refine bs_ ?_ GE250.out)|exact HB.out)))⟩;clear hw;clear HO242;clear HO245;clear BK250;clear HB;have HO242:=n0_;have HO245:=n1_;have BK250:=n2_;have HB:=n3_;clear n0_ n1_ n2_ n3_))
    (try simp only [Act.put,ps_])
    go_cut [] (fun wc => ∃ (kq : Nat) (x251000_11 : Int) (x251001_11 : Int) (x251002_11 : ByteArray) (x251003_11 : List (S67)) (x251004_11 : List (S67)) (x251005_11 : Bool) (x251006_11 : Bool) (x251007_11 : Bool) (u251003 : Value) (u251004 : Value),Aside0 (dominolaw15_SendqEnd.j1 kq a0 a1 a2 x251000_11 x251001_11 x251002_11 x251003_11 x251004_11 x251005_11 x251006_11 x251007_11 = some r) ∧ Aside0 (kq ≤ kj3) ∧ Aside0 (Kd.V k67 67 wc w.heap.size (fun k_ => k_ ≠ gb250) u251003 x251003_11) ∧ Aside0 (Kd.V k67 67 wc w.heap.size (fun k_ => k_ ≠ gb250) u251004 x251004_11) ∧ Aside0 (wc.heap[gb250]? = some (.cells #[.int .u64 x251000_11,.int .u64 x251001_11,.string x251002_11,u251003,u251004,.bool x251005_11,.bool x251006_11,.bool x251007_11] 29 (0,0))) ∧ Aside0 (Below w.heap.size w wc))
    case first =>
     have H:=HC12.out
     clear HC12
     by_cases c19 : a2 = true
     ·subst c19
      have H1 : (dominolaw15_SendqEnd.j1 kj3 a0 a1 true t237 t238 t239 t240 t243 t246 t247 t248) = some r:=by rw [if_pos rfl] at H;exact H
      clear H
      have H:=H1
      clear H1
      have H':=am_ H
      clear H
      go_wp2
      go_meet
      case rel => exact ⟨_,(t237),(t238),(t239),(t240),(t243),(t246),(t247),(t248),(.slice Ao16 t240.length co16),(.slice Ao17 t243.length co17),H',⟨by have:=HJ3.out;first|omega|exact Nat.le_refl _⟩,⟨by (with_reducible repeat (first|apply Kd.V_alloc|apply Kd.V_drewN|apply Kd.V_drew));exact HO242.out⟩,⟨by (with_reducible repeat (first|apply Kd.V_alloc|apply Kd.V_drewN|apply Kd.V_drew));exact HO245.out⟩,⟨by (with_reducible repeat (first|refine kn_ ?_ _|refine kd_ ?_|refine ka_ ?_ _));exact BK250.out⟩,⟨by repeat (first|(with_reducible first|exact HB.out|apply ba_|apply pn_|apply pd_|refine bs_ ?_ GE250.out)|exact HB.out)⟩⟩
     ·replace c19:=Bool.eq_false_iff.mpr c19
      subst c19
      have H1 : ((sendq_Finish.f t237 t238 t239 t240 t243 t246 t247 t248).bind fun bt251 => (dominolaw15_SendqEnd.j1 kj3 a0 a1 false bt251.1 bt251.2.1 bt251.2.2.1 bt251.2.2.2.1 bt251.2.2.2.2.1 bt251.2.2.2.2.2.1 bt251.2.2.2.2.2.2.1 bt251.2.2.2.2.2.2.2)) = some r:=by rw [if_neg (show ¬ (false = true) by decide)] at H;exact H
      clear H
      have H:=H1
      clear H1
      replace H:=Option.bind_eq_some_iff.mp H
      obtain ⟨⟨t251,t252,t253,t254,t257,t260,t261,t262⟩,A200,H⟩:=H
      replace H : (dominolaw15_SendqEnd.j1 kj3 a0 a1 false t251 t252 t253 t254 t257 t260 t261 t262) = some r:=H
      have A20:=am_ A200
      clear A200
      have H':=am_ H
      clear H
      have hcz21_0 : w18.cell? ⟨gb250,0,none⟩ = some (.int .u64 t237):=(kc_ BK250.out 0).trans rfl
      have hcz21_1 : w18.cell? ⟨gb250,1,none⟩ = some (.int .u64 t238):=(kc_ BK250.out 1).trans rfl
      have hcz21_2 : w18.cell? ⟨gb250,2,none⟩ = some (.string t239):=(kc_ BK250.out 2).trans rfl
      have hcz21_3 : w18.cell? ⟨gb250,3,none⟩ = some (.slice Ao16 t240.length co16):=(kc_ BK250.out 3).trans rfl
      have hcz21_4 : w18.cell? ⟨gb250,4,none⟩ = some (.slice Ao17 t243.length co17):=(kc_ BK250.out 4).trans rfl
      have hcz21_5 : w18.cell? ⟨gb250,5,none⟩ = some (.bool t246):=(kc_ BK250.out 5).trans rfl
      have hcz21_6 : w18.cell? ⟨gb250,6,none⟩ = some (.bool t247):=(kc_ BK250.out 6).trans rfl
      have hcz21_7 : w18.cell? ⟨gb250,7,none⟩ = some (.bool t248):=(kc_ BK250.out 7).trans rfl
      have hfz21_0:=blk_frozen BK250.out 0
      have hfz21_1:=blk_frozen BK250.out 1
      have hfz21_2:=blk_frozen BK250.out 2
      have hfz21_3:=blk_frozen BK250.out 3
      have hfz21_4:=blk_frozen BK250.out 4
      have hfz21_5:=blk_frozen BK250.out 5
      have hfz21_6:=blk_frozen BK250.out 6
      have hfz21_7:=blk_frozen BK250.out 7
      go_wp2_with (first|((with_reducible refine gate_callee (f:=14) rfl ?_);refine goesL_ (some 37) rfl rfl Try.func14 (by kernel_rfl) rfl #[.agg #[.int .u64 t237,.int .u64 t238,.string t239,.slice Ao16 t240.length co16,.slice Ao17 t243.length co17,.bool t246,.bool t247,.bool t248]] rfl (by (try simp only [List.map_toArray,List.map_cons,List.map_nil]);first|done|rfl|(simp only [List.length_drop,List.length_take];rfl)) ?_;(with_reducible refine (sendq_Finish.calls t237 t238 t239 (fun k_ => k_ ≠ gb250) _ _ t240 (fun k_ => k_ ≠ gb250) _ _ t243 t246 t247 t248 t251 t252 t253 t254 t257 t260 t261 t262 _ ?side1 ?side2 A20.out).mono ?_);(case side1 => exact HO242.out);(case side2 => exact HO245.out);rintro e w22 ⟨v255,v258,rfl,ho0,ho1,hb⟩;refine ⟨_,rfl,?_⟩;have n0_:=am_ (Kd.V_below (by (with_reducible repeat (first|apply Kd.V_alloc|apply Kd.V_drewN|apply Kd.V_drew));exact HO242.out) hb);have n1_:=am_ (Kd.V_below (by (with_reducible repeat (first|apply Kd.V_alloc|apply Kd.V_drewN|apply Kd.V_drew));exact HO245.out) hb);have n2_:=am_ (Kd.V_lower (Kd.V_mono (ok':=fun k_ => k_ ≠ gb250) ho0 (fun k_ hk_ => Or.elim hk_ (fun hs_ => Or.elim hs_ (fun hs_ => hs_) (fun hs_ => hs_)) (fun hn_ => (Kd.freshB (g:=gb250) (o:=.cells #[.int .u64 t237,.int .u64 t238,.string t239,.slice Ao16 t240.length co16,.slice Ao17 t243.length co17,.bool t246,.bool t247,.bool t248] 29 (0,0)) (by (with_reducible repeat (first|refine kn_ ?_ _|refine kd_ ?_|refine ka_ ?_ _));exact BK250.out) k_ hn_)))) (below_size (by repeat (first|(with_reducible first|exact HB.out|apply ba_|apply pn_|apply pd_|refine bs_ ?_ GE250.out)|exact HB.out))));have n3_:=am_ (Kd.V_lower (Kd.V_mono (ok':=fun k_ => k_ ≠ gb250) ho1 (fun k_ hk_ => Or.elim hk_ (fun hs_ => Or.elim hs_ (fun hs_ => hs_) (fun hs_ => hs_)) (fun hn_ => (Kd.freshB (g:=gb250) (o:=.cells #[.int .u64 t237,.int .u64 t238,.string t239,.slice Ao16 t240.length co16,.slice Ao17 t243.length co17,.bool t246,.bool t247,.bool t248] 29 (0,0)) (by (with_reducible repeat (first|refine kn_ ?_ _|refine kd_ ?_|refine ka_ ?_ _));exact BK250.out) k_ hn_)))) (below_size (by repeat (first|(with_reducible first|exact HB.out|apply ba_|apply pn_|apply pd_|refine bs_ ?_ GE250.out)|exact HB.out))));have n4_:=am_ (blk_below (g:=gb250) (o:=.cells #[.int .u64 t237,.int .u64 t238,.string t239,.slice Ao16 t240.length co16,.slice Ao17 t243.length co17,.bool t246,.bool t247,.bool t248] 29 (0,0)) (by (with_reducible repeat (first|refine kn_ ?_ _|refine kd_ ?_|refine ka_ ?_ _));exact BK250.out) hb);have n5_:=am_ (below_step (by repeat (first|(with_reducible first|exact HB.out|apply ba_|apply pn_|apply pd_|refine bs_ ?_ GE250.out)|exact HB.out)) hb);clear HO242;clear HO245;clear BK250;clear HB;have HO242:=n0_;have HO245:=n1_;have HO256:=n2_;have HO259:=n3_;have BK250:=n4_;have HB:=n5_;clear n0_ n1_ n2_ n3_ n4_ n5_;(try clear hb);(try clear hb2);(try clear hk);(try clear hi);(try clear ho0);(try clear ho1);have hcz23_0 : w22.cell? ⟨gb250,0,none⟩ = some (.int .u64 t237):=(kc_ BK250.out 0).trans rfl;have hcz23_1 : w22.cell? ⟨gb250,1,none⟩ = some (.int .u64 t238):=(kc_ BK250.out 1).trans rfl;have hcz23_2 : w22.cell? ⟨gb250,2,none⟩ = some (.string t239):=(kc_ BK250.out 2).trans rfl;have hcz23_3 : w22.cell? ⟨gb250,3,none⟩ = some (.slice Ao16 t240.length co16):=(kc_ BK250.out 3).trans rfl;have hcz23_4 : w22.cell? ⟨gb250,4,none⟩ = some (.slice Ao17 t243.length co17):=(kc_ BK250.out 4).trans rfl;have hcz23_5 : w22.cell? ⟨gb250,5,none⟩ = some (.bool t246):=(kc_ BK250.out 5).trans rfl;have hcz23_6 : w22.cell? ⟨gb250,6,none⟩ = some (.bool t247):=(kc_ BK250.out 6).trans rfl;have hcz23_7 : w22.cell? ⟨gb250,7,none⟩ = some (.bool t248):=(kc_ BK250.out 7).trans rfl;have hfz23_0:=blk_frozen BK250.out 0;have hfz23_1:=blk_frozen BK250.out 1;have hfz23_2:=blk_frozen BK250.out 2;have hfz23_3:=blk_frozen BK250.out 3;have hfz23_4:=blk_frozen BK250.out 4;have hfz23_5:=blk_frozen BK250.out 5;have hfz23_6:=blk_frozen BK250.out 6;have hfz23_7:=blk_frozen BK250.out 7;obtain ⟨Ao24,co24,eo24⟩:=Kd.V_slice HO256.out;subst eo24;obtain ⟨Ao25,co25,eo25⟩:=Kd.V_slice HO259.out;subst eo25)|((with_reducible refine gate_store (t:=29) (p:=7) rfl ?_);refine store_event (t:=29) (p:=7) (v:=?vo_w26) (w1:=((((((((w22.setCell ⟨gb250,0,none⟩ (.int .u64 t251)).setCell ⟨gb250,1,none⟩ (.int .u64 t252)).setCell ⟨gb250,2,none⟩ (.string t253)).setCell ⟨gb250,3,none⟩ (.slice Ao24 t254.length co24)).setCell ⟨gb250,4,none⟩ (.slice Ao25 t257.length co25)).setCell ⟨gb250,5,none⟩ (.bool t260)).setCell ⟨gb250,6,none⟩ (.bool t261)).setCell ⟨gb250,7,none⟩ (.bool t262))) ?hg ?ho ?hn ?hr ?_;(case ho => rfl);(case hg => rfl);(case hn => rfl);(case hr => first|(go_simp;done)|(go_simp;rfl));intro w26 hw;have n0_ : Aside0 (Kd.V k67 67 w26 w.heap.size (fun k_ => k_ ≠ gb250) (.slice Ao16 t240.length co16) t240):=⟨(by rw [hw];exact (by (with_reducible repeat (first|apply Kd.V_alloc|apply Kd.V_drewN|apply Kd.V_drew));exact Kd.V_mono (Kd.V_far (p:=⟨gb250,7,none⟩) (Kd.V_far (p:=⟨gb250,6,none⟩) (Kd.V_far (p:=⟨gb250,5,none⟩) (Kd.V_far (p:=⟨gb250,4,none⟩) (Kd.V_far (p:=⟨gb250,3,none⟩) (Kd.V_far (p:=⟨gb250,2,none⟩) (Kd.V_far (p:=⟨gb250,1,none⟩) (Kd.V_far (p:=⟨gb250,0,none⟩) (Kd.V_mono HO242.out (fun k_ hk => (⟨hk,hk⟩ : _ ∧ k_ ≠ gb250))) (fun _ hk => hk.2) (.int .u64 t251)) (fun _ hk => hk.2) (.int .u64 t252)) (fun _ hk => hk.2) (.string t253)) (fun _ hk => hk.2) (.slice Ao24 t254.length co24)) (fun _ hk => hk.2) (.slice Ao25 t257.length co25)) (fun _ hk => hk.2) (.bool t260)) (fun _ hk => hk.2) (.bool t261)) (fun _ hk => hk.2) (.bool t262)) (fun _ hk => hk.1)))⟩;have n1_ : Aside0 (Kd.V k67 67 w26 w.heap.size (fun k_ => k_ ≠ gb250) (.slice Ao17 t243.length co17) t243):=⟨(by rw [hw];exact (by (with_reducible repeat (first|apply Kd.V_alloc|apply Kd.V_drewN|apply Kd.V_drew));exact Kd.V_mono (Kd.V_far (p:=⟨gb250,7,none⟩) (Kd.V_far (p:=⟨gb250,6,none⟩) (Kd.V_far (p:=⟨gb250,5,none⟩) (Kd.V_far (p:=⟨gb250,4,none⟩) (Kd.V_far (p:=⟨gb250,3,none⟩) (Kd.V_far (p:=⟨gb250,2,none⟩) (Kd.V_far (p:=⟨gb250,1,none⟩) (Kd.V_far (p:=⟨gb250,0,none⟩) (Kd.V_mono HO245.out (fun k_ hk => (⟨hk,hk⟩ : _ ∧ k_ ≠ gb250))) (fun _ hk => hk.2) (.int .u64 t251)) (fun _ hk => hk.2) (.int .u64 t252)) (fun _ hk => hk.2) (.string t253)) (fun _ hk => hk.2) (.slice Ao24 t254.length co24)) (fun _ hk => hk.2) (.slice Ao25 t257.length co25)) (fun _ hk => hk.2) (.bool t260)) (fun _ hk => hk.2) (.bool t261)) (fun _ hk => hk.2) (.bool t262)) (fun _ hk => hk.1)))⟩;have n2_ : Aside0 (Kd.V k67 67 w26 w.heap.size (fun k_ => k_ ≠ gb250) (.slice Ao24 t254.length co24) t254):=⟨(by rw [hw];exact (by (with_reducible repeat (first|apply Kd.V_alloc|apply Kd.V_drewN|apply Kd.V_drew));exact Kd.V_mono (Kd.V_far (p:=⟨gb250,7,none⟩) (Kd.V_far (p:=⟨gb250,6,none⟩) (Kd.V_far (p:=⟨gb250,5,none⟩) (Kd.V_far (p:=⟨gb250,4,none⟩) (Kd.V_far (p:=⟨gb250,3,none⟩) (Kd.V_far (p:=⟨gb250,2,none⟩) (Kd.V_far (p:=⟨gb250,1,none⟩) (Kd.V_far (p:=⟨gb250,0,none⟩) (Kd.V_mono HO256.out (fun k_ hk => (⟨hk,hk⟩ : _ ∧ k_ ≠ gb250))) (fun _ hk => hk.2) (.int .u64 t251)) (fun _ hk => hk.2) (.int .u64 t252)) (fun _ hk => hk.2) (.string t253)) (fun _ hk => hk.2) (.slice Ao24 t254.length co24)) (fun _ hk => hk.2) (.slice Ao25 t257.length co25)) (fun _ hk => hk.2) (.bool t260)) (fun _ hk => hk.2) (.bool t261)) (fun _ hk => hk.2) (.bool t262)) (fun _ hk => hk.1)))⟩;have n3_ : Aside0 (Kd.V k67 67 w26 w.heap.size (fun k_ => k_ ≠ gb250) (.slice Ao25 t257.length co25) t257):=⟨(by rw [hw];exact (by (with_reducible repeat (first|apply Kd.V_alloc|apply Kd.V_drewN|apply Kd.V_drew));exact Kd.V_mono (Kd.V_far (p:=⟨gb250,7,none⟩) (Kd.V_far (p:=⟨gb250,6,none⟩) (Kd.V_far (p:=⟨gb250,5,none⟩) (Kd.V_far (p:=⟨gb250,4,none⟩) (Kd.V_far (p:=⟨gb250,3,none⟩) (Kd.V_far (p:=⟨gb250,2,none⟩) (Kd.V_far (p:=⟨gb250,1,none⟩) (Kd.V_far (p:=⟨gb250,0,none⟩) (Kd.V_mono HO259.out (fun k_ hk => (⟨hk,hk⟩ : _ ∧ k_ ≠ gb250))) (fun _ hk => hk.2) (.int .u64 t251)) (fun _ hk => hk.2) (.int .u64 t252)) (fun _ hk => hk.2) (.string t253)) (fun _ hk => hk.2) (.slice Ao24 t254.length co24)) (fun _ hk => hk.2) (.slice Ao25 t257.length co25)) (fun _ hk => hk.2) (.bool t260)) (fun _ hk => hk.2) (.bool t261)) (fun _ hk => hk.2) (.bool t262)) (fun _ hk => hk.1)))⟩;have n4_ : Aside0 (w26.heap[gb250]? = some (.cells #[.int .u64 t251,.int .u64 t252,.string t253,.slice Ao24 t254.length co24,.slice Ao25 t257.length co25,.bool t260,.bool t261,.bool t262] 29 (0,0))):=⟨(by rw [hw];exact (by (with_reducible repeat (first|refine kn_ ?_ _|refine kd_ ?_|refine ka_ ?_ _));refine blk_put (cs:=#[.int .u64 t251,.int .u64 t252,.string t253,.slice Ao24 t254.length co24,.slice Ao25 t257.length co25,.bool t260,.bool t261,.bool t248]) ?_ 7 _ rfl;(with_reducible repeat (first|refine kn_ ?_ _|refine kd_ ?_|refine ka_ ?_ _));refine blk_put (cs:=#[.int .u64 t251,.int .u64 t252,.string t253,.slice Ao24 t254.length co24,.slice Ao25 t257.length co25,.bool t260,.bool t247,.bool t248]) ?_ 6 _ rfl;(with_reducible repeat (first|refine kn_ ?_ _|refine kd_ ?_|refine ka_ ?_ _));refine blk_put (cs:=#[.int .u64 t251,.int .u64 t252,.string t253,.slice Ao24 t254.length co24,.slice Ao25 t257.length co25,.bool t246,.bool t247,.bool t248]) ?_ 5 _ rfl;(with_reducible repeat (first|refine kn_ ?_ _|refine kd_ ?_|refine ka_ ?_ _));refine blk_put (cs:=#[.int .u64 t251,.int .u64 t252,.string t253,.slice Ao24 t254.length co24,.slice Ao17 t243.length co17,.bool t246,.bool t247,.bool t248]) ?_ 4 _ rfl;(with_reducible repeat (first|refine kn_ ?_ _|refine kd_ ?_|refine ka_ ?_ _));refine blk_put (cs:=#[.int .u64 t251,.int .u64 t252,.string t253,.slice Ao16 t240.length co16,.slice Ao17 t243.length co17,.bool t246,.bool t247,.bool t248]) ?_ 3 _ rfl;(with_reducible repeat (first|refine kn_ ?_ _|refine kd_ ?_|refine ka_ ?_ _));refine blk_put (cs:=#[.int .u64 t251,.int .u64 t252,.string t239,.slice Ao16 t240.length co16,.slice Ao17 t243.length co17,.bool t246,.bool t247,.bool t248]) ?_ 2 _ rfl;(with_reducible repeat (first|refine kn_ ?_ _|refine kd_ ?_|refine ka_ ?_ _));refine blk_put (cs:=#[.int .u64 t251,.int .u64 t238,.string t239,.slice Ao16 t240.length co16,.slice Ao17 t243.length co17,.bool t246,.bool t247,.bool t248]) ?_ 1 _ rfl;(with_reducible repeat (first|refine kn_ ?_ _|refine kd_ ?_|refine ka_ ?_ _));refine blk_put (cs:=#[.int .u64 t237,.int .u64 t238,.string t239,.slice Ao16 t240.length co16,.slice Ao17 t243.length co17,.bool t246,.bool t247,.bool t248]) ?_ 0 _ rfl;(with_reducible repeat (first|refine kn_ ?_ _|refine kd_ ?_|refine ka_ ?_ _));exact BK250.out))⟩;have n5_ : Aside0 (Below w.heap.size w w26):=⟨(by rw [hw];exact (by repeat (first|(with_reducible first|exact HB.out|apply ba_|apply pn_|apply pd_|refine bs_ ?_ GE250.out)|exact HB.out)))⟩;clear hw;clear HO242;clear HO245;clear HO256;clear HO259;clear BK250;clear HB;have HO242:=n0_;have HO245:=n1_;have HO256:=n2_;have HO259:=n3_;have BK250:=n4_;have HB:=n5_;clear n0_ n1_ n2_ n3_ n4_ n5_))
      go_meet
      case rel => exact ⟨_,(t251),(t252),(t253),(t254),(t257),(t260),(t261),(t262),(.slice Ao24 t254.length co24),(.slice Ao25 t257.length co25),H',⟨by have:=HJ3.out;first|omega|exact Nat.le_refl _⟩,⟨by (with_reducible repeat (first|apply Kd.V_alloc|apply Kd.V_drewN|apply Kd.V_drew));exact HO256.out⟩,⟨by (with_reducible repeat (first|apply Kd.V_alloc|apply Kd.V_drewN|apply Kd.V_drew));exact HO259.out⟩,⟨by (with_reducible repeat (first|refine kn_ ?_ _|refine kd_ ?_|refine ka_ ?_ _));exact BK250.out⟩,⟨by repeat (first|(with_reducible first|exact HB.out|apply ba_|apply pn_|apply pd_|refine bs_ ?_ GE250.out)|exact HB.out)⟩⟩
    case rest =>
     clear HC12
     try clear c1;try clear p2
     try clear c5;try clear c5b0
     try clear c5b1;try clear c6
     try clear c8;try clear c9
     try clear c12;try clear c14
     try clear c19;try clear hcz15_0
     try clear hcz15_1;try clear hcz15_2
     try clear hcz15_3;try clear hcz15_4
     try clear hcz15_5;try clear hcz15_6
     try clear hcz15_7;try clear hcz21_0
     try clear hcz21_1;try clear hcz21_2
     try clear hcz21_3;try clear hcz21_4
     try clear hcz21_5;try clear hcz21_6
     try clear hcz21_7;try clear hcz23_0
     try clear hcz23_1;try clear hcz23_2
     try clear hcz23_3;try clear hcz23_4
     try clear hcz23_5;try clear hcz23_6
     try clear hcz23_7;try clear hfz15_0
     try clear hfz15_1;try clear hfz15_2
     try clear hfz15_3;try clear hfz15_4
     try clear hfz15_5;try clear hfz15_6
     try clear hfz15_7;try clear hfz21_0
     try clear hfz21_1;try clear hfz21_2
     try clear hfz21_3;try clear hfz21_4
     try clear hfz21_5;try clear hfz21_6
     try clear hfz21_7;try clear hfz23_0
     try clear hfz23_1;try clear hfz23_2
     try clear hfz23_3;try clear hfz23_4
     try clear hfz23_5;try clear hfz23_6
     try clear hfz23_7;try clear p2
     obtain ⟨kq,x251000_11,x251001_11,x251002_11,x251003_11,x251004_11,x251005_11,x251006_11,x251007_11,u251003,u251004,HA,HJ11,HO_251003,HO_251004,BK250,HB⟩:=hcut
     cases kq with
     | zero => exact absurd HA.out (by simp [dominolaw15_SendqEnd.j1])
     | succ kj11 =>
      have H:=HA.out
      clear HA
      simp only [dominolaw15_SendqEnd.j1] at H
      have HC27:=am_ H
      clear H
      go_upto_block 0 with (fail)
      go_cut [] (fun wc => ∃ (kq : Nat) (x251000_26 : Int) (x251001_26 : Int) (x251002_26 : ByteArray) (x251003_26 : List (S67)) (x251004_26 : List (S67)) (x251005_26 : Bool) (x251006_26 : Bool) (x251007_26 : Bool) (u251003 : Value) (u251004 : Value),Aside0 (dominolaw15_SendqEnd.j4 kq a0 a2 (wrap64 (1 + (Int.tmod (wrap64 (a1)) 50))) x251000_26 x251001_26 x251002_26 x251003_26 x251004_26 x251005_26 x251006_26 x251007_26 = some r) ∧ Aside0 (kq ≤ kj11) ∧ Aside0 (Kd.V k67 67 wc w.heap.size (fun k_ => k_ ≠ gb250) u251003 x251003_26) ∧ Aside0 (Kd.V k67 67 wc w.heap.size (fun k_ => k_ ≠ gb250) u251004 x251004_26) ∧ Aside0 (wc.heap[gb250]? = some (.cells #[.int .u64 x251000_26,.int .u64 x251001_26,.string x251002_26,u251003,u251004,.bool x251005_26,.bool x251006_26,.bool x251007_26] 29 (0,0))) ∧ Aside0 (Below w.heap.size w wc))
      case first =>
       have H:=HC27.out
       clear HC27
       have H':=am_ H
       clear H
       go_wp2
       go_loopg [10] kj11 (fun kq v10 w' => ∃ (x10_3 : Int) (x251000_3 : Int) (x251001_3 : Int) (x251002_3 : ByteArray) (x251003_3 : List (S67)) (x251004_3 : List (S67)) (x251005_3 : Bool) (x251006_3 : Bool) (x251007_3 : Bool) (u251003 : Value) (u251004 : Value),v10 = .int .i64 x10_3 ∧ Aside0 (dominolaw15_SendqEnd.l0 kq a0 a2 (wrap64 (1 + (Int.tmod (wrap64 (a1)) 50))) x10_3 x251000_3 x251001_3 x251002_3 x251003_3 x251004_3 x251005_3 x251006_3 x251007_3 = some r) ∧ Aside0 (kq ≤ kj11) ∧ Aside0 (Kd.V k67 67 w' w.heap.size (fun k_ => k_ ≠ gb250) u251003 x251003_3) ∧ Aside0 (Kd.V k67 67 w' w.heap.size (fun k_ => k_ ≠ gb250) u251004 x251004_3) ∧ Aside0 (w'.heap[gb250]? = some (.cells #[.int .u64 x251000_3,.int .u64 x251001_3,.string x251002_3,u251003,u251004,.bool x251005_3,.bool x251006_3,.bool x251007_3] 29 (0,0))) ∧ Aside0 (Below w.heap.size w w'))
       case atStart => exact ⟨(0),(x251000_11),(x251001_11),(x251002_11),(x251003_11),(x251004_11),(x251005_11),(x251006_11),(x251007_11),(u251003),(u251004),(by first|rfl|(simp;done)|(simp [*];done)),H',⟨Nat.le_refl _⟩,⟨by (with_reducible repeat (first|apply Kd.V_alloc|apply Kd.V_drewN|apply Kd.V_drew));exact HO_251003.out⟩,⟨by (with_reducible repeat (first|apply Kd.V_alloc|apply Kd.V_drewN|apply Kd.V_drew));exact HO_251004.out⟩,⟨by (with_reducible repeat (first|refine kn_ ?_ _|refine kd_ ?_|refine ka_ ?_ _));exact BK250.out⟩,⟨by repeat (first|(with_reducible first|exact HB.out|apply ba_|apply pn_|apply pd_|refine bs_ ?_ GE250.out)|exact HB.out)⟩⟩
       case round =>
        clear H'
        try clear c1;try clear p2
        try clear c5;try clear c5b0
        try clear c5b1;try clear c6
        try clear p6;try clear c8
        try clear c9;try clear c12
        try clear c14;try clear c19
        try clear hcz15_0;try clear hcz15_1
        try clear hcz15_2;try clear hcz15_3
        try clear hcz15_4;try clear hcz15_5
        try clear hcz15_6;try clear hcz15_7
        try clear hcz21_0;try clear hcz21_1
        try clear hcz21_2;try clear hcz21_3
        try clear hcz21_4;try clear hcz21_5
        try clear hcz21_6;try clear hcz21_7
        try clear hcz23_0;try clear hcz23_1
        try clear hcz23_2;try clear hcz23_3
        try clear hcz23_4;try clear hcz23_5
        try clear hcz23_6;try clear hcz23_7
        try clear hfz15_0;try clear hfz15_1
        try clear hfz15_2;try clear hfz15_3
        try clear hfz15_4;try clear hfz15_5
        try clear hfz15_6;try clear hfz15_7
        try clear hfz21_0;try clear hfz21_1
        try clear hfz21_2;try clear hfz21_3
        try clear hfz21_4;try clear hfz21_5
        try clear hfz21_6;try clear hfz21_7
        try clear hfz23_0;try clear hfz23_1
        try clear hfz23_2;try clear hfz23_3
        try clear hfz23_4;try clear hfz23_5
        try clear hfz23_6;try clear hfz23_7;try clear p2
        obtain ⟨x10_3,x251000_3,x251001_3,x251002_3,x251003_3,x251004_3,x251005_3,x251006_3,x251007_3,u251003,u251004,rfl,HA,HK3,HO_251003,HO_251004,BK250,HB⟩:=hrel
        cases gk with
        | zero => exact absurd HA.out (by simp [dominolaw15_SendqEnd.l0])
        | succ k3 =>
         have H:=HA.out
         clear HA
         simp only [dominolaw15_SendqEnd.l0] at H
         by_cases c28 : x10_3 < 250
         ·rw [if_pos c28] at H
          have c28b0 : decide (x10_3 < 250) = true:=decide_eq_true c28
          clear c28
          (first|rw [c28b0]|(simp only [i64_w,i32_w];rw [c28b0])|skip)
          replace H:=Option.bind_eq_some_iff.mp H
          obtain ⟨⟨t263,t264,t265,t266⟩,A290,H⟩:=H
          replace H : (if t266 = true then (if (IntKind.u64.wrap (t263 + (IntKind.u64.wrap ((t264.size : Int))))) = (IntKind.u64.wrap ((a0.size : Int))) then (dominolaw15_SendqEnd.j3 k3 a0 a2 (wrap64 (1 + (Int.tmod (wrap64 (a1)) 50))) x10_3 t263 t264 t265 (t265 != (!a2)) x251000_3 x251001_3 x251002_3 x251003_3 x251004_3 x251005_3 x251006_3 x251007_3) else (dominolaw15_SendqEnd.j3 k3 a0 a2 (wrap64 (1 + (Int.tmod (wrap64 (a1)) 50))) x10_3 t263 t264 t265 (t265 != false) x251000_3 x251001_3 x251002_3 x251003_3 x251004_3 x251005_3 x251006_3 x251007_3)) else (dominolaw15_SendqEnd.j4 k3 a0 a2 (wrap64 (1 + (Int.tmod (wrap64 (a1)) 50))) x251000_3 x251001_3 x251002_3 x251003_3 x251004_3 x251005_3 x251006_3 x251007_3)) = some r:=H
          have A29:=am_ A290
          clear A290
          by_cases c30 : t266 = true
          ·subst c30
           have H1 : (if (IntKind.u64.wrap (t263 + (IntKind.u64.wrap ((t264.size : Int))))) = (IntKind.u64.wrap ((a0.size : Int))) then (dominolaw15_SendqEnd.j3 k3 a0 a2 (wrap64 (1 + (Int.tmod (wrap64 (a1)) 50))) x10_3 t263 t264 t265 (t265 != (!a2)) x251000_3 x251001_3 x251002_3 x251003_3 x251004_3 x251005_3 x251006_3 x251007_3) else (dominolaw15_SendqEnd.j3 k3 a0 a2 (wrap64 (1 + (Int.tmod (wrap64 (a1)) 50))) x10_3 t263 t264 t265 (t265 != false) x251000_3 x251001_3 x251002_3 x251003_3 x251004_3 x251005_3 x251006_3 x251007_3)) = some r:=by rw [if_pos rfl] at H;exact H
           clear H
           have H:=H1
           clear H1
           have HC31:=am_ H
           clear H
           have hcz32_0 : wr.cell? ⟨gb250,0,none⟩ = some (.int .u64 x251000_3):=(kc_ BK250.out 0).trans rfl
           have hcz32_1 : wr.cell? ⟨gb250,1,none⟩ = some (.int .u64 x251001_3):=(kc_ BK250.out 1).trans rfl
           have hcz32_2 : wr.cell? ⟨gb250,2,none⟩ = some (.string x251002_3):=(kc_ BK250.out 2).trans rfl
           have hcz32_3 : wr.cell? ⟨gb250,3,none⟩ = some (u251003):=(kc_ BK250.out 3).trans rfl
           have hcz32_4 : wr.cell? ⟨gb250,4,none⟩ = some (u251004):=(kc_ BK250.out 4).trans rfl
           have hcz32_5 : wr.cell? ⟨gb250,5,none⟩ = some (.bool x251005_3):=(kc_ BK250.out 5).trans rfl
           have hcz32_6 : wr.cell? ⟨gb250,6,none⟩ = some (.bool x251006_3):=(kc_ BK250.out 6).trans rfl
           have hcz32_7 : wr.cell? ⟨gb250,7,none⟩ = some (.bool x251007_3):=(kc_ BK250.out 7).trans rfl
           have hfz32_0:=blk_frozen BK250.out 0
           have hfz32_1:=blk_frozen BK250.out 1
           have hfz32_2:=blk_frozen BK250.out 2
           have hfz32_3:=blk_frozen BK250.out 3
           have hfz32_4:=blk_frozen BK250.out 4
           have hfz32_5:=blk_frozen BK250.out 5
           have hfz32_6:=blk_frozen BK250.out 6
           have hfz32_7:=blk_frozen BK250.out 7
           obtain ⟨Ao33,co33,eo33⟩:=Kd.V_slice HO_251003.out
           subst eo33
           obtain ⟨Ao34,co34,eo34⟩:=Kd.V_slice HO_251004.out
           subst eo34
           go_upto_region 13 with (first|((with_reducible refine gate_callee (f:=10) rfl ?_);refine goesL_ (some 49) rfl rfl Try.func10 (by kernel_rfl) rfl #[.agg #[.int .u64 x251000_3,.int .u64 x251001_3,.string x251002_3,.slice Ao33 x251003_3.length co33,.slice Ao34 x251004_3.length co34,.bool x251005_3,.bool x251006_3,.bool x251007_3],.int .i64 (wrap64 (1 + (Int.tmod (wrap64 (a1)) 50))),.int .u64 1000] rfl (by (try simp only [List.map_toArray,List.map_cons,List.map_nil]);first|done|rfl|(simp only [List.length_drop,List.length_take];rfl)) ?_;(with_reducible refine (sendq_Next.calls x251000_3 x251001_3 x251002_3 _ _ x251003_3 _ _ x251004_3 x251005_3 x251006_3 x251007_3 (wrap64 (1 + (Int.tmod (wrap64 (a1)) 50))) 1000 t263 t264 t265 true _ ?side1 ?side2 ?side3 ?side4 A29.out).mono ?_);(case side1 => repeat (first|exact (Kd.V_reads' HO_251003.out).2.2|(with_reducible refine Kd.C_alloc ?_ _)|(with_reducible refine Kd.C_drewN ?_ _)|(with_reducible refine Kd.C_drew ?_)));(case side2 => exact (Kd.V_reads' HO_251003.out).2.1);(case side3 => repeat (first|exact (Kd.V_reads' HO_251004.out).2.2|(with_reducible refine Kd.C_alloc ?_ _)|(with_reducible refine Kd.C_drewN ?_ _)|(with_reducible refine Kd.C_drew ?_)));(case side4 => exact (Kd.V_reads' HO_251004.out).2.1);rintro e w35 ⟨rfl,hb⟩;refine ⟨_,rfl,?_⟩;have n0_:=am_ (Kd.V_below (by (with_reducible repeat (first|apply Kd.V_alloc|apply Kd.V_drewN|apply Kd.V_drew));exact HO_251003.out) hb);have n1_:=am_ (Kd.V_below (by (with_reducible repeat (first|apply Kd.V_alloc|apply Kd.V_drewN|apply Kd.V_drew));exact HO_251004.out) hb);have n2_:=am_ (blk_below (g:=gb250) (o:=.cells #[.int .u64 x251000_3,.int .u64 x251001_3,.string x251002_3,.slice Ao33 x251003_3.length co33,.slice Ao34 x251004_3.length co34,.bool x251005_3,.bool x251006_3,.bool x251007_3] 29 (0,0)) (by (with_reducible repeat (first|refine kn_ ?_ _|refine kd_ ?_|refine ka_ ?_ _));exact BK250.out) hb);have n3_:=am_ (below_step (by repeat (first|(with_reducible first|exact HB.out|apply ba_|apply pn_|apply pd_|refine bs_ ?_ GE250.out)|exact HB.out)) hb);clear HO_251003;clear HO_251004;clear BK250;clear HB;have HO_251003:=n0_;have HO_251004:=n1_;have BK250:=n2_;have HB:=n3_;clear n0_ n1_ n2_ n3_;(try clear hb);(try clear hb2);(try clear hk);(try clear hi)))
           (try simp only [Act.put,ps_])
           obtain ⟨bb_, hbb_⟩ : ∃ bb_, ((IntKind.u64.wrap (t263 + (IntKind.u64.wrap ((t264.size : Int))))) == (IntKind.u64.wrap ((a0.size : Int)))) = bb_ := ⟨_, rfl⟩
           rw [hbb_]
           go_cut [71] (fun v71 wc => ∃ (kq : Nat) (x71_30 : Bool),v71 = .bool x71_30 ∧ Aside0 (dominolaw15_SendqEnd.j3 kq a0 a2 (wrap64 (1 + (Int.tmod (wrap64 (a1)) 50))) x10_3 t263 t264 t265 x71_30 x251000_3 x251001_3 x251002_3 x251003_3 x251004_3 x251005_3 x251006_3 x251007_3 = some r) ∧ Aside0 (kq ≤ k3) ∧ Aside0 (Kd.V k67 67 wc w.heap.size (fun k_ => k_ ≠ gb250) (.slice Ao33 x251003_3.length co33) x251003_3) ∧ Aside0 (Kd.V k67 67 wc w.heap.size (fun k_ => k_ ≠ gb250) (.slice Ao34 x251004_3.length co34) x251004_3) ∧ Aside0 (wc.heap[gb250]? = some (.cells #[.int .u64 x251000_3,.int .u64 x251001_3,.string x251002_3,(.slice Ao33 x251003_3.length co33),(.slice Ao34 x251004_3.length co34),.bool x251005_3,.bool x251006_3,.bool x251007_3] 29 (0,0))) ∧ Aside0 (Below w.heap.size w wc))
           case first =>
            have H:=HC31.out
            clear HC31
            by_cases c36 : (IntKind.u64.wrap (t263 + (IntKind.u64.wrap ((t264.size : Int))))) = (IntKind.u64.wrap ((a0.size : Int)))
            ·rw [if_pos c36] at H
             have c36b0 : ((IntKind.u64.wrap (t263 + (IntKind.u64.wrap ((t264.size : Int))))) == (IntKind.u64.wrap ((a0.size : Int)))) = true:=beq_iff_eq.mpr c36
             have c36b1 : ((IntKind.u64.wrap (t263 + (IntKind.u64.wrap ((t264.size : Int))))) != (IntKind.u64.wrap ((a0.size : Int)))) = false:=bne_eq_false_iff_eq.mpr c36
             clear c36
             have e_ := hbb_.symm.trans c36b0
             subst e_
             have H':=am_ H
             clear H
             go_wp2
             go_meet
             case rel => exact ⟨_,((t265 != (!a2))),(by first|rfl|(simp;done)|(simp [*];done)),H',⟨by have:=HJ3.out;have:=HJ11.out;have:=HK3.out;first|omega|exact Nat.le_refl _⟩,⟨by (with_reducible repeat (first|apply Kd.V_alloc|apply Kd.V_drewN|apply Kd.V_drew));exact HO_251003.out⟩,⟨by (with_reducible repeat (first|apply Kd.V_alloc|apply Kd.V_drewN|apply Kd.V_drew));exact HO_251004.out⟩,⟨by (with_reducible repeat (first|refine kn_ ?_ _|refine kd_ ?_|refine ka_ ?_ _));exact BK250.out⟩,⟨by repeat (first|(with_reducible first|exact HB.out|apply ba_|apply pn_|apply pd_|refine bs_ ?_ GE250.out)|exact HB.out)⟩⟩
            ·rw [if_neg c36] at H
             have c36b0 : ((IntKind.u64.wrap (t263 + (IntKind.u64.wrap ((t264.size : Int))))) == (IntKind.u64.wrap ((a0.size : Int)))) = false:=beq_eq_false_iff_ne.mpr c36
             have c36b1 : ((IntKind.u64.wrap (t263 + (IntKind.u64.wrap ((t264.size : Int))))) != (IntKind.u64.wrap ((a0.size : Int)))) = true:=bne_iff_ne.mpr c36
             have e_ := hbb_.symm.trans c36b0
             subst e_
             have H':=am_ H
             clear H
             go_wp2
             go_meet
             case rel => exact ⟨_,((t265 != false)),(by first|rfl|(simp;done)|(simp [*];done)),H',⟨by have:=HJ3.out;have:=HJ11.out;have:=HK3.out;first|omega|exact Nat.le_refl _⟩,⟨by (with_reducible repeat (first|apply Kd.V_alloc|apply Kd.V_drewN|apply Kd.V_drew));exact HO_251003.out⟩,⟨by (with_reducible repeat (first|apply Kd.V_alloc|apply Kd.V_drewN|apply Kd.V_drew));exact HO_251004.out⟩,⟨by (with_reducible repeat (first|refine kn_ ?_ _|refine kd_ ?_|refine ka_ ?_ _));exact BK250.out⟩,⟨by repeat (first|(with_reducible first|exact HB.out|apply ba_|apply pn_|apply pd_|refine bs_ ?_ GE250.out)|exact HB.out)⟩⟩
           case rest =>
            clear HC31
            try clear c1;try clear c2
            try clear p2;try clear c3
            try clear c5;try clear c5b0
            try clear c5b1;try clear c6
            try clear p6;try clear c8
            try clear c9;try clear c10
            try clear c12;try clear c14
            try clear c19;try clear c28
            try clear c28b0;try clear c30
            try clear c36;try clear c36b0
            try clear c36b1;try clear hcz15_0
            try clear hcz15_1;try clear hcz15_2
            try clear hcz15_3;try clear hcz15_4
            try clear hcz15_5;try clear hcz15_6
            try clear hcz15_7;try clear hcz21_0
            try clear hcz21_1;try clear hcz21_2
            try clear hcz21_3;try clear hcz21_4
            try clear hcz21_5;try clear hcz21_6
            try clear hcz21_7;try clear hcz23_0
            try clear hcz23_1;try clear hcz23_2
            try clear hcz23_3;try clear hcz23_4
            try clear hcz23_5;try clear hcz23_6
            try clear hcz23_7;try clear hcz32_0
            try clear hcz32_1;try clear hcz32_2
            try clear hcz32_3;try clear hcz32_4
            try clear hcz32_5;try clear hcz32_6
            try clear hcz32_7;try clear hfz15_0
            try clear hfz15_1;try clear hfz15_2
            try clear hfz15_3;try clear hfz15_4
            try clear hfz15_5;try clear hfz15_6
            try clear hfz15_7;try clear hfz21_0
            try clear hfz21_1;try clear hfz21_2
            try clear hfz21_3;try clear hfz21_4
            try clear hfz21_5;try clear hfz21_6
            try clear hfz21_7;try clear hfz23_0
            try clear hfz23_1;try clear hfz23_2
            try clear hfz23_3;try clear hfz23_4
            try clear hfz23_5;try clear hfz23_6
            try clear hfz23_7;try clear hfz32_0
            try clear hfz32_1;try clear hfz32_2
            try clear hfz32_3;try clear hfz32_4
            try clear hfz32_5;try clear hfz32_6
            try clear hfz32_7;try clear p2;try clear p6
            obtain ⟨kq,x71_30,rfl,HA,HJ30,HO_251003,HO_251004,BK250,HB⟩:=hcut
            cases kq with
            | zero => exact absurd HA.out (by simp [dominolaw15_SendqEnd.j3])
            | succ kj30 =>
             have H:=HA.out
             clear HA
             simp only [dominolaw15_SendqEnd.j3] at H
             by_cases c37 : x71_30 = true
             ·subst c37
              have H1 : (none) = some r:=by rw [if_pos rfl] at H;exact H
              clear H
              have H:=H1
              clear H1
              exact absurd H (by simp)
             ·replace c37:=Bool.eq_false_iff.mpr c37
              subst c37
              have H1 : ((sendq_Sent.f kj30 x251000_3 x251001_3 x251002_3 x251003_3 x251004_3 x251005_3 x251006_3 x251007_3 t263 (t264.size : Int) t265).bind fun bt267 => ((sendq_Acked.f kj30 bt267.1 bt267.2.1 bt267.2.2.1 bt267.2.2.2.1 bt267.2.2.2.2.1 bt267.2.2.2.2.2.1 bt267.2.2.2.2.2.2.1 bt267.2.2.2.2.2.2.2 t263 (t264.size : Int) t265).bind fun bt279 => ((sendq_Done.f bt279.1 bt279.2.1 bt279.2.2.1 bt279.2.2.2.1 bt279.2.2.2.2.1 bt279.2.2.2.2.2.1 bt279.2.2.2.2.2.2.1 bt279.2.2.2.2.2.2.2).bind fun t291 => (if (t291 != t265) = true then (none) else (dominolaw15_SendqEnd.l0 kj30 a0 a2 (wrap64 (1 + (Int.tmod (wrap64 (a1)) 50))) (wrap64 (x10_3 + 1)) bt279.1 bt279.2.1 bt279.2.2.1 bt279.2.2.2.1 bt279.2.2.2.2.1 bt279.2.2.2.2.2.1 bt279.2.2.2.2.2.2.1 bt279.2.2.2.2.2.2.2))))) = some r:=by rw [if_neg (show ¬ (false = true) by decide)] at H;exact H
              clear H
              have H:=H1
              clear H1
              replace H:=Option.bind_eq_some_iff.mp H
              obtain ⟨⟨t267,t268,t269,t270,t273,t276,t277,t278⟩,A380,H⟩:=H
              replace H : ((sendq_Acked.f kj30 t267 t268 t269 t270 t273 t276 t277 t278 t263 (t264.size : Int) t265).bind fun bt279 => ((sendq_Done.f bt279.1 bt279.2.1 bt279.2.2.1 bt279.2.2.2.1 bt279.2.2.2.2.1 bt279.2.2.2.2.2.1 bt279.2.2.2.2.2.2.1 bt279.2.2.2.2.2.2.2).bind fun t291 => (if (t291 != t265) = true then (none) else (dominolaw15_SendqEnd.l0 kj30 a0 a2 (wrap64 (1 + (Int.tmod (wrap64 (a1)) 50))) (wrap64 (x10_3 + 1)) bt279.1 bt279.2.1 bt279.2.2.1 bt279.2.2.2.1 bt279.2.2.2.2.1 bt279.2.2.2.2.2.1 bt279.2.2.2.2.2.2.1 bt279.2.2.2.2.2.2.2)))) = some r:=H
              have A38:=am_ A380
              clear A380
              replace H:=Option.bind_eq_some_iff.mp H
              obtain ⟨⟨t279,t280,t281,t282,t285,t288,t289,t290⟩,A390,H⟩:=H
              replace H : ((sendq_Done.f t279 t280 t281 t282 t285 t288 t289 t290).bind fun t291 => (if (t291 != t265) = true then (none) else (dominolaw15_SendqEnd.l0 kj30 a0 a2 (wrap64 (1 + (Int.tmod (wrap64 (a1)) 50))) (wrap64 (x10_3 + 1)) t279 t280 t281 t282 t285 t288 t289 t290))) = some r:=H
              have A39:=am_ A390
              clear A390
              replace H:=Option.bind_eq_some_iff.mp H
              obtain ⟨t291,A400,H⟩:=H
              replace H : (if (t291 != t265) = true then (none) else (dominolaw15_SendqEnd.l0 kj30 a0 a2 (wrap64 (1 + (Int.tmod (wrap64 (a1)) 50))) (wrap64 (x10_3 + 1)) t279 t280 t281 t282 t285 t288 t289 t290)) = some r:=H
              have A40:=am_ A400
              clear A400
              by_cases c41 : (t291 != t265) = true
              ·rw [if_pos c41] at H
               exact absurd H (by simp)
              ·rw [if_neg c41] at H
               have c41b0 : (t291 != t265) = false:=by simpa using c41
               (try (have c41b1 : decide (t291 = t265) = true:=by simpa using c41))
               (try (have c41b2 : (t291 == t265) = true:=by simpa using c41))
               clear c41
               have H':=am_ H
               clear H
               have hcz42_0 : wc.cell? ⟨gb250,0,none⟩ = some (.int .u64 x251000_3):=(kc_ BK250.out 0).trans rfl
               have hcz42_1 : wc.cell? ⟨gb250,1,none⟩ = some (.int .u64 x251001_3):=(kc_ BK250.out 1).trans rfl
               have hcz42_2 : wc.cell? ⟨gb250,2,none⟩ = some (.string x251002_3):=(kc_ BK250.out 2).trans rfl
               have hcz42_3 : wc.cell? ⟨gb250,3,none⟩ = some (.slice Ao33 x251003_3.length co33):=(kc_ BK250.out 3).trans rfl
               have hcz42_4 : wc.cell? ⟨gb250,4,none⟩ = some (.slice Ao34 x251004_3.length co34):=(kc_ BK250.out 4).trans rfl
               have hcz42_5 : wc.cell? ⟨gb250,5,none⟩ = some (.bool x251005_3):=(kc_ BK250.out 5).trans rfl
               have hcz42_6 : wc.cell? ⟨gb250,6,none⟩ = some (.bool x251006_3):=(kc_ BK250.out 6).trans rfl
               have hcz42_7 : wc.cell? ⟨gb250,7,none⟩ = some (.bool x251007_3):=(kc_ BK250.out 7).trans rfl
               have hfz42_0:=blk_frozen BK250.out 0
               have hfz42_1:=blk_frozen BK250.out 1
               have hfz42_2:=blk_frozen BK250.out 2
               have hfz42_3:=blk_frozen BK250.out 3
               have hfz42_4:=blk_frozen BK250.out 4
               have hfz42_5:=blk_frozen BK250.out 5
               have hfz42_6:=blk_frozen BK250.out 6
               have hfz42_7:=blk_frozen BK250.out 7
               go_wp2_with (first|((with_reducible refine gate_callee (f:=16) rfl ?_);refine goesL_ (some 77) rfl rfl Try.func16 (by kernel_rfl) rfl #[.agg #[.int .u64 x251000_3,.int .u64 x251001_3,.string x251002_3,.slice Ao33 x251003_3.length co33,.slice Ao34 x251004_3.length co34,.bool x251005_3,.bool x251006_3,.bool x251007_3],.int .u64 t263,.int .i64 (t264.size : Int),.bool t265] rfl (by (try simp only [List.map_toArray,List.map_cons,List.map_nil]);first|done|rfl|(simp only [List.length_drop,List.length_take];rfl)) ?_;(with_reducible refine (sendq_Sent.calls kj30 x251000_3 x251001_3 x251002_3 (fun k_ => k_ ≠ gb250) _ _ x251003_3 (fun k_ => k_ ≠ gb250) _ _ x251004_3 x251005_3 x251006_3 x251007_3 t263 (t264.size : Int) t265 t267 t268 t269 t270 t273 t276 t277 t278 _ ?side1 ?side2 A38.out).mono ?_);(case side1 => exact HO_251003.out);(case side2 => exact HO_251004.out);rintro e w43 ⟨v271,v274,rfl,ho0,ho1,hb⟩;refine ⟨_,rfl,?_⟩;have n0_:=am_ (Kd.V_below (by (with_reducible repeat (first|apply Kd.V_alloc|apply Kd.V_drewN|apply Kd.V_drew));exact HO_251003.out) hb);have n1_:=am_ (Kd.V_below (by (with_reducible repeat (first|apply Kd.V_alloc|apply Kd.V_drewN|apply Kd.V_drew));exact HO_251004.out) hb);have n2_:=am_ (Kd.V_lower (Kd.V_mono (ok':=fun k_ => k_ ≠ gb250) ho0 (fun k_ hk_ => Or.elim hk_ (fun hs_ => Or.elim hs_ (fun hs_ => hs_) (fun hs_ => hs_)) (fun hn_ => (Kd.freshB (g:=gb250) (o:=.cells #[.int .u64 x251000_3,.int .u64 x251001_3,.string x251002_3,.slice Ao33 x251003_3.length co33,.slice Ao34 x251004_3.length co34,.bool x251005_3,.bool x251006_3,.bool x251007_3] 29 (0,0)) (by (with_reducible repeat (first|refine kn_ ?_ _|refine kd_ ?_|refine ka_ ?_ _));exact BK250.out) k_ hn_)))) (below_size (by repeat (first|(with_reducible first|exact HB.out|apply ba_|apply pn_|apply pd_|refine bs_ ?_ GE250.out)|exact HB.out))));have n3_:=am_ (Kd.V_lower (Kd.V_mono (ok':=fun k_ => k_ ≠ gb250) ho1 (fun k_ hk_ => Or.elim hk_ (fun hs_ => Or.elim hs_ (fun hs_ => hs_) (fun hs_ => hs_)) (fun hn_ => (Kd.freshB (g:=gb250) (o:=.cells #[.int .u64 x251000_3,.int .u64 x251001_3,.string x251002_3,.slice Ao33 x251003_3.length co33,.slice Ao34 x251004_3.length co34,.bool x251005_3,.bool x251006_3,.bool x251007_3] 29 (0,0)) (by (with_reducible repeat (first|refine kn_ ?_ _|refine kd_ ?_|refine ka_ ?_ _));exact BK250.out) k_ hn_)))) (below_size (by repeat (first|(with_reducible first|exact HB.out|apply ba_|apply pn_|apply pd_|refine bs_ ?_ GE250.out)|exact HB.out))));have n4_:=am_ (blk_below (g:=gb250) (o:=.cells #[.int .u64 x251000_3,.int .u64 x251001_3,.string x251002_3,.slice Ao33 x251003_3.length co33,.slice Ao34 x251004_3.length co34,.bool x251005_3,.bool x251006_3,.bool x251007_3] 29 (0,0)) (by (with_reducible repeat (first|refine kn_ ?_ _|refine kd_ ?_|refine ka_ ?_ _));exact BK250.out) hb);have n5_:=am_ (below_step (by repeat (first|(with_reducible first|exact HB.out|apply ba_|apply pn_|apply pd_|refine bs_ ?_ GE250.out)|exact HB.out)) hb);clear HO_251003;clear HO_251004;clear BK250;clear HB;have HO_251003:=n0_;have HO_251004:=n1_;have HO272:=n2_;have HO275:=n3_;have BK250:=n4_;have HB:=n5_;clear n0_ n1_ n2_ n3_ n4_ n5_;(try clear hb);(try clear hb2);(try clear hk);(try clear hi);(try clear ho0);(try clear ho1);have hcz44_0 : w43.cell? ⟨gb250,0,none⟩ = some (.int .u64 x251000_3):=(kc_ BK250.out 0).trans rfl;have hcz44_1 : w43.cell? ⟨gb250,1,none⟩ = some (.int .u64 x251001_3):=(kc_ BK250.out 1).trans rfl;have hcz44_2 : w43.cell? ⟨gb250,2,none⟩ = some (.string x251002_3):=(kc_ BK250.out 2).trans rfl;have hcz44_3 : w43.cell? ⟨gb250,3,none⟩ = some (.slice Ao33 x251003_3.length co33):=(kc_ BK250.out 3).trans rfl;have hcz44_4 : w43.cell? ⟨gb250,4,none⟩ = some (.slice Ao34 x251004_3.length co34):=(kc_ BK250.out 4).trans rfl;have hcz44_5 : w43.cell? ⟨gb250,5,none⟩ = some (.bool x251005_3):=(kc_ BK250.out 5).trans rfl;have hcz44_6 : w43.cell? ⟨gb250,6,none⟩ = some (.bool x251006_3):=(kc_ BK250.out 6).trans rfl;have hcz44_7 : w43.cell? ⟨gb250,7,none⟩ = some (.bool x251007_3):=(kc_ BK250.out 7).trans rfl;have hfz44_0:=blk_frozen BK250.out 0;have hfz44_1:=blk_frozen BK250.out 1;have hfz44_2:=blk_frozen BK250.out 2;have hfz44_3:=blk_frozen BK250.out 3;have hfz44_4:=blk_frozen BK250.out 4;have hfz44_5:=blk_frozen BK250.out 5;have hfz44_6:=blk_frozen BK250.out 6;have hfz44_7:=blk_frozen BK250.out 7;obtain ⟨Ao45,co45,eo45⟩:=Kd.V_slice HO272.out;subst eo45;obtain ⟨Ao46,co46,eo46⟩:=Kd.V_slice HO275.out;subst eo46)|((with_reducible refine gate_store (t:=29) (p:=7) rfl ?_);refine store_event (t:=29) (p:=7) (v:=?vo_w47) (w1:=((((((((w43.setCell ⟨gb250,0,none⟩ (.int .u64 t267)).setCell ⟨gb250,1,none⟩ (.int .u64 t268)).setCell ⟨gb250,2,none⟩ (.string t269)).setCell ⟨gb250,3,none⟩ (.slice Ao45 t270.length co45)).setCell ⟨gb250,4,none⟩ (.slice Ao46 t273.length co46)).setCell ⟨gb250,5,none⟩ (.bool t276)).setCell ⟨gb250,6,none⟩ (.bool t277)).setCell ⟨gb250,7,none⟩ (.bool t278))) ?hg ?ho ?hn ?hr ?_;(case ho => rfl);(case hg => rfl);(case hn => rfl);(case hr => first|(go_simp;done)|(go_simp;rfl));intro w47 hw;have n0_ : Aside0 (Kd.V k67 67 w47 w.heap.size (fun k_ => k_ ≠ gb250) (.slice Ao33 x251003_3.length co33) x251003_3):=⟨(by rw [hw];exact (by (with_reducible repeat (first|apply Kd.V_alloc|apply Kd.V_drewN|apply Kd.V_drew));exact Kd.V_mono (Kd.V_far (p:=⟨gb250,7,none⟩) (Kd.V_far (p:=⟨gb250,6,none⟩) (Kd.V_far (p:=⟨gb250,5,none⟩) (Kd.V_far (p:=⟨gb250,4,none⟩) (Kd.V_far (p:=⟨gb250,3,none⟩) (Kd.V_far (p:=⟨gb250,2,none⟩) (Kd.V_far (p:=⟨gb250,1,none⟩) (Kd.V_far (p:=⟨gb250,0,none⟩) (Kd.V_mono HO_251003.out (fun k_ hk => (⟨hk,hk⟩ : _ ∧ k_ ≠ gb250))) (fun _ hk => hk.2) (.int .u64 t267)) (fun _ hk => hk.2) (.int .u64 t268)) (fun _ hk => hk.2) (.string t269)) (fun _ hk => hk.2) (.slice Ao45 t270.length co45)) (fun _ hk => hk.2) (.slice Ao46 t273.length co46)) (fun _ hk => hk.2) (.bool t276)) (fun _ hk => hk.2) (.bool t277)) (fun _ hk => hk.2) (.bool t278)) (fun _ hk => hk.1)))⟩;have n1_ : Aside0 (Kd.V k67 67 w47 w.heap.size (fun k_ => k_ ≠ gb250) (.slice Ao34 x251004_3.length co34) x251004_3):=⟨(by rw [hw];exact (by (with_reducible repeat (first|apply Kd.V_alloc|apply Kd.V_drewN|apply Kd.V_drew));exact Kd.V_mono (Kd.V_far (p:=⟨gb250,7,none⟩) (Kd.V_far (p:=⟨gb250,6,none⟩) (Kd.V_far (p:=⟨gb250,5,none⟩) (Kd.V_far (p:=⟨gb250,4,none⟩) (Kd.V_far (p:=⟨gb250,3,none⟩) (Kd.V_far (p:=⟨gb250,2,none⟩) (Kd.V_far (p:=⟨gb250,1,none⟩) (Kd.V_far (p:=⟨gb250,0,none⟩) (Kd.V_mono HO_251004.out (fun k_ hk => (⟨hk,hk⟩ : _ ∧ k_ ≠ gb250))) (fun _ hk => hk.2) (.int .u64 t267)) (fun _ hk => hk.2) (.int .u64 t268)) (fun _ hk => hk.2) (.string t269)) (fun _ hk => hk.2) (.slice Ao45 t270.length co45)) (fun _ hk => hk.2) (.slice Ao46 t273.length co46)) (fun _ hk => hk.2) (.bool t276)) (fun _ hk => hk.2) (.bool t277)) (fun _ hk => hk.2) (.bool t278)) (fun _ hk => hk.1)))⟩;have n2_ : Aside0 (Kd.V k67 67 w47 w.heap.size (fun k_ => k_ ≠ gb250) (.slice Ao45 t270.length co45) t270):=⟨(by rw [hw];exact (by (with_reducible repeat (first|apply Kd.V_alloc|apply Kd.V_drewN|apply Kd.V_drew));exact Kd.V_mono (Kd.V_far (p:=⟨gb250,7,none⟩) (Kd.V_far (p:=⟨gb250,6,none⟩) (Kd.V_far (p:=⟨gb250,5,none⟩) (Kd.V_far (p:=⟨gb250,4,none⟩) (Kd.V_far (p:=⟨gb250,3,none⟩) (Kd.V_far (p:=⟨gb250,2,none⟩) (Kd.V_far (p:=⟨gb250,1,none⟩) (Kd.V_far (p:=⟨gb250,0,none⟩) (Kd.V_mono HO272.out (fun k_ hk => (⟨hk,hk⟩ : _ ∧ k_ ≠ gb250))) (fun _ hk => hk.2) (.int .u64 t267)) (fun _ hk => hk.2) (.int .u64 t268)) (fun _ hk => hk.2) (.string t269)) (fun _ hk => hk.2) (.slice Ao45 t270.length co45)) (fun _ hk => hk.2) (.slice Ao46 t273.length co46)) (fun _ hk => hk.2) (.bool t276)) (fun _ hk => hk.2) (.bool t277)) (fun _ hk => hk.2) (.bool t278)) (fun _ hk => hk.1)))⟩;have n3_ : Aside0 (Kd.V k67 67 w47 w.heap.size (fun k_ => k_ ≠ gb250) (.slice Ao46 t273.length co46) t273):=⟨(by rw [hw];exact (by (with_reducible repeat (first|apply Kd.V_alloc|apply Kd.V_drewN|apply Kd.V_drew));exact Kd.V_mono (Kd.V_far (p:=⟨gb250,7,none⟩) (Kd.V_far (p:=⟨gb250,6,none⟩) (Kd.V_far (p:=⟨gb250,5,none⟩) (Kd.V_far (p:=⟨gb250,4,none⟩) (Kd.V_far (p:=⟨gb250,3,none⟩) (Kd.V_far (p:=⟨gb250,2,none⟩) (Kd.V_far (p:=⟨gb250,1,none⟩) (Kd.V_far (p:=⟨gb250,0,none⟩) (Kd.V_mono HO275.out (fun k_ hk => (⟨hk,hk⟩ : _ ∧ k_ ≠ gb250))) (fun _ hk => hk.2) (.int .u64 t267)) (fun _ hk => hk.2) (.int .u64 t268)) (fun _ hk => hk.2) (.string t269)) (fun _ hk => hk.2) (.slice Ao45 t270.length co45)) (fun _ hk => hk.2) (.slice Ao46 t273.length co46)) (fun _ hk => hk.2) (.bool t276)) (fun _ hk => hk.2) (.bool t277)) (fun _ hk => hk.2) (.bool t278)) (fun _ hk => hk.1)))⟩;have n4_ : Aside0 (w47.heap[gb250]? = some (.cells #[.int .u64 t267,.int .u64 t268,.string t269,.slice Ao45 t270.length co45,.slice Ao46 t273.length co46,.bool t276,.bool t277,.bool t278] 29 (0,0))):=⟨(by rw [hw];exact (by (with_reducible repeat (first|refine kn_ ?_ _|refine kd_ ?_|refine ka_ ?_ _));refine blk_put (cs:=#[.int .u64 t267,.int .u64 t268,.string t269,.slice Ao45 t270.length co45,.slice Ao46 t273.length co46,.bool t276,.bool t277,.bool x251007_3]) ?_ 7 _ rfl;(with_reducible repeat (first|refine kn_ ?_ _|refine kd_ ?_|refine ka_ ?_ _));refine blk_put (cs:=#[.int .u64 t267,.int .u64 t268,.string t269,.slice Ao45 t270.length co45,.slice Ao46 t273.length co46,.bool t276,.bool x251006_3,.bool x251007_3]) ?_ 6 _ rfl;(with_reducible repeat (first|refine kn_ ?_ _|refine kd_ ?_|refine ka_ ?_ _));refine blk_put (cs:=#[.int .u64 t267,.int .u64 t268,.string t269,.slice Ao45 t270.length co45,.slice Ao46 t273.length co46,.bool x251005_3,.bool x251006_3,.bool x251007_3]) ?_ 5 _ rfl;(with_reducible repeat (first|refine kn_ ?_ _|refine kd_ ?_|refine ka_ ?_ _));refine blk_put (cs:=#[.int .u64 t267,.int .u64 t268,.string t269,.slice Ao45 t270.length co45,.slice Ao34 x251004_3.length co34,.bool x251005_3,.bool x251006_3,.bool x251007_3]) ?_ 4 _ rfl;(with_reducible repeat (first|refine kn_ ?_ _|refine kd_ ?_|refine ka_ ?_ _));refine blk_put (cs:=#[.int .u64 t267,.int .u64 t268,.string t269,.slice Ao33 x251003_3.length co33,.slice Ao34 x251004_3.length co34,.bool x251005_3,.bool x251006_3,.bool x251007_3]) ?_ 3 _ rfl;(with_reducible repeat (first|refine kn_ ?_ _|refine kd_ ?_|refine ka_ ?_ _));refine blk_put (cs:=#[.int .u64 t267,.int .u64 t268,.string x251002_3,.slice Ao33 x251003_3.length co33,.slice Ao34 x251004_3.length co34,.bool x251005_3,.bool x251006_3,.bool x251007_3]) ?_ 2 _ rfl;(with_reducible repeat (first|refine kn_ ?_ _|refine kd_ ?_|refine ka_ ?_ _));refine blk_put (cs:=#[.int .u64 t267,.int .u64 x251001_3,.string x251002_3,.slice Ao33 x251003_3.length co33,.slice Ao34 x251004_3.length co34,.bool x251005_3,.bool x251006_3,.bool x251007_3]) ?_ 1 _ rfl;(with_reducible repeat (first|refine kn_ ?_ _|refine kd_ ?_|refine ka_ ?_ _));refine blk_put (cs:=#[.int .u64 x251000_3,.int .u64 x251001_3,.string x251002_3,.slice Ao33 x251003_3.length co33,.slice Ao34 x251004_3.length co34,.bool x251005_3,.bool x251006_3,.bool x251007_3]) ?_ 0 _ rfl;(with_reducible repeat (first|refine kn_ ?_ _|refine kd_ ?_|refine ka_ ?_ _));exact BK250.out))⟩;have n5_ : Aside0 (Below w.heap.size w w47):=⟨(by rw [hw];exact (by repeat (first|(with_reducible first|exact HB.out|apply ba_|apply pn_|apply pd_|refine bs_ ?_ GE250.out)|exact HB.out)))⟩;clear hw;clear HO_251003;clear HO_251004;clear HO272;clear HO275;clear BK250;clear HB;have HO_251003:=n0_;have HO_251004:=n1_;have HO272:=n2_;have HO275:=n3_;have BK250:=n4_;have HB:=n5_;clear n0_ n1_ n2_ n3_ n4_ n5_;have hcz48_0 : w47.cell? ⟨gb250,0,none⟩ = some (.int .u64 t267):=(kc_ BK250.out 0).trans rfl;have hcz48_1 : w47.cell? ⟨gb250,1,none⟩ = some (.int .u64 t268):=(kc_ BK250.out 1).trans rfl;have hcz48_2 : w47.cell? ⟨gb250,2,none⟩ = some (.string t269):=(kc_ BK250.out 2).trans rfl;have hcz48_3 : w47.cell? ⟨gb250,3,none⟩ = some (.slice Ao45 t270.length co45):=(kc_ BK250.out 3).trans rfl;have hcz48_4 : w47.cell? ⟨gb250,4,none⟩ = some (.slice Ao46 t273.length co46):=(kc_ BK250.out 4).trans rfl;have hcz48_5 : w47.cell? ⟨gb250,5,none⟩ = some (.bool t276):=(kc_ BK250.out 5).trans rfl;have hcz48_6 : w47.cell? ⟨gb250,6,none⟩ = some (.bool t277):=(kc_ BK250.out 6).trans rfl;have hcz48_7 : w47.cell? ⟨gb250,7,none⟩ = some (.bool t278):=(kc_ BK250.out 7).trans rfl;have hfz48_0:=blk_frozen BK250.out 0;have hfz48_1:=blk_frozen BK250.out 1;have hfz48_2:=blk_frozen BK250.out 2;have hfz48_3:=blk_frozen BK250.out 3;have hfz48_4:=blk_frozen BK250.out 4;have hfz48_5:=blk_frozen BK250.out 5;have hfz48_6:=blk_frozen BK250.out 6;have hfz48_7:=blk_frozen BK250.out 7)|((with_reducible refine gate_callee (f:=20) rfl ?_);refine goesL_ (some 83) rfl rfl Try.func20 (by kernel_rfl) rfl #[.agg #[.int .u64 t267,.int .u64 t268,.string t269,.slice Ao45 t270.length co45,.slice Ao46 t273.length co46,.bool t276,.bool t277,.bool t278],.int .u64 t263,.int .i64 (t264.size : Int),.bool t265] rfl (by (try simp only [List.map_toArray,List.map_cons,List.map_nil]);first|done|rfl|(simp only [List.length_drop,List.length_take];rfl)) ?_;(with_reducible refine (sendq_Acked.calls kj30 t267 t268 t269 (fun k_ => k_ ≠ gb250) _ _ t270 (fun k_ => k_ ≠ gb250) _ _ t273 t276 t277 t278 t263 (t264.size : Int) t265 t279 t280 t281 t282 t285 t288 t289 t290 _ ?side1 ?side2 A39.out).mono ?_);(case side1 => exact HO272.out);(case side2 => exact HO275.out);rintro e w49 ⟨v283,v286,rfl,ho0,ho1,hb⟩;refine ⟨_,rfl,?_⟩;have n0_:=am_ (Kd.V_below (by (with_reducible repeat (first|apply Kd.V_alloc|apply Kd.V_drewN|apply Kd.V_drew));exact HO_251003.out) hb);have n1_:=am_ (Kd.V_below (by (with_reducible repeat (first|apply Kd.V_alloc|apply Kd.V_drewN|apply Kd.V_drew));exact HO_251004.out) hb);have n2_:=am_ (Kd.V_below (by (with_reducible repeat (first|apply Kd.V_alloc|apply Kd.V_drewN|apply Kd.V_drew));exact HO272.out) hb);have n3_:=am_ (Kd.V_below (by (with_reducible repeat (first|apply Kd.V_alloc|apply Kd.V_drewN|apply Kd.V_drew));exact HO275.out) hb);have n4_:=am_ (Kd.V_lower (Kd.V_mono (ok':=fun k_ => k_ ≠ gb250) ho0 (fun k_ hk_ => Or.elim hk_ (fun hs_ => Or.elim hs_ (fun hs_ => hs_) (fun hs_ => hs_)) (fun hn_ => (Kd.freshB (g:=gb250) (o:=.cells #[.int .u64 t267,.int .u64 t268,.string t269,.slice Ao45 t270.length co45,.slice Ao46 t273.length co46,.bool t276,.bool t277,.bool t278] 29 (0,0)) (by (with_reducible repeat (first|refine kn_ ?_ _|refine kd_ ?_|refine ka_ ?_ _));exact BK250.out) k_ hn_)))) (below_size (by repeat (first|(with_reducible first|exact HB.out|apply ba_|apply pn_|apply pd_|refine bs_ ?_ GE250.out)|exact HB.out))));have n5_:=am_ (Kd.V_lower (Kd.V_mono (ok':=fun k_ => k_ ≠ gb250) ho1 (fun k_ hk_ => Or.elim hk_ (fun hs_ => Or.elim hs_ (fun hs_ => hs_) (fun hs_ => hs_)) (fun hn_ => (Kd.freshB (g:=gb250) (o:=.cells #[.int .u64 t267,.int .u64 t268,.string t269,.slice Ao45 t270.length co45,.slice Ao46 t273.length co46,.bool t276,.bool t277,.bool t278] 29 (0,0)) (by (with_reducible repeat (first|refine kn_ ?_ _|refine kd_ ?_|refine ka_ ?_ _));exact BK250.out) k_ hn_)))) (below_size (by repeat (first|(with_reducible first|exact HB.out|apply ba_|apply pn_|apply pd_|refine bs_ ?_ GE250.out)|exact HB.out))));have n6_:=am_ (blk_below (g:=gb250) (o:=.cells #[.int .u64 t267,.int .u64 t268,.string t269,.slice Ao45 t270.length co45,.slice Ao46 t273.length co46,.bool t276,.bool t277,.bool t278] 29 (0,0)) (by (with_reducible repeat (first|refine kn_ ?_ _|refine kd_ ?_|refine ka_ ?_ _));exact BK250.out) hb);have n7_:=am_ (below_step (by repeat (first|(with_reducible first|exact HB.out|apply ba_|apply pn_|apply pd_|refine bs_ ?_ GE250.out)|exact HB.out)) hb);clear HO_251003;clear HO_251004;clear HO272;clear HO275;clear BK250;clear HB;have HO_251003:=n0_;have HO_251004:=n1_;have HO272:=n2_;have HO275:=n3_;have HO284:=n4_;have HO287:=n5_;have BK250:=n6_;have HB:=n7_;clear n0_ n1_ n2_ n3_ n4_ n5_ n6_ n7_;(try clear hb);(try clear hb2);(try clear hk);(try clear hi);(try clear ho0);(try clear ho1);have hcz50_0 : w49.cell? ⟨gb250,0,none⟩ = some (.int .u64 t267):=(kc_ BK250.out 0).trans rfl;have hcz50_1 : w49.cell? ⟨gb250,1,none⟩ = some (.int .u64 t268):=(kc_ BK250.out 1).trans rfl;have hcz50_2 : w49.cell? ⟨gb250,2,none⟩ = some (.string t269):=(kc_ BK250.out 2).trans rfl;have hcz50_3 : w49.cell? ⟨gb250,3,none⟩ = some (.slice Ao45 t270.length co45):=(kc_ BK250.out 3).trans rfl;have hcz50_4 : w49.cell? ⟨gb250,4,none⟩ = some (.slice Ao46 t273.length co46):=(kc_ BK250.out 4).trans rfl;have hcz50_5 : w49.cell? ⟨gb250,5,none⟩ = some (.bool t276):=(kc_ BK250.out 5).trans rfl;have hcz50_6 : w49.cell? ⟨gb250,6,none⟩ = some (.bool t277):=(kc_ BK250.out 6).trans rfl;have hcz50_7 : w49.cell? ⟨gb250,7,none⟩ = some (.bool t278):=(kc_ BK250.out 7).trans rfl;have hfz50_0:=blk_frozen BK250.out 0;have hfz50_1:=blk_frozen BK250.out 1;have hfz50_2:=blk_frozen BK250.out 2;have hfz50_3:=blk_frozen BK250.out 3;have hfz50_4:=blk_frozen BK250.out 4;have hfz50_5:=blk_frozen BK250.out 5;have hfz50_6:=blk_frozen BK250.out 6;have hfz50_7:=blk_frozen BK250.out 7;obtain ⟨Ao51,co51,eo51⟩:=Kd.V_slice HO284.out;subst eo51;obtain ⟨Ao52,co52,eo52⟩:=Kd.V_slice HO287.out;subst eo52)|((with_reducible refine gate_callee (f:=24) rfl ?_);refine goesL_ (some 85) rfl rfl Try.func24 (by kernel_rfl) rfl #[.agg #[.int .u64 t279,.int .u64 t280,.string t281,.slice Ao51 t282.length co51,.slice Ao52 t285.length co52,.bool t288,.bool t289,.bool t290]] rfl (by (try simp only [List.map_toArray,List.map_cons,List.map_nil]);first|done|rfl|(simp only [List.length_drop,List.length_take];rfl)) ?_;(with_reducible refine (sendq_Done.calls t279 t280 t281 _ _ t282 _ _ t285 t288 t289 t290 t291 _ ?side1 ?side2 ?side3 ?side4 A40.out).mono ?_);(case side1 => refine (Kd.V_reads' (e:=67) (base:=w.heap.size) (ok:=fun _ => True) (n:=t282.length) (c:=co51) ?_).2.2;exact (by (with_reducible repeat (first|apply Kd.V_alloc|apply Kd.V_drewN|apply Kd.V_drew));exact (Kd.V_mono (Kd.V_far (p:=⟨gb250,7,none⟩) (Kd.V_far (p:=⟨gb250,6,none⟩) (Kd.V_far (p:=⟨gb250,5,none⟩) (Kd.V_far (p:=⟨gb250,4,none⟩) (Kd.V_far (p:=⟨gb250,3,none⟩) (Kd.V_far (p:=⟨gb250,2,none⟩) (Kd.V_far (p:=⟨gb250,1,none⟩) (Kd.V_far (p:=⟨gb250,0,none⟩) (Kd.V_mono HO284.out (fun k_ hk => (⟨hk,hk⟩ : _ ∧ k_ ≠ gb250))) (fun _ hk => hk.2) (.int .u64 t279)) (fun _ hk => hk.2) (.int .u64 t280)) (fun _ hk => hk.2) (.string t281)) (fun _ hk => hk.2) (.slice Ao51 t282.length co51)) (fun _ hk => hk.2) (.slice Ao52 t285.length co52)) (fun _ hk => hk.2) (.bool t288)) (fun _ hk => hk.2) (.bool t289)) (fun _ hk => hk.2) (.bool t290)) (fun _ _ => trivial))));(case side2 => exact (Kd.V_reads' HO284.out).2.1);(case side3 => refine (Kd.V_reads' (e:=67) (base:=w.heap.size) (ok:=fun _ => True) (n:=t285.length) (c:=co52) ?_).2.2;exact (by (with_reducible repeat (first|apply Kd.V_alloc|apply Kd.V_drewN|apply Kd.V_drew));exact (Kd.V_mono (Kd.V_far (p:=⟨gb250,7,none⟩) (Kd.V_far (p:=⟨gb250,6,none⟩) (Kd.V_far (p:=⟨gb250,5,none⟩) (Kd.V_far (p:=⟨gb250,4,none⟩) (Kd.V_far (p:=⟨gb250,3,none⟩) (Kd.V_far (p:=⟨gb250,2,none⟩) (Kd.V_far (p:=⟨gb250,1,none⟩) (Kd.V_far (p:=⟨gb250,0,none⟩) (Kd.V_mono HO287.out (fun k_ hk => (⟨hk,hk⟩ : _ ∧ k_ ≠ gb250))) (fun _ hk => hk.2) (.int .u64 t279)) (fun _ hk => hk.2) (.int .u64 t280)) (fun _ hk => hk.2) (.string t281)) (fun _ hk => hk.2) (.slice Ao51 t282.length co51)) (fun _ hk => hk.2) (.slice Ao52 t285.length co52)) (fun _ hk => hk.2) (.bool t288)) (fun _ hk => hk.2) (.bool t289)) (fun _ hk => hk.2) (.bool t290)) (fun _ _ => trivial))));(case side4 => exact (Kd.V_reads' HO287.out).2.1);rintro e w53 ⟨rfl,hb⟩;refine ⟨_,rfl,?_⟩;have n0_:=am_ (Kd.V_below (by (with_reducible repeat (first|apply Kd.V_alloc|apply Kd.V_drewN|apply Kd.V_drew));exact (Kd.V_mono (Kd.V_far (p:=⟨gb250,7,none⟩) (Kd.V_far (p:=⟨gb250,6,none⟩) (Kd.V_far (p:=⟨gb250,5,none⟩) (Kd.V_far (p:=⟨gb250,4,none⟩) (Kd.V_far (p:=⟨gb250,3,none⟩) (Kd.V_far (p:=⟨gb250,2,none⟩) (Kd.V_far (p:=⟨gb250,1,none⟩) (Kd.V_far (p:=⟨gb250,0,none⟩) (Kd.V_mono HO_251003.out (fun k_ hk => (⟨hk,hk⟩ : _ ∧ k_ ≠ gb250))) (fun _ hk => hk.2) (.int .u64 t279)) (fun _ hk => hk.2) (.int .u64 t280)) (fun _ hk => hk.2) (.string t281)) (fun _ hk => hk.2) (.slice Ao51 t282.length co51)) (fun _ hk => hk.2) (.slice Ao52 t285.length co52)) (fun _ hk => hk.2) (.bool t288)) (fun _ hk => hk.2) (.bool t289)) (fun _ hk => hk.2) (.bool t290)) (fun _ h_ => h_.1))) hb);have n1_:=am_ (Kd.V_below (by (with_reducible repeat (first|apply Kd.V_alloc|apply Kd.V_drewN|apply Kd.V_drew));exact (Kd.V_mono (Kd.V_far (p:=⟨gb250,7,none⟩) (Kd.V_far (p:=⟨gb250,6,none⟩) (Kd.V_far (p:=⟨gb250,5,none⟩) (Kd.V_far (p:=⟨gb250,4,none⟩) (Kd.V_far (p:=⟨gb250,3,none⟩) (Kd.V_far (p:=⟨gb250,2,none⟩) (Kd.V_far (p:=⟨gb250,1,none⟩) (Kd.V_far (p:=⟨gb250,0,none⟩) (Kd.V_mono HO_251004.out (fun k_ hk => (⟨hk,hk⟩ : _ ∧ k_ ≠ gb250))) (fun _ hk => hk.2) (.int .u64 t279)) (fun _ hk => hk.2) (.int .u64 t280)) (fun _ hk => hk.2) (.string t281)) (fun _ hk => hk.2) (.slice Ao51 t282.length co51)) (fun _ hk => hk.2) (.slice Ao52 t285.length co52)) (fun _ hk => hk.2) (.bool t288)) (fun _ hk => hk.2) (.bool t289)) (fun _ hk => hk.2) (.bool t290)) (fun _ h_ => h_.1))) hb);have n2_:=am_ (Kd.V_below (by (with_reducible repeat (first|apply Kd.V_alloc|apply Kd.V_drewN|apply Kd.V_drew));exact (Kd.V_mono (Kd.V_far (p:=⟨gb250,7,none⟩) (Kd.V_far (p:=⟨gb250,6,none⟩) (Kd.V_far (p:=⟨gb250,5,none⟩) (Kd.V_far (p:=⟨gb250,4,none⟩) (Kd.V_far (p:=⟨gb250,3,none⟩) (Kd.V_far (p:=⟨gb250,2,none⟩) (Kd.V_far (p:=⟨gb250,1,none⟩) (Kd.V_far (p:=⟨gb250,0,none⟩) (Kd.V_mono HO272.out (fun k_ hk => (⟨hk,hk⟩ : _ ∧ k_ ≠ gb250))) (fun _ hk => hk.2) (.int .u64 t279)) (fun _ hk => hk.2) (.int .u64 t280)) (fun _ hk => hk.2) (.string t281)) (fun _ hk => hk.2) (.slice Ao51 t282.length co51)) (fun _ hk => hk.2) (.slice Ao52 t285.length co52)) (fun _ hk => hk.2) (.bool t288)) (fun _ hk => hk.2) (.bool t289)) (fun _ hk => hk.2) (.bool t290)) (fun _ h_ => h_.1))) hb);have n3_:=am_ (Kd.V_below (by (with_reducible repeat (first|apply Kd.V_alloc|apply Kd.V_drewN|apply Kd.V_drew));exact (Kd.V_mono (Kd.V_far (p:=⟨gb250,7,none⟩) (Kd.V_far (p:=⟨gb250,6,none⟩) (Kd.V_far (p:=⟨gb250,5,none⟩) (Kd.V_far (p:=⟨gb250,4,none⟩) (Kd.V_far (p:=⟨gb250,3,none⟩) (Kd.V_far (p:=⟨gb250,2,none⟩) (Kd.V_far (p:=⟨gb250,1,none⟩) (Kd.V_far (p:=⟨gb250,0,none⟩) (Kd.V_mono HO275.out (fun k_ hk => (⟨hk,hk⟩ : _ ∧ k_ ≠ gb250))) (fun _ hk => hk.2) (.int .u64 t279)) (fun _ hk => hk.2) (.int .u64 t280)) (fun _ hk => hk.2) (.string t281)) (fun _ hk => hk.2) (.slice Ao51 t282.length co51)) (fun _ hk => hk.2) (.slice Ao52 t285.length co52)) (fun _ hk => hk.2) (.bool t288)) (fun _ hk => hk.2) (.bool t289)) (fun _ hk => hk.2) (.bool t290)) (fun _ h_ => h_.1))) hb);have n4_:=am_ (Kd.V_below (by (with_reducible repeat (first|apply Kd.V_alloc|apply Kd.V_drewN|apply Kd.V_drew));exact (Kd.V_mono (Kd.V_far (p:=⟨gb250,7,none⟩) (Kd.V_far (p:=⟨gb250,6,none⟩) (Kd.V_far (p:=⟨gb250,5,none⟩) (Kd.V_far (p:=⟨gb250,4,none⟩) (Kd.V_far (p:=⟨gb250,3,none⟩) (Kd.V_far (p:=⟨gb250,2,none⟩) (Kd.V_far (p:=⟨gb250,1,none⟩) (Kd.V_far (p:=⟨gb250,0,none⟩) (Kd.V_mono HO284.out (fun k_ hk => (⟨hk,hk⟩ : _ ∧ k_ ≠ gb250))) (fun _ hk => hk.2) (.int .u64 t279)) (fun _ hk => hk.2) (.int .u64 t280)) (fun _ hk => hk.2) (.string t281)) (fun _ hk => hk.2) (.slice Ao51 t282.length co51)) (fun _ hk => hk.2) (.slice Ao52 t285.length co52)) (fun _ hk => hk.2) (.bool t288)) (fun _ hk => hk.2) (.bool t289)) (fun _ hk => hk.2) (.bool t290)) (fun _ h_ => h_.1))) hb);have n5_:=am_ (Kd.V_below (by (with_reducible repeat (first|apply Kd.V_alloc|apply Kd.V_drewN|apply Kd.V_drew));exact (Kd.V_mono (Kd.V_far (p:=⟨gb250,7,none⟩) (Kd.V_far (p:=⟨gb250,6,none⟩) (Kd.V_far (p:=⟨gb250,5,none⟩) (Kd.V_far (p:=⟨gb250,4,none⟩) (Kd.V_far (p:=⟨gb250,3,none⟩) (Kd.V_far (p:=⟨gb250,2,none⟩) (Kd.V_far (p:=⟨gb250,1,none⟩) (Kd.V_far (p:=⟨gb250,0,none⟩) (Kd.V_mono HO287.out (fun k_ hk => (⟨hk,hk⟩ : _ ∧ k_ ≠ gb250))) (fun _ hk => hk.2) (.int .u64 t279)) (fun _ hk => hk.2) (.int .u64 t280)) (fun _ hk => hk.2) (.string t281)) (fun _ hk => hk.2) (.slice Ao51 t282.length co51)) (fun _ hk => hk.2) (.slice Ao52 t285.length co52)) (fun _ hk => hk.2) (.bool t288)) (fun _ hk => hk.2) (.bool t289)) (fun _ hk => hk.2) (.bool t290)) (fun _ h_ => h_.1))) hb);have n6_:=am_ (blk_below (g:=gb250) (o:=.cells #[.int .u64 t279,.int .u64 t280,.string t281,.slice Ao51 t282.length co51,.slice Ao52 t285.length co52,.bool t288,.bool t289,.bool t290] 29 (0,0)) (by (with_reducible repeat (first|refine kn_ ?_ _|refine kd_ ?_|refine ka_ ?_ _));refine blk_put (cs:=#[.int .u64 t279,.int .u64 t280,.string t281,.slice Ao51 t282.length co51,.slice Ao52 t285.length co52,.bool t288,.bool t289,.bool t278]) ?_ 7 _ rfl;(with_reducible repeat (first|refine kn_ ?_ _|refine kd_ ?_|refine ka_ ?_ _));refine blk_put (cs:=#[.int .u64 t279,.int .u64 t280,.string t281,.slice Ao51 t282.length co51,.slice Ao52 t285.length co52,.bool t288,.bool t277,.bool t278]) ?_ 6 _ rfl;(with_reducible repeat (first|refine kn_ ?_ _|refine kd_ ?_|refine ka_ ?_ _));refine blk_put (cs:=#[.int .u64 t279,.int .u64 t280,.string t281,.slice Ao51 t282.length co51,.slice Ao52 t285.length co52,.bool t276,.bool t277,.bool t278]) ?_ 5 _ rfl;(with_reducible repeat (first|refine kn_ ?_ _|refine kd_ ?_|refine ka_ ?_ _));refine blk_put (cs:=#[.int .u64 t279,.int .u64 t280,.string t281,.slice Ao51 t282.length co51,.slice Ao46 t273.length co46,.bool t276,.bool t277,.bool t278]) ?_ 4 _ rfl;(with_reducible repeat (first|refine kn_ ?_ _|refine kd_ ?_|refine ka_ ?_ _));refine blk_put (cs:=#[.int .u64 t279,.int .u64 t280,.string t281,.slice Ao45 t270.length co45,.slice Ao46 t273.length co46,.bool t276,.bool t277,.bool t278]) ?_ 3 _ rfl;(with_reducible repeat (first|refine kn_ ?_ _|refine kd_ ?_|refine ka_ ?_ _));refine blk_put (cs:=#[.int .u64 t279,.int .u64 t280,.string t269,.slice Ao45 t270.length co45,.slice Ao46 t273.length co46,.bool t276,.bool t277,.bool t278]) ?_ 2 _ rfl;(with_reducible repeat (first|refine kn_ ?_ _|refine kd_ ?_|refine ka_ ?_ _));refine blk_put (cs:=#[.int .u64 t279,.int .u64 t268,.string t269,.slice Ao45 t270.length co45,.slice Ao46 t273.length co46,.bool t276,.bool t277,.bool t278]) ?_ 1 _ rfl;(with_reducible repeat (first|refine kn_ ?_ _|refine kd_ ?_|refine ka_ ?_ _));refine blk_put (cs:=#[.int .u64 t267,.int .u64 t268,.string t269,.slice Ao45 t270.length co45,.slice Ao46 t273.length co46,.bool t276,.bool t277,.bool t278]) ?_ 0 _ rfl;(with_reducible repeat (first|refine kn_ ?_ _|refine kd_ ?_|refine ka_ ?_ _));exact BK250.out) hb);have n7_:=am_ (below_step (by repeat (first|(with_reducible first|exact HB.out|apply ba_|apply pn_|apply pd_|refine bs_ ?_ GE250.out)|exact HB.out)) hb);clear HO_251003;clear HO_251004;clear HO272;clear HO275;clear HO284;clear HO287;clear BK250;clear HB;have HO_251003:=n0_;have HO_251004:=n1_;have HO272:=n2_;have HO275:=n3_;have HO284:=n4_;have HO287:=n5_;have BK250:=n6_;have HB:=n7_;clear n0_ n1_ n2_ n3_ n4_ n5_ n6_ n7_;(try clear hb);(try clear hb2);(try clear hk);(try clear hi)))
               go_roundg kj30
               case measure => have:=HJ3.out;have:=HJ11.out;have:=HK3.out;have:=HJ30.out;omega
               case rel => exact ⟨(wrap64 (x10_3 + 1)),(t279),(t280),(t281),(t282),(t285),(t288),(t289),(t290),(.slice Ao51 t282.length co51),(.slice Ao52 t285.length co52),(by first|rfl|(simp;done)|(simp [*];done)),H',⟨by have:=HJ3.out;have:=HJ11.out;have:=HK3.out;have:=HJ30.out;omega⟩,⟨by (with_reducible repeat (first|apply Kd.V_alloc|apply Kd.V_drewN|apply Kd.V_drew));exact HO284.out⟩,⟨by (with_reducible repeat (first|apply Kd.V_alloc|apply Kd.V_drewN|apply Kd.V_drew));exact HO287.out⟩,⟨by (with_reducible repeat (first|refine kn_ ?_ _|refine kd_ ?_|refine ka_ ?_ _));exact BK250.out⟩,⟨by repeat (first|(with_reducible first|exact HB.out|apply ba_|apply pn_|apply pd_|refine bs_ ?_ GE250.out)|exact HB.out)⟩⟩
          ·replace c30:=Bool.eq_false_iff.mpr c30
           subst c30
           have H1 : (dominolaw15_SendqEnd.j4 k3 a0 a2 (wrap64 (1 + (Int.tmod (wrap64 (a1)) 50))) x251000_3 x251001_3 x251002_3 x251003_3 x251004_3 x251005_3 x251006_3 x251007_3) = some r:=by rw [if_neg (show ¬ (false = true) by decide)] at H;exact H
           clear H
           have H:=H1
           clear H1
           have H':=am_ H
           clear H
           have hcz54_0 : wr.cell? ⟨gb250,0,none⟩ = some (.int .u64 x251000_3):=(kc_ BK250.out 0).trans rfl
           have hcz54_1 : wr.cell? ⟨gb250,1,none⟩ = some (.int .u64 x251001_3):=(kc_ BK250.out 1).trans rfl
           have hcz54_2 : wr.cell? ⟨gb250,2,none⟩ = some (.string x251002_3):=(kc_ BK250.out 2).trans rfl
           have hcz54_3 : wr.cell? ⟨gb250,3,none⟩ = some (u251003):=(kc_ BK250.out 3).trans rfl
           have hcz54_4 : wr.cell? ⟨gb250,4,none⟩ = some (u251004):=(kc_ BK250.out 4).trans rfl
           have hcz54_5 : wr.cell? ⟨gb250,5,none⟩ = some (.bool x251005_3):=(kc_ BK250.out 5).trans rfl
           have hcz54_6 : wr.cell? ⟨gb250,6,none⟩ = some (.bool x251006_3):=(kc_ BK250.out 6).trans rfl
           have hcz54_7 : wr.cell? ⟨gb250,7,none⟩ = some (.bool x251007_3):=(kc_ BK250.out 7).trans rfl
           have hfz54_0:=blk_frozen BK250.out 0
           have hfz54_1:=blk_frozen BK250.out 1
           have hfz54_2:=blk_frozen BK250.out 2
           have hfz54_3:=blk_frozen BK250.out 3
           have hfz54_4:=blk_frozen BK250.out 4
           have hfz54_5:=blk_frozen BK250.out 5
           have hfz54_6:=blk_frozen BK250.out 6
           have hfz54_7:=blk_frozen BK250.out 7
           obtain ⟨Ao55,co55,eo55⟩:=Kd.V_slice HO_251003.out
           subst eo55
           obtain ⟨Ao56,co56,eo56⟩:=Kd.V_slice HO_251004.out
           subst eo56
           go_wp2_with (first|((with_reducible refine gate_callee (f:=10) rfl ?_);refine goesL_ (some 49) rfl rfl Try.func10 (by kernel_rfl) rfl #[.agg #[.int .u64 x251000_3,.int .u64 x251001_3,.string x251002_3,.slice Ao55 x251003_3.length co55,.slice Ao56 x251004_3.length co56,.bool x251005_3,.bool x251006_3,.bool x251007_3],.int .i64 (wrap64 (1 + (Int.tmod (wrap64 (a1)) 50))),.int .u64 1000] rfl (by (try simp only [List.map_toArray,List.map_cons,List.map_nil]);first|done|rfl|(simp only [List.length_drop,List.length_take];rfl)) ?_;(with_reducible refine (sendq_Next.calls x251000_3 x251001_3 x251002_3 _ _ x251003_3 _ _ x251004_3 x251005_3 x251006_3 x251007_3 (wrap64 (1 + (Int.tmod (wrap64 (a1)) 50))) 1000 t263 t264 t265 false _ ?side1 ?side2 ?side3 ?side4 A29.out).mono ?_);(case side1 => repeat (first|exact (Kd.V_reads' HO_251003.out).2.2|(with_reducible refine Kd.C_alloc ?_ _)|(with_reducible refine Kd.C_drewN ?_ _)|(with_reducible refine Kd.C_drew ?_)));(case side2 => exact (Kd.V_reads' HO_251003.out).2.1);(case side3 => repeat (first|exact (Kd.V_reads' HO_251004.out).2.2|(with_reducible refine Kd.C_alloc ?_ _)|(with_reducible refine Kd.C_drewN ?_ _)|(with_reducible refine Kd.C_drew ?_)));(case side4 => exact (Kd.V_reads' HO_251004.out).2.1);rintro e w57 ⟨rfl,hb⟩;refine ⟨_,rfl,?_⟩;have n0_:=am_ (Kd.V_below (by (with_reducible repeat (first|apply Kd.V_alloc|apply Kd.V_drewN|apply Kd.V_drew));exact HO_251003.out) hb);have n1_:=am_ (Kd.V_below (by (with_reducible repeat (first|apply Kd.V_alloc|apply Kd.V_drewN|apply Kd.V_drew));exact HO_251004.out) hb);have n2_:=am_ (blk_below (g:=gb250) (o:=.cells #[.int .u64 x251000_3,.int .u64 x251001_3,.string x251002_3,.slice Ao55 x251003_3.length co55,.slice Ao56 x251004_3.length co56,.bool x251005_3,.bool x251006_3,.bool x251007_3] 29 (0,0)) (by (with_reducible repeat (first|refine kn_ ?_ _|refine kd_ ?_|refine ka_ ?_ _));exact BK250.out) hb);have n3_:=am_ (below_step (by repeat (first|(with_reducible first|exact HB.out|apply ba_|apply pn_|apply pd_|refine bs_ ?_ GE250.out)|exact HB.out)) hb);clear HO_251003;clear HO_251004;clear BK250;clear HB;have HO_251003:=n0_;have HO_251004:=n1_;have BK250:=n2_;have HB:=n3_;clear n0_ n1_ n2_ n3_;(try clear hb);(try clear hb2);(try clear hk);(try clear hi)))
           go_meet
           case rel => exact ⟨_,(x251000_3),(x251001_3),(x251002_3),(x251003_3),(x251004_3),(x251005_3),(x251006_3),(x251007_3),(.slice Ao55 x251003_3.length co55),(.slice Ao56 x251004_3.length co56),H',⟨by have:=HJ3.out;have:=HJ11.out;have:=HK3.out;first|omega|exact Nat.le_refl _⟩,⟨by (with_reducible repeat (first|apply Kd.V_alloc|apply Kd.V_drewN|apply Kd.V_drew));exact HO_251003.out⟩,⟨by (with_reducible repeat (first|apply Kd.V_alloc|apply Kd.V_drewN|apply Kd.V_drew));exact HO_251004.out⟩,⟨by (with_reducible repeat (first|refine kn_ ?_ _|refine kd_ ?_|refine ka_ ?_ _));exact BK250.out⟩,⟨by repeat (first|(with_reducible first|exact HB.out|apply ba_|apply pn_|apply pd_|refine bs_ ?_ GE250.out)|exact HB.out)⟩⟩
         ·rw [if_neg c28] at H
          have c28b0 : decide (x10_3 < 250) = false:=decide_eq_false c28
          clear c28
          (first|rw [c28b0]|(simp only [i64_w,i32_w];rw [c28b0])|skip)
          have H':=am_ H
          clear H
          go_wp2
          go_meet
          case rel => exact ⟨_,(x251000_3),(x251001_3),(x251002_3),(x251003_3),(x251004_3),(x251005_3),(x251006_3),(x251007_3),(u251003),(u251004),H',⟨by have:=HJ3.out;have:=HJ11.out;have:=HK3.out;first|omega|exact Nat.le_refl _⟩,⟨by (with_reducible repeat (first|apply Kd.V_alloc|apply Kd.V_drewN|apply Kd.V_drew));exact HO_251003.out⟩,⟨by (with_reducible repeat (first|apply Kd.V_alloc|apply Kd.V_drewN|apply Kd.V_drew));exact HO_251004.out⟩,⟨by (with_reducible repeat (first|refine kn_ ?_ _|refine kd_ ?_|refine ka_ ?_ _));exact BK250.out⟩,⟨by repeat (first|(with_reducible first|exact HB.out|apply ba_|apply pn_|apply pd_|refine bs_ ?_ GE250.out)|exact HB.out)⟩⟩
      case rest =>
       clear HC27
       try clear c1;try clear c2
       try clear p2;try clear c3
       try clear c4;try clear c5
       try clear c5b0;try clear c5b1
       try clear c6;try clear p6
       try clear c8;try clear c9
       try clear c10;try clear c12
       try clear c14;try clear c16
       try clear c19;try clear c20
       try clear c24;try clear c28
       try clear c28b0;try clear c30
       try clear c36;try clear c36b0
       try clear c36b1;try clear c37
       try clear c41;try clear c41b0
       try clear c41b1;try clear c41b2
       try clear hcz15_0;try clear hcz15_1
       try clear hcz15_2;try clear hcz15_3
       try clear hcz15_4;try clear hcz15_5
       try clear hcz15_6;try clear hcz15_7
       try clear hcz21_0;try clear hcz21_1
       try clear hcz21_2;try clear hcz21_3
       try clear hcz21_4;try clear hcz21_5
       try clear hcz21_6;try clear hcz21_7
       try clear hcz23_0;try clear hcz23_1
       try clear hcz23_2;try clear hcz23_3
       try clear hcz23_4;try clear hcz23_5
       try clear hcz23_6;try clear hcz23_7
       try clear hcz32_0;try clear hcz32_1
       try clear hcz32_2;try clear hcz32_3
       try clear hcz32_4;try clear hcz32_5
       try clear hcz32_6;try clear hcz32_7
       try clear hcz42_0;try clear hcz42_1
       try clear hcz42_2;try clear hcz42_3
       try clear hcz42_4;try clear hcz42_5
       try clear hcz42_6;try clear hcz42_7
       try clear hcz44_0;try clear hcz44_1
       try clear hcz44_2;try clear hcz44_3
       try clear hcz44_4;try clear hcz44_5
       try clear hcz44_6;try clear hcz44_7
       try clear hcz48_0;try clear hcz48_1
       try clear hcz48_2;try clear hcz48_3
       try clear hcz48_4;try clear hcz48_5
       try clear hcz48_6;try clear hcz48_7
       try clear hcz50_0;try clear hcz50_1
       try clear hcz50_2;try clear hcz50_3
       try clear hcz50_4;try clear hcz50_5
       try clear hcz50_6;try clear hcz50_7
       try clear hcz54_0;try clear hcz54_1
       try clear hcz54_2;try clear hcz54_3
       try clear hcz54_4;try clear hcz54_5
       try clear hcz54_6;try clear hcz54_7
       try clear hfz15_0;try clear hfz15_1
       try clear hfz15_2;try clear hfz15_3
       try clear hfz15_4;try clear hfz15_5
       try clear hfz15_6;try clear hfz15_7
       try clear hfz21_0;try clear hfz21_1
       try clear hfz21_2;try clear hfz21_3
       try clear hfz21_4;try clear hfz21_5
       try clear hfz21_6;try clear hfz21_7
       try clear hfz23_0;try clear hfz23_1
       try clear hfz23_2;try clear hfz23_3
       try clear hfz23_4;try clear hfz23_5
       try clear hfz23_6;try clear hfz23_7
       try clear hfz32_0;try clear hfz32_1
       try clear hfz32_2;try clear hfz32_3
       try clear hfz32_4;try clear hfz32_5
       try clear hfz32_6;try clear hfz32_7
       try clear hfz42_0;try clear hfz42_1
       try clear hfz42_2;try clear hfz42_3
       try clear hfz42_4;try clear hfz42_5
       try clear hfz42_6;try clear hfz42_7
       try clear hfz44_0;try clear hfz44_1
       try clear hfz44_2;try clear hfz44_3
       try clear hfz44_4;try clear hfz44_5
       try clear hfz44_6;try clear hfz44_7
       try clear hfz48_0;try clear hfz48_1
       try clear hfz48_2;try clear hfz48_3
       try clear hfz48_4;try clear hfz48_5
       try clear hfz48_6;try clear hfz48_7
       try clear hfz50_0;try clear hfz50_1
       try clear hfz50_2;try clear hfz50_3
       try clear hfz50_4;try clear hfz50_5
       try clear hfz50_6;try clear hfz50_7
       try clear hfz54_0;try clear hfz54_1
       try clear hfz54_2;try clear hfz54_3
       try clear hfz54_4;try clear hfz54_5
       try clear hfz54_6;try clear hfz54_7
       try clear p2;try clear p6
       obtain ⟨kq,x251000_26,x251001_26,x251002_26,x251003_26,x251004_26,x251005_26,x251006_26,x251007_26,u251003,u251004,HA,HJ26,HO_251003,HO_251004,BK250,HB⟩:=hcut
       cases kq with
       | zero => exact absurd HA.out (by simp [dominolaw15_SendqEnd.j4])
       | succ kj26 =>
        have H:=HA.out
        clear HA
        simp only [dominolaw15_SendqEnd.j4] at H
        by_cases c58 : a2 = true
        ·subst c58
         have H1 : ((sendq_Finish.f x251000_26 x251001_26 x251002_26 x251003_26 x251004_26 x251005_26 x251006_26 x251007_26).bind fun bt293 => ((sendq_Next.f bt293.1 bt293.2.1 bt293.2.2.1 bt293.2.2.2.1 bt293.2.2.2.2.1 bt293.2.2.2.2.2.1 bt293.2.2.2.2.2.2.1 bt293.2.2.2.2.2.2.2 (wrap64 (1 + (Int.tmod (wrap64 (a1)) 50))) 0).bind fun bt305 => ((sendq_Done.f bt293.1 bt293.2.1 bt293.2.2.1 bt293.2.2.2.1 bt293.2.2.2.2.1 bt293.2.2.2.2.2.1 bt293.2.2.2.2.2.2.1 bt293.2.2.2.2.2.2.2).bind fun t309 => (if t309 = true then (none) else (if bt305.1 = (IntKind.u64.wrap ((a0.size : Int))) then (if bt305.2.1.toList = ([] : List UInt8) then (if bt305.2.2.1 = true then (if bt305.2.2.2 = true then ((sendq_Sent.f kj26 bt293.1 bt293.2.1 bt293.2.2.1 bt293.2.2.2.1 bt293.2.2.2.2.1 bt293.2.2.2.2.2.1 bt293.2.2.2.2.2.2.1 bt293.2.2.2.2.2.2.2 bt305.1 0 true).bind fun bt310 => ((sendq_Acked.f kj26 bt310.1 bt310.2.1 bt310.2.2.1 bt310.2.2.2.1 bt310.2.2.2.2.1 bt310.2.2.2.2.2.1 bt310.2.2.2.2.2.2.1 bt310.2.2.2.2.2.2.2 bt305.1 0 true).bind fun bt322 => ((sendq_Done.f bt322.1 bt322.2.1 bt322.2.2.1 bt322.2.2.2.1 bt322.2.2.2.2.1 bt322.2.2.2.2.2.1 bt322.2.2.2.2.2.2.1 bt322.2.2.2.2.2.2.2).bind fun t334 => (some t334)))) else (none)) else (none)) else (none)) else (none)))))) = some r:=by rw [if_pos rfl] at H;exact H
         clear H
         have H:=H1
         clear H1
         replace H:=Option.bind_eq_some_iff.mp H
         obtain ⟨⟨t293,t294,t295,t296,t299,t302,t303,t304⟩,A590,H⟩:=H
         replace H : ((sendq_Next.f t293 t294 t295 t296 t299 t302 t303 t304 (wrap64 (1 + (Int.tmod (wrap64 (a1)) 50))) 0).bind fun bt305 => ((sendq_Done.f t293 t294 t295 t296 t299 t302 t303 t304).bind fun t309 => (if t309 = true then (none) else (if bt305.1 = (IntKind.u64.wrap ((a0.size : Int))) then (if bt305.2.1.toList = ([] : List UInt8) then (if bt305.2.2.1 = true then (if bt305.2.2.2 = true then ((sendq_Sent.f kj26 t293 t294 t295 t296 t299 t302 t303 t304 bt305.1 0 true).bind fun bt310 => ((sendq_Acked.f kj26 bt310.1 bt310.2.1 bt310.2.2.1 bt310.2.2.2.1 bt310.2.2.2.2.1 bt310.2.2.2.2.2.1 bt310.2.2.2.2.2.2.1 bt310.2.2.2.2.2.2.2 bt305.1 0 true).bind fun bt322 => ((sendq_Done.f bt322.1 bt322.2.1 bt322.2.2.1 bt322.2.2.2.1 bt322.2.2.2.2.1 bt322.2.2.2.2.2.1 bt322.2.2.2.2.2.2.1 bt322.2.2.2.2.2.2.2).bind fun t334 => (some t334)))) else (none)) else (none)) else (none)) else (none))))) = some r:=H
         have A59:=am_ A590
         clear A590
         replace H:=Option.bind_eq_some_iff.mp H
         obtain ⟨⟨t305,t306,t307,t308⟩,A600,H⟩:=H
         replace H : ((sendq_Done.f t293 t294 t295 t296 t299 t302 t303 t304).bind fun t309 => (if t309 = true then (none) else (if t305 = (IntKind.u64.wrap ((a0.size : Int))) then (if t306.toList = ([] : List UInt8) then (if t307 = true then (if t308 = true then ((sendq_Sent.f kj26 t293 t294 t295 t296 t299 t302 t303 t304 t305 0 true).bind fun bt310 => ((sendq_Acked.f kj26 bt310.1 bt310.2.1 bt310.2.2.1 bt310.2.2.2.1 bt310.2.2.2.2.1 bt310.2.2.2.2.2.1 bt310.2.2.2.2.2.2.1 bt310.2.2.2.2.2.2.2 t305 0 true).bind fun bt322 => ((sendq_Done.f bt322.1 bt322.2.1 bt322.2.2.1 bt322.2.2.2.1 bt322.2.2.2.2.1 bt322.2.2.2.2.2.1 bt322.2.2.2.2.2.2.1 bt322.2.2.2.2.2.2.2).bind fun t334 => (some t334)))) else (none)) else (none)) else (none)) else (none)))) = some r:=H
         have A60:=am_ A600
         clear A600
         replace H:=Option.bind_eq_some_iff.mp H
         obtain ⟨t309,A610,H⟩:=H
         replace H : (if t309 = true then (none) else (if t305 = (IntKind.u64.wrap ((a0.size : Int))) then (if t306.toList = ([] : List UInt8) then (if t307 = true then (if t308 = true then ((sendq_Sent.f kj26 t293 t294 t295 t296 t299 t302 t303 t304 t305 0 true).bind fun bt310 => ((sendq_Acked.f kj26 bt310.1 bt310.2.1 bt310.2.2.1 bt310.2.2.2.1 bt310.2.2.2.2.1 bt310.2.2.2.2.2.1 bt310.2.2.2.2.2.2.1 bt310.2.2.2.2.2.2.2 t305 0 true).bind fun bt322 => ((sendq_Done.f bt322.1 bt322.2.1 bt322.2.2.1 bt322.2.2.2.1 bt322.2.2.2.2.1 bt322.2.2.2.2.2.1 bt322.2.2.2.2.2.2.1 bt322.2.2.2.2.2.2.2).bind fun t334 => (some t334)))) else (none)) else (none)) else (none)) else (none))) = some r:=H
         have A61:=am_ A610
         clear A610
         by_cases c62 : t309 = true
         ·subst c62
          have H1 : (none) = some r:=by rw [if_pos rfl] at H;exact H
          clear H
          have H:=H1
          clear H1
          exact absurd H (by simp)
         ·replace c62:=Bool.eq_false_iff.mpr c62
          subst c62
          have H1 : (if t305 = (IntKind.u64.wrap ((a0.size : Int))) then (if t306.toList = ([] : List UInt8) then (if t307 = true then (if t308 = true then ((sendq_Sent.f kj26 t293 t294 t295 t296 t299 t302 t303 t304 t305 0 true).bind fun bt310 => ((sendq_Acked.f kj26 bt310.1 bt310.2.1 bt310.2.2.1 bt310.2.2.2.1 bt310.2.2.2.2.1 bt310.2.2.2.2.2.1 bt310.2.2.2.2.2.2.1 bt310.2.2.2.2.2.2.2 t305 0 true).bind fun bt322 => ((sendq_Done.f bt322.1 bt322.2.1 bt322.2.2.1 bt322.2.2.2.1 bt322.2.2.2.2.1 bt322.2.2.2.2.2.1 bt322.2.2.2.2.2.2.1 bt322.2.2.2.2.2.2.2).bind fun t334 => (some t334)))) else (none)) else (none)) else (none)) else (none)) = some r:=by rw [if_neg (show ¬ (false = true) by decide)] at H;exact H
          clear H
          have H:=H1
          clear H1
          by_cases c63 : t305 = (IntKind.u64.wrap ((a0.size : Int)))
          ·rw [if_pos c63] at H
           have c63b0 : (t305 == (IntKind.u64.wrap ((a0.size : Int)))) = true:=beq_iff_eq.mpr c63
           have c63b1 : (t305 != (IntKind.u64.wrap ((a0.size : Int)))) = false:=bne_eq_false_iff_eq.mpr c63
           clear c63
           by_cases c64 : t306.toList = ([] : List UInt8)
           ·rw [if_pos c64] at H
            have c64b0 : (t306.toList == ([] : List UInt8)) = true:=beq_iff_eq.mpr c64
            have c64b1 : (t306.toList != ([] : List UInt8)) = false:=bne_eq_false_iff_eq.mpr c64
            clear c64
            by_cases c65 : t307 = true
            ·subst c65
             have H1 : (if t308 = true then ((sendq_Sent.f kj26 t293 t294 t295 t296 t299 t302 t303 t304 t305 0 true).bind fun bt310 => ((sendq_Acked.f kj26 bt310.1 bt310.2.1 bt310.2.2.1 bt310.2.2.2.1 bt310.2.2.2.2.1 bt310.2.2.2.2.2.1 bt310.2.2.2.2.2.2.1 bt310.2.2.2.2.2.2.2 t305 0 true).bind fun bt322 => ((sendq_Done.f bt322.1 bt322.2.1 bt322.2.2.1 bt322.2.2.2.1 bt322.2.2.2.2.1 bt322.2.2.2.2.2.1 bt322.2.2.2.2.2.2.1 bt322.2.2.2.2.2.2.2).bind fun t334 => (some t334)))) else (none)) = some r:=by rw [if_pos rfl] at H;exact H
             clear H
             have H:=H1
             clear H1
             by_cases c66 : t308 = true
             ·subst c66
              have H1 : ((sendq_Sent.f kj26 t293 t294 t295 t296 t299 t302 t303 t304 t305 0 true).bind fun bt310 => ((sendq_Acked.f kj26 bt310.1 bt310.2.1 bt310.2.2.1 bt310.2.2.2.1 bt310.2.2.2.2.1 bt310.2.2.2.2.2.1 bt310.2.2.2.2.2.2.1 bt310.2.2.2.2.2.2.2 t305 0 true).bind fun bt322 => ((sendq_Done.f bt322.1 bt322.2.1 bt322.2.2.1 bt322.2.2.2.1 bt322.2.2.2.2.1 bt322.2.2.2.2.2.1 bt322.2.2.2.2.2.2.1 bt322.2.2.2.2.2.2.2).bind fun t334 => (some t334)))) = some r:=by rw [if_pos rfl] at H;exact H
              clear H
              have H:=H1
              clear H1
              replace H:=Option.bind_eq_some_iff.mp H
              obtain ⟨⟨t310,t311,t312,t313,t316,t319,t320,t321⟩,A670,H⟩:=H
              replace H : ((sendq_Acked.f kj26 t310 t311 t312 t313 t316 t319 t320 t321 t305 0 true).bind fun bt322 => ((sendq_Done.f bt322.1 bt322.2.1 bt322.2.2.1 bt322.2.2.2.1 bt322.2.2.2.2.1 bt322.2.2.2.2.2.1 bt322.2.2.2.2.2.2.1 bt322.2.2.2.2.2.2.2).bind fun t334 => (some t334))) = some r:=H
              have A67:=am_ A670
              clear A670
              replace H:=Option.bind_eq_some_iff.mp H
              obtain ⟨⟨t322,t323,t324,t325,t328,t331,t332,t333⟩,A680,H⟩:=H
              replace H : ((sendq_Done.f t322 t323 t324 t325 t328 t331 t332 t333).bind fun t334 => (some t334)) = some r:=H
              have A68:=am_ A680
              clear A680
              replace H:=Option.bind_eq_some_iff.mp H
              obtain ⟨t334,A690,H⟩:=H
              replace H : (some t334) = some r:=H
              have A69:=am_ A690
              clear A690
              obtain rfl:=Option.some.inj H
              have hcz70_0 : wc.cell? ⟨gb250,0,none⟩ = some (.int .u64 x251000_26):=(kc_ BK250.out 0).trans rfl
              have hcz70_1 : wc.cell? ⟨gb250,1,none⟩ = some (.int .u64 x251001_26):=(kc_ BK250.out 1).trans rfl
              have hcz70_2 : wc.cell? ⟨gb250,2,none⟩ = some (.string x251002_26):=(kc_ BK250.out 2).trans rfl
              have hcz70_3 : wc.cell? ⟨gb250,3,none⟩ = some (u251003):=(kc_ BK250.out 3).trans rfl
              have hcz70_4 : wc.cell? ⟨gb250,4,none⟩ = some (u251004):=(kc_ BK250.out 4).trans rfl
              have hcz70_5 : wc.cell? ⟨gb250,5,none⟩ = some (.bool x251005_26):=(kc_ BK250.out 5).trans rfl
              have hcz70_6 : wc.cell? ⟨gb250,6,none⟩ = some (.bool x251006_26):=(kc_ BK250.out 6).trans rfl
              have hcz70_7 : wc.cell? ⟨gb250,7,none⟩ = some (.bool x251007_26):=(kc_ BK250.out 7).trans rfl
              have hfz70_0:=blk_frozen BK250.out 0
              have hfz70_1:=blk_frozen BK250.out 1
              have hfz70_2:=blk_frozen BK250.out 2
              have hfz70_3:=blk_frozen BK250.out 3
              have hfz70_4:=blk_frozen BK250.out 4
              have hfz70_5:=blk_frozen BK250.out 5
              have hfz70_6:=blk_frozen BK250.out 6
              have hfz70_7:=blk_frozen BK250.out 7
              obtain ⟨Ao71,co71,eo71⟩:=Kd.V_slice HO_251003.out
              subst eo71
              obtain ⟨Ao72,co72,eo72⟩:=Kd.V_slice HO_251004.out
              subst eo72
              go_wp2_with (first|((with_reducible refine gate_callee (f:=14) rfl ?_);refine goesL_ (some 93) rfl rfl Try.func14 (by kernel_rfl) rfl #[.agg #[.int .u64 x251000_26,.int .u64 x251001_26,.string x251002_26,.slice Ao71 x251003_26.length co71,.slice Ao72 x251004_26.length co72,.bool x251005_26,.bool x251006_26,.bool x251007_26]] rfl (by (try simp only [List.map_toArray,List.map_cons,List.map_nil]);first|done|rfl|(simp only [List.length_drop,List.length_take];rfl)) ?_;(with_reducible refine (sendq_Finish.calls x251000_26 x251001_26 x251002_26 (fun k_ => k_ ≠ gb250) _ _ x251003_26 (fun k_ => k_ ≠ gb250) _ _ x251004_26 x251005_26 x251006_26 x251007_26 t293 t294 t295 t296 t299 t302 t303 t304 _ ?side1 ?side2 A59.out).mono ?_);(case side1 => exact HO_251003.out);(case side2 => exact HO_251004.out);rintro e w73 ⟨v297,v300,rfl,ho0,ho1,hb⟩;refine ⟨_,rfl,?_⟩;have n0_:=am_ (Kd.V_below (by (with_reducible repeat (first|apply Kd.V_alloc|apply Kd.V_drewN|apply Kd.V_drew));exact HO_251003.out) hb);have n1_:=am_ (Kd.V_below (by (with_reducible repeat (first|apply Kd.V_alloc|apply Kd.V_drewN|apply Kd.V_drew));exact HO_251004.out) hb);have n2_:=am_ (Kd.V_lower (Kd.V_mono (ok':=fun k_ => k_ ≠ gb250) ho0 (fun k_ hk_ => Or.elim hk_ (fun hs_ => Or.elim hs_ (fun hs_ => hs_) (fun hs_ => hs_)) (fun hn_ => (Kd.freshB (g:=gb250) (o:=.cells #[.int .u64 x251000_26,.int .u64 x251001_26,.string x251002_26,.slice Ao71 x251003_26.length co71,.slice Ao72 x251004_26.length co72,.bool x251005_26,.bool x251006_26,.bool x251007_26] 29 (0,0)) (by (with_reducible repeat (first|refine kn_ ?_ _|refine kd_ ?_|refine ka_ ?_ _));exact BK250.out) k_ hn_)))) (below_size (by repeat (first|(with_reducible first|exact HB.out|apply ba_|apply pn_|apply pd_|refine bs_ ?_ GE250.out)|exact HB.out))));have n3_:=am_ (Kd.V_lower (Kd.V_mono (ok':=fun k_ => k_ ≠ gb250) ho1 (fun k_ hk_ => Or.elim hk_ (fun hs_ => Or.elim hs_ (fun hs_ => hs_) (fun hs_ => hs_)) (fun hn_ => (Kd.freshB (g:=gb250) (o:=.cells #[.int .u64 x251000_26,.int .u64 x251001_26,.string x251002_26,.slice Ao71 x251003_26.length co71,.slice Ao72 x251004_26.length co72,.bool x251005_26,.bool x251006_26,.bool x251007_26] 29 (0,0)) (by (with_reducible repeat (first|refine kn_ ?_ _|refine kd_ ?_|refine ka_ ?_ _));exact BK250.out) k_ hn_)))) (below_size (by repeat (first|(with_reducible first|exact HB.out|apply ba_|apply pn_|apply pd_|refine bs_ ?_ GE250.out)|exact HB.out))));have n4_:=am_ (blk_below (g:=gb250) (o:=.cells #[.int .u64 x251000_26,.int .u64 x251001_26,.string x251002_26,.slice Ao71 x251003_26.length co71,.slice Ao72 x251004_26.length co72,.bool x251005_26,.bool x251006_26,.bool x251007_26] 29 (0,0)) (by (with_reducible repeat (first|refine kn_ ?_ _|refine kd_ ?_|refine ka_ ?_ _));exact BK250.out) hb);have n5_:=am_ (below_step (by repeat (first|(with_reducible first|exact HB.out|apply ba_|apply pn_|apply pd_|refine bs_ ?_ GE250.out)|exact HB.out)) hb);clear HO_251003;clear HO_251004;clear BK250;clear HB;have HO_251003:=n0_;have HO_251004:=n1_;have HO298:=n2_;have HO301:=n3_;have BK250:=n4_;have HB:=n5_;clear n0_ n1_ n2_ n3_ n4_ n5_;(try clear hb);(try clear hb2);(try clear hk);(try clear hi);(try clear ho0);(try clear ho1);have hcz74_0 : w73.cell? ⟨gb250,0,none⟩ = some (.int .u64 x251000_26):=(kc_ BK250.out 0).trans rfl;have hcz74_1 : w73.cell? ⟨gb250,1,none⟩ = some (.int .u64 x251001_26):=(kc_ BK250.out 1).trans rfl;have hcz74_2 : w73.cell? ⟨gb250,2,none⟩ = some (.string x251002_26):=(kc_ BK250.out 2).trans rfl;have hcz74_3 : w73.cell? ⟨gb250,3,none⟩ = some (.slice Ao71 x251003_26.length co71):=(kc_ BK250.out 3).trans rfl;have hcz74_4 : w73.cell? ⟨gb250,4,none⟩ = some (.slice Ao72 x251004_26.length co72):=(kc_ BK250.out 4).trans rfl;have hcz74_5 : w73.cell? ⟨gb250,5,none⟩ = some (.bool x251005_26):=(kc_ BK250.out 5).trans rfl;have hcz74_6 : w73.cell? ⟨gb250,6,none⟩ = some (.bool x251006_26):=(kc_ BK250.out 6).trans rfl;have hcz74_7 : w73.cell? ⟨gb250,7,none⟩ = some (.bool x251007_26):=(kc_ BK250.out 7).trans rfl;have hfz74_0:=blk_frozen BK250.out 0;have hfz74_1:=blk_frozen BK250.out 1;have hfz74_2:=blk_frozen BK250.out 2;have hfz74_3:=blk_frozen BK250.out 3;have hfz74_4:=blk_frozen BK250.out 4;have hfz74_5:=blk_frozen BK250.out 5;have hfz74_6:=blk_frozen BK250.out 6;have hfz74_7:=blk_frozen BK250.out 7;obtain ⟨Ao75,co75,eo75⟩:=Kd.V_slice HO298.out;subst eo75;obtain ⟨Ao76,co76,eo76⟩:=Kd.V_slice HO301.out;subst eo76)|((with_reducible refine gate_callee (f:=10) rfl ?_);refine goesL_ (some 97) rfl rfl Try.func10 (by kernel_rfl) rfl #[.agg #[.int .u64 t293,.int .u64 t294,.string t295,.slice Ao75 t296.length co75,.slice Ao76 t299.length co76,.bool t302,.bool t303,.bool t304],.int .i64 (wrap64 (1 + (Int.tmod (wrap64 (a1)) 50))),.int .u64 0] rfl (by (try simp only [List.map_toArray,List.map_cons,List.map_nil]);first|done|rfl|(simp only [List.length_drop,List.length_take];rfl)) ?_;(with_reducible refine (sendq_Next.calls t293 t294 t295 _ _ t296 _ _ t299 t302 t303 t304 (wrap64 (1 + (Int.tmod (wrap64 (a1)) 50))) 0 t305 t306 true true _ ?side1 ?side2 ?side3 ?side4 A60.out).mono ?_);(case side1 => refine (Kd.V_reads' (e:=67) (base:=w.heap.size) (ok:=fun _ => True) (n:=t296.length) (c:=co75) ?_).2.2;exact (by (with_reducible repeat (first|apply Kd.V_alloc|apply Kd.V_drewN|apply Kd.V_drew));exact (Kd.V_mono (Kd.V_far (p:=⟨gb250,7,none⟩) (Kd.V_far (p:=⟨gb250,6,none⟩) (Kd.V_far (p:=⟨gb250,5,none⟩) (Kd.V_far (p:=⟨gb250,4,none⟩) (Kd.V_far (p:=⟨gb250,3,none⟩) (Kd.V_far (p:=⟨gb250,2,none⟩) (Kd.V_far (p:=⟨gb250,1,none⟩) (Kd.V_far (p:=⟨gb250,0,none⟩) (Kd.V_mono HO298.out (fun k_ hk => (⟨hk,hk⟩ : _ ∧ k_ ≠ gb250))) (fun _ hk => hk.2) (.int .u64 t293)) (fun _ hk => hk.2) (.int .u64 t294)) (fun _ hk => hk.2) (.string t295)) (fun _ hk => hk.2) (.slice Ao75 t296.length co75)) (fun _ hk => hk.2) (.slice Ao76 t299.length co76)) (fun _ hk => hk.2) (.bool t302)) (fun _ hk => hk.2) (.bool t303)) (fun _ hk => hk.2) (.bool t304)) (fun _ _ => trivial))));(case side2 => exact (Kd.V_reads' HO298.out).2.1);(case side3 => refine (Kd.V_reads' (e:=67) (base:=w.heap.size) (ok:=fun _ => True) (n:=t299.length) (c:=co76) ?_).2.2;exact (by (with_reducible repeat (first|apply Kd.V_alloc|apply Kd.V_drewN|apply Kd.V_drew));exact (Kd.V_mono (Kd.V_far (p:=⟨gb250,7,none⟩) (Kd.V_far (p:=⟨gb250,6,none⟩) (Kd.V_far (p:=⟨gb250,5,none⟩) (Kd.V_far (p:=⟨gb250,4,none⟩) (Kd.V_far (p:=⟨gb250,3,none⟩) (Kd.V_far (p:=⟨gb250,2,none⟩) (Kd.V_far (p:=⟨gb250,1,none⟩) (Kd.V_far (p:=⟨gb250,0,none⟩) (Kd.V_mono HO301.out (fun k_ hk => (⟨hk,hk⟩ : _ ∧ k_ ≠ gb250))) (fun _ hk => hk.2) (.int .u64 t293)) (fun _ hk => hk.2) (.int .u64 t294)) (fun _ hk => hk.2) (.string t295)) (fun _ hk => hk.2) (.slice Ao75 t296.length co75)) (fun _ hk => hk.2) (.slice Ao76 t299.length co76)) (fun _ hk => hk.2) (.bool t302)) (fun _ hk => hk.2) (.bool t303)) (fun _ hk => hk.2) (.bool t304)) (fun _ _ => trivial))));(case side4 => exact (Kd.V_reads' HO301.out).2.1);rintro e w77 ⟨rfl,hb⟩;refine ⟨_,rfl,?_⟩;have n0_:=am_ (Kd.V_below (by (with_reducible repeat (first|apply Kd.V_alloc|apply Kd.V_drewN|apply Kd.V_drew));exact (Kd.V_mono (Kd.V_far (p:=⟨gb250,7,none⟩) (Kd.V_far (p:=⟨gb250,6,none⟩) (Kd.V_far (p:=⟨gb250,5,none⟩) (Kd.V_far (p:=⟨gb250,4,none⟩) (Kd.V_far (p:=⟨gb250,3,none⟩) (Kd.V_far (p:=⟨gb250,2,none⟩) (Kd.V_far (p:=⟨gb250,1,none⟩) (Kd.V_far (p:=⟨gb250,0,none⟩) (Kd.V_mono HO_251003.out (fun k_ hk => (⟨hk,hk⟩ : _ ∧ k_ ≠ gb250))) (fun _ hk => hk.2) (.int .u64 t293)) (fun _ hk => hk.2) (.int .u64 t294)) (fun _ hk => hk.2) (.string t295)) (fun _ hk => hk.2) (.slice Ao75 t296.length co75)) (fun _ hk => hk.2) (.slice Ao76 t299.length co76)) (fun _ hk => hk.2) (.bool t302)) (fun _ hk => hk.2) (.bool t303)) (fun _ hk => hk.2) (.bool t304)) (fun _ h_ => h_.1))) hb);have n1_:=am_ (Kd.V_below (by (with_reducible repeat (first|apply Kd.V_alloc|apply Kd.V_drewN|apply Kd.V_drew));exact (Kd.V_mono (Kd.V_far (p:=⟨gb250,7,none⟩) (Kd.V_far (p:=⟨gb250,6,none⟩) (Kd.V_far (p:=⟨gb250,5,none⟩) (Kd.V_far (p:=⟨gb250,4,none⟩) (Kd.V_far (p:=⟨gb250,3,none⟩) (Kd.V_far (p:=⟨gb250,2,none⟩) (Kd.V_far (p:=⟨gb250,1,none⟩) (Kd.V_far (p:=⟨gb250,0,none⟩) (Kd.V_mono HO_251004.out (fun k_ hk => (⟨hk,hk⟩ : _ ∧ k_ ≠ gb250))) (fun _ hk => hk.2) (.int .u64 t293)) (fun _ hk => hk.2) (.int .u64 t294)) (fun _ hk => hk.2) (.string t295)) (fun _ hk => hk.2) (.slice Ao75 t296.length co75)) (fun _ hk => hk.2) (.slice Ao76 t299.length co76)) (fun _ hk => hk.2) (.bool t302)) (fun _ hk => hk.2) (.bool t303)) (fun _ hk => hk.2) (.bool t304)) (fun _ h_ => h_.1))) hb);have n2_:=am_ (Kd.V_below (by (with_reducible repeat (first|apply Kd.V_alloc|apply Kd.V_drewN|apply Kd.V_drew));exact (Kd.V_mono (Kd.V_far (p:=⟨gb250,7,none⟩) (Kd.V_far (p:=⟨gb250,6,none⟩) (Kd.V_far (p:=⟨gb250,5,none⟩) (Kd.V_far (p:=⟨gb250,4,none⟩) (Kd.V_far (p:=⟨gb250,3,none⟩) (Kd.V_far (p:=⟨gb250,2,none⟩) (Kd.V_far (p:=⟨gb250,1,none⟩) (Kd.V_far (p:=⟨gb250,0,none⟩) (Kd.V_mono HO298.out (fun k_ hk => (⟨hk,hk⟩ : _ ∧ k_ ≠ gb250))) (fun _ hk => hk.2) (.int .u64 t293)) (fun _ hk => hk.2) (.int .u64 t294)) (fun _ hk => hk.2) (.string t295)) (fun _ hk => hk.2) (.slice Ao75 t296.length co75)) (fun _ hk => hk.2) (.slice Ao76 t299.length co76)) (fun _ hk => hk.2) (.bool t302)) (fun _ hk => hk.2) (.bool t303)) (fun _ hk => hk.2) (.bool t304)) (fun _ h_ => h_.1))) hb);have n3_:=am_ (Kd.V_below (by (with_reducible repeat (first|apply Kd.V_alloc|apply Kd.V_drewN|apply Kd.V_drew));exact (Kd.V_mono (Kd.V_far (p:=⟨gb250,7,none⟩) (Kd.V_far (p:=⟨gb250,6,none⟩) (Kd.V_far (p:=⟨gb250,5,none⟩) (Kd.V_far (p:=⟨gb250,4,none⟩) (Kd.V_far (p:=⟨gb250,3,none⟩) (Kd.V_far (p:=⟨gb250,2,none⟩) (Kd.V_far (p:=⟨gb250,1,none⟩) (Kd.V_far (p:=⟨gb250,0,none⟩) (Kd.V_mono HO301.out (fun k_ hk => (⟨hk,hk⟩ : _ ∧ k_ ≠ gb250))) (fun _ hk => hk.2) (.int .u64 t293)) (fun _ hk => hk.2) (.int .u64 t294)) (fun _ hk => hk.2) (.string t295)) (fun _ hk => hk.2) (.slice Ao75 t296.length co75)) (fun _ hk => hk.2) (.slice Ao76 t299.length co76)) (fun _ hk => hk.2) (.bool t302)) (fun _ hk => hk.2) (.bool t303)) (fun _ hk => hk.2) (.bool t304)) (fun _ h_ => h_.1))) hb);have n4_:=am_ (blk_below (g:=gb250) (o:=.cells #[.int .u64 t293,.int .u64 t294,.string t295,.slice Ao75 t296.length co75,.slice Ao76 t299.length co76,.bool t302,.bool t303,.bool t304] 29 (0,0)) (by (with_reducible repeat (first|refine kn_ ?_ _|refine kd_ ?_|refine ka_ ?_ _));refine blk_put (cs:=#[.int .u64 t293,.int .u64 t294,.string t295,.slice Ao75 t296.length co75,.slice Ao76 t299.length co76,.bool t302,.bool t303,.bool x251007_26]) ?_ 7 _ rfl;(with_reducible repeat (first|refine kn_ ?_ _|refine kd_ ?_|refine ka_ ?_ _));refine blk_put (cs:=#[.int .u64 t293,.int .u64 t294,.string t295,.slice Ao75 t296.length co75,.slice Ao76 t299.length co76,.bool t302,.bool x251006_26,.bool x251007_26]) ?_ 6 _ rfl;(with_reducible repeat (first|refine kn_ ?_ _|refine kd_ ?_|refine ka_ ?_ _));refine blk_put (cs:=#[.int .u64 t293,.int .u64 t294,.string t295,.slice Ao75 t296.length co75,.slice Ao76 t299.length co76,.bool x251005_26,.bool x251006_26,.bool x251007_26]) ?_ 5 _ rfl;(with_reducible repeat (first|refine kn_ ?_ _|refine kd_ ?_|refine ka_ ?_ _));refine blk_put (cs:=#[.int .u64 t293,.int .u64 t294,.string t295,.slice Ao75 t296.length co75,.slice Ao72 x251004_26.length co72,.bool x251005_26,.bool x251006_26,.bool x251007_26]) ?_ 4 _ rfl;(with_reducible repeat (first|refine kn_ ?_ _|refine kd_ ?_|refine ka_ ?_ _));refine blk_put (cs:=#[.int .u64 t293,.int .u64 t294,.string t295,.slice Ao71 x251003_26.length co71,.slice Ao72 x251004_26.length co72,.bool x251005_26,.bool x251006_26,.bool x251007_26]) ?_ 3 _ rfl;(with_reducible repeat (first|refine kn_ ?_ _|refine kd_ ?_|refine ka_ ?_ _));refine blk_put (cs:=#[.int .u64 t293,.int .u64 t294,.string x251002_26,.slice Ao71 x251003_26.length co71,.slice Ao72 x251004_26.length co72,.bool x251005_26,.bool x251006_26,.bool x251007_26]) ?_ 2 _ rfl;(with_reducible repeat (first|refine kn_ ?_ _|refine kd_ ?_|refine ka_ ?_ _));refine blk_put (cs:=#[.int .u64 t293,.int .u64 x251001_26,.string x251002_26,.slice Ao71 x251003_26.length co71,.slice Ao72 x251004_26.length co72,.bool x251005_26,.bool x251006_26,.bool x251007_26]) ?_ 1 _ rfl;(with_reducible repeat (first|refine kn_ ?_ _|refine kd_ ?_|refine ka_ ?_ _));refine blk_put (cs:=#[.int .u64 x251000_26,.int .u64 x251001_26,.string x251002_26,.slice Ao71 x251003_26.length co71,.slice Ao72 x251004_26.length co72,.bool x251005_26,.bool x251006_26,.bool x251007_26]) ?_ 0 _ rfl;(with_reducible repeat (first|refine kn_ ?_ _|refine kd_ ?_|refine ka_ ?_ _));exact BK250.out) hb);have n5_:=am_ (below_step (by repeat (first|(with_reducible first|exact HB.out|apply ba_|apply pn_|apply pd_|refine bs_ ?_ GE250.out)|exact HB.out)) hb);clear HO_251003;clear HO_251004;clear HO298;clear HO301;clear BK250;clear HB;have HO_251003:=n0_;have HO_251004:=n1_;have HO298:=n2_;have HO301:=n3_;have BK250:=n4_;have HB:=n5_;clear n0_ n1_ n2_ n3_ n4_ n5_;(try clear hb);(try clear hb2);(try clear hk);(try clear hi);have hcz78_0 : w77.cell? ⟨gb250,0,none⟩ = some (.int .u64 t293):=(kc_ BK250.out 0).trans rfl;have hcz78_1 : w77.cell? ⟨gb250,1,none⟩ = some (.int .u64 t294):=(kc_ BK250.out 1).trans rfl;have hcz78_2 : w77.cell? ⟨gb250,2,none⟩ = some (.string t295):=(kc_ BK250.out 2).trans rfl;have hcz78_3 : w77.cell? ⟨gb250,3,none⟩ = some (.slice Ao75 t296.length co75):=(kc_ BK250.out 3).trans rfl;have hcz78_4 : w77.cell? ⟨gb250,4,none⟩ = some (.slice Ao76 t299.length co76):=(kc_ BK250.out 4).trans rfl;have hcz78_5 : w77.cell? ⟨gb250,5,none⟩ = some (.bool t302):=(kc_ BK250.out 5).trans rfl;have hcz78_6 : w77.cell? ⟨gb250,6,none⟩ = some (.bool t303):=(kc_ BK250.out 6).trans rfl;have hcz78_7 : w77.cell? ⟨gb250,7,none⟩ = some (.bool t304):=(kc_ BK250.out 7).trans rfl;have hfz78_0:=blk_frozen BK250.out 0;have hfz78_1:=blk_frozen BK250.out 1;have hfz78_2:=blk_frozen BK250.out 2;have hfz78_3:=blk_frozen BK250.out 3;have hfz78_4:=blk_frozen BK250.out 4;have hfz78_5:=blk_frozen BK250.out 5;have hfz78_6:=blk_frozen BK250.out 6;have hfz78_7:=blk_frozen BK250.out 7)|((with_reducible refine gate_callee (f:=24) rfl ?_);refine goesL_ (some 103) rfl rfl Try.func24 (by kernel_rfl) rfl #[.agg #[.int .u64 t293,.int .u64 t294,.string t295,.slice Ao75 t296.length co75,.slice Ao76 t299.length co76,.bool t302,.bool t303,.bool t304]] rfl (by (try simp only [List.map_toArray,List.map_cons,List.map_nil]);first|done|rfl|(simp only [List.length_drop,List.length_take];rfl)) ?_;(with_reducible refine (sendq_Done.calls t293 t294 t295 _ _ t296 _ _ t299 t302 t303 t304 false _ ?side1 ?side2 ?side3 ?side4 A61.out).mono ?_);(case side1 => repeat (first|exact (Kd.V_reads' HO298.out).2.2|(with_reducible refine Kd.C_alloc ?_ _)|(with_reducible refine Kd.C_drewN ?_ _)|(with_reducible refine Kd.C_drew ?_)));(case side2 => exact (Kd.V_reads' HO298.out).2.1);(case side3 => repeat (first|exact (Kd.V_reads' HO301.out).2.2|(with_reducible refine Kd.C_alloc ?_ _)|(with_reducible refine Kd.C_drewN ?_ _)|(with_reducible refine Kd.C_drew ?_)));(case side4 => exact (Kd.V_reads' HO301.out).2.1);rintro e w79 ⟨rfl,hb⟩;refine ⟨_,rfl,?_⟩;have n0_:=am_ (Kd.V_below (by (with_reducible repeat (first|apply Kd.V_alloc|apply Kd.V_drewN|apply Kd.V_drew));exact HO_251003.out) hb);have n1_:=am_ (Kd.V_below (by (with_reducible repeat (first|apply Kd.V_alloc|apply Kd.V_drewN|apply Kd.V_drew));exact HO_251004.out) hb);have n2_:=am_ (Kd.V_below (by (with_reducible repeat (first|apply Kd.V_alloc|apply Kd.V_drewN|apply Kd.V_drew));exact HO298.out) hb);have n3_:=am_ (Kd.V_below (by (with_reducible repeat (first|apply Kd.V_alloc|apply Kd.V_drewN|apply Kd.V_drew));exact HO301.out) hb);have n4_:=am_ (blk_below (g:=gb250) (o:=.cells #[.int .u64 t293,.int .u64 t294,.string t295,.slice Ao75 t296.length co75,.slice Ao76 t299.length co76,.bool t302,.bool t303,.bool t304] 29 (0,0)) (by (with_reducible repeat (first|refine kn_ ?_ _|refine kd_ ?_|refine ka_ ?_ _));exact BK250.out) hb);have n5_:=am_ (below_step (by repeat (first|(with_reducible first|exact HB.out|apply ba_|apply pn_|apply pd_|refine bs_ ?_ GE250.out)|exact HB.out)) hb);clear HO_251003;clear HO_251004;clear HO298;clear HO301;clear BK250;clear HB;have HO_251003:=n0_;have HO_251004:=n1_;have HO298:=n2_;have HO301:=n3_;have BK250:=n4_;have HB:=n5_;clear n0_ n1_ n2_ n3_ n4_ n5_;(try clear hb);(try clear hb2);(try clear hk);(try clear hi);have hcz80_0 : w79.cell? ⟨gb250,0,none⟩ = some (.int .u64 t293):=(kc_ BK250.out 0).trans rfl;have hcz80_1 : w79.cell? ⟨gb250,1,none⟩ = some (.int .u64 t294):=(kc_ BK250.out 1).trans rfl;have hcz80_2 : w79.cell? ⟨gb250,2,none⟩ = some (.string t295):=(kc_ BK250.out 2).trans rfl;have hcz80_3 : w79.cell? ⟨gb250,3,none⟩ = some (.slice Ao75 t296.length co75):=(kc_ BK250.out 3).trans rfl;have hcz80_4 : w79.cell? ⟨gb250,4,none⟩ = some (.slice Ao76 t299.length co76):=(kc_ BK250.out 4).trans rfl;have hcz80_5 : w79.cell? ⟨gb250,5,none⟩ = some (.bool t302):=(kc_ BK250.out 5).trans rfl;have hcz80_6 : w79.cell? ⟨gb250,6,none⟩ = some (.bool t303):=(kc_ BK250.out 6).trans rfl;have hcz80_7 : w79.cell? ⟨gb250,7,none⟩ = some (.bool t304):=(kc_ BK250.out 7).trans rfl;have hfz80_0:=blk_frozen BK250.out 0;have hfz80_1:=blk_frozen BK250.out 1;have hfz80_2:=blk_frozen BK250.out 2;have hfz80_3:=blk_frozen BK250.out 3;have hfz80_4:=blk_frozen BK250.out 4;have hfz80_5:=blk_frozen BK250.out 5;have hfz80_6:=blk_frozen BK250.out 6;have hfz80_7:=blk_frozen BK250.out 7)|(go_at_call 16;(with_reducible refine (sendq_Sent.calls kj26 t293 t294 t295 (fun k_ => k_ ≠ gb250) _ _ t296 (fun k_ => k_ ≠ gb250) _ _ t299 t302 t303 t304 t305 0 true t310 t311 t312 t313 t316 t319 t320 t321 _ ?side1 ?side2 A67.out).mono ?_);(case side1 => exact HO298.out);(case side2 => exact HO301.out);rintro e w81 ⟨v314,v317,rfl,ho0,ho1,hb⟩;have n0_:=am_ (Kd.V_below (by (with_reducible repeat (first|apply Kd.V_alloc|apply Kd.V_drewN|apply Kd.V_drew));exact HO_251003.out) hb);have n1_:=am_ (Kd.V_below (by (with_reducible repeat (first|apply Kd.V_alloc|apply Kd.V_drewN|apply Kd.V_drew));exact HO_251004.out) hb);have n2_:=am_ (Kd.V_below (by (with_reducible repeat (first|apply Kd.V_alloc|apply Kd.V_drewN|apply Kd.V_drew));exact HO298.out) hb);have n3_:=am_ (Kd.V_below (by (with_reducible repeat (first|apply Kd.V_alloc|apply Kd.V_drewN|apply Kd.V_drew));exact HO301.out) hb);have n4_:=am_ (Kd.V_lower (Kd.V_mono (ok':=fun k_ => k_ ≠ gb250) ho0 (fun k_ hk_ => Or.elim hk_ (fun hs_ => Or.elim hs_ (fun hs_ => hs_) (fun hs_ => hs_)) (fun hn_ => (Kd.freshB (g:=gb250) (o:=.cells #[.int .u64 t293,.int .u64 t294,.string t295,.slice Ao75 t296.length co75,.slice Ao76 t299.length co76,.bool t302,.bool t303,.bool t304] 29 (0,0)) (by (with_reducible repeat (first|refine kn_ ?_ _|refine kd_ ?_|refine ka_ ?_ _));exact BK250.out) k_ hn_)))) (below_size (by repeat (first|(with_reducible first|exact HB.out|apply ba_|apply pn_|apply pd_|refine bs_ ?_ GE250.out)|exact HB.out))));have n5_:=am_ (Kd.V_lower (Kd.V_mono (ok':=fun k_ => k_ ≠ gb250) ho1 (fun k_ hk_ => Or.elim hk_ (fun hs_ => Or.elim hs_ (fun hs_ => hs_) (fun hs_ => hs_)) (fun hn_ => (Kd.freshB (g:=gb250) (o:=.cells #[.int .u64 t293,.int .u64 t294,.string t295,.slice Ao75 t296.length co75,.slice Ao76 t299.length co76,.bool t302,.bool t303,.bool t304] 29 (0,0)) (by (with_reducible repeat (first|refine kn_ ?_ _|refine kd_ ?_|refine ka_ ?_ _));exact BK250.out) k_ hn_)))) (below_size (by repeat (first|(with_reducible first|exact HB.out|apply ba_|apply pn_|apply pd_|refine bs_ ?_ GE250.out)|exact HB.out))));have n6_:=am_ (blk_below (g:=gb250) (o:=.cells #[.int .u64 t293,.int .u64 t294,.string t295,.slice Ao75 t296.length co75,.slice Ao76 t299.length co76,.bool t302,.bool t303,.bool t304] 29 (0,0)) (by (with_reducible repeat (first|refine kn_ ?_ _|refine kd_ ?_|refine ka_ ?_ _));exact BK250.out) hb);have n7_:=am_ (below_step (by repeat (first|(with_reducible first|exact HB.out|apply ba_|apply pn_|apply pd_|refine bs_ ?_ GE250.out)|exact HB.out)) hb);clear HO_251003;clear HO_251004;clear HO298;clear HO301;clear BK250;clear HB;have HO_251003:=n0_;have HO_251004:=n1_;have HO298:=n2_;have HO301:=n3_;have HO315:=n4_;have HO318:=n5_;have BK250:=n6_;have HB:=n7_;clear n0_ n1_ n2_ n3_ n4_ n5_ n6_ n7_;(try clear hb);(try clear hb2);(try clear hk);(try clear hi);(try clear ho0);(try clear ho1);obtain ⟨Ao82,co82,eo82⟩:=Kd.V_slice HO315.out;subst eo82;obtain ⟨Ao83,co83,eo83⟩:=Kd.V_slice HO318.out;subst eo83)|(go_at_call 20;(with_reducible refine (sendq_Acked.calls kj26 t310 t311 t312 (fun k_ => k_ ≠ gb250) _ _ t313 (fun k_ => k_ ≠ gb250) _ _ t316 t319 t320 t321 t305 0 true t322 t323 t324 t325 t328 t331 t332 t333 _ ?side1 ?side2 A68.out).mono ?_);(case side1 => exact HO315.out);(case side2 => exact HO318.out);rintro e w84 ⟨v326,v329,rfl,ho0,ho1,hb⟩;have n0_:=am_ (Kd.V_below (by (with_reducible repeat (first|apply Kd.V_alloc|apply Kd.V_drewN|apply Kd.V_drew));exact HO_251003.out) hb);have n1_:=am_ (Kd.V_below (by (with_reducible repeat (first|apply Kd.V_alloc|apply Kd.V_drewN|apply Kd.V_drew));exact HO_251004.out) hb);have n2_:=am_ (Kd.V_below (by (with_reducible repeat (first|apply Kd.V_alloc|apply Kd.V_drewN|apply Kd.V_drew));exact HO298.out) hb);have n3_:=am_ (Kd.V_below (by (with_reducible repeat (first|apply Kd.V_alloc|apply Kd.V_drewN|apply Kd.V_drew));exact HO301.out) hb);have n4_:=am_ (Kd.V_below (by (with_reducible repeat (first|apply Kd.V_alloc|apply Kd.V_drewN|apply Kd.V_drew));exact HO315.out) hb);have n5_:=am_ (Kd.V_below (by (with_reducible repeat (first|apply Kd.V_alloc|apply Kd.V_drewN|apply Kd.V_drew));exact HO318.out) hb);have n6_:=am_ (Kd.V_lower (Kd.V_mono (ok':=fun k_ => k_ ≠ gb250) ho0 (fun k_ hk_ => Or.elim hk_ (fun hs_ => Or.elim hs_ (fun hs_ => hs_) (fun hs_ => hs_)) (fun hn_ => (Kd.freshB (g:=gb250) (o:=.cells #[.int .u64 t293,.int .u64 t294,.string t295,.slice Ao75 t296.length co75,.slice Ao76 t299.length co76,.bool t302,.bool t303,.bool t304] 29 (0,0)) (by (with_reducible repeat (first|refine kn_ ?_ _|refine kd_ ?_|refine ka_ ?_ _));exact BK250.out) k_ hn_)))) (below_size (by repeat (first|(with_reducible first|exact HB.out|apply ba_|apply pn_|apply pd_|refine bs_ ?_ GE250.out)|exact HB.out))));have n7_:=am_ (Kd.V_lower (Kd.V_mono (ok':=fun k_ => k_ ≠ gb250) ho1 (fun k_ hk_ => Or.elim hk_ (fun hs_ => Or.elim hs_ (fun hs_ => hs_) (fun hs_ => hs_)) (fun hn_ => (Kd.freshB (g:=gb250) (o:=.cells #[.int .u64 t293,.int .u64 t294,.string t295,.slice Ao75 t296.length co75,.slice Ao76 t299.length co76,.bool t302,.bool t303,.bool t304] 29 (0,0)) (by (with_reducible repeat (first|refine kn_ ?_ _|refine kd_ ?_|refine ka_ ?_ _));exact BK250.out) k_ hn_)))) (below_size (by repeat (first|(with_reducible first|exact HB.out|apply ba_|apply pn_|apply pd_|refine bs_ ?_ GE250.out)|exact HB.out))));have n8_:=am_ (blk_below (g:=gb250) (o:=.cells #[.int .u64 t293,.int .u64 t294,.string t295,.slice Ao75 t296.length co75,.slice Ao76 t299.length co76,.bool t302,.bool t303,.bool t304] 29 (0,0)) (by (with_reducible repeat (first|refine kn_ ?_ _|refine kd_ ?_|refine ka_ ?_ _));exact BK250.out) hb);have n9_:=am_ (below_step (by repeat (first|(with_reducible first|exact HB.out|apply ba_|apply pn_|apply pd_|refine bs_ ?_ GE250.out)|exact HB.out)) hb);clear HO_251003;clear HO_251004;clear HO298;clear HO301;clear HO315;clear HO318;clear BK250;clear HB;have HO_251003:=n0_;have HO_251004:=n1_;have HO298:=n2_;have HO301:=n3_;have HO315:=n4_;have HO318:=n5_;have HO327:=n6_;have HO330:=n7_;have BK250:=n8_;have HB:=n9_;clear n0_ n1_ n2_ n3_ n4_ n5_ n6_ n7_ n8_ n9_;(try clear hb);(try clear hb2);(try clear hk);(try clear hi);(try clear ho0);(try clear ho1);obtain ⟨Ao85,co85,eo85⟩:=Kd.V_slice HO327.out;subst eo85;obtain ⟨Ao86,co86,eo86⟩:=Kd.V_slice HO330.out;subst eo86)|(go_at_call 24;(with_reducible refine (sendq_Done.calls t322 t323 t324 _ _ t325 _ _ t328 t331 t332 t333 t334 _ ?side1 ?side2 ?side3 ?side4 A69.out).mono ?_);(case side1 => repeat (first|exact (Kd.V_reads' HO327.out).2.2|(with_reducible refine Kd.C_alloc ?_ _)|(with_reducible refine Kd.C_drewN ?_ _)|(with_reducible refine Kd.C_drew ?_)));(case side2 => exact (Kd.V_reads' HO327.out).2.1);(case side3 => repeat (first|exact (Kd.V_reads' HO330.out).2.2|(with_reducible refine Kd.C_alloc ?_ _)|(with_reducible refine Kd.C_drewN ?_ _)|(with_reducible refine Kd.C_drew ?_)));(case side4 => exact (Kd.V_reads' HO330.out).2.1);rintro e w87 ⟨rfl,hb⟩;have n0_:=am_ (Kd.V_below (by (with_reducible repeat (first|apply Kd.V_alloc|apply Kd.V_drewN|apply Kd.V_drew));exact HO_251003.out) hb);have n1_:=am_ (Kd.V_below (by (with_reducible repeat (first|apply Kd.V_alloc|apply Kd.V_drewN|apply Kd.V_drew));exact HO_251004.out) hb);have n2_:=am_ (Kd.V_below (by (with_reducible repeat (first|apply Kd.V_alloc|apply Kd.V_drewN|apply Kd.V_drew));exact HO298.out) hb);have n3_:=am_ (Kd.V_below (by (with_reducible repeat (first|apply Kd.V_alloc|apply Kd.V_drewN|apply Kd.V_drew));exact HO301.out) hb);have n4_:=am_ (Kd.V_below (by (with_reducible repeat (first|apply Kd.V_alloc|apply Kd.V_drewN|apply Kd.V_drew));exact HO315.out) hb);have n5_:=am_ (Kd.V_below (by (with_reducible repeat (first|apply Kd.V_alloc|apply Kd.V_drewN|apply Kd.V_drew));exact HO318.out) hb);have n6_:=am_ (Kd.V_below (by (with_reducible repeat (first|apply Kd.V_alloc|apply Kd.V_drewN|apply Kd.V_drew));exact HO327.out) hb);have n7_:=am_ (Kd.V_below (by (with_reducible repeat (first|apply Kd.V_alloc|apply Kd.V_drewN|apply Kd.V_drew));exact HO330.out) hb);have n8_:=am_ (blk_below (g:=gb250) (o:=.cells #[.int .u64 t293,.int .u64 t294,.string t295,.slice Ao75 t296.length co75,.slice Ao76 t299.length co76,.bool t302,.bool t303,.bool t304] 29 (0,0)) (by (with_reducible repeat (first|refine kn_ ?_ _|refine kd_ ?_|refine ka_ ?_ _));exact BK250.out) hb);have n9_:=am_ (below_step (by repeat (first|(with_reducible first|exact HB.out|apply ba_|apply pn_|apply pd_|refine bs_ ?_ GE250.out)|exact HB.out)) hb);clear HO_251003;clear HO_251004;clear HO298;clear HO301;clear HO315;clear HO318;clear HO327;clear HO330;clear BK250;clear HB;have HO_251003:=n0_;have HO_251004:=n1_;have HO298:=n2_;have HO301:=n3_;have HO315:=n4_;have HO318:=n5_;have HO327:=n6_;have HO330:=n7_;have BK250:=n8_;have HB:=n9_;clear n0_ n1_ n2_ n3_ n4_ n5_ n6_ n7_ n8_ n9_;(try clear hb);(try clear hb2);(try clear hk);(try clear hi)))
              go_ret
              exact ⟨by first|rfl|(simp [errW_none,errW_some] <;> rfl)|(simp [*,errW_none,errW_some] <;> rfl),by repeat (first|(with_reducible first|exact HB.out|apply ba_|apply pn_|apply pd_|refine bs_ ?_ GE250.out)|exact HB.out)⟩
             ·replace c66:=Bool.eq_false_iff.mpr c66
              subst c66
              have H1 : (none) = some r:=by rw [if_neg (show ¬ (false = true) by decide)] at H;exact H
              clear H
              have H:=H1
              clear H1
              exact absurd H (by simp)
            ·replace c65:=Bool.eq_false_iff.mpr c65
             subst c65
             have H1 : (none) = some r:=by rw [if_neg (show ¬ (false = true) by decide)] at H;exact H
             clear H
             have H:=H1
             clear H1
             exact absurd H (by simp)
           ·rw [if_neg c64] at H
            exact absurd H (by simp)
          ·rw [if_neg c63] at H
           exact absurd H (by simp)
        ·replace c58:=Bool.eq_false_iff.mpr c58
         subst c58
         have H1 : ((sendq_Done.f x251000_26 x251001_26 x251002_26 x251003_26 x251004_26 x251005_26 x251006_26 x251007_26).bind fun t292 => (some t292)) = some r:=by rw [if_neg (show ¬ (false = true) by decide)] at H;exact H
         clear H
         have H:=H1
         clear H1
         replace H:=Option.bind_eq_some_iff.mp H
         obtain ⟨t292,A880,H⟩:=H
         replace H : (some t292) = some r:=H
         have A88:=am_ A880
         clear A880
         obtain rfl:=Option.some.inj H
         have hcz89_0 : wc.cell? ⟨gb250,0,none⟩ = some (.int .u64 x251000_26):=(kc_ BK250.out 0).trans rfl
         have hcz89_1 : wc.cell? ⟨gb250,1,none⟩ = some (.int .u64 x251001_26):=(kc_ BK250.out 1).trans rfl
         have hcz89_2 : wc.cell? ⟨gb250,2,none⟩ = some (.string x251002_26):=(kc_ BK250.out 2).trans rfl
         have hcz89_3 : wc.cell? ⟨gb250,3,none⟩ = some (u251003):=(kc_ BK250.out 3).trans rfl
         have hcz89_4 : wc.cell? ⟨gb250,4,none⟩ = some (u251004):=(kc_ BK250.out 4).trans rfl
         have hcz89_5 : wc.cell? ⟨gb250,5,none⟩ = some (.bool x251005_26):=(kc_ BK250.out 5).trans rfl
         have hcz89_6 : wc.cell? ⟨gb250,6,none⟩ = some (.bool x251006_26):=(kc_ BK250.out 6).trans rfl
         have hcz89_7 : wc.cell? ⟨gb250,7,none⟩ = some (.bool x251007_26):=(kc_ BK250.out 7).trans rfl
         have hfz89_0:=blk_frozen BK250.out 0
         have hfz89_1:=blk_frozen BK250.out 1
         have hfz89_2:=blk_frozen BK250.out 2
         have hfz89_3:=blk_frozen BK250.out 3
         have hfz89_4:=blk_frozen BK250.out 4
         have hfz89_5:=blk_frozen BK250.out 5
         have hfz89_6:=blk_frozen BK250.out 6
         have hfz89_7:=blk_frozen BK250.out 7
         obtain ⟨Ao90,co90,eo90⟩:=Kd.V_slice HO_251003.out
         subst eo90
         obtain ⟨Ao91,co91,eo91⟩:=Kd.V_slice HO_251004.out
         subst eo91
         go_wp2_with (first|((with_reducible refine gate_callee (f:=24) rfl ?_);refine goesL_ (some 91) rfl rfl Try.func24 (by kernel_rfl) rfl #[.agg #[.int .u64 x251000_26,.int .u64 x251001_26,.string x251002_26,.slice Ao90 x251003_26.length co90,.slice Ao91 x251004_26.length co91,.bool x251005_26,.bool x251006_26,.bool x251007_26]] rfl (by (try simp only [List.map_toArray,List.map_cons,List.map_nil]);first|done|rfl|(simp only [List.length_drop,List.length_take];rfl)) ?_;(with_reducible refine (sendq_Done.calls x251000_26 x251001_26 x251002_26 _ _ x251003_26 _ _ x251004_26 x251005_26 x251006_26 x251007_26 t292 _ ?side1 ?side2 ?side3 ?side4 A88.out).mono ?_);(case side1 => repeat (first|exact (Kd.V_reads' HO_251003.out).2.2|(with_reducible refine Kd.C_alloc ?_ _)|(with_reducible refine Kd.C_drewN ?_ _)|(with_reducible refine Kd.C_drew ?_)));(case side2 => exact (Kd.V_reads' HO_251003.out).2.1);(case side3 => repeat (first|exact (Kd.V_reads' HO_251004.out).2.2|(with_reducible refine Kd.C_alloc ?_ _)|(with_reducible refine Kd.C_drewN ?_ _)|(with_reducible refine Kd.C_drew ?_)));(case side4 => exact (Kd.V_reads' HO_251004.out).2.1);rintro e w92 ⟨rfl,hb⟩;refine ⟨_,rfl,?_⟩;have n0_:=am_ (Kd.V_below (by (with_reducible repeat (first|apply Kd.V_alloc|apply Kd.V_drewN|apply Kd.V_drew));exact HO_251003.out) hb);have n1_:=am_ (Kd.V_below (by (with_reducible repeat (first|apply Kd.V_alloc|apply Kd.V_drewN|apply Kd.V_drew));exact HO_251004.out) hb);have n2_:=am_ (blk_below (g:=gb250) (o:=.cells #[.int .u64 x251000_26,.int .u64 x251001_26,.string x251002_26,.slice Ao90 x251003_26.length co90,.slice Ao91 x251004_26.length co91,.bool x251005_26,.bool x251006_26,.bool x251007_26] 29 (0,0)) (by (with_reducible repeat (first|refine kn_ ?_ _|refine kd_ ?_|refine ka_ ?_ _));exact BK250.out) hb);have n3_:=am_ (below_step (by repeat (first|(with_reducible first|exact HB.out|apply ba_|apply pn_|apply pd_|refine bs_ ?_ GE250.out)|exact HB.out)) hb);clear HO_251003;clear HO_251004;clear BK250;clear HB;have HO_251003:=n0_;have HO_251004:=n1_;have BK250:=n2_;have HB:=n3_;clear n0_ n1_ n2_ n3_;(try clear hb);(try clear hb2);(try clear hk);(try clear hi)))
         go_ret
         exact ⟨by first|rfl|(simp [errW_none,errW_some] <;> rfl)|(simp [*,errW_none,errW_some] <;> rfl),by repeat (first|(with_reducible first|exact HB.out|apply ba_|apply pn_|apply pd_|refine bs_ ?_ GE250.out)|exact HB.out)⟩

/-- THE ONE PURE STATEMENT of dominolaw15_SendqEnd: yours. -/
def dominolaw15_SendqEnd.Pure : Prop:=∀ (a0 : ByteArray) (a1 : Int) (a2 : Bool),a0.size ≤ 140737488351232 → (Lit.int .u8 a1).wf = true → ∃ k,dominolaw15_SendqEnd.f k a0 a1 a2 = some true
theorem dominolaw15_SendqEnd.walk (P : dominolaw15_SendqEnd.Pure) (a0 : ByteArray) (a1 : Int) (a2 : Bool) (w : World) (w0 : a0.size ≤ 140737488351232) (w1 : (Lit.int .u8 a1).wf = true) :
  Calls Try.prog 6 #[.string a0,.int .u8 a1,.bool a2] w fun e w' => e = .returned (.bool true) ∧ Below w.heap.size w w':=by
 obtain ⟨k,h⟩:=P a0 a1 a2 w0 w1
 refine (dominolaw15_SendqEnd.calls k a0 a1 a2 true w h).mono ?_
 rintro e w' ⟨rfl,hd⟩
 exact ⟨rfl,hd⟩

end Go.Proofs.Ytocagkmnefkniaa.PSqc
