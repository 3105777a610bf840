-- printed for this claim by a program of the claim (wip/tools/pp.py over the kit's print)
import Derived.Test.YtocagkmnefkniaaPSqxx0
import Derived.Test.YtocagkmnefkniaaPSqxx1
import Derived.Test.YtocagkmnefkniaaPSqxx3
import Derived.Test.YtocagkmnefkniaaPSqxx4
import Derived.Test.YtocagkmnefkniaaPSqxx5
import Derived.Test.YtocagkmnefkniaaPSqxx7
import Derived.Test.YtocagkmnefkniaaPSqxx8
namespace Go.Proofs.Ytocagkmnefkniaa.PSqx
open Go.RowKit Go.Proofs.YtocagkmnefkniaaW.PrintWords Go.Proofs.YtocagkmnefkniaaW.PrintLast Go.Proofs.YtocagkmnefkniaaW.PrintMore
attribute [local go_sem] max2_int min2_int max_two min_two max_three min_three max_four min_four   -- for this text's walks alone
set_option linter.unusedVariables false
set_option linter.unusedSimpArgs false

attribute [local go_sem] isSome_setCell_
/-! ### dominolaw15_SendqAll: function 4 -/
mutual
def dominolaw15_SendqAll.j0 : Nat → ByteArray → List Int → Bool → Option (Bool)
 | 0,_,_,_ => none
 | k + 1,x0,x1,x27 => if x27 = true then ((dominolaw15_shown.f k).bind fun t236 => (some t236)) else ((sendq_Write.f k 0 0 (⟨#[]⟩ : ByteArray) ([] : List (S67)) ([] : List (S67)) false false false x0 300).bind fun bt237 => ((sendq_Finish.f bt237.1 bt237.2.1 bt237.2.2.1 bt237.2.2.2.1 bt237.2.2.2.2.1 bt237.2.2.2.2.2.1 bt237.2.2.2.2.2.2.1 bt237.2.2.2.2.2.2.2.1).bind fun bt251 => (if bt237.2.2.2.2.2.2.2.2 = (x0.size : Int) then (dominolaw15_SendqAll.l0 k x0 x1 (([] : List (S57))) 0 bt251.1 bt251.2.1 bt251.2.2.1 bt251.2.2.2.1 bt251.2.2.2.2.1 bt251.2.2.2.2.2.1 bt251.2.2.2.2.2.2.1 bt251.2.2.2.2.2.2.2) else (none))))
def dominolaw15_SendqAll.l0 : Nat → ByteArray → List Int → List (S57) → Int → Int → Int → ByteArray → List (S67) → List (S67) → Bool → Bool → Bool → Option (Bool)
 | 0,_,_,_,_,_,_,_,_,_,_,_,_ => none
 | k + 1,x0,x1,x7,x8,x251000,x251001,x251002,x251003,x251004,x251005,x251006,x251007 => if x8 < (wrap64 ((x1.length : Int) + 500)) then (if x8 < (x1.length : Int) then (if 0 ≤ x8 then (dominolaw15_SendqAll.j2 k x0 x1 x7 x8 (rd x1 x8) x251000 x251001 x251002 x251003 x251004 x251005 x251006 x251007) else (none)) else (dominolaw15_SendqAll.j2 k x0 x1 x7 x8 0 x251000 x251001 x251002 x251003 x251004 x251005 x251006 x251007)) else ((sendq_Done.f x251000 x251001 x251002 x251003 x251004 x251005 x251006 x251007).bind fun t266 => (if t266 = true then (if (x7.length : Int) = 0 then (if x251000 = (IntKind.u64.wrap ((x0.size : Int))) then (some (x251001 == (IntKind.u64.wrap ((x0.size : Int))))) else (none)) else (none)) else (none)))
def dominolaw15_SendqAll.j2 : Nat → ByteArray → List Int → List (S57) → Int → Int → Int → Int → ByteArray → List (S67) → List (S67) → Bool → Bool → Bool → Option (Bool)
 | 0,_,_,_,_,_,_,_,_,_,_,_,_,_ => none
 | k + 1,x0,x1,x7,x8,x9,x251000,x251001,x251002,x251003,x251004,x251005,x251006,x251007 => if x8 ≥ (x1.length : Int) then (dominolaw15_SendqAll.j3 k x0 x1 x7 x8 x9 (decide ((x7.length : Int) > 0)) x251000 x251001 x251002 x251003 x251004 x251005 x251006 x251007) else (dominolaw15_SendqAll.j3 k x0 x1 x7 x8 x9 false x251000 x251001 x251002 x251003 x251004 x251005 x251006 x251007)
def dominolaw15_SendqAll.j3 : Nat → ByteArray → List Int → List (S57) → Int → Int → Bool → Int → Int → ByteArray → List (S67) → List (S67) → Bool → Bool → Bool → Option (Bool)
 | 0,_,_,_,_,_,_,_,_,_,_,_,_,_,_ => none
 | k + 1,x0,x1,x7,x8,x9,x65,x251000,x251001,x251002,x251003,x251004,x251005,x251006,x251007 => if x65 = true then (dominolaw15_SendqAll.j4 k x0 x1 x7 x8 1 x251000 x251001 x251002 x251003 x251004 x251005 x251006 x251007) else (dominolaw15_SendqAll.j4 k x0 x1 x7 x8 x9 x251000 x251001 x251002 x251003 x251004 x251005 x251006 x251007)
def dominolaw15_SendqAll.j4 : Nat → ByteArray → List Int → List (S57) → Int → Int → Int → Int → ByteArray → List (S67) → List (S67) → Bool → Bool → Bool → Option (Bool)
 | 0,_,_,_,_,_,_,_,_,_,_,_,_,_ => none
 | k + 1,x0,x1,x7,x8,x9,x251000,x251001,x251002,x251003,x251004,x251005,x251006,x251007 => if (Int.tmod x9 3) = 0 then (dominolaw15_SendqAll.j5 k x0 x1 x7 x8 x9 true x251000 x251001 x251002 x251003 x251004 x251005 x251006 x251007) else (dominolaw15_SendqAll.j5 k x0 x1 x7 x8 x9 ((x7.length : Int) == 0) x251000 x251001 x251002 x251003 x251004 x251005 x251006 x251007)
def dominolaw15_SendqAll.j5 : Nat → ByteArray → List Int → List (S57) → Int → Int → Bool → Int → Int → ByteArray → List (S67) → List (S67) → Bool → Bool → Bool → Option (Bool)
 | 0,_,_,_,_,_,_,_,_,_,_,_,_,_,_ => none
 | k + 1,x0,x1,x7,x8,x9,x73,x251000,x251001,x251002,x251003,x251004,x251005,x251006,x251007 => if x73 = true then ((sendq_Next.f x251000 x251001 x251002 x251003 x251004 x251005 x251006 x251007 (wrap64 (1 + (Int.tmod (wrap64 (x9)) 20))) 1000).bind fun bt268 => (if bt268.2.2.2 = true then (if (IntKind.u64.wrap (bt268.1 + (IntKind.u64.wrap ((bt268.2.1.size : Int))))) > (IntKind.u64.wrap ((x0.size : Int))) then (none) else (if 0 ≤ bt268.1 then (if bt268.1 ≤ (IntKind.u64.wrap (bt268.1 + (IntKind.u64.wrap ((bt268.2.1.size : Int))))) then (if (IntKind.u64.wrap (bt268.1 + (IntKind.u64.wrap ((bt268.2.1.size : Int))))) ≤ (x0.size : Int) then (if (x0.extract (bt268.1 : Int).toNat ((IntKind.u64.wrap (bt268.1 + (IntKind.u64.wrap ((bt268.2.1.size : Int))))) : Int).toNat).toList = bt268.2.1.toList then (if bt268.2.2.1 = true then (if (IntKind.u64.wrap (bt268.1 + (IntKind.u64.wrap ((bt268.2.1.size : Int))))) = (IntKind.u64.wrap ((x0.size : Int))) then ((sendq_Sent.f k x251000 x251001 x251002 x251003 x251004 x251005 x251006 x251007 bt268.1 (bt268.2.1.size : Int) bt268.2.2.1).bind fun bt272 => (if x7.length < 5864062014805 then (dominolaw15_SendqAll.l0 k x0 x1 (x7 ++ [(⟨bt268.1,(bt268.2.1.size : Int),bt268.2.2.1⟩ : S57)]) (wrap64 (x8 + 1)) bt272.1 bt272.2.1 bt272.2.2.1 bt272.2.2.2.1 bt272.2.2.2.2.1 bt272.2.2.2.2.2.1 bt272.2.2.2.2.2.2.1 bt272.2.2.2.2.2.2.2) else (none))) else (none)) else ((sendq_Sent.f k x251000 x251001 x251002 x251003 x251004 x251005 x251006 x251007 bt268.1 (bt268.2.1.size : Int) bt268.2.2.1).bind fun bt287 => (if x7.length < 5864062014805 then (dominolaw15_SendqAll.l0 k x0 x1 (x7 ++ [(⟨bt268.1,(bt268.2.1.size : Int),bt268.2.2.1⟩ : S57)]) (wrap64 (x8 + 1)) bt287.1 bt287.2.1 bt287.2.2.1 bt287.2.2.2.1 bt287.2.2.2.2.1 bt287.2.2.2.2.2.1 bt287.2.2.2.2.2.2.1 bt287.2.2.2.2.2.2.2) else (none)))) else (none)) else (none)) else (none)) else (none))) else (dominolaw15_SendqAll.l0 k x0 x1 x7 (wrap64 (x8 + 1)) x251000 x251001 x251002 x251003 x251004 x251005 x251006 x251007))) else (if (x7.length : Int) = 0 then (none) else (if 0 ≤ (((Int.tdiv x9 3) % 256) % (x7.length : Int)) then (if (((Int.tdiv x9 3) % 256) % (x7.length : Int)) < (x7.length : Int) then ((some (([] : List (S57)) : List (S57))).bind fun y304 => (if (((Int.tdiv x9 3) % 256) % (x7.length : Int)) ≤ (x7.length : Int) then ((some (x7.take ((((Int.tdiv x9 3) % 256) % (x7.length : Int)) : Int).toNat : List (S57))).bind fun y307 => (if y304.length + y307.length < 5864062014805 then ((some (y304 ++ y307 : List (S57))).bind fun y311 => (if 0 ≤ (wrap64 ((((Int.tdiv x9 3) % 256) % (x7.length : Int)) + 1)) then (if (wrap64 ((((Int.tdiv x9 3) % 256) % (x7.length : Int)) + 1)) ≤ (x7.length : Int) then ((some (x7.drop ((wrap64 ((((Int.tdiv x9 3) % 256) % (x7.length : Int)) + 1)) : Int).toNat : List (S57))).bind fun y314 => (if y311.length + y314.length < 5864062014805 then ((some (y311 ++ y314 : List (S57))).bind fun y318 => (if (Int.tmod x9 3) = 1 then ((sendq_Acked.f k x251000 x251001 x251002 x251003 x251004 x251005 x251006 x251007 ((rd_T57 x7 (((Int.tdiv x9 3) % 256) % (x7.length : Int))).f0) ((rd_T57 x7 (((Int.tdiv x9 3) % 256) % (x7.length : Int))).f1) ((rd_T57 x7 (((Int.tdiv x9 3) % 256) % (x7.length : Int))).f2)).bind fun bt321 => (dominolaw15_SendqAll.l0 k x0 x1 y318 (wrap64 (x8 + 1)) bt321.1 bt321.2.1 bt321.2.2.1 bt321.2.2.2.1 bt321.2.2.2.2.1 bt321.2.2.2.2.2.1 bt321.2.2.2.2.2.2.1 bt321.2.2.2.2.2.2.2)) else ((sendq_Lost.f k x251000 x251001 x251002 x251003 x251004 x251005 x251006 x251007 ((rd_T57 x7 (((Int.tdiv x9 3) % 256) % (x7.length : Int))).f0) ((rd_T57 x7 (((Int.tdiv x9 3) % 256) % (x7.length : Int))).f1) ((rd_T57 x7 (((Int.tdiv x9 3) % 256) % (x7.length : Int))).f2)).bind fun bt333 => (dominolaw15_SendqAll.l0 k x0 x1 y318 (wrap64 (x8 + 1)) bt333.1 bt333.2.1 bt333.2.2.1 bt333.2.2.2.1 bt333.2.2.2.2.1 bt333.2.2.2.2.2.1 bt333.2.2.2.2.2.2.1 bt333.2.2.2.2.2.2.2)))) else (none))) else (none)) else (none))) else (none))) else (none))) else (none)) else (none)))
end
def dominolaw15_SendqAll.f (k : Nat) (a0 : ByteArray) (l1 : List Int) : Option (Bool):=if (a0.size : Int) > 200 then (dominolaw15_SendqAll.j0 k a0 l1 true) else (if (l1.length : Int) > 200 then (dominolaw15_SendqAll.j0 k a0 l1 true) else ((dominolaw15_shown.f k).bind fun t235 => (dominolaw15_SendqAll.j0 k a0 l1 (!t235))))
theorem dominolaw15_SendqAll.mono_l : ∀ k,(∀ y0 y1 y2,LeO (dominolaw15_SendqAll.j0 k y0 y1 y2) (dominolaw15_SendqAll.j0 (k + 1) y0 y1 y2)) ∧ (∀ y0 y1 y2 y3 y4 y5 y6 y7 y8 y9 y10 y11,LeO (dominolaw15_SendqAll.l0 k y0 y1 y2 y3 y4 y5 y6 y7 y8 y9 y10 y11) (dominolaw15_SendqAll.l0 (k + 1) y0 y1 y2 y3 y4 y5 y6 y7 y8 y9 y10 y11)) ∧ (∀ y0 y1 y2 y3 y4 y5 y6 y7 y8 y9 y10 y11 y12,LeO (dominolaw15_SendqAll.j2 k y0 y1 y2 y3 y4 y5 y6 y7 y8 y9 y10 y11 y12) (dominolaw15_SendqAll.j2 (k + 1) y0 y1 y2 y3 y4 y5 y6 y7 y8 y9 y10 y11 y12)) ∧ (∀ y0 y1 y2 y3 y4 y5 y6 y7 y8 y9 y10 y11 y12 y13,LeO (dominolaw15_SendqAll.j3 k y0 y1 y2 y3 y4 y5 y6 y7 y8 y9 y10 y11 y12 y13) (dominolaw15_SendqAll.j3 (k + 1) y0 y1 y2 y3 y4 y5 y6 y7 y8 y9 y10 y11 y12 y13)) ∧ (∀ y0 y1 y2 y3 y4 y5 y6 y7 y8 y9 y10 y11 y12,LeO (dominolaw15_SendqAll.j4 k y0 y1 y2 y3 y4 y5 y6 y7 y8 y9 y10 y11 y12) (dominolaw15_SendqAll.j4 (k + 1) y0 y1 y2 y3 y4 y5 y6 y7 y8 y9 y10 y11 y12)) ∧ (∀ y0 y1 y2 y3 y4 y5 y6 y7 y8 y9 y10 y11 y12 y13,LeO (dominolaw15_SendqAll.j5 k y0 y1 y2 y3 y4 y5 y6 y7 y8 y9 y10 y11 y12 y13) (dominolaw15_SendqAll.j5 (k + 1) y0 y1 y2 y3 y4 y5 y6 y7 y8 y9 y10 y11 y12 y13))
 | 0 => ⟨fun _ _ _ r h => by simp [dominolaw15_SendqAll.j0] at h,fun _ _ _ _ _ _ _ _ _ _ _ _ r h => by simp [dominolaw15_SendqAll.l0] at h,fun _ _ _ _ _ _ _ _ _ _ _ _ _ r h => by simp [dominolaw15_SendqAll.j2] at h,fun _ _ _ _ _ _ _ _ _ _ _ _ _ _ r h => by simp [dominolaw15_SendqAll.j3] at h,fun _ _ _ _ _ _ _ _ _ _ _ _ _ r h => by simp [dominolaw15_SendqAll.j4] at h,fun _ _ _ _ _ _ _ _ _ _ _ _ _ _ r h => by simp [dominolaw15_SendqAll.j5] at h⟩
 | k + 1 => by
  obtain ⟨ih0,ih1,ih2,ih3,ih4,ih5⟩:=dominolaw15_SendqAll.mono_l k
  refine ⟨?_,?_,?_,?_,?_,?_⟩
  ·intro y0 y1 y2
   unfold dominolaw15_SendqAll.j0
   repeat' first
   | (with_reducible exact ih0 _ _ _)
   | (with_reducible exact ih1 _ _ _ _ _ _ _ _ _ _ _ _)
   | (with_reducible exact ih2 _ _ _ _ _ _ _ _ _ _ _ _ _)
   | (with_reducible exact ih3 _ _ _ _ _ _ _ _ _ _ _ _ _ _)
   | (with_reducible exact ih4 _ _ _ _ _ _ _ _ _ _ _ _ _)
   | (with_reducible exact ih5 _ _ _ _ _ _ _ _ _ _ _ _ _ _)
   | (with_reducible exact dominolaw15_shown.mono _)
   | (with_reducible exact sendq_Acked.mono _ _ _ _ _ _ _ _ _ _ _ _)
   | (with_reducible exact sendq_Lost.mono _ _ _ _ _ _ _ _ _ _ _ _)
   | (with_reducible exact sendq_Sent.mono _ _ _ _ _ _ _ _ _ _ _ _)
   | (with_reducible exact sendq_Write.mono _ _ _ _ _ _ _ _ _ _ _)
   | (with_reducible exact LeO.refl _)
   | (with_reducible exact LeO.none _)
   | (with_reducible refine LeO.ite ?_ ?_)
   | (with_reducible refine LeO.bind ?_ (fun _ => ?_))
   | exact ih0 _ _ _
   | exact ih1 _ _ _ _ _ _ _ _ _ _ _ _
   | exact ih2 _ _ _ _ _ _ _ _ _ _ _ _ _
   | exact ih3 _ _ _ _ _ _ _ _ _ _ _ _ _ _
   | exact ih4 _ _ _ _ _ _ _ _ _ _ _ _ _
   | exact ih5 _ _ _ _ _ _ _ _ _ _ _ _ _ _
   | exact dominolaw15_shown.mono _
   | exact sendq_Acked.mono _ _ _ _ _ _ _ _ _ _ _ _
   | exact sendq_Lost.mono _ _ _ _ _ _ _ _ _ _ _ _
   | exact sendq_Sent.mono _ _ _ _ _ _ _ _ _ _ _ _
   | exact sendq_Write.mono _ _ _ _ _ _ _ _ _ _ _
   | exact LeO.none _
   | refine LeO.ite ?_ ?_
   | refine LeO.bind ?_ (fun _ => ?_)
  ·intro y0 y1 y2 y3 y4 y5 y6 y7 y8 y9 y10 y11
   unfold dominolaw15_SendqAll.l0
   repeat' first
   | (with_reducible exact ih0 _ _ _)
   | (with_reducible exact ih1 _ _ _ _ _ _ _ _ _ _ _ _)
   | (with_reducible exact ih2 _ _ _ _ _ _ _ _ _ _ _ _ _)
   | (with_reducible exact ih3 _ _ _ _ _ _ _ _ _ _ _ _ _ _)
   | (with_reducible exact ih4 _ _ _ _ _ _ _ _ _ _ _ _ _)
   | (with_reducible exact ih5 _ _ _ _ _ _ _ _ _ _ _ _ _ _)
   | (with_reducible exact dominolaw15_shown.mono _)
   | (with_reducible exact sendq_Acked.mono _ _ _ _ _ _ _ _ _ _ _ _)
   | (with_reducible exact sendq_Lost.mono _ _ _ _ _ _ _ _ _ _ _ _)
   | (with_reducible exact sendq_Sent.mono _ _ _ _ _ _ _ _ _ _ _ _)
   | (with_reducible exact sendq_Write.mono _ _ _ _ _ _ _ _ _ _ _)
   | (with_reducible exact LeO.refl _)
   | (with_reducible exact LeO.none _)
   | (with_reducible refine LeO.ite ?_ ?_)
   | (with_reducible refine LeO.bind ?_ (fun _ => ?_))
   | exact ih0 _ _ _
   | exact ih1 _ _ _ _ _ _ _ _ _ _ _ _
   | exact ih2 _ _ _ _ _ _ _ _ _ _ _ _ _
   | exact ih3 _ _ _ _ _ _ _ _ _ _ _ _ _ _
   | exact ih4 _ _ _ _ _ _ _ _ _ _ _ _ _
   | exact ih5 _ _ _ _ _ _ _ _ _ _ _ _ _ _
   | exact dominolaw15_shown.mono _
   | exact sendq_Acked.mono _ _ _ _ _ _ _ _ _ _ _ _
   | exact sendq_Lost.mono _ _ _ _ _ _ _ _ _ _ _ _
   | exact sendq_Sent.mono _ _ _ _ _ _ _ _ _ _ _ _
   | exact sendq_Write.mono _ _ _ _ _ _ _ _ _ _ _
   | exact LeO.none _
   | refine LeO.ite ?_ ?_
   | refine LeO.bind ?_ (fun _ => ?_)
  ·intro y0 y1 y2 y3 y4 y5 y6 y7 y8 y9 y10 y11 y12
   unfold dominolaw15_SendqAll.j2
   repeat' first
   | (with_reducible exact ih0 _ _ _)
   | (with_reducible exact ih1 _ _ _ _ _ _ _ _ _ _ _ _)
   | (with_reducible exact ih2 _ _ _ _ _ _ _ _ _ _ _ _ _)
   | (with_reducible exact ih3 _ _ _ _ _ _ _ _ _ _ _ _ _ _)
   | (with_reducible exact ih4 _ _ _ _ _ _ _ _ _ _ _ _ _)
   | (with_reducible exact ih5 _ _ _ _ _ _ _ _ _ _ _ _ _ _)
   | (with_reducible exact dominolaw15_shown.mono _)
   | (with_reducible exact sendq_Acked.mono _ _ _ _ _ _ _ _ _ _ _ _)
   | (with_reducible exact sendq_Lost.mono _ _ _ _ _ _ _ _ _ _ _ _)
   | (with_reducible exact sendq_Sent.mono _ _ _ _ _ _ _ _ _ _ _ _)
   | (with_reducible exact sendq_Write.mono _ _ _ _ _ _ _ _ _ _ _)
   | (with_reducible exact LeO.refl _)
   | (with_reducible exact LeO.none _)
   | (with_reducible refine LeO.ite ?_ ?_)
   | (with_reducible refine LeO.bind ?_ (fun _ => ?_))
   | exact ih0 _ _ _
   | exact ih1 _ _ _ _ _ _ _ _ _ _ _ _
   | exact ih2 _ _ _ _ _ _ _ _ _ _ _ _ _
   | exact ih3 _ _ _ _ _ _ _ _ _ _ _ _ _ _
   | exact ih4 _ _ _ _ _ _ _ _ _ _ _ _ _
   | exact ih5 _ _ _ _ _ _ _ _ _ _ _ _ _ _
   | exact dominolaw15_shown.mono _
   | exact sendq_Acked.mono _ _ _ _ _ _ _ _ _ _ _ _
   | exact sendq_Lost.mono _ _ _ _ _ _ _ _ _ _ _ _
   | exact sendq_Sent.mono _ _ _ _ _ _ _ _ _ _ _ _
   | exact sendq_Write.mono _ _ _ _ _ _ _ _ _ _ _
   | exact LeO.none _
   | refine LeO.ite ?_ ?_
   | refine LeO.bind ?_ (fun _ => ?_)
  ·intro y0 y1 y2 y3 y4 y5 y6 y7 y8 y9 y10 y11 y12 y13
   unfold dominolaw15_SendqAll.j3
   repeat' first
   | (with_reducible exact ih0 _ _ _)
   | (with_reducible exact ih1 _ _ _ _ _ _ _ _ _ _ _ _)
   | (with_reducible exact ih2 _ _ _ _ _ _ _ _ _ _ _ _ _)
   | (with_reducible exact ih3 _ _ _ _ _ _ _ _ _ _ _ _ _ _)
   | (with_reducible exact ih4 _ _ _ _ _ _ _ _ _ _ _ _ _)
   | (with_reducible exact ih5 _ _ _ _ _ _ _ _ _ _ _ _ _ _)
   | (with_reducible exact dominolaw15_shown.mono _)
   | (with_reducible exact sendq_Acked.mono _ _ _ _ _ _ _ _ _ _ _ _)
   | (with_reducible exact sendq_Lost.mono _ _ _ _ _ _ _ _ _ _ _ _)
   | (with_reducible exact sendq_Sent.mono _ _ _ _ _ _ _ _ _ _ _ _)
   | (with_reducible exact sendq_Write.mono _ _ _ _ _ _ _ _ _ _ _)
   | (with_reducible exact LeO.refl _)
   | (with_reducible exact LeO.none _)
   | (with_reducible refine LeO.ite ?_ ?_)
   | (with_reducible refine LeO.bind ?_ (fun _ => ?_))
   | exact ih0 _ _ _
   | exact ih1 _ _ _ _ _ _ _ _ _ _ _ _
   | exact ih2 _ _ _ _ _ _ _ _ _ _ _ _ _
   | exact ih3 _ _ _ _ _ _ _ _ _ _ _ _ _ _
   | exact ih4 _ _ _ _ _ _ _ _ _ _ _ _ _
   | exact ih5 _ _ _ _ _ _ _ _ _ _ _ _ _ _
   | exact dominolaw15_shown.mono _
   | exact sendq_Acked.mono _ _ _ _ _ _ _ _ _ _ _ _
   | exact sendq_Lost.mono _ _ _ _ _ _ _ _ _ _ _ _
   | exact sendq_Sent.mono _ _ _ _ _ _ _ _ _ _ _ _
   | exact sendq_Write.mono _ _ _ _ _ _ _ _ _ _ _
   | exact LeO.none _
   | refine LeO.ite ?_ ?_
   | refine LeO.bind ?_ (fun _ => ?_)
  ·intro y0 y1 y2 y3 y4 y5 y6 y7 y8 y9 y10 y11 y12
   unfold dominolaw15_SendqAll.j4
   repeat' first
   | (with_reducible exact ih0 _ _ _)
   | (with_reducible exact ih1 _ _ _ _ _ _ _ _ _ _ _ _)
   | (with_reducible exact ih2 _ _ _ _ _ _ _ _ _ _ _ _ _)
   | (with_reducible exact ih3 _ _ _ _ _ _ _ _ _ _ _ _ _ _)
   | (with_reducible exact ih4 _ _ _ _ _ _ _ _ _ _ _ _ _)
   | (with_reducible exact ih5 _ _ _ _ _ _ _ _ _ _ _ _ _ _)
   | (with_reducible exact dominolaw15_shown.mono _)
   | (with_reducible exact sendq_Acked.mono _ _ _ _ _ _ _ _ _ _ _ _)
   | (with_reducible exact sendq_Lost.mono _ _ _ _ _ _ _ _ _ _ _ _)
   | (with_reducible exact sendq_Sent.mono _ _ _ _ _ _ _ _ _ _ _ _)
   | (with_reducible exact sendq_Write.mono _ _ _ _ _ _ _ _ _ _ _)
   | (with_reducible exact LeO.refl _)
   | (with_reducible exact LeO.none _)
   | (with_reducible refine LeO.ite ?_ ?_)
   | (with_reducible refine LeO.bind ?_ (fun _ => ?_))
   | exact ih0 _ _ _
   | exact ih1 _ _ _ _ _ _ _ _ _ _ _ _
   | exact ih2 _ _ _ _ _ _ _ _ _ _ _ _ _
   | exact ih3 _ _ _ _ _ _ _ _ _ _ _ _ _ _
   | exact ih4 _ _ _ _ _ _ _ _ _ _ _ _ _
   | exact ih5 _ _ _ _ _ _ _ _ _ _ _ _ _ _
   | exact dominolaw15_shown.mono _
   | exact sendq_Acked.mono _ _ _ _ _ _ _ _ _ _ _ _
   | exact sendq_Lost.mono _ _ _ _ _ _ _ _ _ _ _ _
   | exact sendq_Sent.mono _ _ _ _ _ _ _ _ _ _ _ _
   | exact sendq_Write.mono _ _ _ _ _ _ _ _ _ _ _
   | exact LeO.none _
   | refine LeO.ite ?_ ?_
   | refine LeO.bind ?_ (fun _ => ?_)
  ·intro y0 y1 y2 y3 y4 y5 y6 y7 y8 y9 y10 y11 y12 y13
   unfold dominolaw15_SendqAll.j5
   repeat' first
   | (with_reducible exact ih0 _ _ _)
   | (with_reducible exact ih1 _ _ _ _ _ _ _ _ _ _ _ _)
   | (with_reducible exact ih2 _ _ _ _ _ _ _ _ _ _ _ _ _)
   | (with_reducible exact ih3 _ _ _ _ _ _ _ _ _ _ _ _ _ _)
   | (with_reducible exact ih4 _ _ _ _ _ _ _ _ _ _ _ _ _)
   | (with_reducible exact ih5 _ _ _ _ _ _ _ _ _ _ _ _ _ _)
   | (with_reducible exact dominolaw15_shown.mono _)
   | (with_reducible exact sendq_Acked.mono _ _ _ _ _ _ _ _ _ _ _ _)
   | (with_reducible exact sendq_Lost.mono _ _ _ _ _ _ _ _ _ _ _ _)
   | (with_reducible exact sendq_Sent.mono _ _ _ _ _ _ _ _ _ _ _ _)
   | (with_reducible exact sendq_Write.mono _ _ _ _ _ _ _ _ _ _ _)
   | (with_reducible exact LeO.refl _)
   | (with_reducible exact LeO.none _)
   | (with_reducible refine LeO.ite ?_ ?_)
   | (with_reducible refine LeO.bind ?_ (fun _ => ?_))
   | exact ih0 _ _ _
   | exact ih1 _ _ _ _ _ _ _ _ _ _ _ _
   | exact ih2 _ _ _ _ _ _ _ _ _ _ _ _ _
   | exact ih3 _ _ _ _ _ _ _ _ _ _ _ _ _ _
   | exact ih4 _ _ _ _ _ _ _ _ _ _ _ _ _
   | exact ih5 _ _ _ _ _ _ _ _ _ _ _ _ _ _
   | exact dominolaw15_shown.mono _
   | exact sendq_Acked.mono _ _ _ _ _ _ _ _ _ _ _ _
   | exact sendq_Lost.mono _ _ _ _ _ _ _ _ _ _ _ _
   | exact sendq_Sent.mono _ _ _ _ _ _ _ _ _ _ _ _
   | exact sendq_Write.mono _ _ _ _ _ _ _ _ _ _ _
   | exact LeO.none _
   | refine LeO.ite ?_ ?_
   | refine LeO.bind ?_ (fun _ => ?_)
theorem dominolaw15_SendqAll.mono : ∀ a0 a1 k,LeO (dominolaw15_SendqAll.f k a0 a1) (dominolaw15_SendqAll.f (k + 1) a0 a1):=by
 intro a0 a1 k
 obtain ⟨ih0,ih1,ih2,ih3,ih4,ih5⟩:=dominolaw15_SendqAll.mono_l k
 unfold dominolaw15_SendqAll.f
 repeat' first
   | (with_reducible exact ih0 _ _ _)
   | (with_reducible exact ih1 _ _ _ _ _ _ _ _ _ _ _ _)
   | (with_reducible exact ih2 _ _ _ _ _ _ _ _ _ _ _ _ _)
   | (with_reducible exact ih3 _ _ _ _ _ _ _ _ _ _ _ _ _ _)
   | (with_reducible exact ih4 _ _ _ _ _ _ _ _ _ _ _ _ _)
   | (with_reducible exact ih5 _ _ _ _ _ _ _ _ _ _ _ _ _ _)
   | (with_reducible exact dominolaw15_shown.mono _)
   | (with_reducible exact sendq_Acked.mono _ _ _ _ _ _ _ _ _ _ _ _)
   | (with_reducible exact sendq_Lost.mono _ _ _ _ _ _ _ _ _ _ _ _)
   | (with_reducible exact sendq_Sent.mono _ _ _ _ _ _ _ _ _ _ _ _)
   | (with_reducible exact sendq_Write.mono _ _ _ _ _ _ _ _ _ _ _)
   | (with_reducible exact LeO.refl _)
   | (with_reducible exact LeO.none _)
   | (with_reducible refine LeO.ite ?_ ?_)
   | (with_reducible refine LeO.bind ?_ (fun _ => ?_))
   | exact ih0 _ _ _
   | exact ih1 _ _ _ _ _ _ _ _ _ _ _ _
   | exact ih2 _ _ _ _ _ _ _ _ _ _ _ _ _
   | exact ih3 _ _ _ _ _ _ _ _ _ _ _ _ _ _
   | exact ih4 _ _ _ _ _ _ _ _ _ _ _ _ _
   | exact ih5 _ _ _ _ _ _ _ _ _ _ _ _ _ _
   | exact dominolaw15_shown.mono _
   | exact sendq_Acked.mono _ _ _ _ _ _ _ _ _ _ _ _
   | exact sendq_Lost.mono _ _ _ _ _ _ _ _ _ _ _ _
   | exact sendq_Sent.mono _ _ _ _ _ _ _ _ _ _ _ _
   | exact sendq_Write.mono _ _ _ _ _ _ _ _ _ _ _
   | exact LeO.none _
   | refine LeO.ite ?_ ?_
   | refine LeO.bind ?_ (fun _ => ?_)
def dominolaw15_SendqAll.T25 : Bool × List (List Nat × List Nat):=(true,[([],[]),([],[]),([],[]),([1,2],[1,2]),([0,3],[0,3]),([],[]),([],[]),([6],[6]),([5,7],[5,7]),([4,8,4],[4,8]),([9,9,0,1,2,3,4,5,6,7,8,9],[1,5,9])])
def dominolaw15_SendqAll.B25 : List Nat:=[0,0,0,6,15,0,0,64,224,511,1023]
theorem dominolaw15_SendqAll.tab25 : rtab .any (opsOf Try.f4 25) = dominolaw15_SendqAll.T25:=by kernel_rfl
theorem dominolaw15_SendqAll.bits25 : waitsOk dominolaw15_SendqAll.T25.2 dominolaw15_SendqAll.B25 = true:=by kernel_rfl
set_option maxHeartbeats 8000000 in
set_option maxRecDepth 100000 in
theorem dominolaw15_SendqAll.calls (k : Nat) (a0 : ByteArray) (A1 : Option Addr) (c1 : Nat) (l1 : List Int) (r : Bool) (w : World) (hr1 : Kd.C (Kd.int .u8) w A1 l1.length l1) (hc1 : l1.length ≤ c1) (h : dominolaw15_SendqAll.f k a0 l1 = some r) :
  Calls Try.prog 4 #[.string a0,.slice A1 l1.length c1] w fun e w' => e = .returned (.bool r) ∧ Below w.heap.size w w':=by
 have hu29:=Try.underlying29
 have hu57:=Try.underlying57
 have HR1:=am_ hr1
 have HC1:=am_ hc1
 clear hr1 hc1
 have HB:=am_ (Below.refl w.heap.size w)
 have H : (if (a0.size : Int) > 200 then (dominolaw15_SendqAll.j0 k a0 l1 true) else (if (l1.length : Int) > 200 then (dominolaw15_SendqAll.j0 k a0 l1 true) else ((dominolaw15_shown.f k).bind fun t235 => (dominolaw15_SendqAll.j0 k a0 l1 (!t235))))) = some r:=h
 clear h
 have HC3:=am_ H
 clear H
 go_enter Try.func4,Try.ntmps4
 go_upto_region 1 with (fail)
 go_cut [27] from 20 to 27 (fun v27 wc => ∃ (kq : Nat) (x27_2 : Bool),v27 = .bool x27_2 ∧ Aside0 (dominolaw15_SendqAll.j0 kq a0 l1 x27_2 = some r) ∧ Aside0 (kq ≤ k) ∧ Aside0 (Below w.heap.size w wc))
 case first =>
  have H:=HC3.out
  clear HC3
  by_cases c4 : (a0.size : Int) > 200
  ·rw [if_pos c4] at H
   have c4b0 : decide (200 < (a0.size : Int)) = true:=decide_eq_true c4
   have c4b1 : decide (200 < a0.size) = true:=decide_eq_true (by omega)
   clear c4
   (first|rw [c4b0]|(simp only [i64_w,i32_w];rw [c4b0])|skip)
   have H':=am_ H
   clear H
   go_wp2
   go_meet
   case rel => exact ⟨_,(true),(by first|rfl|(simp;done)|(simp [*];done)),H',⟨by first|omega|exact Nat.le_refl _⟩,⟨by repeat (first|(with_reducible first|exact HB.out|apply ba_|apply pn_|apply pd_)|exact HB.out)⟩⟩
  ·rw [if_neg c4] at H
   have c4b0 : decide (200 < (a0.size : Int)) = false:=decide_eq_false c4
   have c4b1 : decide (200 < a0.size) = false:=decide_eq_false (by omega)
   clear c4
   (first|rw [c4b0]|(simp only [i64_w,i32_w];rw [c4b0])|skip)
   by_cases c5 : (l1.length : Int) > 200
   ·rw [if_pos c5] at H
    have c5b0 : decide (200 < (l1.length : Int)) = true:=decide_eq_true c5
    have c5b1 : decide (200 < l1.length) = true:=decide_eq_true (by omega)
    clear c5
    have H':=am_ H
    clear H
    go_wp2
    go_meet
    case rel => exact ⟨_,(true),(by first|rfl|(simp;done)|(simp [*];done)),H',⟨by first|omega|exact Nat.le_refl _⟩,⟨by repeat (first|(with_reducible first|exact HB.out|apply ba_|apply pn_|apply pd_)|exact HB.out)⟩⟩
   ·rw [if_neg c5] at H
    have c5b0 : decide (200 < (l1.length : Int)) = false:=decide_eq_false c5
    have c5b1 : decide (200 < l1.length) = false:=decide_eq_false (by omega)
    clear c5
    replace H:=Option.bind_eq_some_iff.mp H
    obtain ⟨t235,A60,H⟩:=H
    replace H : (dominolaw15_SendqAll.j0 k a0 l1 (!t235)) = some r:=H
    have A6:=am_ A60
    clear A60
    have H':=am_ H
    clear H
    go_wp2_with (first|(go_at_call 9;(with_reducible refine (dominolaw15_shown.calls k  t235 _ A6.out).mono ?_);rintro e w7 ⟨rfl,hb⟩;have n0_:=am_ (below_step (by repeat (first|(with_reducible first|exact HB.out|apply ba_|apply pn_|apply pd_)|exact HB.out)) hb);clear HB;have HB:=n0_;clear n0_;(try clear hb);(try clear hb2);(try clear hk);(try clear hi)))
    go_meet
    case rel => exact ⟨_,(!t235),(by first|rfl|(simp;done)|(simp [*];done)),H',⟨by first|omega|exact Nat.le_refl _⟩,⟨by repeat (first|(with_reducible first|exact HB.out|apply ba_|apply pn_|apply pd_)|exact HB.out)⟩⟩
 case rest =>
  clear HC3
  try clear c1;try clear p2
  try clear c4;try clear c4b0
  try clear c4b1;try clear c5
  try clear c5b0;try clear c5b1
  obtain ⟨kq,x27_2,rfl,HA,HJ2,HB⟩:=hcut
  cases kq with
  | zero => exact absurd HA.out (by simp [dominolaw15_SendqAll.j0])
  | succ kj2 =>
   have H:=HA.out
   clear HA
   simp only [dominolaw15_SendqAll.j0] at H
   by_cases c8 : x27_2 = true
   ·subst c8
    have H1 : ((dominolaw15_shown.f kj2).bind fun t236 => (some t236)) = some r:=by rw [if_pos rfl] at H;exact H
    clear H
    have H:=H1
    clear H1
    replace H:=Option.bind_eq_some_iff.mp H
    obtain ⟨t236,A90,H⟩:=H
    replace H : (some t236) = some r:=H
    have A9:=am_ A90
    clear A90
    obtain rfl:=Option.some.inj H
    go_wp2_with (first|((with_reducible refine gate_callee (f:=9) rfl ?_);refine goesL_ (some 28) rfl rfl Try.func9 (by kernel_rfl) rfl #[] rfl (by (try simp only [List.map_toArray,List.map_cons,List.map_nil]);first|done|rfl|(simp only [List.length_drop,List.length_take];rfl)) ?_;(with_reducible refine (dominolaw15_shown.calls kj2  t236 _ A9.out).mono ?_);rintro e w10 ⟨rfl,hb⟩;refine ⟨_,rfl,?_⟩;have n0_:=am_ (below_step (by repeat (first|(with_reducible first|exact HB.out|apply ba_|apply pn_|apply pd_)|exact HB.out)) hb);clear HB;have HB:=n0_;clear n0_;(try clear hb);(try clear hb2);(try clear hk);(try clear hi)))
    go_ret
    exact ⟨by first|rfl|(simp [errW_none,errW_some] <;> rfl)|(simp [*,errW_none,errW_some] <;> rfl),by repeat (first|(with_reducible first|exact HB.out|apply ba_|apply pn_|apply pd_)|exact HB.out)⟩
   ·replace c8:=Bool.eq_false_iff.mpr c8
    subst c8
    have H1 : ((sendq_Write.f kj2 0 0 (⟨#[]⟩ : ByteArray) ([] : List (S67)) ([] : List (S67)) false false false a0 300).bind fun bt237 => ((sendq_Finish.f bt237.1 bt237.2.1 bt237.2.2.1 bt237.2.2.2.1 bt237.2.2.2.2.1 bt237.2.2.2.2.2.1 bt237.2.2.2.2.2.2.1 bt237.2.2.2.2.2.2.2.1).bind fun bt251 => (if bt237.2.2.2.2.2.2.2.2 = (a0.size : Int) then (dominolaw15_SendqAll.l0 kj2 a0 l1 (([] : List (S57))) 0 bt251.1 bt251.2.1 bt251.2.2.1 bt251.2.2.2.1 bt251.2.2.2.2.1 bt251.2.2.2.2.2.1 bt251.2.2.2.2.2.2.1 bt251.2.2.2.2.2.2.2) else (none)))) = some r:=by rw [if_neg (show ¬ (false = true) by decide)] at H;exact H
    clear H
    have H:=H1
    clear H1
    replace H:=Option.bind_eq_some_iff.mp H
    obtain ⟨⟨t237,t238,t239,t240,t243,t246,t247,t248,t249⟩,A110,H⟩:=H
    replace H : ((sendq_Finish.f t237 t238 t239 t240 t243 t246 t247 t248).bind fun bt251 => (if t249 = (a0.size : Int) then (dominolaw15_SendqAll.l0 kj2 a0 l1 (([] : List (S57))) 0 bt251.1 bt251.2.1 bt251.2.2.1 bt251.2.2.2.1 bt251.2.2.2.2.1 bt251.2.2.2.2.2.1 bt251.2.2.2.2.2.2.1 bt251.2.2.2.2.2.2.2) else (none))) = some r:=H
    have A11:=am_ A110
    clear A110
    replace H:=Option.bind_eq_some_iff.mp H
    obtain ⟨⟨t251,t252,t253,t254,t257,t260,t261,t262⟩,A120,H⟩:=H
    replace H : (if t249 = (a0.size : Int) then (dominolaw15_SendqAll.l0 kj2 a0 l1 (([] : List (S57))) 0 t251 t252 t253 t254 t257 t260 t261 t262) else (none)) = some r:=H
    have A12:=am_ A120
    clear A120
    by_cases c13 : t249 = (a0.size : Int)
    ·rw [if_pos c13] at H
     have c13b0 : (t249 == (a0.size : Int)) = true:=beq_iff_eq.mpr c13
     have c13b1 : (t249 != (a0.size : Int)) = false:=bne_eq_false_iff_eq.mpr c13
     clear c13
     obtain ⟨y263,hy263⟩ : ∃ y_ : List (S57),y_ = (([] : List (S57))):=⟨_,rfl⟩
     replace H : (dominolaw15_SendqAll.l0 kj2 a0 l1 y263 0 t251 t252 t253 t254 t257 t260 t261 t262) = some r:=by first|(rw [hy263];with_reducible exact H)|(have H2_:=(Option.bind_some _ _).symm.trans H;rw [hy263];with_reducible exact H2_)|(have H2_:=(Option.bind_some _ _).symm.trans H;with_reducible exact H2_)|with_reducible exact H|(rw [hy263];exact H)|exact H
     have Ny263:=am_ hy263
     clear hy263
     have H':=am_ H
     clear H
     go_wp2_with (first|((with_reducible refine gate_callee (f:=12) rfl ?_);refine goesL_ (some 32) rfl rfl Try.func12 (by kernel_rfl) rfl #[.agg kk0_,.string a0,.int .i64 300] rfl (by (try simp only [List.map_toArray,List.map_cons,List.map_nil]);first|done|rfl|(simp only [List.length_drop,List.length_take];rfl)) ?_;(refine (sendq_Write.calls kj2 0 0 (⟨#[]⟩ : ByteArray) (fun k_ => False) _ _ ([] : List (S67)) (fun k_ => False) _ _ ([] : List (S67)) false false false a0 300 t237 t238 t239 t240 t243 t246 t247 t248 t249 _ ?side1 ?side2 A11.out).mono ?_);(case side1 => exact Kd.V_nil _ _ _ _ _);(case side2 => exact Kd.V_nil _ _ _ _ _);rintro e w14 ⟨v241,v244,rfl,ho0,ho1,hb⟩;refine ⟨_,rfl,?_⟩;have n0_:=am_ (Kd.V_lower (Kd.V_mono (ok':=fun k_ => True) ho0 (fun k_ hk_ => trivial)) (below_size (by repeat (first|(with_reducible first|exact HB.out|apply ba_|apply pn_|apply pd_)|exact HB.out))));have n1_:=am_ (Kd.V_lower (Kd.V_mono (ok':=fun k_ => True) ho1 (fun k_ hk_ => trivial)) (below_size (by repeat (first|(with_reducible first|exact HB.out|apply ba_|apply pn_|apply pd_)|exact HB.out))));have n2_:=am_ (below_step (by repeat (first|(with_reducible first|exact HB.out|apply ba_|apply pn_|apply pd_)|exact HB.out)) hb);clear HB;have HO242:=n0_;have HO245:=n1_;have HB:=n2_;clear n0_ n1_ n2_;(try clear hb);(try clear hb2);(try clear hk);(try clear hi);(try clear ho0);(try clear ho1))|((with_reducible refine gate_dst (N:=5) rfl ?_);(try (refine gate_guard (by rfl) ?_;dsimp only));refine box_event ?hg (N:=5) ?hd (cs:=kk0_) (t:=29) ?hr ?_;(case hd => rfl);(case hg => rfl);(case hr => first|(go_simp;done)|(go_simp;rfl));intro gb250 hg w15 hbox hb;have n0_:=am_ (Kd.V_below (Kd.V_elderB (by (with_reducible repeat (first|apply Kd.V_alloc|apply Kd.V_drewN|apply Kd.V_drew));exact HO242.out) gb250 (Nat.le_of_eq hg.symm)) hb);have n1_:=am_ (Kd.V_below (Kd.V_elderB (by (with_reducible repeat (first|apply Kd.V_alloc|apply Kd.V_drewN|apply Kd.V_drew));exact HO245.out) gb250 (Nat.le_of_eq hg.symm)) hb);have n2_:=am_ (below_step (by repeat (first|(with_reducible first|exact HB.out|apply ba_|apply pn_|apply pd_)|exact HB.out)) hb);have n3_:=am_ (hbox);have n4_:=am_ ((by rw [hg];exact (below_size (by repeat (first|(with_reducible first|exact HB.out|apply ba_|apply pn_|apply pd_)|exact HB.out))) : w.heap.size ≤ gb250));have n5_:=am_ ((by rw [hg];exact (below_size (by repeat (first|(with_reducible first|exact HB.out|apply ba_|apply pn_|apply pd_)|exact HB.out))) : w.heap.size ≤ gb250));clear HO242;clear HO245;clear HB;have HO242:=n0_;have HO245:=n1_;have HB:=n2_;have BK250:=n3_;have GW250:=n4_;have GE250:=n5_;clear n0_ n1_ n2_ n3_ n4_ n5_;clear hb hbox hg;have hcz16_0 : w15.cell? ⟨gb250,0,none⟩ = some (.int .u64 0):=(kc_ BK250.out 0).trans rfl;have hcz16_1 : w15.cell? ⟨gb250,1,none⟩ = some (.int .u64 0):=(kc_ BK250.out 1).trans rfl;have hcz16_2 : w15.cell? ⟨gb250,2,none⟩ = some (.string (⟨#[]⟩ : ByteArray)):=(kc_ BK250.out 2).trans rfl;have hcz16_3 : w15.cell? ⟨gb250,3,none⟩ = some (.slice none 0 0):=(kc_ BK250.out 3).trans rfl;have hcz16_4 : w15.cell? ⟨gb250,4,none⟩ = some (.slice none 0 0):=(kc_ BK250.out 4).trans rfl;have hcz16_5 : w15.cell? ⟨gb250,5,none⟩ = some (.bool false):=(kc_ BK250.out 5).trans rfl;have hcz16_6 : w15.cell? ⟨gb250,6,none⟩ = some (.bool false):=(kc_ BK250.out 6).trans rfl;have hcz16_7 : w15.cell? ⟨gb250,7,none⟩ = some (.bool false):=(kc_ BK250.out 7).trans rfl;have hfz16_0:=blk_frozen BK250.out 0;have hfz16_1:=blk_frozen BK250.out 1;have hfz16_2:=blk_frozen BK250.out 2;have hfz16_3:=blk_frozen BK250.out 3;have hfz16_4:=blk_frozen BK250.out 4;have hfz16_5:=blk_frozen BK250.out 5;have hfz16_6:=blk_frozen BK250.out 6;have hfz16_7:=blk_frozen BK250.out 7;obtain ⟨Ao17,co17,eo17⟩:=Kd.V_slice HO242.out;subst eo17;obtain ⟨Ao18,co18,eo18⟩:=Kd.V_slice HO245.out;subst eo18)|((with_reducible refine gate_store (t:=29) (p:=5) rfl ?_);refine store_event (t:=29) (p:=5) (v:=?vo_w19) (w1:=((((((((w15.setCell ⟨gb250,0,none⟩ (.int .u64 t237)).setCell ⟨gb250,1,none⟩ (.int .u64 t238)).setCell ⟨gb250,2,none⟩ (.string t239)).setCell ⟨gb250,3,none⟩ (.slice Ao17 t240.length co17)).setCell ⟨gb250,4,none⟩ (.slice Ao18 t243.length co18)).setCell ⟨gb250,5,none⟩ (.bool t246)).setCell ⟨gb250,6,none⟩ (.bool t247)).setCell ⟨gb250,7,none⟩ (.bool t248))) ?hg ?ho ?hn ?hr ?_;(case ho => rfl);(case hg => rfl);(case hn => rfl);(case hr => first|(go_simp;done)|(go_simp;rfl));intro w19 hw;have n0_ : Aside0 (Kd.V k67 67 w19 w.heap.size (fun k_ => k_ ≠ gb250) (.slice Ao17 t240.length co17) t240):=⟨(by rw [hw];exact (by (with_reducible repeat (first|apply Kd.V_alloc|apply Kd.V_drewN|apply Kd.V_drew));exact Kd.V_mono (Kd.V_far (p:=⟨gb250,7,none⟩) (Kd.V_far (p:=⟨gb250,6,none⟩) (Kd.V_far (p:=⟨gb250,5,none⟩) (Kd.V_far (p:=⟨gb250,4,none⟩) (Kd.V_far (p:=⟨gb250,3,none⟩) (Kd.V_far (p:=⟨gb250,2,none⟩) (Kd.V_far (p:=⟨gb250,1,none⟩) (Kd.V_far (p:=⟨gb250,0,none⟩) (Kd.V_mono HO242.out (fun k_ hk => (⟨hk,hk.2⟩ : _ ∧ k_ ≠ gb250))) (fun _ hk => hk.2) (.int .u64 t237)) (fun _ hk => hk.2) (.int .u64 t238)) (fun _ hk => hk.2) (.string t239)) (fun _ hk => hk.2) (.slice Ao17 t240.length co17)) (fun _ hk => hk.2) (.slice Ao18 t243.length co18)) (fun _ hk => hk.2) (.bool t246)) (fun _ hk => hk.2) (.bool t247)) (fun _ hk => hk.2) (.bool t248)) (fun _ hk => hk.1.2)))⟩;have n1_ : Aside0 (Kd.V k67 67 w19 w.heap.size (fun k_ => k_ ≠ gb250) (.slice Ao18 t243.length co18) t243):=⟨(by rw [hw];exact (by (with_reducible repeat (first|apply Kd.V_alloc|apply Kd.V_drewN|apply Kd.V_drew));exact Kd.V_mono (Kd.V_far (p:=⟨gb250,7,none⟩) (Kd.V_far (p:=⟨gb250,6,none⟩) (Kd.V_far (p:=⟨gb250,5,none⟩) (Kd.V_far (p:=⟨gb250,4,none⟩) (Kd.V_far (p:=⟨gb250,3,none⟩) (Kd.V_far (p:=⟨gb250,2,none⟩) (Kd.V_far (p:=⟨gb250,1,none⟩) (Kd.V_far (p:=⟨gb250,0,none⟩) (Kd.V_mono HO245.out (fun k_ hk => (⟨hk,hk.2⟩ : _ ∧ k_ ≠ gb250))) (fun _ hk => hk.2) (.int .u64 t237)) (fun _ hk => hk.2) (.int .u64 t238)) (fun _ hk => hk.2) (.string t239)) (fun _ hk => hk.2) (.slice Ao17 t240.length co17)) (fun _ hk => hk.2) (.slice Ao18 t243.length co18)) (fun _ hk => hk.2) (.bool t246)) (fun _ hk => hk.2) (.bool t247)) (fun _ hk => hk.2) (.bool t248)) (fun _ hk => hk.1.2)))⟩;have n2_ : Aside0 (w19.heap[gb250]? = some (.cells #[.int .u64 t237,.int .u64 t238,.string t239,.slice Ao17 t240.length co17,.slice Ao18 t243.length co18,.bool t246,.bool t247,.bool t248] 29 (0,0))):=⟨(by rw [hw];exact (by (with_reducible repeat (first|refine kn_ ?_ _|refine kd_ ?_|refine ka_ ?_ _));refine blk_put (cs:=#[.int .u64 t237,.int .u64 t238,.string t239,.slice Ao17 t240.length co17,.slice Ao18 t243.length co18,.bool t246,.bool t247,.bool false]) ?_ 7 _ rfl;(with_reducible repeat (first|refine kn_ ?_ _|refine kd_ ?_|refine ka_ ?_ _));refine blk_put (cs:=#[.int .u64 t237,.int .u64 t238,.string t239,.slice Ao17 t240.length co17,.slice Ao18 t243.length co18,.bool t246,.bool false,.bool false]) ?_ 6 _ rfl;(with_reducible repeat (first|refine kn_ ?_ _|refine kd_ ?_|refine ka_ ?_ _));refine blk_put (cs:=#[.int .u64 t237,.int .u64 t238,.string t239,.slice Ao17 t240.length co17,.slice Ao18 t243.length co18,.bool false,.bool false,.bool false]) ?_ 5 _ rfl;(with_reducible repeat (first|refine kn_ ?_ _|refine kd_ ?_|refine ka_ ?_ _));refine blk_put (cs:=#[.int .u64 t237,.int .u64 t238,.string t239,.slice Ao17 t240.length co17,.slice none 0 0,.bool false,.bool false,.bool false]) ?_ 4 _ rfl;(with_reducible repeat (first|refine kn_ ?_ _|refine kd_ ?_|refine ka_ ?_ _));refine blk_put (cs:=#[.int .u64 t237,.int .u64 t238,.string t239,.slice none 0 0,.slice none 0 0,.bool false,.bool false,.bool false]) ?_ 3 _ rfl;(with_reducible repeat (first|refine kn_ ?_ _|refine kd_ ?_|refine ka_ ?_ _));refine blk_put (cs:=#[.int .u64 t237,.int .u64 t238,.string (⟨#[]⟩ : ByteArray),.slice none 0 0,.slice none 0 0,.bool false,.bool false,.bool false]) ?_ 2 _ rfl;(with_reducible repeat (first|refine kn_ ?_ _|refine kd_ ?_|refine ka_ ?_ _));refine blk_put (cs:=#[.int .u64 t237,.int .u64 0,.string (⟨#[]⟩ : ByteArray),.slice none 0 0,.slice none 0 0,.bool false,.bool false,.bool false]) ?_ 1 _ rfl;(with_reducible repeat (first|refine kn_ ?_ _|refine kd_ ?_|refine ka_ ?_ _));refine blk_put (cs:=kk0_) ?_ 0 _ rfl;(with_reducible repeat (first|refine kn_ ?_ _|refine kd_ ?_|refine ka_ ?_ _));exact BK250.out))⟩;have n3_ : Aside0 (Below w.heap.size w w19):=⟨(by rw [hw];exact (by repeat (first|(with_reducible first|exact HB.out|apply ba_|apply pn_|apply pd_|refine bs_ ?_ GE250.out)|exact HB.out)))⟩;clear hw;clear HO242;clear HO245;clear BK250;clear HB;have HO242:=n0_;have HO245:=n1_;have BK250:=n2_;have HB:=n3_;clear n0_ n1_ n2_ n3_;have hcz20_0 : w19.cell? ⟨gb250,0,none⟩ = some (.int .u64 t237):=(kc_ BK250.out 0).trans rfl;have hcz20_1 : w19.cell? ⟨gb250,1,none⟩ = some (.int .u64 t238):=(kc_ BK250.out 1).trans rfl;have hcz20_2 : w19.cell? ⟨gb250,2,none⟩ = some (.string t239):=(kc_ BK250.out 2).trans rfl;have hcz20_3 : w19.cell? ⟨gb250,3,none⟩ = some (.slice Ao17 t240.length co17):=(kc_ BK250.out 3).trans rfl;have hcz20_4 : w19.cell? ⟨gb250,4,none⟩ = some (.slice Ao18 t243.length co18):=(kc_ BK250.out 4).trans rfl;have hcz20_5 : w19.cell? ⟨gb250,5,none⟩ = some (.bool t246):=(kc_ BK250.out 5).trans rfl;have hcz20_6 : w19.cell? ⟨gb250,6,none⟩ = some (.bool t247):=(kc_ BK250.out 6).trans rfl;have hcz20_7 : w19.cell? ⟨gb250,7,none⟩ = some (.bool t248):=(kc_ BK250.out 7).trans rfl;have hfz20_0:=blk_frozen BK250.out 0;have hfz20_1:=blk_frozen BK250.out 1;have hfz20_2:=blk_frozen BK250.out 2;have hfz20_3:=blk_frozen BK250.out 3;have hfz20_4:=blk_frozen BK250.out 4;have hfz20_5:=blk_frozen BK250.out 5;have hfz20_6:=blk_frozen BK250.out 6;have hfz20_7:=blk_frozen BK250.out 7; skip)|((with_reducible refine gate_callee (f:=14) rfl ?_);refine goesL_ (some 36) rfl rfl Try.func14 (by kernel_rfl) rfl #[.agg #[.int .u64 t237,.int .u64 t238,.string t239,.slice Ao17 t240.length co17,.slice Ao18 t243.length co18,.bool t246,.bool t247,.bool t248]] rfl (by (try simp only [List.map_toArray,List.map_cons,List.map_nil]);first|done|rfl|(simp only [List.length_drop,List.length_take];rfl)) ?_;(with_reducible refine (sendq_Finish.calls t237 t238 t239 (fun k_ => k_ ≠ gb250) _ _ t240 (fun k_ => k_ ≠ gb250) _ _ t243 t246 t247 t248 t251 t252 t253 t254 t257 t260 t261 t262 _ ?side1 ?side2 A12.out).mono ?_);(case side1 => exact HO242.out);(case side2 => exact HO245.out);rintro e w21 ⟨v255,v258,rfl,ho0,ho1,hb⟩;refine ⟨_,rfl,?_⟩;have n0_:=am_ (Kd.V_below (by (with_reducible repeat (first|apply Kd.V_alloc|apply Kd.V_drewN|apply Kd.V_drew));exact HO242.out) hb);have n1_:=am_ (Kd.V_below (by (with_reducible repeat (first|apply Kd.V_alloc|apply Kd.V_drewN|apply Kd.V_drew));exact HO245.out) hb);have n2_:=am_ (Kd.V_lower (Kd.V_mono (ok':=fun k_ => k_ ≠ gb250) ho0 (fun k_ hk_ => Or.elim hk_ (fun hs_ => Or.elim hs_ (fun hs_ => hs_) (fun hs_ => hs_)) (fun hn_ => (Kd.freshB (g:=gb250) (o:=.cells #[.int .u64 t237,.int .u64 t238,.string t239,.slice Ao17 t240.length co17,.slice Ao18 t243.length co18,.bool t246,.bool t247,.bool t248] 29 (0,0)) (by (with_reducible repeat (first|refine kn_ ?_ _|refine kd_ ?_|refine ka_ ?_ _));exact BK250.out) k_ hn_)))) (below_size (by repeat (first|(with_reducible first|exact HB.out|apply ba_|apply pn_|apply pd_|refine bs_ ?_ GE250.out)|exact HB.out))));have n3_:=am_ (Kd.V_lower (Kd.V_mono (ok':=fun k_ => k_ ≠ gb250) ho1 (fun k_ hk_ => Or.elim hk_ (fun hs_ => Or.elim hs_ (fun hs_ => hs_) (fun hs_ => hs_)) (fun hn_ => (Kd.freshB (g:=gb250) (o:=.cells #[.int .u64 t237,.int .u64 t238,.string t239,.slice Ao17 t240.length co17,.slice Ao18 t243.length co18,.bool t246,.bool t247,.bool t248] 29 (0,0)) (by (with_reducible repeat (first|refine kn_ ?_ _|refine kd_ ?_|refine ka_ ?_ _));exact BK250.out) k_ hn_)))) (below_size (by repeat (first|(with_reducible first|exact HB.out|apply ba_|apply pn_|apply pd_|refine bs_ ?_ GE250.out)|exact HB.out))));have n4_:=am_ (blk_below (g:=gb250) (o:=.cells #[.int .u64 t237,.int .u64 t238,.string t239,.slice Ao17 t240.length co17,.slice Ao18 t243.length co18,.bool t246,.bool t247,.bool t248] 29 (0,0)) (by (with_reducible repeat (first|refine kn_ ?_ _|refine kd_ ?_|refine ka_ ?_ _));exact BK250.out) hb);have n5_:=am_ (below_step (by repeat (first|(with_reducible first|exact HB.out|apply ba_|apply pn_|apply pd_|refine bs_ ?_ GE250.out)|exact HB.out)) hb);clear HO242;clear HO245;clear BK250;clear HB;have HO242:=n0_;have HO245:=n1_;have HO256:=n2_;have HO259:=n3_;have BK250:=n4_;have HB:=n5_;clear n0_ n1_ n2_ n3_ n4_ n5_;(try clear hb);(try clear hb2);(try clear hk);(try clear hi);(try clear ho0);(try clear ho1);have hcz22_0 : w21.cell? ⟨gb250,0,none⟩ = some (.int .u64 t237):=(kc_ BK250.out 0).trans rfl;have hcz22_1 : w21.cell? ⟨gb250,1,none⟩ = some (.int .u64 t238):=(kc_ BK250.out 1).trans rfl;have hcz22_2 : w21.cell? ⟨gb250,2,none⟩ = some (.string t239):=(kc_ BK250.out 2).trans rfl;have hcz22_3 : w21.cell? ⟨gb250,3,none⟩ = some (.slice Ao17 t240.length co17):=(kc_ BK250.out 3).trans rfl;have hcz22_4 : w21.cell? ⟨gb250,4,none⟩ = some (.slice Ao18 t243.length co18):=(kc_ BK250.out 4).trans rfl;have hcz22_5 : w21.cell? ⟨gb250,5,none⟩ = some (.bool t246):=(kc_ BK250.out 5).trans rfl;have hcz22_6 : w21.cell? ⟨gb250,6,none⟩ = some (.bool t247):=(kc_ BK250.out 6).trans rfl;have hcz22_7 : w21.cell? ⟨gb250,7,none⟩ = some (.bool t248):=(kc_ BK250.out 7).trans rfl;have hfz22_0:=blk_frozen BK250.out 0;have hfz22_1:=blk_frozen BK250.out 1;have hfz22_2:=blk_frozen BK250.out 2;have hfz22_3:=blk_frozen BK250.out 3;have hfz22_4:=blk_frozen BK250.out 4;have hfz22_5:=blk_frozen BK250.out 5;have hfz22_6:=blk_frozen BK250.out 6;have hfz22_7:=blk_frozen BK250.out 7;obtain ⟨Ao23,co23,eo23⟩:=Kd.V_slice HO256.out;subst eo23;obtain ⟨Ao24,co24,eo24⟩:=Kd.V_slice HO259.out;subst eo24)|((with_reducible refine gate_dst (N:=41) rfl ?_);(try (refine gate_guard (by rfl) ?_;dsimp only));refine Kd.R_lit k57 _ 57 ?hg (N:=41) ?hd (xs:=([] : List (S57))) (inner:=[]) (ok:=fun _ => True) (okp:=fun _ => True) ?hr ?hp (fun _ hk => hk) trivial (Below.refl _ _) (Nat.le_refl _) (by simp) ?_;(case hd => rfl);(case hg => rfl);(case hr => first|(go_simp;done)|(go_simp;rfl));(case hp => exact (Reps.none _ _));intro v264 w25 ho26 hb hg_ hnew_;clear hg_ hnew_;(first|rw [← Ny263.out] at ho26|(simp only [Int.reduceToNat] at ho26;rw [← Ny263.out] at ho26));have n0_:=am_ (Kd.V_elder' (by (with_reducible repeat (first|apply Kd.V_alloc|apply Kd.V_drewN|apply Kd.V_drew));exact (Kd.V_mono (Kd.V_far (p:=⟨gb250,7,none⟩) (Kd.V_far (p:=⟨gb250,6,none⟩) (Kd.V_far (p:=⟨gb250,5,none⟩) (Kd.V_far (p:=⟨gb250,4,none⟩) (Kd.V_far (p:=⟨gb250,3,none⟩) (Kd.V_far (p:=⟨gb250,2,none⟩) (Kd.V_far (p:=⟨gb250,1,none⟩) (Kd.V_far (p:=⟨gb250,0,none⟩) (Kd.V_mono HO242.out (fun k_ hk => (⟨hk,hk⟩ : _ ∧ k_ ≠ gb250))) (fun _ hk => hk.2) (.int .u64 t251)) (fun _ hk => hk.2) (.int .u64 t252)) (fun _ hk => hk.2) (.string t253)) (fun _ hk => hk.2) (.slice Ao23 t254.length co23)) (fun _ hk => hk.2) (.slice Ao24 t257.length co24)) (fun _ hk => hk.2) (.bool t260)) (fun _ hk => hk.2) (.bool t261)) (fun _ hk => hk.2) (.bool t262)) (fun _ h_ => h_.1))) (Kd.R_base ho26) hb);have n1_:=am_ (Kd.V_elder' (by (with_reducible repeat (first|apply Kd.V_alloc|apply Kd.V_drewN|apply Kd.V_drew));exact (Kd.V_mono (Kd.V_far (p:=⟨gb250,7,none⟩) (Kd.V_far (p:=⟨gb250,6,none⟩) (Kd.V_far (p:=⟨gb250,5,none⟩) (Kd.V_far (p:=⟨gb250,4,none⟩) (Kd.V_far (p:=⟨gb250,3,none⟩) (Kd.V_far (p:=⟨gb250,2,none⟩) (Kd.V_far (p:=⟨gb250,1,none⟩) (Kd.V_far (p:=⟨gb250,0,none⟩) (Kd.V_mono HO245.out (fun k_ hk => (⟨hk,hk⟩ : _ ∧ k_ ≠ gb250))) (fun _ hk => hk.2) (.int .u64 t251)) (fun _ hk => hk.2) (.int .u64 t252)) (fun _ hk => hk.2) (.string t253)) (fun _ hk => hk.2) (.slice Ao23 t254.length co23)) (fun _ hk => hk.2) (.slice Ao24 t257.length co24)) (fun _ hk => hk.2) (.bool t260)) (fun _ hk => hk.2) (.bool t261)) (fun _ hk => hk.2) (.bool t262)) (fun _ h_ => h_.1))) (Kd.R_base ho26) hb);have n2_:=am_ (Kd.V_elder' (by (with_reducible repeat (first|apply Kd.V_alloc|apply Kd.V_drewN|apply Kd.V_drew));exact (Kd.V_mono (Kd.V_far (p:=⟨gb250,7,none⟩) (Kd.V_far (p:=⟨gb250,6,none⟩) (Kd.V_far (p:=⟨gb250,5,none⟩) (Kd.V_far (p:=⟨gb250,4,none⟩) (Kd.V_far (p:=⟨gb250,3,none⟩) (Kd.V_far (p:=⟨gb250,2,none⟩) (Kd.V_far (p:=⟨gb250,1,none⟩) (Kd.V_far (p:=⟨gb250,0,none⟩) (Kd.V_mono HO256.out (fun k_ hk => (⟨hk,hk⟩ : _ ∧ k_ ≠ gb250))) (fun _ hk => hk.2) (.int .u64 t251)) (fun _ hk => hk.2) (.int .u64 t252)) (fun _ hk => hk.2) (.string t253)) (fun _ hk => hk.2) (.slice Ao23 t254.length co23)) (fun _ hk => hk.2) (.slice Ao24 t257.length co24)) (fun _ hk => hk.2) (.bool t260)) (fun _ hk => hk.2) (.bool t261)) (fun _ hk => hk.2) (.bool t262)) (fun _ h_ => h_.1))) (Kd.R_base ho26) hb);have n3_:=am_ (Kd.V_elder' (by (with_reducible repeat (first|apply Kd.V_alloc|apply Kd.V_drewN|apply Kd.V_drew));exact (Kd.V_mono (Kd.V_far (p:=⟨gb250,7,none⟩) (Kd.V_far (p:=⟨gb250,6,none⟩) (Kd.V_far (p:=⟨gb250,5,none⟩) (Kd.V_far (p:=⟨gb250,4,none⟩) (Kd.V_far (p:=⟨gb250,3,none⟩) (Kd.V_far (p:=⟨gb250,2,none⟩) (Kd.V_far (p:=⟨gb250,1,none⟩) (Kd.V_far (p:=⟨gb250,0,none⟩) (Kd.V_mono HO259.out (fun k_ hk => (⟨hk,hk⟩ : _ ∧ k_ ≠ gb250))) (fun _ hk => hk.2) (.int .u64 t251)) (fun _ hk => hk.2) (.int .u64 t252)) (fun _ hk => hk.2) (.string t253)) (fun _ hk => hk.2) (.slice Ao23 t254.length co23)) (fun _ hk => hk.2) (.slice Ao24 t257.length co24)) (fun _ hk => hk.2) (.bool t260)) (fun _ hk => hk.2) (.bool t261)) (fun _ hk => hk.2) (.bool t262)) (fun _ h_ => h_.1))) (Kd.R_base ho26) hb);have n4_:=am_ (Kd.R_lower ho26 (below_size (by repeat (first|(with_reducible first|exact HB.out|apply ba_|apply pn_|apply pd_|refine bs_ ?_ GE250.out)|exact HB.out))));have n5_:=am_ (blk_below (g:=gb250) (o:=.cells #[.int .u64 t251,.int .u64 t252,.string t253,.slice Ao23 t254.length co23,.slice Ao24 t257.length co24,.bool t260,.bool t261,.bool t262] 29 (0,0)) (by (with_reducible repeat (first|refine kn_ ?_ _|refine kd_ ?_|refine ka_ ?_ _));refine blk_put (cs:=#[.int .u64 t251,.int .u64 t252,.string t253,.slice Ao23 t254.length co23,.slice Ao24 t257.length co24,.bool t260,.bool t261,.bool t248]) ?_ 7 _ rfl;(with_reducible repeat (first|refine kn_ ?_ _|refine kd_ ?_|refine ka_ ?_ _));refine blk_put (cs:=#[.int .u64 t251,.int .u64 t252,.string t253,.slice Ao23 t254.length co23,.slice Ao24 t257.length co24,.bool t260,.bool t247,.bool t248]) ?_ 6 _ rfl;(with_reducible repeat (first|refine kn_ ?_ _|refine kd_ ?_|refine ka_ ?_ _));refine blk_put (cs:=#[.int .u64 t251,.int .u64 t252,.string t253,.slice Ao23 t254.length co23,.slice Ao24 t257.length co24,.bool t246,.bool t247,.bool t248]) ?_ 5 _ rfl;(with_reducible repeat (first|refine kn_ ?_ _|refine kd_ ?_|refine ka_ ?_ _));refine blk_put (cs:=#[.int .u64 t251,.int .u64 t252,.string t253,.slice Ao23 t254.length co23,.slice Ao18 t243.length co18,.bool t246,.bool t247,.bool t248]) ?_ 4 _ rfl;(with_reducible repeat (first|refine kn_ ?_ _|refine kd_ ?_|refine ka_ ?_ _));refine blk_put (cs:=#[.int .u64 t251,.int .u64 t252,.string t253,.slice Ao17 t240.length co17,.slice Ao18 t243.length co18,.bool t246,.bool t247,.bool t248]) ?_ 3 _ rfl;(with_reducible repeat (first|refine kn_ ?_ _|refine kd_ ?_|refine ka_ ?_ _));refine blk_put (cs:=#[.int .u64 t251,.int .u64 t252,.string t239,.slice Ao17 t240.length co17,.slice Ao18 t243.length co18,.bool t246,.bool t247,.bool t248]) ?_ 2 _ rfl;(with_reducible repeat (first|refine kn_ ?_ _|refine kd_ ?_|refine ka_ ?_ _));refine blk_put (cs:=#[.int .u64 t251,.int .u64 t238,.string t239,.slice Ao17 t240.length co17,.slice Ao18 t243.length co18,.bool t246,.bool t247,.bool t248]) ?_ 1 _ rfl;(with_reducible repeat (first|refine kn_ ?_ _|refine kd_ ?_|refine ka_ ?_ _));refine blk_put (cs:=#[.int .u64 t237,.int .u64 t238,.string t239,.slice Ao17 t240.length co17,.slice Ao18 t243.length co18,.bool t246,.bool t247,.bool t248]) ?_ 0 _ rfl;(with_reducible repeat (first|refine kn_ ?_ _|refine kd_ ?_|refine ka_ ?_ _));exact BK250.out) hb);have n6_:=am_ (below_step (by repeat (first|(with_reducible first|exact HB.out|apply ba_|apply pn_|apply pd_|refine bs_ ?_ GE250.out)|exact HB.out)) hb);clear HO242;clear HO245;clear HO256;clear HO259;clear BK250;clear HB;have HO242:=n0_;have HO245:=n1_;have HO256:=n2_;have HO259:=n3_;have HO265:=n4_;have BK250:=n5_;have HB:=n6_;clear n0_ n1_ n2_ n3_ n4_ n5_ n6_;clear hb ho26))
     go_loopg [7,8] kj2 (fun kq v7 v8 w' => ∃ (x7_2 : List (S57)) (x8_2 : Int) (x251000_2 : Int) (x251001_2 : Int) (x251002_2 : ByteArray) (x251003_2 : List (S67)) (x251004_2 : List (S67)) (x251005_2 : Bool) (x251006_2 : Bool) (x251007_2 : Bool) (u251003 : Value) (u251004 : Value),v8 = .int .i64 x8_2 ∧ Aside0 (dominolaw15_SendqAll.l0 kq a0 l1 x7_2 x8_2 x251000_2 x251001_2 x251002_2 x251003_2 x251004_2 x251005_2 x251006_2 x251007_2 = some r) ∧ Aside0 (kq ≤ kj2) ∧ Aside0 (Kd.R k57 57 w' w.heap.size (fun _ => True) v7 x7_2) ∧ Aside0 (Kd.V k67 67 w' w.heap.size (fun k_ => some k_ ≠ (v7 : Value).ownBlock ∧ k_ ≠ gb250) u251003 x251003_2) ∧ Aside0 (Kd.V k67 67 w' w.heap.size (fun k_ => some k_ ≠ (v7 : Value).ownBlock ∧ k_ ≠ gb250) u251004 x251004_2) ∧ Aside0 (w'.heap[gb250]? = some (.cells #[.int .u64 x251000_2,.int .u64 x251001_2,.string x251002_2,u251003,u251004,.bool x251005_2,.bool x251006_2,.bool x251007_2] 29 (0,0))) ∧ Aside0 (Below w.heap.size w w'))
     case atStart => exact ⟨(y263),(0),(t251),(t252),(t253),(t254),(t257),(t260),(t261),(t262),(.slice Ao23 t254.length co23),(.slice Ao24 t257.length co24),(by first|rfl|(simp;done)|(simp [*];done)),H',⟨Nat.le_refl _⟩,⟨by (with_reducible repeat (first|apply ra_|apply rn_|apply rd_));exact HO265.out⟩,⟨by (with_reducible repeat (first|apply Kd.V_alloc|apply Kd.V_drewN|apply Kd.V_drew));exact Kd.V_mono HO256.out (fun _ hk => ⟨hk.2,hk.1⟩)⟩,⟨by (with_reducible repeat (first|apply Kd.V_alloc|apply Kd.V_drewN|apply Kd.V_drew));exact Kd.V_mono HO259.out (fun _ hk => ⟨hk.2,hk.1⟩)⟩,⟨by (with_reducible repeat (first|refine kn_ ?_ _|refine kd_ ?_|refine ka_ ?_ _));exact BK250.out⟩,⟨by repeat (first|(with_reducible first|exact HB.out|apply ba_|apply pn_|apply pd_|refine bs_ ?_ GE250.out)|exact HB.out)⟩⟩
     case round =>
      clear H'
      try clear c1;try clear p2
      try clear c4;try clear c4b0
      try clear c4b1;try clear c5
      try clear c5b0;try clear c5b1
      try clear c8;try clear c9
      try clear c12;try clear c13
      try clear c13b0;try clear c13b1
      try clear c14;try clear hcz16_0
      try clear hcz16_1;try clear hcz16_2
      try clear hcz16_3;try clear hcz16_4
      try clear hcz16_5;try clear hcz16_6
      try clear hcz16_7;try clear hcz20_0
      try clear hcz20_1;try clear hcz20_2
      try clear hcz20_3;try clear hcz20_4
      try clear hcz20_5;try clear hcz20_6
      try clear hcz20_7;try clear hcz22_0
      try clear hcz22_1;try clear hcz22_2
      try clear hcz22_3;try clear hcz22_4
      try clear hcz22_5;try clear hcz22_6
      try clear hcz22_7;try clear hfz16_0
      try clear hfz16_1;try clear hfz16_2
      try clear hfz16_3;try clear hfz16_4
      try clear hfz16_5;try clear hfz16_6
      try clear hfz16_7;try clear hfz20_0
      try clear hfz20_1;try clear hfz20_2
      try clear hfz20_3;try clear hfz20_4
      try clear hfz20_5;try clear hfz20_6
      try clear hfz20_7;try clear hfz22_0
      try clear hfz22_1;try clear hfz22_2
      try clear hfz22_3;try clear hfz22_4
      try clear hfz22_5;try clear hfz22_6
      try clear hfz22_7;try clear p2
      obtain ⟨x7_2,x8_2,x251000_2,x251001_2,x251002_2,x251003_2,x251004_2,x251005_2,x251006_2,x251007_2,u251003,u251004,rfl,HA,HK2,HO_7,HO_251003,HO_251004,BK250,HB⟩:=hrel
      cases gk with
      | zero => exact absurd HA.out (by simp [dominolaw15_SendqAll.l0])
      | succ k2 =>
       have H:=HA.out
       clear HA
       simp only [dominolaw15_SendqAll.l0] at H
       by_cases c27 : x8_2 < (wrap64 ((l1.length : Int) + 500))
       ·rw [if_pos c27] at H
        have c27b0 : decide (x8_2 < (wrap64 ((l1.length : Int) + 500))) = true:=decide_eq_true c27
        clear c27
        have HC28:=am_ H
        clear H
        go_upto_if 52 with (fail)
        go_cut [9] from 50 to 56 (fun v9 wc => ∃ (kq : Nat) (x9_27 : Int),v9 = .int .u8 x9_27 ∧ Aside0 (dominolaw15_SendqAll.j2 kq a0 l1 x7_2 x8_2 x9_27 x251000_2 x251001_2 x251002_2 x251003_2 x251004_2 x251005_2 x251006_2 x251007_2 = some r) ∧ Aside0 (kq ≤ k2) ∧ Aside0 (Kd.R k57 57 wc w.heap.size (fun _ => True) u7 x7_2) ∧ Aside0 (Kd.V k67 67 wc w.heap.size (fun k_ => some k_ ≠ (u7 : Value).ownBlock ∧ k_ ≠ gb250) u251003 x251003_2) ∧ Aside0 (Kd.V k67 67 wc w.heap.size (fun k_ => some k_ ≠ (u7 : Value).ownBlock ∧ k_ ≠ gb250) u251004 x251004_2) ∧ Aside0 (wc.heap[gb250]? = some (.cells #[.int .u64 x251000_2,.int .u64 x251001_2,.string x251002_2,u251003,u251004,.bool x251005_2,.bool x251006_2,.bool x251007_2] 29 (0,0))) ∧ Aside0 (Below w.heap.size w wc))
        case first =>
         have H:=HC28.out
         clear HC28
         by_cases c29 : x8_2 < (l1.length : Int)
         ·rw [if_pos c29] at H
          have c29b0 : decide (x8_2 < (l1.length : Int)) = true:=decide_eq_true c29
          clear c29
          (first|rw [c29b0]|(simp only [i64_w,i32_w];rw [c29b0])|skip)
          by_cases c30 : 0 ≤ x8_2
          ·rw [if_pos c30] at H
           have c30b0 : decide (0 ≤ x8_2) = true:=decide_eq_true c30
           clear c30
           have H':=am_ H
           clear H
           have p267 : 0 ≤ (x8_2 : Int):=of_decide_eq_true (by first|(with_reducible assumption)|assumption)
           have q267 : x8_2 < (l1.length : Int):=of_decide_eq_true (by first|(with_reducible assumption)|assumption)
           obtain ⟨ad267,e267,hx267_0⟩:=Kd.at_int HR1.out x8_2 p267 q267
           cases e267
           replace hx267_0:=(HB.out.cell (World.block_lt_of_cell? w _ hx267_0)).trans hx267_0
           replace p267:=eq_true p267
           replace q267:=eq_true q267
           go_wp2
           go_meet
           case rel => exact ⟨_,(rd l1 x8_2),(by first|rfl|(simp;done)|(simp [*];done)),H',⟨by have:=HJ2.out;have:=HK2.out;first|omega|exact Nat.le_refl _⟩,⟨by (with_reducible repeat (first|apply ra_|apply rn_|apply rd_));exact HO_7.out⟩,⟨by (with_reducible repeat (first|apply Kd.V_alloc|apply Kd.V_drewN|apply Kd.V_drew));exact HO_251003.out⟩,⟨by (with_reducible repeat (first|apply Kd.V_alloc|apply Kd.V_drewN|apply Kd.V_drew));exact HO_251004.out⟩,⟨by (with_reducible repeat (first|refine kn_ ?_ _|refine kd_ ?_|refine ka_ ?_ _));exact BK250.out⟩,⟨by repeat (first|(with_reducible first|exact HB.out|apply ba_|apply pn_|apply pd_|refine bs_ ?_ GE250.out)|exact HB.out)⟩⟩
          ·rw [if_neg c30] at H
           exact absurd H (by simp)
         ·rw [if_neg c29] at H
          have c29b0 : decide (x8_2 < (l1.length : Int)) = false:=decide_eq_false c29
          clear c29
          (first|rw [c29b0]|(simp only [i64_w,i32_w];rw [c29b0])|skip)
          have H':=am_ H
          clear H
          go_wp2
          go_meet
          case rel => exact ⟨_,(0),(by first|rfl|(simp;done)|(simp [*];done)),H',⟨by have:=HJ2.out;have:=HK2.out;first|omega|exact Nat.le_refl _⟩,⟨by (with_reducible repeat (first|apply ra_|apply rn_|apply rd_));exact HO_7.out⟩,⟨by (with_reducible repeat (first|apply Kd.V_alloc|apply Kd.V_drewN|apply Kd.V_drew));exact HO_251003.out⟩,⟨by (with_reducible repeat (first|apply Kd.V_alloc|apply Kd.V_drewN|apply Kd.V_drew));exact HO_251004.out⟩,⟨by (with_reducible repeat (first|refine kn_ ?_ _|refine kd_ ?_|refine ka_ ?_ _));exact BK250.out⟩,⟨by repeat (first|(with_reducible first|exact HB.out|apply ba_|apply pn_|apply pd_|refine bs_ ?_ GE250.out)|exact HB.out)⟩⟩
        case rest =>
         clear HC28
         try clear c1;try clear c2
         try clear p2;try clear q2
         try clear hx2;try clear c3
         try clear c4;try clear c4b0
         try clear c4b1;try clear c5
         try clear c5b0;try clear c5b1
         try clear p6;try clear c8
         try clear c9;try clear c12
         try clear c13;try clear c13b0
         try clear c13b1;try clear c14
         try clear p26;try clear q26
         try clear hx26;try clear c27
         try clear c27b0;try clear c29
         try clear c29b0;try clear c30
         try clear c30b0;try clear hcz16_0
         try clear hcz16_1;try clear hcz16_2
         try clear hcz16_3;try clear hcz16_4
         try clear hcz16_5;try clear hcz16_6
         try clear hcz16_7;try clear hcz20_0
         try clear hcz20_1;try clear hcz20_2
         try clear hcz20_3;try clear hcz20_4
         try clear hcz20_5;try clear hcz20_6
         try clear hcz20_7;try clear hcz22_0
         try clear hcz22_1;try clear hcz22_2
         try clear hcz22_3;try clear hcz22_4
         try clear hcz22_5;try clear hcz22_6
         try clear hcz22_7;try clear hfz16_0
         try clear hfz16_1;try clear hfz16_2
         try clear hfz16_3;try clear hfz16_4
         try clear hfz16_5;try clear hfz16_6
         try clear hfz16_7;try clear hfz20_0
         try clear hfz20_1;try clear hfz20_2
         try clear hfz20_3;try clear hfz20_4
         try clear hfz20_5;try clear hfz20_6
         try clear hfz20_7;try clear hfz22_0
         try clear hfz22_1;try clear hfz22_2
         try clear hfz22_3;try clear hfz22_4
         try clear hfz22_5;try clear hfz22_6
         try clear hfz22_7;try clear hx267_0
         try clear p2;try clear p267;try clear q267
         obtain ⟨kq,x9_27,rfl,HA,HJ27,HO_7,HO_251003,HO_251004,BK250,HB⟩:=hcut
         cases kq with
         | zero => exact absurd HA.out (by simp [dominolaw15_SendqAll.j2])
         | succ kj27 =>
          have H:=HA.out
          clear HA
          simp only [dominolaw15_SendqAll.j2] at H
          have HC31:=am_ H
          clear H
          go_upto_region 14 with (fail)
          go_cut [65] from 50 to 65 (fun v65 wc => ∃ (kq : Nat) (x65_30 : Bool),v65 = .bool x65_30 ∧ Aside0 (dominolaw15_SendqAll.j3 kq a0 l1 x7_2 x8_2 x9_27 x65_30 x251000_2 x251001_2 x251002_2 x251003_2 x251004_2 x251005_2 x251006_2 x251007_2 = some r) ∧ Aside0 (kq ≤ kj27) ∧ Aside0 (Kd.R k57 57 wc w.heap.size (fun _ => True) u7 x7_2) ∧ Aside0 (Kd.V k67 67 wc w.heap.size (fun k_ => some k_ ≠ (u7 : Value).ownBlock ∧ k_ ≠ gb250) u251003 x251003_2) ∧ Aside0 (Kd.V k67 67 wc w.heap.size (fun k_ => some k_ ≠ (u7 : Value).ownBlock ∧ k_ ≠ gb250) u251004 x251004_2) ∧ Aside0 (wc.heap[gb250]? = some (.cells #[.int .u64 x251000_2,.int .u64 x251001_2,.string x251002_2,u251003,u251004,.bool x251005_2,.bool x251006_2,.bool x251007_2] 29 (0,0))) ∧ Aside0 (Below w.heap.size w wc))
          case first =>
           have H:=HC31.out
           clear HC31
           by_cases c32 : x8_2 ≥ (l1.length : Int)
           ·rw [if_pos c32] at H
            have c32b0 : decide ((l1.length : Int) ≤ x8_2) = true:=decide_eq_true c32
            clear c32
            (first|rw [c32b0]|(simp only [i64_w,i32_w];rw [c32b0])|skip)
            have H':=am_ H
            clear H
            obtain ⟨Ao33,co33,eo33⟩:=Kd.R_slice HO_7.out
            subst eo33
            go_wp2
            go_meet
            case rel => exact ⟨_,(decide ((x7_2.length : Int) > 0)),(by first|rfl|(simp;done)|(simp [*];done)),H',⟨by have:=HJ2.out;have:=HK2.out;have:=HJ27.out;first|omega|exact Nat.le_refl _⟩,⟨by (with_reducible repeat (first|apply ra_|apply rn_|apply rd_));exact HO_7.out⟩,⟨by (with_reducible repeat (first|apply Kd.V_alloc|apply Kd.V_drewN|apply Kd.V_drew));exact HO_251003.out⟩,⟨by (with_reducible repeat (first|apply Kd.V_alloc|apply Kd.V_drewN|apply Kd.V_drew));exact HO_251004.out⟩,⟨by (with_reducible repeat (first|refine kn_ ?_ _|refine kd_ ?_|refine ka_ ?_ _));exact BK250.out⟩,⟨by repeat (first|(with_reducible first|exact HB.out|apply ba_|apply pn_|apply pd_|refine bs_ ?_ GE250.out)|exact HB.out)⟩⟩
           ·rw [if_neg c32] at H
            have c32b0 : decide ((l1.length : Int) ≤ x8_2) = false:=decide_eq_false c32
            clear c32
            (first|rw [c32b0]|(simp only [i64_w,i32_w];rw [c32b0])|skip)
            have H':=am_ H
            clear H
            go_wp2
            go_meet
            case rel => exact ⟨_,(false),(by first|rfl|(simp;done)|(simp [*];done)),H',⟨by have:=HJ2.out;have:=HK2.out;have:=HJ27.out;first|omega|exact Nat.le_refl _⟩,⟨by (with_reducible repeat (first|apply ra_|apply rn_|apply rd_));exact HO_7.out⟩,⟨by (with_reducible repeat (first|apply Kd.V_alloc|apply Kd.V_drewN|apply Kd.V_drew));exact HO_251003.out⟩,⟨by (with_reducible repeat (first|apply Kd.V_alloc|apply Kd.V_drewN|apply Kd.V_drew));exact HO_251004.out⟩,⟨by (with_reducible repeat (first|refine kn_ ?_ _|refine kd_ ?_|refine ka_ ?_ _));exact BK250.out⟩,⟨by repeat (first|(with_reducible first|exact HB.out|apply ba_|apply pn_|apply pd_|refine bs_ ?_ GE250.out)|exact HB.out)⟩⟩
          case rest =>
           clear HC31
           try clear c1;try clear c2
           try clear p2;try clear q2
           try clear hx2;try clear c3
           try clear c4;try clear c4b0
           try clear c4b1;try clear c5
           try clear c5b0;try clear c5b1
           try clear p6;try clear c8
           try clear c9;try clear c12
           try clear c13;try clear c13b0
           try clear c13b1;try clear c14
           try clear p26;try clear q26
           try clear hx26;try clear c27
           try clear c27b0;try clear c29
           try clear c29b0;try clear c30
           try clear c30b0;try clear c32
           try clear c32b0;try clear hcz16_0
           try clear hcz16_1;try clear hcz16_2
           try clear hcz16_3;try clear hcz16_4
           try clear hcz16_5;try clear hcz16_6
           try clear hcz16_7;try clear hcz20_0
           try clear hcz20_1;try clear hcz20_2
           try clear hcz20_3;try clear hcz20_4
           try clear hcz20_5;try clear hcz20_6
           try clear hcz20_7;try clear hcz22_0
           try clear hcz22_1;try clear hcz22_2
           try clear hcz22_3;try clear hcz22_4
           try clear hcz22_5;try clear hcz22_6
           try clear hcz22_7;try clear hfz16_0
           try clear hfz16_1;try clear hfz16_2
           try clear hfz16_3;try clear hfz16_4
           try clear hfz16_5;try clear hfz16_6
           try clear hfz16_7;try clear hfz20_0
           try clear hfz20_1;try clear hfz20_2
           try clear hfz20_3;try clear hfz20_4
           try clear hfz20_5;try clear hfz20_6
           try clear hfz20_7;try clear hfz22_0
           try clear hfz22_1;try clear hfz22_2
           try clear hfz22_3;try clear hfz22_4
           try clear hfz22_5;try clear hfz22_6
           try clear hfz22_7;try clear hx267_0
           try clear p2;try clear p26
           try clear p267;try clear p6
           try clear q2;try clear q26;try clear q267
           obtain ⟨kq,x65_30,rfl,HA,HJ30,HO_7,HO_251003,HO_251004,BK250,HB⟩:=hcut
           cases kq with
           | zero => exact absurd HA.out (by simp [dominolaw15_SendqAll.j3])
           | succ kj30 =>
            have H:=HA.out
            clear HA
            simp only [dominolaw15_SendqAll.j3] at H
            have HC34:=am_ H
            clear H
            go_upto_if 65 with (fail)
            go_cut [9] from 57 to 65 (fun v9 wc => ∃ (kq : Nat) (x9_33 : Int),v9 = .int .u8 x9_33 ∧ Aside0 (dominolaw15_SendqAll.j4 kq a0 l1 x7_2 x8_2 x9_33 x251000_2 x251001_2 x251002_2 x251003_2 x251004_2 x251005_2 x251006_2 x251007_2 = some r) ∧ Aside0 (kq ≤ kj30) ∧ Aside0 (Kd.R k57 57 wc w.heap.size (fun _ => True) u7 x7_2) ∧ Aside0 (Kd.V k67 67 wc w.heap.size (fun k_ => some k_ ≠ (u7 : Value).ownBlock ∧ k_ ≠ gb250) u251003 x251003_2) ∧ Aside0 (Kd.V k67 67 wc w.heap.size (fun k_ => some k_ ≠ (u7 : Value).ownBlock ∧ k_ ≠ gb250) u251004 x251004_2) ∧ Aside0 (wc.heap[gb250]? = some (.cells #[.int .u64 x251000_2,.int .u64 x251001_2,.string x251002_2,u251003,u251004,.bool x251005_2,.bool x251006_2,.bool x251007_2] 29 (0,0))) ∧ Aside0 (Below w.heap.size w wc))
            case first =>
             have H:=HC34.out
             clear HC34
             by_cases c35 : x65_30 = true
             ·subst c35
              have H1 : (dominolaw15_SendqAll.j4 kj30 a0 l1 x7_2 x8_2 1 x251000_2 x251001_2 x251002_2 x251003_2 x251004_2 x251005_2 x251006_2 x251007_2) = some r:=by rw [if_pos rfl] at H;exact H
              clear H
              have H:=H1
              clear H1
              have H':=am_ H
              clear H
              go_wp2
              go_meet
              case rel => exact ⟨_,(1),(by first|rfl|(simp;done)|(simp [*];done)),H',⟨by have:=HJ2.out;have:=HK2.out;have:=HJ27.out;have:=HJ30.out;first|omega|exact Nat.le_refl _⟩,⟨by (with_reducible repeat (first|apply ra_|apply rn_|apply rd_));exact HO_7.out⟩,⟨by (with_reducible repeat (first|apply Kd.V_alloc|apply Kd.V_drewN|apply Kd.V_drew));exact HO_251003.out⟩,⟨by (with_reducible repeat (first|apply Kd.V_alloc|apply Kd.V_drewN|apply Kd.V_drew));exact HO_251004.out⟩,⟨by (with_reducible repeat (first|refine kn_ ?_ _|refine kd_ ?_|refine ka_ ?_ _));exact BK250.out⟩,⟨by repeat (first|(with_reducible first|exact HB.out|apply ba_|apply pn_|apply pd_|refine bs_ ?_ GE250.out)|exact HB.out)⟩⟩
             ·replace c35:=Bool.eq_false_iff.mpr c35
              subst c35
              have H1 : (dominolaw15_SendqAll.j4 kj30 a0 l1 x7_2 x8_2 x9_27 x251000_2 x251001_2 x251002_2 x251003_2 x251004_2 x251005_2 x251006_2 x251007_2) = some r:=by rw [if_neg (show ¬ (false = true) by decide)] at H;exact H
              clear H
              have H:=H1
              clear H1
              have H':=am_ H
              clear H
              go_wp2
              go_meet
              case rel => exact ⟨_,(x9_27),(by first|rfl|(simp;done)|(simp [*];done)),H',⟨by have:=HJ2.out;have:=HK2.out;have:=HJ27.out;have:=HJ30.out;first|omega|exact Nat.le_refl _⟩,⟨by (with_reducible repeat (first|apply ra_|apply rn_|apply rd_));exact HO_7.out⟩,⟨by (with_reducible repeat (first|apply Kd.V_alloc|apply Kd.V_drewN|apply Kd.V_drew));exact HO_251003.out⟩,⟨by (with_reducible repeat (first|apply Kd.V_alloc|apply Kd.V_drewN|apply Kd.V_drew));exact HO_251004.out⟩,⟨by (with_reducible repeat (first|refine kn_ ?_ _|refine kd_ ?_|refine ka_ ?_ _));exact BK250.out⟩,⟨by repeat (first|(with_reducible first|exact HB.out|apply ba_|apply pn_|apply pd_|refine bs_ ?_ GE250.out)|exact HB.out)⟩⟩
            case rest =>
             clear HC34
             try clear c1;try clear c2
             try clear p2;try clear q2
             try clear hx2;try clear c3
             try clear c4;try clear c4b0
             try clear c4b1;try clear c5
             try clear c5b0;try clear c5b1
             try clear p6;try clear c8
             try clear c9;try clear c12
             try clear c13;try clear c13b0
             try clear c13b1;try clear c14
             try clear p26;try clear q26
             try clear hx26;try clear c27
             try clear c27b0;try clear c29
             try clear c29b0;try clear c30
             try clear c30b0;try clear c32
             try clear c32b0;try clear c35
             try clear hcz16_0;try clear hcz16_1
             try clear hcz16_2;try clear hcz16_3
             try clear hcz16_4;try clear hcz16_5
             try clear hcz16_6;try clear hcz16_7
             try clear hcz20_0;try clear hcz20_1
             try clear hcz20_2;try clear hcz20_3
             try clear hcz20_4;try clear hcz20_5
             try clear hcz20_6;try clear hcz20_7
             try clear hcz22_0;try clear hcz22_1
             try clear hcz22_2;try clear hcz22_3
             try clear hcz22_4;try clear hcz22_5
             try clear hcz22_6;try clear hcz22_7
             try clear hfz16_0;try clear hfz16_1
             try clear hfz16_2;try clear hfz16_3
             try clear hfz16_4;try clear hfz16_5
             try clear hfz16_6;try clear hfz16_7
             try clear hfz20_0;try clear hfz20_1
             try clear hfz20_2;try clear hfz20_3
             try clear hfz20_4;try clear hfz20_5
             try clear hfz20_6;try clear hfz20_7
             try clear hfz22_0;try clear hfz22_1
             try clear hfz22_2;try clear hfz22_3
             try clear hfz22_4;try clear hfz22_5
             try clear hfz22_6;try clear hfz22_7
             try clear hx267_0;try clear p2
             try clear p26;try clear p267
             try clear p6;try clear q2
             try clear q26;try clear q267
             obtain ⟨kq,x9_33,rfl,HA,HJ33,HO_7,HO_251003,HO_251004,BK250,HB⟩:=hcut
             cases kq with
             | zero => exact absurd HA.out (by simp [dominolaw15_SendqAll.j4])
             | succ kj33 =>
              have H:=HA.out
              clear HA
              simp only [dominolaw15_SendqAll.j4] at H
              have HC36:=am_ H
              clear H
              go_upto_region 16 with (fail)
              go_cut [73] from 66 to 73 (fun v73 wc => ∃ (kq : Nat) (x73_35 : Bool),v73 = .bool x73_35 ∧ Aside0 (dominolaw15_SendqAll.j5 kq a0 l1 x7_2 x8_2 x9_33 x73_35 x251000_2 x251001_2 x251002_2 x251003_2 x251004_2 x251005_2 x251006_2 x251007_2 = some r) ∧ Aside0 (kq ≤ kj33) ∧ Aside0 (Kd.R k57 57 wc w.heap.size (fun _ => True) u7 x7_2) ∧ Aside0 (Kd.V k67 67 wc w.heap.size (fun k_ => some k_ ≠ (u7 : Value).ownBlock ∧ k_ ≠ gb250) u251003 x251003_2) ∧ Aside0 (Kd.V k67 67 wc w.heap.size (fun k_ => some k_ ≠ (u7 : Value).ownBlock ∧ k_ ≠ gb250) u251004 x251004_2) ∧ Aside0 (wc.heap[gb250]? = some (.cells #[.int .u64 x251000_2,.int .u64 x251001_2,.string x251002_2,u251003,u251004,.bool x251005_2,.bool x251006_2,.bool x251007_2] 29 (0,0))) ∧ Aside0 (Below w.heap.size w wc))
              case first =>
               have H:=HC36.out
               clear HC36
               by_cases c37 : (Int.tmod x9_33 3) = 0
               ·rw [if_pos c37] at H
                have c37b0 : ((Int.tmod x9_33 3) == 0) = true:=beq_iff_eq.mpr c37
                have c37b1 : ((Int.tmod x9_33 3) != 0) = false:=bne_eq_false_iff_eq.mpr c37
                clear c37
                (first|rw [c37b0]|(simp only [i64_w,i32_w];rw [c37b0])|skip)
                have H':=am_ H
                clear H
                go_wp2
                go_meet
                case rel => exact ⟨_,(true),(by first|rfl|(simp;done)|(simp [*];done)),H',⟨by have:=HJ2.out;have:=HK2.out;have:=HJ27.out;have:=HJ30.out;have:=HJ33.out;first|omega|exact Nat.le_refl _⟩,⟨by (with_reducible repeat (first|apply ra_|apply rn_|apply rd_));exact HO_7.out⟩,⟨by (with_reducible repeat (first|apply Kd.V_alloc|apply Kd.V_drewN|apply Kd.V_drew));exact HO_251003.out⟩,⟨by (with_reducible repeat (first|apply Kd.V_alloc|apply Kd.V_drewN|apply Kd.V_drew));exact HO_251004.out⟩,⟨by (with_reducible repeat (first|refine kn_ ?_ _|refine kd_ ?_|refine ka_ ?_ _));exact BK250.out⟩,⟨by repeat (first|(with_reducible first|exact HB.out|apply ba_|apply pn_|apply pd_|refine bs_ ?_ GE250.out)|exact HB.out)⟩⟩
               ·rw [if_neg c37] at H
                have c37b0 : ((Int.tmod x9_33 3) == 0) = false:=beq_eq_false_iff_ne.mpr c37
                have c37b1 : ((Int.tmod x9_33 3) != 0) = true:=bne_iff_ne.mpr c37
                (first|rw [c37b0]|(simp only [i64_w,i32_w];rw [c37b0])|skip)
                have H':=am_ H
                clear H
                obtain ⟨Ao38,co38,eo38⟩:=Kd.R_slice HO_7.out
                subst eo38
                go_wp2
                go_meet
                case rel => exact ⟨_,(((x7_2.length : Int) == 0)),(by first|rfl|(simp;done)|(simp [*];done)),H',⟨by have:=HJ2.out;have:=HK2.out;have:=HJ27.out;have:=HJ30.out;have:=HJ33.out;first|omega|exact Nat.le_refl _⟩,⟨by (with_reducible repeat (first|apply ra_|apply rn_|apply rd_));exact HO_7.out⟩,⟨by (with_reducible repeat (first|apply Kd.V_alloc|apply Kd.V_drewN|apply Kd.V_drew));exact HO_251003.out⟩,⟨by (with_reducible repeat (first|apply Kd.V_alloc|apply Kd.V_drewN|apply Kd.V_drew));exact HO_251004.out⟩,⟨by (with_reducible repeat (first|refine kn_ ?_ _|refine kd_ ?_|refine ka_ ?_ _));exact BK250.out⟩,⟨by repeat (first|(with_reducible first|exact HB.out|apply ba_|apply pn_|apply pd_|refine bs_ ?_ GE250.out)|exact HB.out)⟩⟩
              case rest =>
               clear HC36
               try clear c1;try clear c2
               try clear p2;try clear q2
               try clear hx2;try clear c3
               try clear c4;try clear c4b0
               try clear c4b1;try clear c5
               try clear c5b0;try clear c5b1
               try clear p6;try clear c8
               try clear c9;try clear c12
               try clear c13;try clear c13b0
               try clear c13b1;try clear c14
               try clear p26;try clear q26
               try clear hx26;try clear c27
               try clear c27b0;try clear c29
               try clear c29b0;try clear c30
               try clear c30b0;try clear c32
               try clear c32b0;try clear c35
               try clear c37;try clear c37b0
               try clear c37b1;try clear hcz16_0
               try clear hcz16_1;try clear hcz16_2
               try clear hcz16_3;try clear hcz16_4
               try clear hcz16_5;try clear hcz16_6
               try clear hcz16_7;try clear hcz20_0
               try clear hcz20_1;try clear hcz20_2
               try clear hcz20_3;try clear hcz20_4
               try clear hcz20_5;try clear hcz20_6
               try clear hcz20_7;try clear hcz22_0
               try clear hcz22_1;try clear hcz22_2
               try clear hcz22_3;try clear hcz22_4
               try clear hcz22_5;try clear hcz22_6
               try clear hcz22_7;try clear hfz16_0
               try clear hfz16_1;try clear hfz16_2
               try clear hfz16_3;try clear hfz16_4
               try clear hfz16_5;try clear hfz16_6
               try clear hfz16_7;try clear hfz20_0
               try clear hfz20_1;try clear hfz20_2
               try clear hfz20_3;try clear hfz20_4
               try clear hfz20_5;try clear hfz20_6
               try clear hfz20_7;try clear hfz22_0
               try clear hfz22_1;try clear hfz22_2
               try clear hfz22_3;try clear hfz22_4
               try clear hfz22_5;try clear hfz22_6
               try clear hfz22_7;try clear hx267_0
               try clear p2;try clear p26
               try clear p267;try clear p6
               try clear q2;try clear q26;try clear q267
               obtain ⟨kq,x73_35,rfl,HA,HJ35,HO_7,HO_251003,HO_251004,BK250,HB⟩:=hcut
               cases kq with
               | zero => exact absurd HA.out (by simp [dominolaw15_SendqAll.j5])
               | succ kj35 =>
                have H:=HA.out
                clear HA
                simp only [dominolaw15_SendqAll.j5] at H
                by_cases c39 : x73_35 = true
                ·subst c39
                 have H1 : ((sendq_Next.f x251000_2 x251001_2 x251002_2 x251003_2 x251004_2 x251005_2 x251006_2 x251007_2 (wrap64 (1 + (Int.tmod (wrap64 (x9_33)) 20))) 1000).bind fun bt268 => (if bt268.2.2.2 = true then (if (IntKind.u64.wrap (bt268.1 + (IntKind.u64.wrap ((bt268.2.1.size : Int))))) > (IntKind.u64.wrap ((a0.size : Int))) then (none) else (if 0 ≤ bt268.1 then (if bt268.1 ≤ (IntKind.u64.wrap (bt268.1 + (IntKind.u64.wrap ((bt268.2.1.size : Int))))) then (if (IntKind.u64.wrap (bt268.1 + (IntKind.u64.wrap ((bt268.2.1.size : Int))))) ≤ (a0.size : Int) then (if (a0.extract (bt268.1 : Int).toNat ((IntKind.u64.wrap (bt268.1 + (IntKind.u64.wrap ((bt268.2.1.size : Int))))) : Int).toNat).toList = bt268.2.1.toList then (if bt268.2.2.1 = true then (if (IntKind.u64.wrap (bt268.1 + (IntKind.u64.wrap ((bt268.2.1.size : Int))))) = (IntKind.u64.wrap ((a0.size : Int))) then ((sendq_Sent.f kj35 x251000_2 x251001_2 x251002_2 x251003_2 x251004_2 x251005_2 x251006_2 x251007_2 bt268.1 (bt268.2.1.size : Int) bt268.2.2.1).bind fun bt272 => (if x7_2.length < 5864062014805 then (dominolaw15_SendqAll.l0 kj35 a0 l1 (x7_2 ++ [(⟨bt268.1,(bt268.2.1.size : Int),bt268.2.2.1⟩ : S57)]) (wrap64 (x8_2 + 1)) bt272.1 bt272.2.1 bt272.2.2.1 bt272.2.2.2.1 bt272.2.2.2.2.1 bt272.2.2.2.2.2.1 bt272.2.2.2.2.2.2.1 bt272.2.2.2.2.2.2.2) else (none))) else (none)) else ((sendq_Sent.f kj35 x251000_2 x251001_2 x251002_2 x251003_2 x251004_2 x251005_2 x251006_2 x251007_2 bt268.1 (bt268.2.1.size : Int) bt268.2.2.1).bind fun bt287 => (if x7_2.length < 5864062014805 then (dominolaw15_SendqAll.l0 kj35 a0 l1 (x7_2 ++ [(⟨bt268.1,(bt268.2.1.size : Int),bt268.2.2.1⟩ : S57)]) (wrap64 (x8_2 + 1)) bt287.1 bt287.2.1 bt287.2.2.1 bt287.2.2.2.1 bt287.2.2.2.2.1 bt287.2.2.2.2.2.1 bt287.2.2.2.2.2.2.1 bt287.2.2.2.2.2.2.2) else (none)))) else (none)) else (none)) else (none)) else (none))) else (dominolaw15_SendqAll.l0 kj35 a0 l1 x7_2 (wrap64 (x8_2 + 1)) x251000_2 x251001_2 x251002_2 x251003_2 x251004_2 x251005_2 x251006_2 x251007_2))) = some r:=by rw [if_pos rfl] at H;exact H
                 clear H
                 have H:=H1
                 clear H1
                 replace H:=Option.bind_eq_some_iff.mp H
                 obtain ⟨⟨t268,t269,t270,t271⟩,A400,H⟩:=H
                 replace H : (if t271 = true then (if (IntKind.u64.wrap (t268 + (IntKind.u64.wrap ((t269.size : Int))))) > (IntKind.u64.wrap ((a0.size : Int))) then (none) else (if 0 ≤ t268 then (if t268 ≤ (IntKind.u64.wrap (t268 + (IntKind.u64.wrap ((t269.size : Int))))) then (if (IntKind.u64.wrap (t268 + (IntKind.u64.wrap ((t269.size : Int))))) ≤ (a0.size : Int) then (if (a0.extract (t268 : Int).toNat ((IntKind.u64.wrap (t268 + (IntKind.u64.wrap ((t269.size : Int))))) : Int).toNat).toList = t269.toList then (if t270 = true then (if (IntKind.u64.wrap (t268 + (IntKind.u64.wrap ((t269.size : Int))))) = (IntKind.u64.wrap ((a0.size : Int))) then ((sendq_Sent.f kj35 x251000_2 x251001_2 x251002_2 x251003_2 x251004_2 x251005_2 x251006_2 x251007_2 t268 (t269.size : Int) t270).bind fun bt272 => (if x7_2.length < 5864062014805 then (dominolaw15_SendqAll.l0 kj35 a0 l1 (x7_2 ++ [(⟨t268,(t269.size : Int),t270⟩ : S57)]) (wrap64 (x8_2 + 1)) bt272.1 bt272.2.1 bt272.2.2.1 bt272.2.2.2.1 bt272.2.2.2.2.1 bt272.2.2.2.2.2.1 bt272.2.2.2.2.2.2.1 bt272.2.2.2.2.2.2.2) else (none))) else (none)) else ((sendq_Sent.f kj35 x251000_2 x251001_2 x251002_2 x251003_2 x251004_2 x251005_2 x251006_2 x251007_2 t268 (t269.size : Int) t270).bind fun bt287 => (if x7_2.length < 5864062014805 then (dominolaw15_SendqAll.l0 kj35 a0 l1 (x7_2 ++ [(⟨t268,(t269.size : Int),t270⟩ : S57)]) (wrap64 (x8_2 + 1)) bt287.1 bt287.2.1 bt287.2.2.1 bt287.2.2.2.1 bt287.2.2.2.2.1 bt287.2.2.2.2.2.1 bt287.2.2.2.2.2.2.1 bt287.2.2.2.2.2.2.2) else (none)))) else (none)) else (none)) else (none)) else (none))) else (dominolaw15_SendqAll.l0 kj35 a0 l1 x7_2 (wrap64 (x8_2 + 1)) x251000_2 x251001_2 x251002_2 x251003_2 x251004_2 x251005_2 x251006_2 x251007_2)) = some r:=H
                 have A40:=am_ A400
                 clear A400
                 by_cases c41 : t271 = true
                 ·subst c41
                  have H1 : (if (IntKind.u64.wrap (t268 + (IntKind.u64.wrap ((t269.size : Int))))) > (IntKind.u64.wrap ((a0.size : Int))) then (none) else (if 0 ≤ t268 then (if t268 ≤ (IntKind.u64.wrap (t268 + (IntKind.u64.wrap ((t269.size : Int))))) then (if (IntKind.u64.wrap (t268 + (IntKind.u64.wrap ((t269.size : Int))))) ≤ (a0.size : Int) then (if (a0.extract (t268 : Int).toNat ((IntKind.u64.wrap (t268 + (IntKind.u64.wrap ((t269.size : Int))))) : Int).toNat).toList = t269.toList then (if t270 = true then (if (IntKind.u64.wrap (t268 + (IntKind.u64.wrap ((t269.size : Int))))) = (IntKind.u64.wrap ((a0.size : Int))) then ((sendq_Sent.f kj35 x251000_2 x251001_2 x251002_2 x251003_2 x251004_2 x251005_2 x251006_2 x251007_2 t268 (t269.size : Int) t270).bind fun bt272 => (if x7_2.length < 5864062014805 then (dominolaw15_SendqAll.l0 kj35 a0 l1 (x7_2 ++ [(⟨t268,(t269.size : Int),t270⟩ : S57)]) (wrap64 (x8_2 + 1)) bt272.1 bt272.2.1 bt272.2.2.1 bt272.2.2.2.1 bt272.2.2.2.2.1 bt272.2.2.2.2.2.1 bt272.2.2.2.2.2.2.1 bt272.2.2.2.2.2.2.2) else (none))) else (none)) else ((sendq_Sent.f kj35 x251000_2 x251001_2 x251002_2 x251003_2 x251004_2 x251005_2 x251006_2 x251007_2 t268 (t269.size : Int) t270).bind fun bt287 => (if x7_2.length < 5864062014805 then (dominolaw15_SendqAll.l0 kj35 a0 l1 (x7_2 ++ [(⟨t268,(t269.size : Int),t270⟩ : S57)]) (wrap64 (x8_2 + 1)) bt287.1 bt287.2.1 bt287.2.2.1 bt287.2.2.2.1 bt287.2.2.2.2.1 bt287.2.2.2.2.2.1 bt287.2.2.2.2.2.2.1 bt287.2.2.2.2.2.2.2) else (none)))) else (none)) else (none)) else (none)) else (none))) = some r:=by rw [if_pos rfl] at H;exact H
                  clear H
                  have H:=H1
                  clear H1
                  by_cases c42 : (IntKind.u64.wrap (t268 + (IntKind.u64.wrap ((t269.size : Int))))) > (IntKind.u64.wrap ((a0.size : Int)))
                  ·rw [if_pos c42] at H
                   exact absurd H (by simp)
                  ·rw [if_neg c42] at H
                   have c42b0 : decide ((IntKind.u64.wrap ((a0.size : Int))) < (IntKind.u64.wrap (t268 + (IntKind.u64.wrap ((t269.size : Int)))))) = false:=decide_eq_false c42
                   clear c42
                   by_cases c43 : 0 ≤ t268
                   ·rw [if_pos c43] at H
                    have c43b0:=eq_true c43
                    have c43b1 : decide (0 ≤ t268) = true:=decide_eq_true c43
                    clear c43
                    by_cases c44 : t268 ≤ (IntKind.u64.wrap (t268 + (IntKind.u64.wrap ((t269.size : Int)))))
                    ·rw [if_pos c44] at H
                     have c44b0:=eq_true c44
                     have c44b1 : decide (t268 ≤ (IntKind.u64.wrap (t268 + (IntKind.u64.wrap ((t269.size : Int)))))) = true:=decide_eq_true c44
                     by_cases c45 : (IntKind.u64.wrap (t268 + (IntKind.u64.wrap ((t269.size : Int))))) ≤ (a0.size : Int)
                     ·rw [if_pos c45] at H
                      have c45b0:=eq_true c45
                      have c45b1 : decide ((IntKind.u64.wrap (t268 + (IntKind.u64.wrap ((t269.size : Int))))) ≤ (a0.size : Int)) = true:=decide_eq_true c45
                      by_cases c46 : (a0.extract (t268 : Int).toNat ((IntKind.u64.wrap (t268 + (IntKind.u64.wrap ((t269.size : Int))))) : Int).toNat).toList = t269.toList
                      ·rw [if_pos c46] at H
                       have c46b0 : ((a0.extract (t268 : Int).toNat ((IntKind.u64.wrap (t268 + (IntKind.u64.wrap ((t269.size : Int))))) : Int).toNat).toList == t269.toList) = true:=beq_iff_eq.mpr c46
                       have c46b1 : ((a0.extract (t268 : Int).toNat ((IntKind.u64.wrap (t268 + (IntKind.u64.wrap ((t269.size : Int))))) : Int).toNat).toList != t269.toList) = false:=bne_eq_false_iff_eq.mpr c46
                       clear c46
                       by_cases c47 : t270 = true
                       ·subst c47
                        have H1 : (if (IntKind.u64.wrap (t268 + (IntKind.u64.wrap ((t269.size : Int))))) = (IntKind.u64.wrap ((a0.size : Int))) then ((sendq_Sent.f kj35 x251000_2 x251001_2 x251002_2 x251003_2 x251004_2 x251005_2 x251006_2 x251007_2 t268 (t269.size : Int) true).bind fun bt272 => (if x7_2.length < 5864062014805 then (dominolaw15_SendqAll.l0 kj35 a0 l1 (x7_2 ++ [(⟨t268,(t269.size : Int),true⟩ : S57)]) (wrap64 (x8_2 + 1)) bt272.1 bt272.2.1 bt272.2.2.1 bt272.2.2.2.1 bt272.2.2.2.2.1 bt272.2.2.2.2.2.1 bt272.2.2.2.2.2.2.1 bt272.2.2.2.2.2.2.2) else (none))) else (none)) = some r:=by rw [if_pos rfl] at H;exact H
                        clear H
                        have H:=H1
                        clear H1
                        by_cases c48 : (IntKind.u64.wrap (t268 + (IntKind.u64.wrap ((t269.size : Int))))) = (IntKind.u64.wrap ((a0.size : Int)))
                        ·rw [if_pos c48] at H
                         have c48b0 : ((IntKind.u64.wrap (t268 + (IntKind.u64.wrap ((t269.size : Int))))) == (IntKind.u64.wrap ((a0.size : Int)))) = true:=beq_iff_eq.mpr c48
                         have c48b1 : ((IntKind.u64.wrap (t268 + (IntKind.u64.wrap ((t269.size : Int))))) != (IntKind.u64.wrap ((a0.size : Int)))) = false:=bne_eq_false_iff_eq.mpr c48
                         clear c48
                         replace H:=Option.bind_eq_some_iff.mp H
                         obtain ⟨⟨t272,t273,t274,t275,t278,t281,t282,t283⟩,A490,H⟩:=H
                         replace H : (if x7_2.length < 5864062014805 then (dominolaw15_SendqAll.l0 kj35 a0 l1 (x7_2 ++ [(⟨t268,(t269.size : Int),true⟩ : S57)]) (wrap64 (x8_2 + 1)) t272 t273 t274 t275 t278 t281 t282 t283) else (none)) = some r:=H
                         have A49:=am_ A490
                         clear A490
                         by_cases c50 : x7_2.length < 5864062014805
                         ·rw [if_pos c50] at H
                          have LMc50:=am_ c50
                          clear c50
                          obtain ⟨y284,hy284⟩ : ∃ y_ : List (S57),y_ = (x7_2 ++ [(⟨t268,(t269.size : Int),true⟩ : S57)]):=⟨_,rfl⟩
                          replace H : (dominolaw15_SendqAll.l0 kj35 a0 l1 y284 (wrap64 (x8_2 + 1)) t272 t273 t274 t275 t278 t281 t282 t283) = some r:=by first|(rw [hy284];with_reducible exact H)|(have H2_:=(Option.bind_some _ _).symm.trans H;rw [hy284];with_reducible exact H2_)|(have H2_:=(Option.bind_some _ _).symm.trans H;with_reducible exact H2_)|with_reducible exact H|(rw [hy284];exact H)|exact H
                          have Ny284:=am_ hy284
                          clear hy284
                          have H':=am_ H
                          clear H
                          have hcz51_0 : wc.cell? ⟨gb250,0,none⟩ = some (.int .u64 x251000_2):=(kc_ BK250.out 0).trans rfl
                          have hcz51_1 : wc.cell? ⟨gb250,1,none⟩ = some (.int .u64 x251001_2):=(kc_ BK250.out 1).trans rfl
                          have hcz51_2 : wc.cell? ⟨gb250,2,none⟩ = some (.string x251002_2):=(kc_ BK250.out 2).trans rfl
                          have hcz51_3 : wc.cell? ⟨gb250,3,none⟩ = some (u251003):=(kc_ BK250.out 3).trans rfl
                          have hcz51_4 : wc.cell? ⟨gb250,4,none⟩ = some (u251004):=(kc_ BK250.out 4).trans rfl
                          have hcz51_5 : wc.cell? ⟨gb250,5,none⟩ = some (.bool x251005_2):=(kc_ BK250.out 5).trans rfl
                          have hcz51_6 : wc.cell? ⟨gb250,6,none⟩ = some (.bool x251006_2):=(kc_ BK250.out 6).trans rfl
                          have hcz51_7 : wc.cell? ⟨gb250,7,none⟩ = some (.bool x251007_2):=(kc_ BK250.out 7).trans rfl
                          have hfz51_0:=blk_frozen BK250.out 0
                          have hfz51_1:=blk_frozen BK250.out 1
                          have hfz51_2:=blk_frozen BK250.out 2
                          have hfz51_3:=blk_frozen BK250.out 3
                          have hfz51_4:=blk_frozen BK250.out 4
                          have hfz51_5:=blk_frozen BK250.out 5
                          have hfz51_6:=blk_frozen BK250.out 6
                          have hfz51_7:=blk_frozen BK250.out 7
                          obtain ⟨Ao52,co52,eo52⟩:=Kd.V_slice HO_251003.out
                          subst eo52
                          obtain ⟨Ao53,co53,eo53⟩:=Kd.V_slice HO_251004.out
                          subst eo53
                          go_wp2_with (first|((with_reducible refine gate_callee (f:=10) rfl ?_);refine goesL_ (some 80) rfl rfl Try.func10 (by kernel_rfl) rfl #[.agg #[.int .u64 x251000_2,.int .u64 x251001_2,.string x251002_2,.slice Ao52 x251003_2.length co52,.slice Ao53 x251004_2.length co53,.bool x251005_2,.bool x251006_2,.bool x251007_2],.int .i64 (wrap64 (1 + (Int.tmod (wrap64 (x9_33)) 20))),.int .u64 1000] rfl (by (try simp only [List.map_toArray,List.map_cons,List.map_nil]);first|done|rfl|(simp only [List.length_drop,List.length_take];rfl)) ?_;(with_reducible refine (sendq_Next.calls x251000_2 x251001_2 x251002_2 _ _ x251003_2 _ _ x251004_2 x251005_2 x251006_2 x251007_2 (wrap64 (1 + (Int.tmod (wrap64 (x9_33)) 20))) 1000 t268 t269 true true _ ?side1 ?side2 ?side3 ?side4 A40.out).mono ?_);(case side1 => repeat (first|exact (Kd.V_reads' HO_251003.out).2.2|(with_reducible refine Kd.C_alloc ?_ _)|(with_reducible refine Kd.C_drewN ?_ _)|(with_reducible refine Kd.C_drew ?_)));(case side2 => exact (Kd.V_reads' HO_251003.out).2.1);(case side3 => repeat (first|exact (Kd.V_reads' HO_251004.out).2.2|(with_reducible refine Kd.C_alloc ?_ _)|(with_reducible refine Kd.C_drewN ?_ _)|(with_reducible refine Kd.C_drew ?_)));(case side4 => exact (Kd.V_reads' HO_251004.out).2.1);rintro e w54 ⟨rfl,hb⟩;refine ⟨_,rfl,?_⟩;have n0_:=am_ (Kd.R_below (by (with_reducible repeat (first|apply ra_|apply rn_|apply rd_));exact HO_7.out) hb);have n1_:=am_ (Kd.V_below (by (with_reducible repeat (first|apply Kd.V_alloc|apply Kd.V_drewN|apply Kd.V_drew));exact HO_251003.out) hb);have n2_:=am_ (Kd.V_below (by (with_reducible repeat (first|apply Kd.V_alloc|apply Kd.V_drewN|apply Kd.V_drew));exact HO_251004.out) hb);have n3_:=am_ (blk_below (g:=gb250) (o:=.cells #[.int .u64 x251000_2,.int .u64 x251001_2,.string x251002_2,.slice Ao52 x251003_2.length co52,.slice Ao53 x251004_2.length co53,.bool x251005_2,.bool x251006_2,.bool x251007_2] 29 (0,0)) (by (with_reducible repeat (first|refine kn_ ?_ _|refine kd_ ?_|refine ka_ ?_ _));exact BK250.out) hb);have n4_:=am_ (below_step (by repeat (first|(with_reducible first|exact HB.out|apply ba_|apply pn_|apply pd_|refine bs_ ?_ GE250.out)|exact HB.out)) hb);clear HO_7;clear HO_251003;clear HO_251004;clear BK250;clear HB;have HO_7:=n0_;have HO_251003:=n1_;have HO_251004:=n2_;have BK250:=n3_;have HB:=n4_;clear n0_ n1_ n2_ n3_ n4_;(try clear hb);(try clear hb2);(try clear hk);(try clear hi);have hcz55_0 : w54.cell? ⟨gb250,0,none⟩ = some (.int .u64 x251000_2):=(kc_ BK250.out 0).trans rfl;have hcz55_1 : w54.cell? ⟨gb250,1,none⟩ = some (.int .u64 x251001_2):=(kc_ BK250.out 1).trans rfl;have hcz55_2 : w54.cell? ⟨gb250,2,none⟩ = some (.string x251002_2):=(kc_ BK250.out 2).trans rfl;have hcz55_3 : w54.cell? ⟨gb250,3,none⟩ = some (.slice Ao52 x251003_2.length co52):=(kc_ BK250.out 3).trans rfl;have hcz55_4 : w54.cell? ⟨gb250,4,none⟩ = some (.slice Ao53 x251004_2.length co53):=(kc_ BK250.out 4).trans rfl;have hcz55_5 : w54.cell? ⟨gb250,5,none⟩ = some (.bool x251005_2):=(kc_ BK250.out 5).trans rfl;have hcz55_6 : w54.cell? ⟨gb250,6,none⟩ = some (.bool x251006_2):=(kc_ BK250.out 6).trans rfl;have hcz55_7 : w54.cell? ⟨gb250,7,none⟩ = some (.bool x251007_2):=(kc_ BK250.out 7).trans rfl;have hfz55_0:=blk_frozen BK250.out 0;have hfz55_1:=blk_frozen BK250.out 1;have hfz55_2:=blk_frozen BK250.out 2;have hfz55_3:=blk_frozen BK250.out 3;have hfz55_4:=blk_frozen BK250.out 4;have hfz55_5:=blk_frozen BK250.out 5;have hfz55_6:=blk_frozen BK250.out 6;have hfz55_7:=blk_frozen BK250.out 7; skip)|((with_reducible refine gate_callee (f:=16) rfl ?_);refine goesL_ (some 127) rfl rfl Try.func16 (by kernel_rfl) rfl #[.agg #[.int .u64 x251000_2,.int .u64 x251001_2,.string x251002_2,.slice Ao52 x251003_2.length co52,.slice Ao53 x251004_2.length co53,.bool x251005_2,.bool x251006_2,.bool x251007_2],.int .u64 t268,.int .i64 (t269.size : Int),.bool true] rfl (by (try simp only [List.map_toArray,List.map_cons,List.map_nil]);first|done|rfl|(simp only [List.length_drop,List.length_take];rfl)) ?_;(with_reducible refine (sendq_Sent.calls kj35 x251000_2 x251001_2 x251002_2 (fun k_ => (some k_ ≠ (u7 : Value).ownBlock ∧ k_ ≠ gb250)) _ _ x251003_2 (fun k_ => (some k_ ≠ (u7 : Value).ownBlock ∧ k_ ≠ gb250)) _ _ x251004_2 x251005_2 x251006_2 x251007_2 t268 (t269.size : Int) true t272 t273 t274 t275 t278 t281 t282 t283 _ ?side1 ?side2 A49.out).mono ?_);(case side1 => exact HO_251003.out);(case side2 => exact HO_251004.out);rintro e w56 ⟨v276,v279,rfl,ho0,ho1,hb⟩;refine ⟨_,rfl,?_⟩;have n0_:=am_ (Kd.R_below (by (with_reducible repeat (first|apply ra_|apply rn_|apply rd_));exact HO_7.out) hb);have n1_:=am_ (Kd.V_below (by (with_reducible repeat (first|apply Kd.V_alloc|apply Kd.V_drewN|apply Kd.V_drew));exact HO_251003.out) hb);have n2_:=am_ (Kd.V_below (by (with_reducible repeat (first|apply Kd.V_alloc|apply Kd.V_drewN|apply Kd.V_drew));exact HO_251004.out) hb);have n3_:=am_ (Kd.V_lower (Kd.V_mono (ok':=fun k_ => some k_ ≠ (u7 : Value).ownBlock ∧ k_ ≠ gb250) ho0 (fun k_ hk_ => ⟨Or.elim hk_ (fun hs_ => Or.elim hs_ (fun hs_ => hs_.1) (fun hs_ => hs_.1)) (fun hn_ => (Kd.fresh' (Kd.R_lt (by (with_reducible repeat (first|apply ra_|apply rn_|apply rd_));exact HO_7.out)) k_ hn_)),Or.elim hk_ (fun hs_ => Or.elim hs_ (fun hs_ => hs_.2) (fun hs_ => hs_.2)) (fun hn_ => (Kd.freshB (g:=gb250) (o:=.cells #[.int .u64 x251000_2,.int .u64 x251001_2,.string x251002_2,.slice Ao52 x251003_2.length co52,.slice Ao53 x251004_2.length co53,.bool x251005_2,.bool x251006_2,.bool x251007_2] 29 (0,0)) (by (with_reducible repeat (first|refine kn_ ?_ _|refine kd_ ?_|refine ka_ ?_ _));exact BK250.out) k_ hn_))⟩)) (below_size (by repeat (first|(with_reducible first|exact HB.out|apply ba_|apply pn_|apply pd_|refine bs_ ?_ GE250.out)|exact HB.out))));have n4_:=am_ (Kd.V_lower (Kd.V_mono (ok':=fun k_ => some k_ ≠ (u7 : Value).ownBlock ∧ k_ ≠ gb250) ho1 (fun k_ hk_ => ⟨Or.elim hk_ (fun hs_ => Or.elim hs_ (fun hs_ => hs_.1) (fun hs_ => hs_.1)) (fun hn_ => (Kd.fresh' (Kd.R_lt (by (with_reducible repeat (first|apply ra_|apply rn_|apply rd_));exact HO_7.out)) k_ hn_)),Or.elim hk_ (fun hs_ => Or.elim hs_ (fun hs_ => hs_.2) (fun hs_ => hs_.2)) (fun hn_ => (Kd.freshB (g:=gb250) (o:=.cells #[.int .u64 x251000_2,.int .u64 x251001_2,.string x251002_2,.slice Ao52 x251003_2.length co52,.slice Ao53 x251004_2.length co53,.bool x251005_2,.bool x251006_2,.bool x251007_2] 29 (0,0)) (by (with_reducible repeat (first|refine kn_ ?_ _|refine kd_ ?_|refine ka_ ?_ _));exact BK250.out) k_ hn_))⟩)) (below_size (by repeat (first|(with_reducible first|exact HB.out|apply ba_|apply pn_|apply pd_|refine bs_ ?_ GE250.out)|exact HB.out))));have n5_:=am_ (blk_below (g:=gb250) (o:=.cells #[.int .u64 x251000_2,.int .u64 x251001_2,.string x251002_2,.slice Ao52 x251003_2.length co52,.slice Ao53 x251004_2.length co53,.bool x251005_2,.bool x251006_2,.bool x251007_2] 29 (0,0)) (by (with_reducible repeat (first|refine kn_ ?_ _|refine kd_ ?_|refine ka_ ?_ _));exact BK250.out) hb);have n6_:=am_ (below_step (by repeat (first|(with_reducible first|exact HB.out|apply ba_|apply pn_|apply pd_|refine bs_ ?_ GE250.out)|exact HB.out)) hb);clear HO_7;clear HO_251003;clear HO_251004;clear BK250;clear HB;have HO_7:=n0_;have HO_251003:=n1_;have HO_251004:=n2_;have HO277:=n3_;have HO280:=n4_;have BK250:=n5_;have HB:=n6_;clear n0_ n1_ n2_ n3_ n4_ n5_ n6_;(try clear hb);(try clear hb2);(try clear hk);(try clear hi);(try clear ho0);(try clear ho1);have hcz57_0 : w56.cell? ⟨gb250,0,none⟩ = some (.int .u64 x251000_2):=(kc_ BK250.out 0).trans rfl;have hcz57_1 : w56.cell? ⟨gb250,1,none⟩ = some (.int .u64 x251001_2):=(kc_ BK250.out 1).trans rfl;have hcz57_2 : w56.cell? ⟨gb250,2,none⟩ = some (.string x251002_2):=(kc_ BK250.out 2).trans rfl;have hcz57_3 : w56.cell? ⟨gb250,3,none⟩ = some (.slice Ao52 x251003_2.length co52):=(kc_ BK250.out 3).trans rfl;have hcz57_4 : w56.cell? ⟨gb250,4,none⟩ = some (.slice Ao53 x251004_2.length co53):=(kc_ BK250.out 4).trans rfl;have hcz57_5 : w56.cell? ⟨gb250,5,none⟩ = some (.bool x251005_2):=(kc_ BK250.out 5).trans rfl;have hcz57_6 : w56.cell? ⟨gb250,6,none⟩ = some (.bool x251006_2):=(kc_ BK250.out 6).trans rfl;have hcz57_7 : w56.cell? ⟨gb250,7,none⟩ = some (.bool x251007_2):=(kc_ BK250.out 7).trans rfl;have hfz57_0:=blk_frozen BK250.out 0;have hfz57_1:=blk_frozen BK250.out 1;have hfz57_2:=blk_frozen BK250.out 2;have hfz57_3:=blk_frozen BK250.out 3;have hfz57_4:=blk_frozen BK250.out 4;have hfz57_5:=blk_frozen BK250.out 5;have hfz57_6:=blk_frozen BK250.out 6;have hfz57_7:=blk_frozen BK250.out 7;obtain ⟨Ao58,co58,eo58⟩:=Kd.V_slice HO277.out;subst eo58;obtain ⟨Ao59,co59,eo59⟩:=Kd.V_slice HO280.out;subst eo59)|((with_reducible refine gate_builtin (b:=.append) (xs:=#[.tmp 128,.tmp 134]) rfl ?_);(try (refine gate_guard (by rfl) ?_;dsimp only));at_builtin;refine Kd.R_append k57 (w0:=w) w.heap.size rfl (.tmp 128) (.tmp 134) 55 57 (.agg #[(.int .u64 0),(.int .i64 0),(.bool false)]) 24 rfl Try.underlying55 info57 rfl (by decide) (by omega) u7 x7_2 (⟨t268,(t269.size : Int),true⟩ : S57) [.int .u64 t268,.int .i64 (t269.size : Int),.bool true] (fun _ => True) (fun _ => False) rfl (by first|(go_simp;done)|(go_simp;rfl)) ?aP (fun _ hk => hk.elim) ?aF ?aO ?aB ?aS ?aL ?_;(case aP => exact k57_mkM _ _ _ (⟨t268,(t269.size : Int),true⟩ : S57));(case aB => exact (by repeat (first|(with_reducible first|exact HB.out|apply ba_|apply pn_|apply pd_|refine bs_ ?_ GE250.out)|exact HB.out)));(case aF => exact (fun _ _ => trivial));(case aO => exact (by (with_reducible repeat (first|apply ra_|apply rn_|apply rd_));exact Kd.R_mono (Kd.R_far (p:=⟨gb250,7,none⟩) (Kd.R_far (p:=⟨gb250,6,none⟩) (Kd.R_far (p:=⟨gb250,5,none⟩) (Kd.R_far (p:=⟨gb250,4,none⟩) (Kd.R_far (p:=⟨gb250,3,none⟩) (Kd.R_far (p:=⟨gb250,2,none⟩) (Kd.R_far (p:=⟨gb250,1,none⟩) (Kd.R_far (p:=⟨gb250,0,none⟩) (Kd.R_types HO_7.out BK250.out (by decide)) (fun _ hk => hk.2) (.int .u64 t272)) (fun _ hk => hk.2) (.int .u64 t273)) (fun _ hk => hk.2) (.string t274)) (fun _ hk => hk.2) (.slice Ao58 t275.length co58)) (fun _ hk => hk.2) (.slice Ao59 t278.length co59)) (fun _ hk => hk.2) (.bool t281)) (fun _ hk => hk.2) (.bool t282)) (fun _ hk => hk.2) (.bool t283)) (fun _ hk => trivial)));(case aS => exact (below_size (by repeat (first|(with_reducible first|exact HB.out|apply ba_|apply pn_|apply pd_|refine bs_ ?_ GE250.out)|exact HB.out))));(case aL => have:=LMc50.out;omega);intro v285 w60 ho hb hg hat;rw [← Ny284.out] at ho;have n0_:=am_ (Kd.V_afterv (ok:=(fun k_ => k_ ≠ gb250)) (by (with_reducible repeat (first|apply Kd.V_alloc|apply Kd.V_drewN|apply Kd.V_drew));exact Kd.V_mono (Kd.V_far (p:=⟨gb250,7,none⟩) (Kd.V_far (p:=⟨gb250,6,none⟩) (Kd.V_far (p:=⟨gb250,5,none⟩) (Kd.V_far (p:=⟨gb250,4,none⟩) (Kd.V_far (p:=⟨gb250,3,none⟩) (Kd.V_far (p:=⟨gb250,2,none⟩) (Kd.V_far (p:=⟨gb250,1,none⟩) (Kd.V_far (p:=⟨gb250,0,none⟩) (Kd.V_mono HO_251003.out (fun k_ hk => (⟨hk,hk.2⟩ : _ ∧ k_ ≠ gb250))) (fun _ hk => hk.2) (.int .u64 t272)) (fun _ hk => hk.2) (.int .u64 t273)) (fun _ hk => hk.2) (.string t274)) (fun _ hk => hk.2) (.slice Ao58 t275.length co58)) (fun _ hk => hk.2) (.slice Ao59 t278.length co59)) (fun _ hk => hk.2) (.bool t281)) (fun _ hk => hk.2) (.bool t282)) (fun _ hk => hk.2) (.bool t283)) (fun _ hk => ⟨hk.1.2,hk.1.1⟩)) hg hat);have n1_:=am_ (Kd.V_afterv (ok:=(fun k_ => k_ ≠ gb250)) (by (with_reducible repeat (first|apply Kd.V_alloc|apply Kd.V_drewN|apply Kd.V_drew));exact Kd.V_mono (Kd.V_far (p:=⟨gb250,7,none⟩) (Kd.V_far (p:=⟨gb250,6,none⟩) (Kd.V_far (p:=⟨gb250,5,none⟩) (Kd.V_far (p:=⟨gb250,4,none⟩) (Kd.V_far (p:=⟨gb250,3,none⟩) (Kd.V_far (p:=⟨gb250,2,none⟩) (Kd.V_far (p:=⟨gb250,1,none⟩) (Kd.V_far (p:=⟨gb250,0,none⟩) (Kd.V_mono HO_251004.out (fun k_ hk => (⟨hk,hk.2⟩ : _ ∧ k_ ≠ gb250))) (fun _ hk => hk.2) (.int .u64 t272)) (fun _ hk => hk.2) (.int .u64 t273)) (fun _ hk => hk.2) (.string t274)) (fun _ hk => hk.2) (.slice Ao58 t275.length co58)) (fun _ hk => hk.2) (.slice Ao59 t278.length co59)) (fun _ hk => hk.2) (.bool t281)) (fun _ hk => hk.2) (.bool t282)) (fun _ hk => hk.2) (.bool t283)) (fun _ hk => ⟨hk.1.2,hk.1.1⟩)) hg hat);have n2_:=am_ (blk_grown (g:=gb250) (o:=.cells #[.int .u64 t272,.int .u64 t273,.string t274,.slice Ao58 t275.length co58,.slice Ao59 t278.length co59,.bool t281,.bool t282,.bool t283] 29 (0,0)) (by (with_reducible repeat (first|refine kn_ ?_ _|refine kd_ ?_|refine ka_ ?_ _));refine blk_put (cs:=#[.int .u64 t272,.int .u64 t273,.string t274,.slice Ao58 t275.length co58,.slice Ao59 t278.length co59,.bool t281,.bool t282,.bool x251007_2]) ?_ 7 _ rfl;(with_reducible repeat (first|refine kn_ ?_ _|refine kd_ ?_|refine ka_ ?_ _));refine blk_put (cs:=#[.int .u64 t272,.int .u64 t273,.string t274,.slice Ao58 t275.length co58,.slice Ao59 t278.length co59,.bool t281,.bool x251006_2,.bool x251007_2]) ?_ 6 _ rfl;(with_reducible repeat (first|refine kn_ ?_ _|refine kd_ ?_|refine ka_ ?_ _));refine blk_put (cs:=#[.int .u64 t272,.int .u64 t273,.string t274,.slice Ao58 t275.length co58,.slice Ao59 t278.length co59,.bool x251005_2,.bool x251006_2,.bool x251007_2]) ?_ 5 _ rfl;(with_reducible repeat (first|refine kn_ ?_ _|refine kd_ ?_|refine ka_ ?_ _));refine blk_put (cs:=#[.int .u64 t272,.int .u64 t273,.string t274,.slice Ao58 t275.length co58,.slice Ao53 x251004_2.length co53,.bool x251005_2,.bool x251006_2,.bool x251007_2]) ?_ 4 _ rfl;(with_reducible repeat (first|refine kn_ ?_ _|refine kd_ ?_|refine ka_ ?_ _));refine blk_put (cs:=#[.int .u64 t272,.int .u64 t273,.string t274,.slice Ao52 x251003_2.length co52,.slice Ao53 x251004_2.length co53,.bool x251005_2,.bool x251006_2,.bool x251007_2]) ?_ 3 _ rfl;(with_reducible repeat (first|refine kn_ ?_ _|refine kd_ ?_|refine ka_ ?_ _));refine blk_put (cs:=#[.int .u64 t272,.int .u64 t273,.string x251002_2,.slice Ao52 x251003_2.length co52,.slice Ao53 x251004_2.length co53,.bool x251005_2,.bool x251006_2,.bool x251007_2]) ?_ 2 _ rfl;(with_reducible repeat (first|refine kn_ ?_ _|refine kd_ ?_|refine ka_ ?_ _));refine blk_put (cs:=#[.int .u64 t272,.int .u64 x251001_2,.string x251002_2,.slice Ao52 x251003_2.length co52,.slice Ao53 x251004_2.length co53,.bool x251005_2,.bool x251006_2,.bool x251007_2]) ?_ 1 _ rfl;(with_reducible repeat (first|refine kn_ ?_ _|refine kd_ ?_|refine ka_ ?_ _));refine blk_put (cs:=#[.int .u64 x251000_2,.int .u64 x251001_2,.string x251002_2,.slice Ao52 x251003_2.length co52,.slice Ao53 x251004_2.length co53,.bool x251005_2,.bool x251006_2,.bool x251007_2]) ?_ 0 _ rfl;(with_reducible repeat (first|refine kn_ ?_ _|refine kd_ ?_|refine ka_ ?_ _));exact BK250.out) hg (Kd.R_ne HO_7.out BK250.out (by decide)));have n3_:=am_ (Kd.V_afterv (ok:=(fun k_ => k_ ≠ gb250)) (by (with_reducible repeat (first|apply Kd.V_alloc|apply Kd.V_drewN|apply Kd.V_drew));exact Kd.V_mono (Kd.V_far (p:=⟨gb250,7,none⟩) (Kd.V_far (p:=⟨gb250,6,none⟩) (Kd.V_far (p:=⟨gb250,5,none⟩) (Kd.V_far (p:=⟨gb250,4,none⟩) (Kd.V_far (p:=⟨gb250,3,none⟩) (Kd.V_far (p:=⟨gb250,2,none⟩) (Kd.V_far (p:=⟨gb250,1,none⟩) (Kd.V_far (p:=⟨gb250,0,none⟩) (Kd.V_mono HO277.out (fun k_ hk => (⟨hk,hk.2⟩ : _ ∧ k_ ≠ gb250))) (fun _ hk => hk.2) (.int .u64 t272)) (fun _ hk => hk.2) (.int .u64 t273)) (fun _ hk => hk.2) (.string t274)) (fun _ hk => hk.2) (.slice Ao58 t275.length co58)) (fun _ hk => hk.2) (.slice Ao59 t278.length co59)) (fun _ hk => hk.2) (.bool t281)) (fun _ hk => hk.2) (.bool t282)) (fun _ hk => hk.2) (.bool t283)) (fun _ hk => ⟨hk.1.2,hk.1.1⟩)) hg hat);have n4_:=am_ (Kd.V_afterv (ok:=(fun k_ => k_ ≠ gb250)) (by (with_reducible repeat (first|apply Kd.V_alloc|apply Kd.V_drewN|apply Kd.V_drew));exact Kd.V_mono (Kd.V_far (p:=⟨gb250,7,none⟩) (Kd.V_far (p:=⟨gb250,6,none⟩) (Kd.V_far (p:=⟨gb250,5,none⟩) (Kd.V_far (p:=⟨gb250,4,none⟩) (Kd.V_far (p:=⟨gb250,3,none⟩) (Kd.V_far (p:=⟨gb250,2,none⟩) (Kd.V_far (p:=⟨gb250,1,none⟩) (Kd.V_far (p:=⟨gb250,0,none⟩) (Kd.V_mono HO280.out (fun k_ hk => (⟨hk,hk.2⟩ : _ ∧ k_ ≠ gb250))) (fun _ hk => hk.2) (.int .u64 t272)) (fun _ hk => hk.2) (.int .u64 t273)) (fun _ hk => hk.2) (.string t274)) (fun _ hk => hk.2) (.slice Ao58 t275.length co58)) (fun _ hk => hk.2) (.slice Ao59 t278.length co59)) (fun _ hk => hk.2) (.bool t281)) (fun _ hk => hk.2) (.bool t282)) (fun _ hk => hk.2) (.bool t283)) (fun _ hk => ⟨hk.1.2,hk.1.1⟩)) hg hat);have n5_:=am_ (hb);have n6_:=am_ (ho);clear HO_251003;clear HO_251004;clear BK250;clear HO277;clear HO280;clear HB;clear HO_7;have HO_251003:=n0_;have HO_251004:=n1_;have BK250:=n2_;have HO277:=n3_;have HO280:=n4_;have HB:=n5_;have HO286:=n6_;clear n0_ n1_ n2_ n3_ n4_ n5_ n6_;clear ho hb hg hat))
                          go_roundg kj35
                          case measure => have:=HJ2.out;have:=HK2.out;have:=HJ27.out;have:=HJ30.out;have:=HJ33.out;have:=HJ35.out;omega
                          case rel => exact ⟨(y284),(wrap64 (x8_2 + 1)),(t272),(t273),(t274),(t275),(t278),(t281),(t282),(t283),(.slice Ao58 t275.length co58),(.slice Ao59 t278.length co59),(by first|rfl|(simp;done)|(simp [*];done)),H',⟨by have:=HJ2.out;have:=HK2.out;have:=HJ27.out;have:=HJ30.out;have:=HJ33.out;have:=HJ35.out;omega⟩,⟨by (with_reducible repeat (first|apply ra_|apply rn_|apply rd_));exact HO286.out⟩,⟨by (with_reducible repeat (first|apply Kd.V_alloc|apply Kd.V_drewN|apply Kd.V_drew));exact Kd.V_mono HO277.out (fun _ hk => ⟨hk.2,hk.1⟩)⟩,⟨by (with_reducible repeat (first|apply Kd.V_alloc|apply Kd.V_drewN|apply Kd.V_drew));exact Kd.V_mono HO280.out (fun _ hk => ⟨hk.2,hk.1⟩)⟩,⟨by (with_reducible repeat (first|refine kn_ ?_ _|refine kd_ ?_|refine ka_ ?_ _));exact BK250.out⟩,⟨by repeat (first|(with_reducible first|exact HB.out|apply ba_|apply pn_|apply pd_|refine bs_ ?_ GE250.out)|exact HB.out)⟩⟩
                         ·rw [if_neg c50] at H
                          exact absurd H (by simp)
                        ·rw [if_neg c48] at H
                         exact absurd H (by simp)
                       ·replace c47:=Bool.eq_false_iff.mpr c47
                        subst c47
                        have H1 : ((sendq_Sent.f kj35 x251000_2 x251001_2 x251002_2 x251003_2 x251004_2 x251005_2 x251006_2 x251007_2 t268 (t269.size : Int) false).bind fun bt287 => (if x7_2.length < 5864062014805 then (dominolaw15_SendqAll.l0 kj35 a0 l1 (x7_2 ++ [(⟨t268,(t269.size : Int),false⟩ : S57)]) (wrap64 (x8_2 + 1)) bt287.1 bt287.2.1 bt287.2.2.1 bt287.2.2.2.1 bt287.2.2.2.2.1 bt287.2.2.2.2.2.1 bt287.2.2.2.2.2.2.1 bt287.2.2.2.2.2.2.2) else (none))) = some r:=by rw [if_neg (show ¬ (false = true) by decide)] at H;exact H
                        clear H
                        have H:=H1
                        clear H1
                        replace H:=Option.bind_eq_some_iff.mp H
                        obtain ⟨⟨t287,t288,t289,t290,t293,t296,t297,t298⟩,A610,H⟩:=H
                        replace H : (if x7_2.length < 5864062014805 then (dominolaw15_SendqAll.l0 kj35 a0 l1 (x7_2 ++ [(⟨t268,(t269.size : Int),false⟩ : S57)]) (wrap64 (x8_2 + 1)) t287 t288 t289 t290 t293 t296 t297 t298) else (none)) = some r:=H
                        have A61:=am_ A610
                        clear A610
                        by_cases c62 : x7_2.length < 5864062014805
                        ·rw [if_pos c62] at H
                         have LMc62:=am_ c62
                         clear c62
                         obtain ⟨y299,hy299⟩ : ∃ y_ : List (S57),y_ = (x7_2 ++ [(⟨t268,(t269.size : Int),false⟩ : S57)]):=⟨_,rfl⟩
                         replace H : (dominolaw15_SendqAll.l0 kj35 a0 l1 y299 (wrap64 (x8_2 + 1)) t287 t288 t289 t290 t293 t296 t297 t298) = some r:=by first|(rw [hy299];with_reducible exact H)|(have H2_:=(Option.bind_some _ _).symm.trans H;rw [hy299];with_reducible exact H2_)|(have H2_:=(Option.bind_some _ _).symm.trans H;with_reducible exact H2_)|with_reducible exact H|(rw [hy299];exact H)|exact H
                         have Ny299:=am_ hy299
                         clear hy299
                         have H':=am_ H
                         clear H
                         have hcz63_0 : wc.cell? ⟨gb250,0,none⟩ = some (.int .u64 x251000_2):=(kc_ BK250.out 0).trans rfl
                         have hcz63_1 : wc.cell? ⟨gb250,1,none⟩ = some (.int .u64 x251001_2):=(kc_ BK250.out 1).trans rfl
                         have hcz63_2 : wc.cell? ⟨gb250,2,none⟩ = some (.string x251002_2):=(kc_ BK250.out 2).trans rfl
                         have hcz63_3 : wc.cell? ⟨gb250,3,none⟩ = some (u251003):=(kc_ BK250.out 3).trans rfl
                         have hcz63_4 : wc.cell? ⟨gb250,4,none⟩ = some (u251004):=(kc_ BK250.out 4).trans rfl
                         have hcz63_5 : wc.cell? ⟨gb250,5,none⟩ = some (.bool x251005_2):=(kc_ BK250.out 5).trans rfl
                         have hcz63_6 : wc.cell? ⟨gb250,6,none⟩ = some (.bool x251006_2):=(kc_ BK250.out 6).trans rfl
                         have hcz63_7 : wc.cell? ⟨gb250,7,none⟩ = some (.bool x251007_2):=(kc_ BK250.out 7).trans rfl
                         have hfz63_0:=blk_frozen BK250.out 0
                         have hfz63_1:=blk_frozen BK250.out 1
                         have hfz63_2:=blk_frozen BK250.out 2
                         have hfz63_3:=blk_frozen BK250.out 3
                         have hfz63_4:=blk_frozen BK250.out 4
                         have hfz63_5:=blk_frozen BK250.out 5
                         have hfz63_6:=blk_frozen BK250.out 6
                         have hfz63_7:=blk_frozen BK250.out 7
                         obtain ⟨Ao64,co64,eo64⟩:=Kd.V_slice HO_251003.out
                         subst eo64
                         obtain ⟨Ao65,co65,eo65⟩:=Kd.V_slice HO_251004.out
                         subst eo65
                         go_wp2_with (first|((with_reducible refine gate_callee (f:=10) rfl ?_);refine goesL_ (some 80) rfl rfl Try.func10 (by kernel_rfl) rfl #[.agg #[.int .u64 x251000_2,.int .u64 x251001_2,.string x251002_2,.slice Ao64 x251003_2.length co64,.slice Ao65 x251004_2.length co65,.bool x251005_2,.bool x251006_2,.bool x251007_2],.int .i64 (wrap64 (1 + (Int.tmod (wrap64 (x9_33)) 20))),.int .u64 1000] rfl (by (try simp only [List.map_toArray,List.map_cons,List.map_nil]);first|done|rfl|(simp only [List.length_drop,List.length_take];rfl)) ?_;(with_reducible refine (sendq_Next.calls x251000_2 x251001_2 x251002_2 _ _ x251003_2 _ _ x251004_2 x251005_2 x251006_2 x251007_2 (wrap64 (1 + (Int.tmod (wrap64 (x9_33)) 20))) 1000 t268 t269 false true _ ?side1 ?side2 ?side3 ?side4 A40.out).mono ?_);(case side1 => repeat (first|exact (Kd.V_reads' HO_251003.out).2.2|(with_reducible refine Kd.C_alloc ?_ _)|(with_reducible refine Kd.C_drewN ?_ _)|(with_reducible refine Kd.C_drew ?_)));(case side2 => exact (Kd.V_reads' HO_251003.out).2.1);(case side3 => repeat (first|exact (Kd.V_reads' HO_251004.out).2.2|(with_reducible refine Kd.C_alloc ?_ _)|(with_reducible refine Kd.C_drewN ?_ _)|(with_reducible refine Kd.C_drew ?_)));(case side4 => exact (Kd.V_reads' HO_251004.out).2.1);rintro e w66 ⟨rfl,hb⟩;refine ⟨_,rfl,?_⟩;have n0_:=am_ (Kd.R_below (by (with_reducible repeat (first|apply ra_|apply rn_|apply rd_));exact HO_7.out) hb);have n1_:=am_ (Kd.V_below (by (with_reducible repeat (first|apply Kd.V_alloc|apply Kd.V_drewN|apply Kd.V_drew));exact HO_251003.out) hb);have n2_:=am_ (Kd.V_below (by (with_reducible repeat (first|apply Kd.V_alloc|apply Kd.V_drewN|apply Kd.V_drew));exact HO_251004.out) hb);have n3_:=am_ (blk_below (g:=gb250) (o:=.cells #[.int .u64 x251000_2,.int .u64 x251001_2,.string x251002_2,.slice Ao64 x251003_2.length co64,.slice Ao65 x251004_2.length co65,.bool x251005_2,.bool x251006_2,.bool x251007_2] 29 (0,0)) (by (with_reducible repeat (first|refine kn_ ?_ _|refine kd_ ?_|refine ka_ ?_ _));exact BK250.out) hb);have n4_:=am_ (below_step (by repeat (first|(with_reducible first|exact HB.out|apply ba_|apply pn_|apply pd_|refine bs_ ?_ GE250.out)|exact HB.out)) hb);clear HO_7;clear HO_251003;clear HO_251004;clear BK250;clear HB;have HO_7:=n0_;have HO_251003:=n1_;have HO_251004:=n2_;have BK250:=n3_;have HB:=n4_;clear n0_ n1_ n2_ n3_ n4_;(try clear hb);(try clear hb2);(try clear hk);(try clear hi);have hcz67_0 : w66.cell? ⟨gb250,0,none⟩ = some (.int .u64 x251000_2):=(kc_ BK250.out 0).trans rfl;have hcz67_1 : w66.cell? ⟨gb250,1,none⟩ = some (.int .u64 x251001_2):=(kc_ BK250.out 1).trans rfl;have hcz67_2 : w66.cell? ⟨gb250,2,none⟩ = some (.string x251002_2):=(kc_ BK250.out 2).trans rfl;have hcz67_3 : w66.cell? ⟨gb250,3,none⟩ = some (.slice Ao64 x251003_2.length co64):=(kc_ BK250.out 3).trans rfl;have hcz67_4 : w66.cell? ⟨gb250,4,none⟩ = some (.slice Ao65 x251004_2.length co65):=(kc_ BK250.out 4).trans rfl;have hcz67_5 : w66.cell? ⟨gb250,5,none⟩ = some (.bool x251005_2):=(kc_ BK250.out 5).trans rfl;have hcz67_6 : w66.cell? ⟨gb250,6,none⟩ = some (.bool x251006_2):=(kc_ BK250.out 6).trans rfl;have hcz67_7 : w66.cell? ⟨gb250,7,none⟩ = some (.bool x251007_2):=(kc_ BK250.out 7).trans rfl;have hfz67_0:=blk_frozen BK250.out 0;have hfz67_1:=blk_frozen BK250.out 1;have hfz67_2:=blk_frozen BK250.out 2;have hfz67_3:=blk_frozen BK250.out 3;have hfz67_4:=blk_frozen BK250.out 4;have hfz67_5:=blk_frozen BK250.out 5;have hfz67_6:=blk_frozen BK250.out 6;have hfz67_7:=blk_frozen BK250.out 7; skip)|((with_reducible refine gate_callee (f:=16) rfl ?_);refine goesL_ (some 127) rfl rfl Try.func16 (by kernel_rfl) rfl #[.agg #[.int .u64 x251000_2,.int .u64 x251001_2,.string x251002_2,.slice Ao64 x251003_2.length co64,.slice Ao65 x251004_2.length co65,.bool x251005_2,.bool x251006_2,.bool x251007_2],.int .u64 t268,.int .i64 (t269.size : Int),.bool false] rfl (by (try simp only [List.map_toArray,List.map_cons,List.map_nil]);first|done|rfl|(simp only [List.length_drop,List.length_take];rfl)) ?_;(with_reducible refine (sendq_Sent.calls kj35 x251000_2 x251001_2 x251002_2 (fun k_ => (some k_ ≠ (u7 : Value).ownBlock ∧ k_ ≠ gb250)) _ _ x251003_2 (fun k_ => (some k_ ≠ (u7 : Value).ownBlock ∧ k_ ≠ gb250)) _ _ x251004_2 x251005_2 x251006_2 x251007_2 t268 (t269.size : Int) false t287 t288 t289 t290 t293 t296 t297 t298 _ ?side1 ?side2 A61.out).mono ?_);(case side1 => exact HO_251003.out);(case side2 => exact HO_251004.out);rintro e w68 ⟨v291,v294,rfl,ho0,ho1,hb⟩;refine ⟨_,rfl,?_⟩;have n0_:=am_ (Kd.R_below (by (with_reducible repeat (first|apply ra_|apply rn_|apply rd_));exact HO_7.out) hb);have n1_:=am_ (Kd.V_below (by (with_reducible repeat (first|apply Kd.V_alloc|apply Kd.V_drewN|apply Kd.V_drew));exact HO_251003.out) hb);have n2_:=am_ (Kd.V_below (by (with_reducible repeat (first|apply Kd.V_alloc|apply Kd.V_drewN|apply Kd.V_drew));exact HO_251004.out) hb);have n3_:=am_ (Kd.V_lower (Kd.V_mono (ok':=fun k_ => some k_ ≠ (u7 : Value).ownBlock ∧ k_ ≠ gb250) ho0 (fun k_ hk_ => ⟨Or.elim hk_ (fun hs_ => Or.elim hs_ (fun hs_ => hs_.1) (fun hs_ => hs_.1)) (fun hn_ => (Kd.fresh' (Kd.R_lt (by (with_reducible repeat (first|apply ra_|apply rn_|apply rd_));exact HO_7.out)) k_ hn_)),Or.elim hk_ (fun hs_ => Or.elim hs_ (fun hs_ => hs_.2) (fun hs_ => hs_.2)) (fun hn_ => (Kd.freshB (g:=gb250) (o:=.cells #[.int .u64 x251000_2,.int .u64 x251001_2,.string x251002_2,.slice Ao64 x251003_2.length co64,.slice Ao65 x251004_2.length co65,.bool x251005_2,.bool x251006_2,.bool x251007_2] 29 (0,0)) (by (with_reducible repeat (first|refine kn_ ?_ _|refine kd_ ?_|refine ka_ ?_ _));exact BK250.out) k_ hn_))⟩)) (below_size (by repeat (first|(with_reducible first|exact HB.out|apply ba_|apply pn_|apply pd_|refine bs_ ?_ GE250.out)|exact HB.out))));have n4_:=am_ (Kd.V_lower (Kd.V_mono (ok':=fun k_ => some k_ ≠ (u7 : Value).ownBlock ∧ k_ ≠ gb250) ho1 (fun k_ hk_ => ⟨Or.elim hk_ (fun hs_ => Or.elim hs_ (fun hs_ => hs_.1) (fun hs_ => hs_.1)) (fun hn_ => (Kd.fresh' (Kd.R_lt (by (with_reducible repeat (first|apply ra_|apply rn_|apply rd_));exact HO_7.out)) k_ hn_)),Or.elim hk_ (fun hs_ => Or.elim hs_ (fun hs_ => hs_.2) (fun hs_ => hs_.2)) (fun hn_ => (Kd.freshB (g:=gb250) (o:=.cells #[.int .u64 x251000_2,.int .u64 x251001_2,.string x251002_2,.slice Ao64 x251003_2.length co64,.slice Ao65 x251004_2.length co65,.bool x251005_2,.bool x251006_2,.bool x251007_2] 29 (0,0)) (by (with_reducible repeat (first|refine kn_ ?_ _|refine kd_ ?_|refine ka_ ?_ _));exact BK250.out) k_ hn_))⟩)) (below_size (by repeat (first|(with_reducible first|exact HB.out|apply ba_|apply pn_|apply pd_|refine bs_ ?_ GE250.out)|exact HB.out))));have n5_:=am_ (blk_below (g:=gb250) (o:=.cells #[.int .u64 x251000_2,.int .u64 x251001_2,.string x251002_2,.slice Ao64 x251003_2.length co64,.slice Ao65 x251004_2.length co65,.bool x251005_2,.bool x251006_2,.bool x251007_2] 29 (0,0)) (by (with_reducible repeat (first|refine kn_ ?_ _|refine kd_ ?_|refine ka_ ?_ _));exact BK250.out) hb);have n6_:=am_ (below_step (by repeat (first|(with_reducible first|exact HB.out|apply ba_|apply pn_|apply pd_|refine bs_ ?_ GE250.out)|exact HB.out)) hb);clear HO_7;clear HO_251003;clear HO_251004;clear BK250;clear HB;have HO_7:=n0_;have HO_251003:=n1_;have HO_251004:=n2_;have HO292:=n3_;have HO295:=n4_;have BK250:=n5_;have HB:=n6_;clear n0_ n1_ n2_ n3_ n4_ n5_ n6_;(try clear hb);(try clear hb2);(try clear hk);(try clear hi);(try clear ho0);(try clear ho1);have hcz69_0 : w68.cell? ⟨gb250,0,none⟩ = some (.int .u64 x251000_2):=(kc_ BK250.out 0).trans rfl;have hcz69_1 : w68.cell? ⟨gb250,1,none⟩ = some (.int .u64 x251001_2):=(kc_ BK250.out 1).trans rfl;have hcz69_2 : w68.cell? ⟨gb250,2,none⟩ = some (.string x251002_2):=(kc_ BK250.out 2).trans rfl;have hcz69_3 : w68.cell? ⟨gb250,3,none⟩ = some (.slice Ao64 x251003_2.length co64):=(kc_ BK250.out 3).trans rfl;have hcz69_4 : w68.cell? ⟨gb250,4,none⟩ = some (.slice Ao65 x251004_2.length co65):=(kc_ BK250.out 4).trans rfl;have hcz69_5 : w68.cell? ⟨gb250,5,none⟩ = some (.bool x251005_2):=(kc_ BK250.out 5).trans rfl;have hcz69_6 : w68.cell? ⟨gb250,6,none⟩ = some (.bool x251006_2):=(kc_ BK250.out 6).trans rfl;have hcz69_7 : w68.cell? ⟨gb250,7,none⟩ = some (.bool x251007_2):=(kc_ BK250.out 7).trans rfl;have hfz69_0:=blk_frozen BK250.out 0;have hfz69_1:=blk_frozen BK250.out 1;have hfz69_2:=blk_frozen BK250.out 2;have hfz69_3:=blk_frozen BK250.out 3;have hfz69_4:=blk_frozen BK250.out 4;have hfz69_5:=blk_frozen BK250.out 5;have hfz69_6:=blk_frozen BK250.out 6;have hfz69_7:=blk_frozen BK250.out 7;obtain ⟨Ao70,co70,eo70⟩:=Kd.V_slice HO292.out;subst eo70;obtain ⟨Ao71,co71,eo71⟩:=Kd.V_slice HO295.out;subst eo71)|((with_reducible refine gate_builtin (b:=.append) (xs:=#[.tmp 128,.tmp 134]) rfl ?_);(try (refine gate_guard (by rfl) ?_;dsimp only));at_builtin;refine Kd.R_append k57 (w0:=w) w.heap.size rfl (.tmp 128) (.tmp 134) 55 57 (.agg #[(.int .u64 0),(.int .i64 0),(.bool false)]) 24 rfl Try.underlying55 info57 rfl (by decide) (by omega) u7 x7_2 (⟨t268,(t269.size : Int),false⟩ : S57) [.int .u64 t268,.int .i64 (t269.size : Int),.bool false] (fun _ => True) (fun _ => False) rfl (by first|(go_simp;done)|(go_simp;rfl)) ?aP (fun _ hk => hk.elim) ?aF ?aO ?aB ?aS ?aL ?_;(case aP => exact k57_mkM _ _ _ (⟨t268,(t269.size : Int),false⟩ : S57));(case aB => exact (by repeat (first|(with_reducible first|exact HB.out|apply ba_|apply pn_|apply pd_|refine bs_ ?_ GE250.out)|exact HB.out)));(case aF => exact (fun _ _ => trivial));(case aO => exact (by (with_reducible repeat (first|apply ra_|apply rn_|apply rd_));exact Kd.R_mono (Kd.R_far (p:=⟨gb250,7,none⟩) (Kd.R_far (p:=⟨gb250,6,none⟩) (Kd.R_far (p:=⟨gb250,5,none⟩) (Kd.R_far (p:=⟨gb250,4,none⟩) (Kd.R_far (p:=⟨gb250,3,none⟩) (Kd.R_far (p:=⟨gb250,2,none⟩) (Kd.R_far (p:=⟨gb250,1,none⟩) (Kd.R_far (p:=⟨gb250,0,none⟩) (Kd.R_types HO_7.out BK250.out (by decide)) (fun _ hk => hk.2) (.int .u64 t287)) (fun _ hk => hk.2) (.int .u64 t288)) (fun _ hk => hk.2) (.string t289)) (fun _ hk => hk.2) (.slice Ao70 t290.length co70)) (fun _ hk => hk.2) (.slice Ao71 t293.length co71)) (fun _ hk => hk.2) (.bool t296)) (fun _ hk => hk.2) (.bool t297)) (fun _ hk => hk.2) (.bool t298)) (fun _ hk => trivial)));(case aS => exact (below_size (by repeat (first|(with_reducible first|exact HB.out|apply ba_|apply pn_|apply pd_|refine bs_ ?_ GE250.out)|exact HB.out))));(case aL => have:=LMc62.out;omega);intro v300 w72 ho hb hg hat;rw [← Ny299.out] at ho;have n0_:=am_ (Kd.V_afterv (ok:=(fun k_ => k_ ≠ gb250)) (by (with_reducible repeat (first|apply Kd.V_alloc|apply Kd.V_drewN|apply Kd.V_drew));exact Kd.V_mono (Kd.V_far (p:=⟨gb250,7,none⟩) (Kd.V_far (p:=⟨gb250,6,none⟩) (Kd.V_far (p:=⟨gb250,5,none⟩) (Kd.V_far (p:=⟨gb250,4,none⟩) (Kd.V_far (p:=⟨gb250,3,none⟩) (Kd.V_far (p:=⟨gb250,2,none⟩) (Kd.V_far (p:=⟨gb250,1,none⟩) (Kd.V_far (p:=⟨gb250,0,none⟩) (Kd.V_mono HO_251003.out (fun k_ hk => (⟨hk,hk.2⟩ : _ ∧ k_ ≠ gb250))) (fun _ hk => hk.2) (.int .u64 t287)) (fun _ hk => hk.2) (.int .u64 t288)) (fun _ hk => hk.2) (.string t289)) (fun _ hk => hk.2) (.slice Ao70 t290.length co70)) (fun _ hk => hk.2) (.slice Ao71 t293.length co71)) (fun _ hk => hk.2) (.bool t296)) (fun _ hk => hk.2) (.bool t297)) (fun _ hk => hk.2) (.bool t298)) (fun _ hk => ⟨hk.1.2,hk.1.1⟩)) hg hat);have n1_:=am_ (Kd.V_afterv (ok:=(fun k_ => k_ ≠ gb250)) (by (with_reducible repeat (first|apply Kd.V_alloc|apply Kd.V_drewN|apply Kd.V_drew));exact Kd.V_mono (Kd.V_far (p:=⟨gb250,7,none⟩) (Kd.V_far (p:=⟨gb250,6,none⟩) (Kd.V_far (p:=⟨gb250,5,none⟩) (Kd.V_far (p:=⟨gb250,4,none⟩) (Kd.V_far (p:=⟨gb250,3,none⟩) (Kd.V_far (p:=⟨gb250,2,none⟩) (Kd.V_far (p:=⟨gb250,1,none⟩) (Kd.V_far (p:=⟨gb250,0,none⟩) (Kd.V_mono HO_251004.out (fun k_ hk => (⟨hk,hk.2⟩ : _ ∧ k_ ≠ gb250))) (fun _ hk => hk.2) (.int .u64 t287)) (fun _ hk => hk.2) (.int .u64 t288)) (fun _ hk => hk.2) (.string t289)) (fun _ hk => hk.2) (.slice Ao70 t290.length co70)) (fun _ hk => hk.2) (.slice Ao71 t293.length co71)) (fun _ hk => hk.2) (.bool t296)) (fun _ hk => hk.2) (.bool t297)) (fun _ hk => hk.2) (.bool t298)) (fun _ hk => ⟨hk.1.2,hk.1.1⟩)) hg hat);have n2_:=am_ (blk_grown (g:=gb250) (o:=.cells #[.int .u64 t287,.int .u64 t288,.string t289,.slice Ao70 t290.length co70,.slice Ao71 t293.length co71,.bool t296,.bool t297,.bool t298] 29 (0,0)) (by (with_reducible repeat (first|refine kn_ ?_ _|refine kd_ ?_|refine ka_ ?_ _));refine blk_put (cs:=#[.int .u64 t287,.int .u64 t288,.string t289,.slice Ao70 t290.length co70,.slice Ao71 t293.length co71,.bool t296,.bool t297,.bool x251007_2]) ?_ 7 _ rfl;(with_reducible repeat (first|refine kn_ ?_ _|refine kd_ ?_|refine ka_ ?_ _));refine blk_put (cs:=#[.int .u64 t287,.int .u64 t288,.string t289,.slice Ao70 t290.length co70,.slice Ao71 t293.length co71,.bool t296,.bool x251006_2,.bool x251007_2]) ?_ 6 _ rfl;(with_reducible repeat (first|refine kn_ ?_ _|refine kd_ ?_|refine ka_ ?_ _));refine blk_put (cs:=#[.int .u64 t287,.int .u64 t288,.string t289,.slice Ao70 t290.length co70,.slice Ao71 t293.length co71,.bool x251005_2,.bool x251006_2,.bool x251007_2]) ?_ 5 _ rfl;(with_reducible repeat (first|refine kn_ ?_ _|refine kd_ ?_|refine ka_ ?_ _));refine blk_put (cs:=#[.int .u64 t287,.int .u64 t288,.string t289,.slice Ao70 t290.length co70,.slice Ao65 x251004_2.length co65,.bool x251005_2,.bool x251006_2,.bool x251007_2]) ?_ 4 _ rfl;(with_reducible repeat (first|refine kn_ ?_ _|refine kd_ ?_|refine ka_ ?_ _));refine blk_put (cs:=#[.int .u64 t287,.int .u64 t288,.string t289,.slice Ao64 x251003_2.length co64,.slice Ao65 x251004_2.length co65,.bool x251005_2,.bool x251006_2,.bool x251007_2]) ?_ 3 _ rfl;(with_reducible repeat (first|refine kn_ ?_ _|refine kd_ ?_|refine ka_ ?_ _));refine blk_put (cs:=#[.int .u64 t287,.int .u64 t288,.string x251002_2,.slice Ao64 x251003_2.length co64,.slice Ao65 x251004_2.length co65,.bool x251005_2,.bool x251006_2,.bool x251007_2]) ?_ 2 _ rfl;(with_reducible repeat (first|refine kn_ ?_ _|refine kd_ ?_|refine ka_ ?_ _));refine blk_put (cs:=#[.int .u64 t287,.int .u64 x251001_2,.string x251002_2,.slice Ao64 x251003_2.length co64,.slice Ao65 x251004_2.length co65,.bool x251005_2,.bool x251006_2,.bool x251007_2]) ?_ 1 _ rfl;(with_reducible repeat (first|refine kn_ ?_ _|refine kd_ ?_|refine ka_ ?_ _));refine blk_put (cs:=#[.int .u64 x251000_2,.int .u64 x251001_2,.string x251002_2,.slice Ao64 x251003_2.length co64,.slice Ao65 x251004_2.length co65,.bool x251005_2,.bool x251006_2,.bool x251007_2]) ?_ 0 _ rfl;(with_reducible repeat (first|refine kn_ ?_ _|refine kd_ ?_|refine ka_ ?_ _));exact BK250.out) hg (Kd.R_ne HO_7.out BK250.out (by decide)));have n3_:=am_ (Kd.V_afterv (ok:=(fun k_ => k_ ≠ gb250)) (by (with_reducible repeat (first|apply Kd.V_alloc|apply Kd.V_drewN|apply Kd.V_drew));exact Kd.V_mono (Kd.V_far (p:=⟨gb250,7,none⟩) (Kd.V_far (p:=⟨gb250,6,none⟩) (Kd.V_far (p:=⟨gb250,5,none⟩) (Kd.V_far (p:=⟨gb250,4,none⟩) (Kd.V_far (p:=⟨gb250,3,none⟩) (Kd.V_far (p:=⟨gb250,2,none⟩) (Kd.V_far (p:=⟨gb250,1,none⟩) (Kd.V_far (p:=⟨gb250,0,none⟩) (Kd.V_mono HO292.out (fun k_ hk => (⟨hk,hk.2⟩ : _ ∧ k_ ≠ gb250))) (fun _ hk => hk.2) (.int .u64 t287)) (fun _ hk => hk.2) (.int .u64 t288)) (fun _ hk => hk.2) (.string t289)) (fun _ hk => hk.2) (.slice Ao70 t290.length co70)) (fun _ hk => hk.2) (.slice Ao71 t293.length co71)) (fun _ hk => hk.2) (.bool t296)) (fun _ hk => hk.2) (.bool t297)) (fun _ hk => hk.2) (.bool t298)) (fun _ hk => ⟨hk.1.2,hk.1.1⟩)) hg hat);have n4_:=am_ (Kd.V_afterv (ok:=(fun k_ => k_ ≠ gb250)) (by (with_reducible repeat (first|apply Kd.V_alloc|apply Kd.V_drewN|apply Kd.V_drew));exact Kd.V_mono (Kd.V_far (p:=⟨gb250,7,none⟩) (Kd.V_far (p:=⟨gb250,6,none⟩) (Kd.V_far (p:=⟨gb250,5,none⟩) (Kd.V_far (p:=⟨gb250,4,none⟩) (Kd.V_far (p:=⟨gb250,3,none⟩) (Kd.V_far (p:=⟨gb250,2,none⟩) (Kd.V_far (p:=⟨gb250,1,none⟩) (Kd.V_far (p:=⟨gb250,0,none⟩) (Kd.V_mono HO295.out (fun k_ hk => (⟨hk,hk.2⟩ : _ ∧ k_ ≠ gb250))) (fun _ hk => hk.2) (.int .u64 t287)) (fun _ hk => hk.2) (.int .u64 t288)) (fun _ hk => hk.2) (.string t289)) (fun _ hk => hk.2) (.slice Ao70 t290.length co70)) (fun _ hk => hk.2) (.slice Ao71 t293.length co71)) (fun _ hk => hk.2) (.bool t296)) (fun _ hk => hk.2) (.bool t297)) (fun _ hk => hk.2) (.bool t298)) (fun _ hk => ⟨hk.1.2,hk.1.1⟩)) hg hat);have n5_:=am_ (hb);have n6_:=am_ (ho);clear HO_251003;clear HO_251004;clear BK250;clear HO292;clear HO295;clear HB;clear HO_7;have HO_251003:=n0_;have HO_251004:=n1_;have BK250:=n2_;have HO292:=n3_;have HO295:=n4_;have HB:=n5_;have HO301:=n6_;clear n0_ n1_ n2_ n3_ n4_ n5_ n6_;clear ho hb hg hat))
                         go_roundg kj35
                         case measure => have:=HJ2.out;have:=HK2.out;have:=HJ27.out;have:=HJ30.out;have:=HJ33.out;have:=HJ35.out;omega
                         case rel => exact ⟨(y299),(wrap64 (x8_2 + 1)),(t287),(t288),(t289),(t290),(t293),(t296),(t297),(t298),(.slice Ao70 t290.length co70),(.slice Ao71 t293.length co71),(by first|rfl|(simp;done)|(simp [*];done)),H',⟨by have:=HJ2.out;have:=HK2.out;have:=HJ27.out;have:=HJ30.out;have:=HJ33.out;have:=HJ35.out;omega⟩,⟨by (with_reducible repeat (first|apply ra_|apply rn_|apply rd_));exact HO301.out⟩,⟨by (with_reducible repeat (first|apply Kd.V_alloc|apply Kd.V_drewN|apply Kd.V_drew));exact Kd.V_mono HO292.out (fun _ hk => ⟨hk.2,hk.1⟩)⟩,⟨by (with_reducible repeat (first|apply Kd.V_alloc|apply Kd.V_drewN|apply Kd.V_drew));exact Kd.V_mono HO295.out (fun _ hk => ⟨hk.2,hk.1⟩)⟩,⟨by (with_reducible repeat (first|refine kn_ ?_ _|refine kd_ ?_|refine ka_ ?_ _));exact BK250.out⟩,⟨by repeat (first|(with_reducible first|exact HB.out|apply ba_|apply pn_|apply pd_|refine bs_ ?_ GE250.out)|exact HB.out)⟩⟩
                        ·rw [if_neg c62] at H
                         exact absurd H (by simp)
                      ·rw [if_neg c46] at H
                       exact absurd H (by simp)
                     ·rw [if_neg c45] at H
                      exact absurd H (by simp)
                    ·rw [if_neg c44] at H
                     exact absurd H (by simp)
                   ·rw [if_neg c43] at H
                    exact absurd H (by simp)
                 ·replace c41:=Bool.eq_false_iff.mpr c41
                  subst c41
                  have H1 : (dominolaw15_SendqAll.l0 kj35 a0 l1 x7_2 (wrap64 (x8_2 + 1)) x251000_2 x251001_2 x251002_2 x251003_2 x251004_2 x251005_2 x251006_2 x251007_2) = some r:=by rw [if_neg (show ¬ (false = true) by decide)] at H;exact H
                  clear H
                  have H:=H1
                  clear H1
                  have H':=am_ H
                  clear H
                  have hcz73_0 : wc.cell? ⟨gb250,0,none⟩ = some (.int .u64 x251000_2):=(kc_ BK250.out 0).trans rfl
                  have hcz73_1 : wc.cell? ⟨gb250,1,none⟩ = some (.int .u64 x251001_2):=(kc_ BK250.out 1).trans rfl
                  have hcz73_2 : wc.cell? ⟨gb250,2,none⟩ = some (.string x251002_2):=(kc_ BK250.out 2).trans rfl
                  have hcz73_3 : wc.cell? ⟨gb250,3,none⟩ = some (u251003):=(kc_ BK250.out 3).trans rfl
                  have hcz73_4 : wc.cell? ⟨gb250,4,none⟩ = some (u251004):=(kc_ BK250.out 4).trans rfl
                  have hcz73_5 : wc.cell? ⟨gb250,5,none⟩ = some (.bool x251005_2):=(kc_ BK250.out 5).trans rfl
                  have hcz73_6 : wc.cell? ⟨gb250,6,none⟩ = some (.bool x251006_2):=(kc_ BK250.out 6).trans rfl
                  have hcz73_7 : wc.cell? ⟨gb250,7,none⟩ = some (.bool x251007_2):=(kc_ BK250.out 7).trans rfl
                  have hfz73_0:=blk_frozen BK250.out 0
                  have hfz73_1:=blk_frozen BK250.out 1
                  have hfz73_2:=blk_frozen BK250.out 2
                  have hfz73_3:=blk_frozen BK250.out 3
                  have hfz73_4:=blk_frozen BK250.out 4
                  have hfz73_5:=blk_frozen BK250.out 5
                  have hfz73_6:=blk_frozen BK250.out 6
                  have hfz73_7:=blk_frozen BK250.out 7
                  obtain ⟨Ao74,co74,eo74⟩:=Kd.V_slice HO_251003.out
                  subst eo74
                  obtain ⟨Ao75,co75,eo75⟩:=Kd.V_slice HO_251004.out
                  subst eo75
                  go_wp2_with (first|((with_reducible refine gate_callee (f:=10) rfl ?_);refine goesL_ (some 80) rfl rfl Try.func10 (by kernel_rfl) rfl #[.agg #[.int .u64 x251000_2,.int .u64 x251001_2,.string x251002_2,.slice Ao74 x251003_2.length co74,.slice Ao75 x251004_2.length co75,.bool x251005_2,.bool x251006_2,.bool x251007_2],.int .i64 (wrap64 (1 + (Int.tmod (wrap64 (x9_33)) 20))),.int .u64 1000] rfl (by (try simp only [List.map_toArray,List.map_cons,List.map_nil]);first|done|rfl|(simp only [List.length_drop,List.length_take];rfl)) ?_;(with_reducible refine (sendq_Next.calls x251000_2 x251001_2 x251002_2 _ _ x251003_2 _ _ x251004_2 x251005_2 x251006_2 x251007_2 (wrap64 (1 + (Int.tmod (wrap64 (x9_33)) 20))) 1000 t268 t269 t270 false _ ?side1 ?side2 ?side3 ?side4 A40.out).mono ?_);(case side1 => repeat (first|exact (Kd.V_reads' HO_251003.out).2.2|(with_reducible refine Kd.C_alloc ?_ _)|(with_reducible refine Kd.C_drewN ?_ _)|(with_reducible refine Kd.C_drew ?_)));(case side2 => exact (Kd.V_reads' HO_251003.out).2.1);(case side3 => repeat (first|exact (Kd.V_reads' HO_251004.out).2.2|(with_reducible refine Kd.C_alloc ?_ _)|(with_reducible refine Kd.C_drewN ?_ _)|(with_reducible refine Kd.C_drew ?_)));(case side4 => exact (Kd.V_reads' HO_251004.out).2.1);rintro e w76 ⟨rfl,hb⟩;refine ⟨_,rfl,?_⟩;have n0_:=am_ (Kd.R_below (by (with_reducible repeat (first|apply ra_|apply rn_|apply rd_));exact HO_7.out) hb);have n1_:=am_ (Kd.V_below (by (with_reducible repeat (first|apply Kd.V_alloc|apply Kd.V_drewN|apply Kd.V_drew));exact HO_251003.out) hb);have n2_:=am_ (Kd.V_below (by (with_reducible repeat (first|apply Kd.V_alloc|apply Kd.V_drewN|apply Kd.V_drew));exact HO_251004.out) hb);have n3_:=am_ (blk_below (g:=gb250) (o:=.cells #[.int .u64 x251000_2,.int .u64 x251001_2,.string x251002_2,.slice Ao74 x251003_2.length co74,.slice Ao75 x251004_2.length co75,.bool x251005_2,.bool x251006_2,.bool x251007_2] 29 (0,0)) (by (with_reducible repeat (first|refine kn_ ?_ _|refine kd_ ?_|refine ka_ ?_ _));exact BK250.out) hb);have n4_:=am_ (below_step (by repeat (first|(with_reducible first|exact HB.out|apply ba_|apply pn_|apply pd_|refine bs_ ?_ GE250.out)|exact HB.out)) hb);clear HO_7;clear HO_251003;clear HO_251004;clear BK250;clear HB;have HO_7:=n0_;have HO_251003:=n1_;have HO_251004:=n2_;have BK250:=n3_;have HB:=n4_;clear n0_ n1_ n2_ n3_ n4_;(try clear hb);(try clear hb2);(try clear hk);(try clear hi)))
                  go_roundg kj35
                  case measure => have:=HJ2.out;have:=HK2.out;have:=HJ27.out;have:=HJ30.out;have:=HJ33.out;have:=HJ35.out;omega
                  case rel => exact ⟨(x7_2),(wrap64 (x8_2 + 1)),(x251000_2),(x251001_2),(x251002_2),(x251003_2),(x251004_2),(x251005_2),(x251006_2),(x251007_2),(.slice Ao74 x251003_2.length co74),(.slice Ao75 x251004_2.length co75),(by first|rfl|(simp;done)|(simp [*];done)),H',⟨by have:=HJ2.out;have:=HK2.out;have:=HJ27.out;have:=HJ30.out;have:=HJ33.out;have:=HJ35.out;omega⟩,⟨by (with_reducible repeat (first|apply ra_|apply rn_|apply rd_));exact HO_7.out⟩,⟨by (with_reducible repeat (first|apply Kd.V_alloc|apply Kd.V_drewN|apply Kd.V_drew));exact HO_251003.out⟩,⟨by (with_reducible repeat (first|apply Kd.V_alloc|apply Kd.V_drewN|apply Kd.V_drew));exact HO_251004.out⟩,⟨by (with_reducible repeat (first|refine kn_ ?_ _|refine kd_ ?_|refine ka_ ?_ _));exact BK250.out⟩,⟨by repeat (first|(with_reducible first|exact HB.out|apply ba_|apply pn_|apply pd_|refine bs_ ?_ GE250.out)|exact HB.out)⟩⟩
                ·replace c39:=Bool.eq_false_iff.mpr c39
                 subst c39
                 have H1 : (if (x7_2.length : Int) = 0 then (none) else (if 0 ≤ (((Int.tdiv x9_33 3) % 256) % (x7_2.length : Int)) then (if (((Int.tdiv x9_33 3) % 256) % (x7_2.length : Int)) < (x7_2.length : Int) then ((some (([] : List (S57)) : List (S57))).bind fun y304 => (if (((Int.tdiv x9_33 3) % 256) % (x7_2.length : Int)) ≤ (x7_2.length : Int) then ((some (x7_2.take ((((Int.tdiv x9_33 3) % 256) % (x7_2.length : Int)) : Int).toNat : List (S57))).bind fun y307 => (if y304.length + y307.length < 5864062014805 then ((some (y304 ++ y307 : List (S57))).bind fun y311 => (if 0 ≤ (wrap64 ((((Int.tdiv x9_33 3) % 256) % (x7_2.length : Int)) + 1)) then (if (wrap64 ((((Int.tdiv x9_33 3) % 256) % (x7_2.length : Int)) + 1)) ≤ (x7_2.length : Int) then ((some (x7_2.drop ((wrap64 ((((Int.tdiv x9_33 3) % 256) % (x7_2.length : Int)) + 1)) : Int).toNat : List (S57))).bind fun y314 => (if y311.length + y314.length < 5864062014805 then ((some (y311 ++ y314 : List (S57))).bind fun y318 => (if (Int.tmod x9_33 3) = 1 then ((sendq_Acked.f kj35 x251000_2 x251001_2 x251002_2 x251003_2 x251004_2 x251005_2 x251006_2 x251007_2 ((rd_T57 x7_2 (((Int.tdiv x9_33 3) % 256) % (x7_2.length : Int))).f0) ((rd_T57 x7_2 (((Int.tdiv x9_33 3) % 256) % (x7_2.length : Int))).f1) ((rd_T57 x7_2 (((Int.tdiv x9_33 3) % 256) % (x7_2.length : Int))).f2)).bind fun bt321 => (dominolaw15_SendqAll.l0 kj35 a0 l1 y318 (wrap64 (x8_2 + 1)) bt321.1 bt321.2.1 bt321.2.2.1 bt321.2.2.2.1 bt321.2.2.2.2.1 bt321.2.2.2.2.2.1 bt321.2.2.2.2.2.2.1 bt321.2.2.2.2.2.2.2)) else ((sendq_Lost.f kj35 x251000_2 x251001_2 x251002_2 x251003_2 x251004_2 x251005_2 x251006_2 x251007_2 ((rd_T57 x7_2 (((Int.tdiv x9_33 3) % 256) % (x7_2.length : Int))).f0) ((rd_T57 x7_2 (((Int.tdiv x9_33 3) % 256) % (x7_2.length : Int))).f1) ((rd_T57 x7_2 (((Int.tdiv x9_33 3) % 256) % (x7_2.length : Int))).f2)).bind fun bt333 => (dominolaw15_SendqAll.l0 kj35 a0 l1 y318 (wrap64 (x8_2 + 1)) bt333.1 bt333.2.1 bt333.2.2.1 bt333.2.2.2.1 bt333.2.2.2.2.1 bt333.2.2.2.2.2.1 bt333.2.2.2.2.2.2.1 bt333.2.2.2.2.2.2.2)))) else (none))) else (none)) else (none))) else (none))) else (none))) else (none)) else (none))) = some r:=by rw [if_neg (show ¬ (false = true) by decide)] at H;exact H
                 clear H
                 have H:=H1
                 clear H1
                 by_cases c77 : (x7_2.length : Int) = 0
                 ·rw [if_pos c77] at H
                  exact absurd H (by simp)
                 ·rw [if_neg c77] at H
                  have c77b0 : ((x7_2.length : Int) == 0) = false:=beq_eq_false_iff_ne.mpr c77
                  have c77b1 : ((x7_2.length : Int) != 0) = true:=bne_iff_ne.mpr c77
                  have c77b2 : ¬ (x7_2 = []):=fun h_ => c77 (by rw [h_];rfl)
                  obtain ⟨ji78,hji78⟩ : ∃ j_ : Int,(((Int.tdiv x9_33 3) % 256) % (x7_2.length : Int)) = j_:=⟨_,rfl⟩
                  replace H : (if 0 ≤ (ji78) then (if (ji78) < (x7_2.length : Int) then ((some (([] : List (S57)) : List (S57))).bind fun y304 => (if (ji78) ≤ (x7_2.length : Int) then ((some (x7_2.take ((ji78) : Int).toNat : List (S57))).bind fun y307 => (if y304.length + y307.length < 5864062014805 then ((some (y304 ++ y307 : List (S57))).bind fun y311 => (if 0 ≤ (wrap64 ((ji78) + 1)) then (if (wrap64 ((ji78) + 1)) ≤ (x7_2.length : Int) then ((some (x7_2.drop ((wrap64 ((ji78) + 1)) : Int).toNat : List (S57))).bind fun y314 => (if y311.length + y314.length < 5864062014805 then ((some (y311 ++ y314 : List (S57))).bind fun y318 => (if (Int.tmod x9_33 3) = 1 then ((sendq_Acked.f kj35 x251000_2 x251001_2 x251002_2 x251003_2 x251004_2 x251005_2 x251006_2 x251007_2 ((rd_T57 x7_2 (ji78)).f0) ((rd_T57 x7_2 (ji78)).f1) ((rd_T57 x7_2 (ji78)).f2)).bind fun bt321 => (dominolaw15_SendqAll.l0 kj35 a0 l1 y318 (wrap64 (x8_2 + 1)) bt321.1 bt321.2.1 bt321.2.2.1 bt321.2.2.2.1 bt321.2.2.2.2.1 bt321.2.2.2.2.2.1 bt321.2.2.2.2.2.2.1 bt321.2.2.2.2.2.2.2)) else ((sendq_Lost.f kj35 x251000_2 x251001_2 x251002_2 x251003_2 x251004_2 x251005_2 x251006_2 x251007_2 ((rd_T57 x7_2 (ji78)).f0) ((rd_T57 x7_2 (ji78)).f1) ((rd_T57 x7_2 (ji78)).f2)).bind fun bt333 => (dominolaw15_SendqAll.l0 kj35 a0 l1 y318 (wrap64 (x8_2 + 1)) bt333.1 bt333.2.1 bt333.2.2.1 bt333.2.2.2.1 bt333.2.2.2.2.1 bt333.2.2.2.2.2.1 bt333.2.2.2.2.2.2.1 bt333.2.2.2.2.2.2.2)))) else (none))) else (none)) else (none))) else (none))) else (none))) else (none)) else (none)) = some r:=by first|(rw [hji78] at H;exact H)|(simp only [hji78] at H ⊢;exact H)
                  by_cases c79 : 0 ≤ (ji78)
                  ·rw [if_pos c79] at H
                   have c79b0 : decide (0 ≤ (ji78)) = true:=decide_eq_true c79
                   clear c79
                   by_cases c80 : (ji78) < (x7_2.length : Int)
                   ·rw [if_pos c80] at H
                    have c80b0 : decide ((ji78) < (x7_2.length : Int)) = true:=decide_eq_true c80
                    clear c80
                    obtain ⟨y304,hy304⟩ : ∃ y_ : List (S57),y_ = (([] : List (S57))):=⟨_,rfl⟩
                    replace H : (if (ji78) ≤ (x7_2.length : Int) then ((some (x7_2.take ((ji78) : Int).toNat : List (S57))).bind fun y307 => (if y304.length + y307.length < 5864062014805 then ((some (y304 ++ y307 : List (S57))).bind fun y311 => (if 0 ≤ (wrap64 ((ji78) + 1)) then (if (wrap64 ((ji78) + 1)) ≤ (x7_2.length : Int) then ((some (x7_2.drop ((wrap64 ((ji78) + 1)) : Int).toNat : List (S57))).bind fun y314 => (if y311.length + y314.length < 5864062014805 then ((some (y311 ++ y314 : List (S57))).bind fun y318 => (if (Int.tmod x9_33 3) = 1 then ((sendq_Acked.f kj35 x251000_2 x251001_2 x251002_2 x251003_2 x251004_2 x251005_2 x251006_2 x251007_2 ((rd_T57 x7_2 (ji78)).f0) ((rd_T57 x7_2 (ji78)).f1) ((rd_T57 x7_2 (ji78)).f2)).bind fun bt321 => (dominolaw15_SendqAll.l0 kj35 a0 l1 y318 (wrap64 (x8_2 + 1)) bt321.1 bt321.2.1 bt321.2.2.1 bt321.2.2.2.1 bt321.2.2.2.2.1 bt321.2.2.2.2.2.1 bt321.2.2.2.2.2.2.1 bt321.2.2.2.2.2.2.2)) else ((sendq_Lost.f kj35 x251000_2 x251001_2 x251002_2 x251003_2 x251004_2 x251005_2 x251006_2 x251007_2 ((rd_T57 x7_2 (ji78)).f0) ((rd_T57 x7_2 (ji78)).f1) ((rd_T57 x7_2 (ji78)).f2)).bind fun bt333 => (dominolaw15_SendqAll.l0 kj35 a0 l1 y318 (wrap64 (x8_2 + 1)) bt333.1 bt333.2.1 bt333.2.2.1 bt333.2.2.2.1 bt333.2.2.2.2.1 bt333.2.2.2.2.2.1 bt333.2.2.2.2.2.2.1 bt333.2.2.2.2.2.2.2)))) else (none))) else (none)) else (none))) else (none))) else (none)) = some r:=by first|(rw [hy304];with_reducible exact H)|(have H2_:=(Option.bind_some _ _).symm.trans H;rw [hy304];with_reducible exact H2_)|(have H2_:=(Option.bind_some _ _).symm.trans H;with_reducible exact H2_)|with_reducible exact H|(rw [hy304];exact H)|exact H
                    have Ny304:=am_ hy304
                    clear hy304
                    have c81b0:=eq_true (of_decide_eq_true (by first|(with_reducible assumption)|assumption) : 0 ≤ (ji78))
                    by_cases c82 : (ji78) ≤ (x7_2.length : Int)
                    ·rw [if_pos c82] at H
                     have c82b0:=eq_true c82
                     have c82b1 : decide ((ji78) ≤ (x7_2.length : Int)) = true:=decide_eq_true c82
                     clear c82
                     obtain ⟨y307,hy307⟩ : ∃ y_ : List (S57),y_ = (x7_2.take ((ji78) : Int).toNat):=⟨_,rfl⟩
                     replace H : (if y304.length + y307.length < 5864062014805 then ((some (y304 ++ y307 : List (S57))).bind fun y311 => (if 0 ≤ (wrap64 ((ji78) + 1)) then (if (wrap64 ((ji78) + 1)) ≤ (x7_2.length : Int) then ((some (x7_2.drop ((wrap64 ((ji78) + 1)) : Int).toNat : List (S57))).bind fun y314 => (if y311.length + y314.length < 5864062014805 then ((some (y311 ++ y314 : List (S57))).bind fun y318 => (if (Int.tmod x9_33 3) = 1 then ((sendq_Acked.f kj35 x251000_2 x251001_2 x251002_2 x251003_2 x251004_2 x251005_2 x251006_2 x251007_2 ((rd_T57 x7_2 (ji78)).f0) ((rd_T57 x7_2 (ji78)).f1) ((rd_T57 x7_2 (ji78)).f2)).bind fun bt321 => (dominolaw15_SendqAll.l0 kj35 a0 l1 y318 (wrap64 (x8_2 + 1)) bt321.1 bt321.2.1 bt321.2.2.1 bt321.2.2.2.1 bt321.2.2.2.2.1 bt321.2.2.2.2.2.1 bt321.2.2.2.2.2.2.1 bt321.2.2.2.2.2.2.2)) else ((sendq_Lost.f kj35 x251000_2 x251001_2 x251002_2 x251003_2 x251004_2 x251005_2 x251006_2 x251007_2 ((rd_T57 x7_2 (ji78)).f0) ((rd_T57 x7_2 (ji78)).f1) ((rd_T57 x7_2 (ji78)).f2)).bind fun bt333 => (dominolaw15_SendqAll.l0 kj35 a0 l1 y318 (wrap64 (x8_2 + 1)) bt333.1 bt333.2.1 bt333.2.2.1 bt333.2.2.2.1 bt333.2.2.2.2.1 bt333.2.2.2.2.2.1 bt333.2.2.2.2.2.2.1 bt333.2.2.2.2.2.2.2)))) else (none))) else (none)) else (none))) else (none)) = some r:=by first|(rw [hy307];with_reducible exact H)|(have H2_:=(Option.bind_some _ _).symm.trans H;rw [hy307];with_reducible exact H2_)|(have H2_:=(Option.bind_some _ _).symm.trans H;with_reducible exact H2_)|with_reducible exact H|(rw [hy307];exact H)|exact H
                     have Ny307:=am_ hy307
                     clear hy307
                     by_cases c83 : y304.length + y307.length < 5864062014805
                     ·rw [if_pos c83] at H
                      have LMc83:=am_ c83
                      clear c83
                      obtain ⟨y311,hy311⟩ : ∃ y_ : List (S57),y_ = (y304 ++ y307):=⟨_,rfl⟩
                      replace H : (if 0 ≤ (wrap64 ((ji78) + 1)) then (if (wrap64 ((ji78) + 1)) ≤ (x7_2.length : Int) then ((some (x7_2.drop ((wrap64 ((ji78) + 1)) : Int).toNat : List (S57))).bind fun y314 => (if y311.length + y314.length < 5864062014805 then ((some (y311 ++ y314 : List (S57))).bind fun y318 => (if (Int.tmod x9_33 3) = 1 then ((sendq_Acked.f kj35 x251000_2 x251001_2 x251002_2 x251003_2 x251004_2 x251005_2 x251006_2 x251007_2 ((rd_T57 x7_2 (ji78)).f0) ((rd_T57 x7_2 (ji78)).f1) ((rd_T57 x7_2 (ji78)).f2)).bind fun bt321 => (dominolaw15_SendqAll.l0 kj35 a0 l1 y318 (wrap64 (x8_2 + 1)) bt321.1 bt321.2.1 bt321.2.2.1 bt321.2.2.2.1 bt321.2.2.2.2.1 bt321.2.2.2.2.2.1 bt321.2.2.2.2.2.2.1 bt321.2.2.2.2.2.2.2)) else ((sendq_Lost.f kj35 x251000_2 x251001_2 x251002_2 x251003_2 x251004_2 x251005_2 x251006_2 x251007_2 ((rd_T57 x7_2 (ji78)).f0) ((rd_T57 x7_2 (ji78)).f1) ((rd_T57 x7_2 (ji78)).f2)).bind fun bt333 => (dominolaw15_SendqAll.l0 kj35 a0 l1 y318 (wrap64 (x8_2 + 1)) bt333.1 bt333.2.1 bt333.2.2.1 bt333.2.2.2.1 bt333.2.2.2.2.1 bt333.2.2.2.2.2.1 bt333.2.2.2.2.2.2.1 bt333.2.2.2.2.2.2.2)))) else (none))) else (none)) else (none)) = some r:=by first|(rw [hy311];with_reducible exact H)|(have H2_:=(Option.bind_some _ _).symm.trans H;rw [hy311];with_reducible exact H2_)|(have H2_:=(Option.bind_some _ _).symm.trans H;with_reducible exact H2_)|with_reducible exact H|(rw [hy311];exact H)|exact H
                      have Ny311:=am_ hy311
                      clear hy311
                      obtain ⟨ji84,hji84⟩ : ∃ j_ : Int,(wrap64 ((ji78) + 1)) = j_:=⟨_,rfl⟩
                      replace H : (if 0 ≤ (ji84) then (if (ji84) ≤ (x7_2.length : Int) then ((some (x7_2.drop ((ji84) : Int).toNat : List (S57))).bind fun y314 => (if y311.length + y314.length < 5864062014805 then ((some (y311 ++ y314 : List (S57))).bind fun y318 => (if (Int.tmod x9_33 3) = 1 then ((sendq_Acked.f kj35 x251000_2 x251001_2 x251002_2 x251003_2 x251004_2 x251005_2 x251006_2 x251007_2 ((rd_T57 x7_2 (ji78)).f0) ((rd_T57 x7_2 (ji78)).f1) ((rd_T57 x7_2 (ji78)).f2)).bind fun bt321 => (dominolaw15_SendqAll.l0 kj35 a0 l1 y318 (wrap64 (x8_2 + 1)) bt321.1 bt321.2.1 bt321.2.2.1 bt321.2.2.2.1 bt321.2.2.2.2.1 bt321.2.2.2.2.2.1 bt321.2.2.2.2.2.2.1 bt321.2.2.2.2.2.2.2)) else ((sendq_Lost.f kj35 x251000_2 x251001_2 x251002_2 x251003_2 x251004_2 x251005_2 x251006_2 x251007_2 ((rd_T57 x7_2 (ji78)).f0) ((rd_T57 x7_2 (ji78)).f1) ((rd_T57 x7_2 (ji78)).f2)).bind fun bt333 => (dominolaw15_SendqAll.l0 kj35 a0 l1 y318 (wrap64 (x8_2 + 1)) bt333.1 bt333.2.1 bt333.2.2.1 bt333.2.2.2.1 bt333.2.2.2.2.1 bt333.2.2.2.2.2.1 bt333.2.2.2.2.2.2.1 bt333.2.2.2.2.2.2.2)))) else (none))) else (none)) else (none)) = some r:=by first|(rw [hji84] at H;exact H)|(simp only [hji84] at H ⊢;exact H)
                      have hji84w : (IntKind.i64.wrap ((ji78) + 1)) = ji84:=(i64_w _).trans hji84
                      by_cases c85 : 0 ≤ (ji84)
                      ·rw [if_pos c85] at H
                       have c85b0:=eq_true c85
                       have c85b1 : decide (0 ≤ (ji84)) = true:=decide_eq_true c85
                       clear c85
                       by_cases c86 : (ji84) ≤ (x7_2.length : Int)
                       ·rw [if_pos c86] at H
                        have c86b0:=eq_true c86
                        have c86b1 : decide ((ji84) ≤ (x7_2.length : Int)) = true:=decide_eq_true c86
                        clear c86
                        obtain ⟨y314,hy314⟩ : ∃ y_ : List (S57),y_ = (x7_2.drop ((ji84) : Int).toNat):=⟨_,rfl⟩
                        replace H : (if y311.length + y314.length < 5864062014805 then ((some (y311 ++ y314 : List (S57))).bind fun y318 => (if (Int.tmod x9_33 3) = 1 then ((sendq_Acked.f kj35 x251000_2 x251001_2 x251002_2 x251003_2 x251004_2 x251005_2 x251006_2 x251007_2 ((rd_T57 x7_2 (ji78)).f0) ((rd_T57 x7_2 (ji78)).f1) ((rd_T57 x7_2 (ji78)).f2)).bind fun bt321 => (dominolaw15_SendqAll.l0 kj35 a0 l1 y318 (wrap64 (x8_2 + 1)) bt321.1 bt321.2.1 bt321.2.2.1 bt321.2.2.2.1 bt321.2.2.2.2.1 bt321.2.2.2.2.2.1 bt321.2.2.2.2.2.2.1 bt321.2.2.2.2.2.2.2)) else ((sendq_Lost.f kj35 x251000_2 x251001_2 x251002_2 x251003_2 x251004_2 x251005_2 x251006_2 x251007_2 ((rd_T57 x7_2 (ji78)).f0) ((rd_T57 x7_2 (ji78)).f1) ((rd_T57 x7_2 (ji78)).f2)).bind fun bt333 => (dominolaw15_SendqAll.l0 kj35 a0 l1 y318 (wrap64 (x8_2 + 1)) bt333.1 bt333.2.1 bt333.2.2.1 bt333.2.2.2.1 bt333.2.2.2.2.1 bt333.2.2.2.2.2.1 bt333.2.2.2.2.2.2.1 bt333.2.2.2.2.2.2.2)))) else (none)) = some r:=by first|(rw [hy314];with_reducible exact H)|(have H2_:=(Option.bind_some _ _).symm.trans H;rw [hy314];with_reducible exact H2_)|(have H2_:=(Option.bind_some _ _).symm.trans H;with_reducible exact H2_)|with_reducible exact H|(rw [hy314];exact H)|exact H
                        have Ny314:=am_ hy314
                        clear hy314
                        by_cases c87 : y311.length + y314.length < 5864062014805
                        ·rw [if_pos c87] at H
                         have LMc87:=am_ c87
                         clear c87
                         obtain ⟨y318,hy318⟩ : ∃ y_ : List (S57),y_ = (y311 ++ y314):=⟨_,rfl⟩
                         replace H : (if (Int.tmod x9_33 3) = 1 then ((sendq_Acked.f kj35 x251000_2 x251001_2 x251002_2 x251003_2 x251004_2 x251005_2 x251006_2 x251007_2 ((rd_T57 x7_2 (ji78)).f0) ((rd_T57 x7_2 (ji78)).f1) ((rd_T57 x7_2 (ji78)).f2)).bind fun bt321 => (dominolaw15_SendqAll.l0 kj35 a0 l1 y318 (wrap64 (x8_2 + 1)) bt321.1 bt321.2.1 bt321.2.2.1 bt321.2.2.2.1 bt321.2.2.2.2.1 bt321.2.2.2.2.2.1 bt321.2.2.2.2.2.2.1 bt321.2.2.2.2.2.2.2)) else ((sendq_Lost.f kj35 x251000_2 x251001_2 x251002_2 x251003_2 x251004_2 x251005_2 x251006_2 x251007_2 ((rd_T57 x7_2 (ji78)).f0) ((rd_T57 x7_2 (ji78)).f1) ((rd_T57 x7_2 (ji78)).f2)).bind fun bt333 => (dominolaw15_SendqAll.l0 kj35 a0 l1 y318 (wrap64 (x8_2 + 1)) bt333.1 bt333.2.1 bt333.2.2.1 bt333.2.2.2.1 bt333.2.2.2.2.1 bt333.2.2.2.2.2.1 bt333.2.2.2.2.2.2.1 bt333.2.2.2.2.2.2.2))) = some r:=by first|(rw [hy318];with_reducible exact H)|(have H2_:=(Option.bind_some _ _).symm.trans H;rw [hy318];with_reducible exact H2_)|(have H2_:=(Option.bind_some _ _).symm.trans H;with_reducible exact H2_)|with_reducible exact H|(rw [hy318];exact H)|exact H
                         have Ny318:=am_ hy318
                         clear hy318
                         by_cases c88 : (Int.tmod x9_33 3) = 1
                         ·rw [if_pos c88] at H
                          have c88b0 : ((Int.tmod x9_33 3) == 1) = true:=beq_iff_eq.mpr c88
                          have c88b1 : ((Int.tmod x9_33 3) != 1) = false:=bne_eq_false_iff_eq.mpr c88
                          clear c88
                          replace H:=Option.bind_eq_some_iff.mp H
                          obtain ⟨⟨t321,t322,t323,t324,t327,t330,t331,t332⟩,A890,H⟩:=H
                          replace H : (dominolaw15_SendqAll.l0 kj35 a0 l1 y318 (wrap64 (x8_2 + 1)) t321 t322 t323 t324 t327 t330 t331 t332) = some r:=H
                          have A89:=am_ A890
                          clear A890
                          have H':=am_ H
                          clear H
                          obtain ⟨Ao90,co90,eo90⟩:=Kd.R_slice HO_7.out
                          subst eo90
                          have p302 : 0 ≤ ((ji78) : Int):=of_decide_eq_true (by first|(with_reducible assumption)|assumption)
                          have q302 : (ji78) < (x7_2.length : Int):=of_decide_eq_true (by first|(with_reducible assumption)|assumption)
                          obtain ⟨ad302,e302,hx302_0,hx302_1,hx302_2⟩:=at_T57 (Kd.R_reads' HO_7.out).2.2 (ji78) p302 q302
                          cases e302
                          replace p302:=eq_true p302
                          replace q302:=eq_true q302
                          try go_wp2_with (first|((with_reducible refine gate_dst (N:=15) rfl ?_);(try (refine gate_guard (by rfl) ?_;dsimp only));refine box_event ?hg (N:=15) ?hd (cs:=#[.int .u64 0,.int .i64 0,.bool false]) (t:=57) ?hr ?_;(case hd => rfl);(case hg => rfl);(case hr => first|(go_simp;done)|(go_simp;rfl));intro gb303 hg w91 hbox hb;have n0_:=am_ (Kd.R_below (Kd.R_elderB (by (with_reducible repeat (first|apply ra_|apply rn_|apply rd_));exact HO_7.out) gb303 (Nat.le_of_eq hg.symm)) hb);have n1_:=am_ (Kd.V_below (Kd.V_elderB (by (with_reducible repeat (first|apply Kd.V_alloc|apply Kd.V_drewN|apply Kd.V_drew));exact HO_251003.out) gb303 (Nat.le_of_eq hg.symm)) hb);have n2_:=am_ (Kd.V_below (Kd.V_elderB (by (with_reducible repeat (first|apply Kd.V_alloc|apply Kd.V_drewN|apply Kd.V_drew));exact HO_251004.out) gb303 (Nat.le_of_eq hg.symm)) hb);have n3_:=am_ (blk_below (g:=gb250) (o:=.cells #[.int .u64 x251000_2,.int .u64 x251001_2,.string x251002_2,u251003,u251004,.bool x251005_2,.bool x251006_2,.bool x251007_2] 29 (0,0)) (by (with_reducible repeat (first|refine kn_ ?_ _|refine kd_ ?_|refine ka_ ?_ _));exact BK250.out) hb);have n4_:=am_ (below_step (by repeat (first|(with_reducible first|exact HB.out|apply ba_|apply pn_|apply pd_|refine bs_ ?_ GE250.out)|exact HB.out)) hb);have n5_:=am_ (hbox);have n6_:=am_ ((by rw [hg];exact (below_size (by repeat (first|(with_reducible first|exact HB.out|apply ba_|apply pn_|apply pd_|refine bs_ ?_ GE250.out)|exact HB.out))) : w.heap.size ≤ gb303));have n7_:=am_ ((by rw [hg];exact (below_size (by repeat (first|(with_reducible first|exact HB.out|apply ba_|apply pn_|apply pd_|refine bs_ ?_ GE250.out)|exact HB.out))) : w.heap.size ≤ gb303));have n8_:=am_ ((by rw [hg];exact Nat.ne_of_lt (blk_lt (g:=gb250) (o:=.cells #[.int .u64 x251000_2,.int .u64 x251001_2,.string x251002_2,u251003,u251004,.bool x251005_2,.bool x251006_2,.bool x251007_2] 29 (0,0)) (by (with_reducible repeat (first|refine kn_ ?_ _|refine kd_ ?_|refine ka_ ?_ _));exact BK250.out)) : gb250 ≠ gb303));have n9_:=am_ ((by rw [hg];exact Nat.ne_of_gt (blk_lt (g:=gb250) (o:=.cells #[.int .u64 x251000_2,.int .u64 x251001_2,.string x251002_2,u251003,u251004,.bool x251005_2,.bool x251006_2,.bool x251007_2] 29 (0,0)) (by (with_reducible repeat (first|refine kn_ ?_ _|refine kd_ ?_|refine ka_ ?_ _));exact BK250.out)) : gb303 ≠ gb250));clear HO_7;clear HO_251003;clear HO_251004;clear BK250;clear HB;have HO_7:=n0_;have HO_251003:=n1_;have HO_251004:=n2_;have BK250:=n3_;have HB:=n4_;have BK303:=n5_;have GW303:=n6_;have GE303:=n7_;have NB250_303:=n8_;have NB303_250:=n9_;clear n0_ n1_ n2_ n3_ n4_ n5_ n6_ n7_ n8_ n9_;clear hb hbox hg;have hnb92:=NB303_250.out;have hnc92:=NB250_303.out;have hcz93_0 : w91.cell? ⟨gb303,0,none⟩ = some (.int .u64 0):=(kc_ BK303.out 0).trans rfl;have hcz93_1 : w91.cell? ⟨gb303,1,none⟩ = some (.int .i64 0):=(kc_ BK303.out 1).trans rfl;have hcz93_2 : w91.cell? ⟨gb303,2,none⟩ = some (.bool false):=(kc_ BK303.out 2).trans rfl;have hfz93_0:=blk_frozen BK303.out 0;have hfz93_1:=blk_frozen BK303.out 1;have hfz93_2:=blk_frozen BK303.out 2; skip))
                          have n0_ : Aside0 (Kd.R k57 57 (((w91.setCell ⟨gb303,0,none⟩ (.int .u64 ((rd_T57 x7_2 (ji78)).f0))).setCell ⟨gb303,1,none⟩ (.int .i64 ((rd_T57 x7_2 (ji78)).f1))).setCell ⟨gb303,2,none⟩ (.bool ((rd_T57 x7_2 (ji78)).f2))) w.heap.size (fun k_ => k_ ≠ gb303) (.slice (some ad302) x7_2.length co90) x7_2):=⟨by (with_reducible repeat (first|apply ra_|apply rn_|apply rd_));exact Kd.R_mono (Kd.R_far (p:=⟨gb303,2,none⟩) (Kd.R_far (p:=⟨gb303,1,none⟩) (Kd.R_far (p:=⟨gb303,0,none⟩) (Kd.R_mono HO_7.out (fun k_ hk => (⟨hk,hk.2⟩ : _ ∧ k_ ≠ gb303))) (fun _ hk => hk.2) (.int .u64 ((rd_T57 x7_2 (ji78)).f0))) (fun _ hk => hk.2) (.int .i64 ((rd_T57 x7_2 (ji78)).f1))) (fun _ hk => hk.2) (.bool ((rd_T57 x7_2 (ji78)).f2))) (fun _ hk => hk.1.2)⟩
                          have n1_ : Aside0 (Kd.V k67 67 (((w91.setCell ⟨gb303,0,none⟩ (.int .u64 ((rd_T57 x7_2 (ji78)).f0))).setCell ⟨gb303,1,none⟩ (.int .i64 ((rd_T57 x7_2 (ji78)).f1))).setCell ⟨gb303,2,none⟩ (.bool ((rd_T57 x7_2 (ji78)).f2))) w.heap.size (fun k_ => some k_ ≠ (.slice (some ad302) x7_2.length co90 : Value).ownBlock ∧ k_ ≠ gb250 ∧ k_ ≠ gb303) u251003 x251003_2):=⟨by (with_reducible repeat (first|apply Kd.V_alloc|apply Kd.V_drewN|apply Kd.V_drew));exact Kd.V_mono (Kd.V_far (p:=⟨gb303,2,none⟩) (Kd.V_far (p:=⟨gb303,1,none⟩) (Kd.V_far (p:=⟨gb303,0,none⟩) (Kd.V_mono HO_251003.out (fun k_ hk => (⟨hk,hk.2⟩ : _ ∧ k_ ≠ gb303))) (fun _ hk => hk.2) (.int .u64 ((rd_T57 x7_2 (ji78)).f0))) (fun _ hk => hk.2) (.int .i64 ((rd_T57 x7_2 (ji78)).f1))) (fun _ hk => hk.2) (.bool ((rd_T57 x7_2 (ji78)).f2))) (fun _ hk => ⟨hk.1.1.1,⟨hk.1.1.2,hk.1.2⟩⟩)⟩
                          have n2_ : Aside0 (Kd.V k67 67 (((w91.setCell ⟨gb303,0,none⟩ (.int .u64 ((rd_T57 x7_2 (ji78)).f0))).setCell ⟨gb303,1,none⟩ (.int .i64 ((rd_T57 x7_2 (ji78)).f1))).setCell ⟨gb303,2,none⟩ (.bool ((rd_T57 x7_2 (ji78)).f2))) w.heap.size (fun k_ => some k_ ≠ (.slice (some ad302) x7_2.length co90 : Value).ownBlock ∧ k_ ≠ gb250 ∧ k_ ≠ gb303) u251004 x251004_2):=⟨by (with_reducible repeat (first|apply Kd.V_alloc|apply Kd.V_drewN|apply Kd.V_drew));exact Kd.V_mono (Kd.V_far (p:=⟨gb303,2,none⟩) (Kd.V_far (p:=⟨gb303,1,none⟩) (Kd.V_far (p:=⟨gb303,0,none⟩) (Kd.V_mono HO_251004.out (fun k_ hk => (⟨hk,hk.2⟩ : _ ∧ k_ ≠ gb303))) (fun _ hk => hk.2) (.int .u64 ((rd_T57 x7_2 (ji78)).f0))) (fun _ hk => hk.2) (.int .i64 ((rd_T57 x7_2 (ji78)).f1))) (fun _ hk => hk.2) (.bool ((rd_T57 x7_2 (ji78)).f2))) (fun _ hk => ⟨hk.1.1.1,⟨hk.1.1.2,hk.1.2⟩⟩)⟩
                          have n3_ : Aside0 ((((w91.setCell ⟨gb303,0,none⟩ (.int .u64 ((rd_T57 x7_2 (ji78)).f0))).setCell ⟨gb303,1,none⟩ (.int .i64 ((rd_T57 x7_2 (ji78)).f1))).setCell ⟨gb303,2,none⟩ (.bool ((rd_T57 x7_2 (ji78)).f2))).heap[gb250]? = some (.cells #[.int .u64 x251000_2,.int .u64 x251001_2,.string x251002_2,u251003,u251004,.bool x251005_2,.bool x251006_2,.bool x251007_2] 29 (0,0))):=⟨by (with_reducible repeat (first|refine kn_ ?_ _|refine kd_ ?_|refine ka_ ?_ _));refine blk_far ?_ NB250_303.out _;(with_reducible repeat (first|refine kn_ ?_ _|refine kd_ ?_|refine ka_ ?_ _));refine blk_far ?_ NB250_303.out _;(with_reducible repeat (first|refine kn_ ?_ _|refine kd_ ?_|refine ka_ ?_ _));refine blk_far ?_ NB250_303.out _;(with_reducible repeat (first|refine kn_ ?_ _|refine kd_ ?_|refine ka_ ?_ _));exact BK250.out⟩
                          have n4_ : Aside0 ((((w91.setCell ⟨gb303,0,none⟩ (.int .u64 ((rd_T57 x7_2 (ji78)).f0))).setCell ⟨gb303,1,none⟩ (.int .i64 ((rd_T57 x7_2 (ji78)).f1))).setCell ⟨gb303,2,none⟩ (.bool ((rd_T57 x7_2 (ji78)).f2))).heap[gb303]? = some (.cells #[.int .u64 ((rd_T57 x7_2 (ji78)).f0),.int .i64 ((rd_T57 x7_2 (ji78)).f1),.bool ((rd_T57 x7_2 (ji78)).f2)] 57 (0,0))):=⟨by (with_reducible repeat (first|refine kn_ ?_ _|refine kd_ ?_|refine ka_ ?_ _));refine blk_put (cs:=#[.int .u64 ((rd_T57 x7_2 (ji78)).f0),.int .i64 ((rd_T57 x7_2 (ji78)).f1),.bool false]) ?_ 2 _ rfl;(with_reducible repeat (first|refine kn_ ?_ _|refine kd_ ?_|refine ka_ ?_ _));refine blk_put (cs:=#[.int .u64 ((rd_T57 x7_2 (ji78)).f0),.int .i64 0,.bool false]) ?_ 1 _ rfl;(with_reducible repeat (first|refine kn_ ?_ _|refine kd_ ?_|refine ka_ ?_ _));refine blk_put (cs:=#[.int .u64 0,.int .i64 0,.bool false]) ?_ 0 _ rfl;(with_reducible repeat (first|refine kn_ ?_ _|refine kd_ ?_|refine ka_ ?_ _));exact BK303.out⟩
                          have n5_ : Aside0 (Below w.heap.size w (((w91.setCell ⟨gb303,0,none⟩ (.int .u64 ((rd_T57 x7_2 (ji78)).f0))).setCell ⟨gb303,1,none⟩ (.int .i64 ((rd_T57 x7_2 (ji78)).f1))).setCell ⟨gb303,2,none⟩ (.bool ((rd_T57 x7_2 (ji78)).f2)))):=⟨by repeat (first|(with_reducible first|exact HB.out|apply ba_|apply pn_|apply pd_|refine bs_ ?_ GE250.out|refine bs_ ?_ GE303.out)|exact HB.out)⟩
                          (try clear HO_7)
                          (try clear HO_251003)
                          (try clear HO_251004)
                          (try clear BK250)
                          (try clear BK303)
                          (try clear HB)
                          generalize (((w91.setCell ⟨gb303,0,none⟩ (.int .u64 ((rd_T57 x7_2 (ji78)).f0))).setCell ⟨gb303,1,none⟩ (.int .i64 ((rd_T57 x7_2 (ji78)).f1))).setCell ⟨gb303,2,none⟩ (.bool ((rd_T57 x7_2 (ji78)).f2))) = w94 at n0_ n1_ n2_ n3_ n4_ n5_ ⊢
                          have HO_7:=n0_
                          have HO_251003:=n1_
                          have HO_251004:=n2_
                          have BK250:=n3_
                          have BK303:=n4_
                          have HB:=n5_
                          clear n0_ n1_ n2_ n3_ n4_ n5_
                          have n0_:=am_ (rd_ HO_7.out)
                          have n1_:=am_ (Kd.V_drew HO_251003.out)
                          have n2_:=am_ (Kd.V_drew HO_251004.out)
                          have n3_:=am_ (kd_ BK250.out)
                          have n4_:=am_ (kd_ BK303.out)
                          have n5_:=am_ (pd_ HB.out)
                          clear HO_7
                          clear HO_251003
                          clear HO_251004
                          clear BK250
                          clear BK303
                          clear HB
                          have HO_7:=n0_
                          have HO_251003:=n1_
                          have HO_251004:=n2_
                          have BK250:=n3_
                          have BK303:=n4_
                          have HB:=n5_
                          clear n0_ n1_ n2_ n3_ n4_ n5_
                          have q96 : ((ji78) : Int) ≤ ((x7_2.length : Int) : Int):=of_decide_eq_true (by first|(with_reducible assumption)|assumption)
                          obtain ⟨i096,hi096,_,hsz96,_⟩:=info_parts info57
                          have hroom96 : x7_2.length ≤ co90:=(Kd.R_reads' HO_7.out).2.1
                          have hC96 : Kd.C k57 _ (some ad302) x7_2.length x7_2:=(Kd.R_reads' HO_7.out).2.2
                          have hcut96:=cut_to (P:=Try.prog) 55 57 .i64 Try.underlying55 hi096 (some ad302) x7_2.length co90 (ji78) (of_decide_eq_true (by first|(with_reducible assumption)|assumption)) q96 hroom96
                          have hr96:=Kd.C_take (m:=((ji78) : Int).toNat) hC96 (by omega)
                          have hy96 : y307.length = ((ji78) : Int).toNat:=(by rw [Ny307.out,List.length_take];omega)
                          rw [← Ny307.out] at hr96
                          rw [← hy96] at hcut96
                          have HR310:=am_ hr96
                          have HC310:=am_ (show y307.length ≤ co90 from by omega)
                          clear hr96 hC96 hroom96 hi096 hsz96
                          have KY96:=am_ hy96
                          clear hy96
                          have KL96:=am_ (show ((ji78) : Int).toNat ≤ x7_2.length from by omega)
                          replace q96:=eq_true q96
                          have q97 : ((ji84) : Int) ≤ ((x7_2.length : Int) : Int):=of_decide_eq_true (by first|(with_reducible assumption)|assumption)
                          obtain ⟨i097,hi097,_,hsz97,_⟩:=info_parts info57
                          have hroom97 : x7_2.length ≤ co90:=(Kd.R_reads' HO_7.out).2.1
                          have hC97 : Kd.C k57 _ (some ad302) x7_2.length x7_2:=(Kd.R_reads' HO_7.out).2.2
                          have q097 : (0 : Int) ≤ ((ji84) : Int):=of_decide_eq_true (by first|(with_reducible assumption)|assumption)
                          have hcut97:=cut_from (P:=Try.prog) 55 57 .i64 Try.underlying55 hi097 3 hsz97 (some ad302) x7_2.length co90 (ji84) q097 q97
                          have hr97:=Kd.C_drop (m:=((ji84) : Int).toNat) (c:=co90) hC97 (by omega) hroom97
                          obtain ⟨A97,hA97⟩ : ∃ A1,A1 = (if co90 = ((ji84) : Int).toNat then (some ad302) else ((some ad302) : Option Addr).map (·.add (((ji84) : Int).toNat * 3))):=⟨_,rfl⟩
                          obtain ⟨c97,hc97⟩ : ∃ c1,c1 = co90 - ((ji84) : Int).toNat:=⟨_,rfl⟩
                          have hy97 : y314.length = x7_2.length - ((ji84) : Int).toNat:=(by rw [Ny314.out,List.length_drop] <;> omega)
                          rw [show (x7_2).drop ((ji84) : Int).toNat = y314 from Ny314.out.symm] at hr97
                          replace hr97 : Kd.C k57 _ A97 y314.length y314:=(by rw [hA97];exact hr97)
                          rw [← hy97,← hA97,← hc97] at hcut97
                          have HR317:=am_ hr97
                          have HC317:=am_ (show y314.length ≤ c97 from by rw [hy97,hc97];exact Nat.sub_le_sub_right hroom97 _)
                          clear hr97 hC97 hroom97 hi097 hsz97 hc97
                          have KY97:=am_ hy97
                          have KA97:=am_ hA97
                          clear hy97 hA97
                          have KL97:=am_ (show ((ji84) : Int).toNat ≤ x7_2.length from by omega)
                          replace q97:=eq_true q97
                          refine start_ (n:=11) (S:=fun w' => True) (ds:=[]) #[F_,F_,F_,F_,F_,F_,F_,F_,F_,F_,F_] (by kernel_rfl) rfl rfl trivial (fun hHeld => ?_);refine with_tabW dominolaw15_SendqAll.tab25 dominolaw15_SendqAll.bits25 (fun HT_ HW_ => ?_)
                          generalize w94.drew = w95 at HO_7 HO_251003 HO_251004 BK250 BK303 HB HR310 HR317 hHeld ⊢
                          refine pure_ (i:=1) (N:=some 147) (v:=?_) (a':=?_) #[F_,T_,F_,F_,F_,F_,F_,F_,F_,F_,F_] rfl rfl (any_of HT_.out (by kernel_rfl)) (fun _ _ _ h => h) (Or.inl ⟨by rfl,?_⟩) ?_ ?_
                          rotate_left;(intro w';go_simp;with_reducible rfl);rotate_left;(simp only [Act.put,ps_,i64_w,i32_w];rfl)
                          refine pure_ (i:=2) (N:=some 148) (v:=?_) (a':=?_) #[F_,T_,T_,F_,F_,F_,F_,F_,F_,F_,F_] rfl rfl (any_of HT_.out (by kernel_rfl)) (fun _ _ _ h => h) (Or.inl ⟨by rfl,?_⟩) ?_ ?_
                          rotate_left;(intro w';go_simp;with_reducible rfl);rotate_left;(simp only [Act.put,ps_,i64_w,i32_w];rfl)
                          refine pure_ (i:=3) (N:=some 149) (v:=?_) (a':=?_) #[F_,T_,T_,T_,F_,F_,F_,F_,F_,F_,F_] rfl rfl (any_of HT_.out (by kernel_rfl)) (fun _ _ _ h => h) (Or.inl ⟨by rfl,?_⟩) ?_ ?_
                          rotate_left;(intro w';go_simp;with_reducible rfl);rotate_left;(simp only [Act.put,ps_,i64_w,i32_w];rfl)
                          refine pure_ (i:=5) (N:=some 151) (v:=?_) (a':=?_) #[F_,T_,T_,T_,F_,T_,F_,F_,F_,F_,F_] rfl rfl (any_of HT_.out (by kernel_rfl)) (fun _ _ _ h => h) (Or.inl ⟨by rfl,?_⟩) ?_ ?_
                          rotate_left;(intro w';go_simp;with_reducible rfl);rotate_left;(simp only [Act.put,ps_,i64_w,i32_w];rfl)
                          refine pure_ (i:=6) (N:=some 152) (v:=?_) (a':=?_) #[F_,T_,T_,T_,F_,T_,T_,F_,F_,F_,F_] rfl rfl (any_of HT_.out (by kernel_rfl)) (fun _ _ _ h => h) (Or.inl ⟨by rfl,?_⟩) ?_ ?_
                          rotate_left;(intro w';go_simp;with_reducible rfl);rotate_left;(simp only [Act.put,ps_,i64_w,i32_w];rfl)
                          refine pure_ (i:=7) (N:=some 153) (v:=?_) (a':=?_) #[F_,T_,T_,T_,F_,T_,T_,T_,F_,F_,F_] rfl rfl (any_of HT_.out (by kernel_rfl)) (fun _ _ _ h => h) (Or.inl ⟨by rfl,?_⟩) ?_ ?_
                          rotate_left;(intro w';go_simp;with_reducible rfl);rotate_left;(simp only [Act.put,ps_,i64_w,i32_w];rfl)
                          refine pure_ (i:=8) (N:=some 154) (v:=?_) (a':=?_) #[F_,T_,T_,T_,F_,T_,T_,T_,T_,F_,F_] rfl rfl (any_of HT_.out (by kernel_rfl)) (fun _ _ _ h => h) (Or.inl ⟨by rfl,?_⟩) ?_ ?_
                          rotate_left;(intro w';go_simp;with_reducible rfl);rotate_left;(simp only [Act.put,ps_,i64_w,i32_w];rfl)
                          refine one_ (i:=0) (N:=some 146) #[T_,T_,T_,T_,F_,T_,T_,T_,T_,F_,F_] rfl rfl (one_of HT_.out (by kernel_rfl)) (by decide) (fun K hK => ?_)
                          refine Kd.R_lit_step k57 _ 57 ?hg (N:=146) ?hd (xs:=([] : List (S57))) (inner:=[]) (ok:=fun _ => True) (okp:=fun _ => True) ?hr ?hp (fun _ hk => hk) trivial (Below.refl _ _) (Nat.le_refl _) (by simp) ?_;(case hd => rfl);(case hg => rfl);(case hr => first|(go_simp;done)|(go_simp;rfl));(case hp => exact (Reps.none _ _))
                          intro v305 w98 ho99 hb hg_ hnew_
                          clear hg_ hnew_
                          (first|rw [← Ny304.out] at ho99|(simp only [Int.reduceToNat] at ho99;rw [← Ny304.out] at ho99))
                          have n0_:=am_ (Kd.R_elder' (by (with_reducible repeat (first|apply ra_|apply rn_|apply rd_));exact HO_7.out) (Kd.R_base ho99) hb)
                          have n1_:=am_ (Kd.V_elder' (by (with_reducible repeat (first|apply Kd.V_alloc|apply Kd.V_drewN|apply Kd.V_drew));exact HO_251003.out) (Kd.R_base ho99) hb)
                          have n2_:=am_ (Kd.V_elder' (by (with_reducible repeat (first|apply Kd.V_alloc|apply Kd.V_drewN|apply Kd.V_drew));exact HO_251004.out) (Kd.R_base ho99) hb)
                          have n3_:=am_ (Kd.R_lower (Kd.R_newB (Kd.R_new' ho99 (Kd.R_lt (by (with_reducible repeat (first|apply ra_|apply rn_|apply rd_));exact HO_7.out))) (g:=gb303) (o:=.cells #[.int .u64 ((rd_T57 x7_2 (ji78)).f0),.int .i64 ((rd_T57 x7_2 (ji78)).f1),.bool ((rd_T57 x7_2 (ji78)).f2)] 57 (0,0)) (by (with_reducible repeat (first|refine kn_ ?_ _|refine kd_ ?_|refine ka_ ?_ _));exact BK303.out)) (below_size (by repeat (first|(with_reducible first|exact HB.out|apply ba_|apply pn_|apply pd_|refine bs_ ?_ GE250.out|refine bs_ ?_ GE303.out)|exact HB.out))))
                          have n4_:=am_ (blk_below (g:=gb250) (o:=.cells #[.int .u64 x251000_2,.int .u64 x251001_2,.string x251002_2,u251003,u251004,.bool x251005_2,.bool x251006_2,.bool x251007_2] 29 (0,0)) (by (with_reducible repeat (first|refine kn_ ?_ _|refine kd_ ?_|refine ka_ ?_ _));exact BK250.out) hb)
                          have n5_:=am_ (blk_below (g:=gb303) (o:=.cells #[.int .u64 ((rd_T57 x7_2 (ji78)).f0),.int .i64 ((rd_T57 x7_2 (ji78)).f1),.bool ((rd_T57 x7_2 (ji78)).f2)] 57 (0,0)) (by (with_reducible repeat (first|refine kn_ ?_ _|refine kd_ ?_|refine ka_ ?_ _));exact BK303.out) hb)
                          have n6_:=am_ (Kd.C_below (by repeat (first|(with_reducible exact HR310.out)|(with_reducible refine Kd.C_alloc ?_ _)|(with_reducible refine Kd.C_drewN ?_ _)|(with_reducible refine Kd.C_drew ?_)|exact HR310.out)) hb)
                          have n7_:=am_ (Kd.C_below (by repeat (first|(with_reducible exact HR317.out)|(with_reducible refine Kd.C_alloc ?_ _)|(with_reducible refine Kd.C_drewN ?_ _)|(with_reducible refine Kd.C_drew ?_)|exact HR317.out)) hb)
                          have n8_:=am_ (below_step (by repeat (first|(with_reducible first|exact HB.out|apply ba_|apply pn_|apply pd_|refine bs_ ?_ GE250.out|refine bs_ ?_ GE303.out)|exact HB.out)) hb)
                          clear HO_7
                          clear HO_251003
                          clear HO_251004
                          clear BK250
                          clear BK303
                          clear HR310
                          clear HR317
                          clear HB
                          have HO_7:=n0_
                          have HO_251003:=n1_
                          have HO_251004:=n2_
                          have HO306:=n3_
                          have BK250:=n4_
                          have BK303:=n5_
                          have HR310:=n6_
                          have HR317:=n7_
                          have HB:=n8_
                          clear n0_ n1_ n2_ n3_ n4_ n5_ n6_ n7_ n8_
                          clear hb ho99
                          refine hK.out _ _ trivial (fun hHeld => ?_)
                          clear hK K
                          refine norm_ (a':=?_) ?_ ?_
                          rotate_left
                          ·show Act.put _ (some 146) _ = _
                           simp only [Act.put,ps_,i64_w,i32_w]
                           rfl
                          refine one_ (i:=4) (N:=some 150) #[T_,T_,T_,T_,T_,T_,T_,T_,T_,F_,F_] rfl rfl (one_of HT_.out (by kernel_rfl)) (by decide) (fun K hK => ?_)
                          refine Kd.R_append_rows_step k57 (w0:=w) w.heap.size (by rfl) (.tmp 146) (.tmp 149) 55 57 (.agg #[(.int .u64 0),(.int .i64 0),(.bool false)]) 24 rfl Try.underlying55 info57 rfl (by decide) (by omega) v305 y304 y307 _ _ _ (fun k_ => some k_ ≠ (.slice (some ad302) x7_2.length co90 : Value).ownBlock ∧ k_ ≠ gb303) (fun _ => False) rfl rfl ?aO ?aR (fun _ _ h => h) (fun _ h => h.elim) ?aF ?aB ?aS ?aL ?_
                          (case aR => repeat (first|exact (by repeat (first|(with_reducible exact HR310.out)|(with_reducible refine Kd.C_alloc ?_ _)|(with_reducible refine Kd.C_drewN ?_ _)|(with_reducible refine Kd.C_drew ?_)|exact HR310.out))|(with_reducible refine Kd.C_alloc ?_ _)|(with_reducible refine Kd.C_drewN ?_ _)|(with_reducible refine Kd.C_drew ?_)))
                          (case aB => exact (by repeat (first|(with_reducible first|exact HB.out|apply ba_|apply pn_|apply pd_|refine bs_ ?_ GE250.out|refine bs_ ?_ GE303.out)|exact HB.out)))
                          (case aF => exact (fun k_ hk => ⟨Kd.fresh' (Kd.R_lt (by (with_reducible repeat (first|apply ra_|apply rn_|apply rd_));exact HO_7.out)) k_ hk,Kd.freshB (g:=gb303) (o:=.cells #[.int .u64 ((rd_T57 x7_2 (ji78)).f0),.int .i64 ((rd_T57 x7_2 (ji78)).f1),.bool ((rd_T57 x7_2 (ji78)).f2)] 57 (0,0)) (by (with_reducible repeat (first|refine kn_ ?_ _|refine kd_ ?_|refine ka_ ?_ _));exact BK303.out) k_ hk⟩))
                          (case aO => exact (by (with_reducible repeat (first|apply ra_|apply rn_|apply rd_));exact Kd.R_mono HO306.out (fun _ hk => ⟨hk.1.2,hk.2⟩)))
                          (case aS => exact (below_size (by repeat (first|(with_reducible first|exact HB.out|apply ba_|apply pn_|apply pd_|refine bs_ ?_ GE250.out|refine bs_ ?_ GE303.out)|exact HB.out))))
                          (case aL => have:=LMc83.out;omega)
                          intro v312 w100 ho hb hg hat
                          rw [← Ny311.out] at ho
                          have n0_:=am_ (Kd.R_after (ok:=(fun k_ => k_ ≠ gb303)) (by (with_reducible repeat (first|apply ra_|apply rn_|apply rd_));exact HO_7.out) hg hat)
                          have n1_:=am_ (Kd.V_afterv (ok:=(fun k_ => some k_ ≠ (.slice (some ad302) x7_2.length co90 : Value).ownBlock ∧ k_ ≠ gb250 ∧ k_ ≠ gb303)) (by (with_reducible repeat (first|apply Kd.V_alloc|apply Kd.V_drewN|apply Kd.V_drew));exact HO_251003.out) hg hat)
                          have n2_:=am_ (Kd.V_afterv (ok:=(fun k_ => some k_ ≠ (.slice (some ad302) x7_2.length co90 : Value).ownBlock ∧ k_ ≠ gb250 ∧ k_ ≠ gb303)) (by (with_reducible repeat (first|apply Kd.V_alloc|apply Kd.V_drewN|apply Kd.V_drew));exact HO_251004.out) hg hat)
                          have n3_:=am_ (blk_grown (g:=gb250) (o:=.cells #[.int .u64 x251000_2,.int .u64 x251001_2,.string x251002_2,u251003,u251004,.bool x251005_2,.bool x251006_2,.bool x251007_2] 29 (0,0)) (by (with_reducible repeat (first|refine kn_ ?_ _|refine kd_ ?_|refine ka_ ?_ _));exact BK250.out) hg (Kd.R_ne HO306.out BK250.out (by decide)))
                          have n4_:=am_ (blk_grown (g:=gb303) (o:=.cells #[.int .u64 ((rd_T57 x7_2 (ji78)).f0),.int .i64 ((rd_T57 x7_2 (ji78)).f1),.bool ((rd_T57 x7_2 (ji78)).f2)] 57 (0,0)) (by (with_reducible repeat (first|refine kn_ ?_ _|refine kd_ ?_|refine ka_ ?_ _));exact BK303.out) hg (Kd.R_away HO306.out (fun _ hk => hk.2)))
                          have n5_:=am_ (hb)
                          have n6_:=am_ ((show Kd.C k57 w100 (some ad302) y307.length y307 from by rw [Ny307.out];exact Kd.C_take (m:=((ji78) : Int).toNat) ((Kd.R_reads' (Kd.R_after (ok:=(fun k_ => k_ ≠ gb303)) (by (with_reducible repeat (first|apply ra_|apply rn_|apply rd_));exact HO_7.out) hg hat)).2.2) KL96.out))
                          have n7_:=am_ ((show Kd.C k57 w100 A97 y314.length y314 from by rw [Ny314.out,KA97.out];exact Kd.C_drop (m:=((ji84) : Int).toNat) (c:=co90) ((Kd.R_reads' (Kd.R_after (ok:=(fun k_ => k_ ≠ gb303)) (by (with_reducible repeat (first|apply ra_|apply rn_|apply rd_));exact HO_7.out) hg hat)).2.2) KL97.out ((Kd.R_reads' (Kd.R_after (ok:=(fun k_ => k_ ≠ gb303)) (by (with_reducible repeat (first|apply ra_|apply rn_|apply rd_));exact HO_7.out) hg hat)).2.1)))
                          have n8_:=am_ (ho)
                          clear HO_7
                          clear HO_251003
                          clear HO_251004
                          clear BK250
                          clear BK303
                          clear HB
                          clear HR310
                          clear HR317
                          clear HO306
                          have HO_7:=n0_
                          have HO_251003:=n1_
                          have HO_251004:=n2_
                          have BK250:=n3_
                          have BK303:=n4_
                          have HB:=n5_
                          have HR310:=n6_
                          have HR317:=n7_
                          have HO313:=n8_
                          clear n0_ n1_ n2_ n3_ n4_ n5_ n6_ n7_ n8_
                          clear ho hb hg hat
                          refine hK.out _ _ trivial (fun hHeld => ?_)
                          clear hK K
                          refine norm_ (a':=?_) ?_ ?_
                          rotate_left
                          ·show Act.put _ (some 150) _ = _
                           simp only [Act.put,ps_,i64_w,i32_w]
                           rfl
                          refine one_ (i:=9) (N:=some 155) #[T_,T_,T_,T_,T_,T_,T_,T_,T_,T_,F_] rfl rfl (one_of HT_.out (by kernel_rfl)) (by decide) (fun K hK => ?_)
                          refine Kd.R_append_rows_step k57 (w0:=w) w.heap.size (by rfl) (.tmp 150) (.tmp 154) 55 57 (.agg #[(.int .u64 0),(.int .i64 0),(.bool false)]) 24 rfl Try.underlying55 info57 rfl (by decide) (by omega) v312 y311 y314 _ _ _ (fun k_ => some k_ ≠ (.slice (some ad302) x7_2.length co90 : Value).ownBlock ∧ k_ ≠ gb303) (fun _ => False) rfl rfl ?aO ?aR (fun _ _ h => h) (fun _ h => h.elim) ?aF ?aB ?aS ?aL ?_
                          (case aR => repeat (first|exact (by repeat (first|(with_reducible exact HR317.out)|(with_reducible refine Kd.C_alloc ?_ _)|(with_reducible refine Kd.C_drewN ?_ _)|(with_reducible refine Kd.C_drew ?_)|exact HR317.out))|(with_reducible refine Kd.C_alloc ?_ _)|(with_reducible refine Kd.C_drewN ?_ _)|(with_reducible refine Kd.C_drew ?_)))
                          (case aB => exact (by repeat (first|(with_reducible first|exact HB.out|apply ba_|apply pn_|apply pd_|refine bs_ ?_ GE250.out|refine bs_ ?_ GE303.out)|exact HB.out)))
                          (case aF => exact (fun k_ hk => ⟨Kd.fresh' (Kd.R_lt (by (with_reducible repeat (first|apply ra_|apply rn_|apply rd_));exact HO_7.out)) k_ hk,Kd.freshB (g:=gb303) (o:=.cells #[.int .u64 ((rd_T57 x7_2 (ji78)).f0),.int .i64 ((rd_T57 x7_2 (ji78)).f1),.bool ((rd_T57 x7_2 (ji78)).f2)] 57 (0,0)) (by (with_reducible repeat (first|refine kn_ ?_ _|refine kd_ ?_|refine ka_ ?_ _));exact BK303.out) k_ hk⟩))
                          (case aO => exact (by (with_reducible repeat (first|apply ra_|apply rn_|apply rd_));exact HO313.out))
                          (case aS => exact (below_size (by repeat (first|(with_reducible first|exact HB.out|apply ba_|apply pn_|apply pd_|refine bs_ ?_ GE250.out|refine bs_ ?_ GE303.out)|exact HB.out))))
                          (case aL => have:=LMc87.out;omega)
                          intro v319 w101 ho hb hg hat
                          rw [← Ny318.out] at ho
                          have n0_:=am_ (Kd.R_after (ok:=(fun k_ => k_ ≠ gb303)) (by (with_reducible repeat (first|apply ra_|apply rn_|apply rd_));exact HO_7.out) hg hat)
                          have n1_:=am_ (Kd.V_afterv (ok:=(fun k_ => some k_ ≠ (.slice (some ad302) x7_2.length co90 : Value).ownBlock ∧ k_ ≠ gb250 ∧ k_ ≠ gb303)) (by (with_reducible repeat (first|apply Kd.V_alloc|apply Kd.V_drewN|apply Kd.V_drew));exact HO_251003.out) hg hat)
                          have n2_:=am_ (Kd.V_afterv (ok:=(fun k_ => some k_ ≠ (.slice (some ad302) x7_2.length co90 : Value).ownBlock ∧ k_ ≠ gb250 ∧ k_ ≠ gb303)) (by (with_reducible repeat (first|apply Kd.V_alloc|apply Kd.V_drewN|apply Kd.V_drew));exact HO_251004.out) hg hat)
                          have n3_:=am_ (blk_grown (g:=gb250) (o:=.cells #[.int .u64 x251000_2,.int .u64 x251001_2,.string x251002_2,u251003,u251004,.bool x251005_2,.bool x251006_2,.bool x251007_2] 29 (0,0)) (by (with_reducible repeat (first|refine kn_ ?_ _|refine kd_ ?_|refine ka_ ?_ _));exact BK250.out) hg (Kd.R_ne HO313.out BK250.out (by decide)))
                          have n4_:=am_ (blk_grown (g:=gb303) (o:=.cells #[.int .u64 ((rd_T57 x7_2 (ji78)).f0),.int .i64 ((rd_T57 x7_2 (ji78)).f1),.bool ((rd_T57 x7_2 (ji78)).f2)] 57 (0,0)) (by (with_reducible repeat (first|refine kn_ ?_ _|refine kd_ ?_|refine ka_ ?_ _));exact BK303.out) hg (Kd.R_away HO313.out (fun _ hk => hk.2)))
                          have n5_:=am_ (hb)
                          have n6_:=am_ ((show Kd.C k57 w101 (some ad302) y307.length y307 from by rw [Ny307.out];exact Kd.C_take (m:=((ji78) : Int).toNat) ((Kd.R_reads' (Kd.R_after (ok:=(fun k_ => k_ ≠ gb303)) (by (with_reducible repeat (first|apply ra_|apply rn_|apply rd_));exact HO_7.out) hg hat)).2.2) KL96.out))
                          have n7_:=am_ ((show Kd.C k57 w101 A97 y314.length y314 from by rw [Ny314.out,KA97.out];exact Kd.C_drop (m:=((ji84) : Int).toNat) (c:=co90) ((Kd.R_reads' (Kd.R_after (ok:=(fun k_ => k_ ≠ gb303)) (by (with_reducible repeat (first|apply ra_|apply rn_|apply rd_));exact HO_7.out) hg hat)).2.2) KL97.out ((Kd.R_reads' (Kd.R_after (ok:=(fun k_ => k_ ≠ gb303)) (by (with_reducible repeat (first|apply ra_|apply rn_|apply rd_));exact HO_7.out) hg hat)).2.1)))
                          have n8_:=am_ (ho)
                          clear HO_7
                          clear HO_251003
                          clear HO_251004
                          clear BK250
                          clear BK303
                          clear HB
                          clear HR310
                          clear HR317
                          clear HO313
                          have HO_7:=n0_
                          have HO_251003:=n1_
                          have HO_251004:=n2_
                          have BK250:=n3_
                          have BK303:=n4_
                          have HB:=n5_
                          have HR310:=n6_
                          have HR317:=n7_
                          have HO320:=n8_
                          clear n0_ n1_ n2_ n3_ n4_ n5_ n6_ n7_ n8_
                          clear ho hb hg hat
                          refine hK.out _ _ trivial (fun hHeld => ?_)
                          clear hK K
                          refine norm_ (a':=?_) ?_ ?_
                          rotate_left
                          ·show Act.put _ (some 155) _ = _
                           simp only [Act.put,ps_,i64_w,i32_w]
                           rfl
                          refine pure_ (i:=10) (N:=some 7) (v:=?_) (a':=?_) #[T_,T_,T_,T_,T_,T_,T_,T_,T_,T_,T_] rfl rfl (any_of HT_.out (by kernel_rfl)) (fun _ _ _ h => h) (Or.inl ⟨by rfl,?_⟩) ?_ ?_
                          rotate_left;(intro w';go_simp;with_reducible rfl);rotate_left;(simp only [Act.put,ps_,i64_w,i32_w];rfl)
                          refine done_ (done_of HT_.out (by kernel_rfl)) ?_
                          have hcz102_0 : w101.cell? ⟨gb250,0,none⟩ = some (.int .u64 x251000_2):=(kc_ BK250.out 0).trans rfl
                          have hcz102_1 : w101.cell? ⟨gb250,1,none⟩ = some (.int .u64 x251001_2):=(kc_ BK250.out 1).trans rfl
                          have hcz102_2 : w101.cell? ⟨gb250,2,none⟩ = some (.string x251002_2):=(kc_ BK250.out 2).trans rfl
                          have hcz102_3 : w101.cell? ⟨gb250,3,none⟩ = some (u251003):=(kc_ BK250.out 3).trans rfl
                          have hcz102_4 : w101.cell? ⟨gb250,4,none⟩ = some (u251004):=(kc_ BK250.out 4).trans rfl
                          have hcz102_5 : w101.cell? ⟨gb250,5,none⟩ = some (.bool x251005_2):=(kc_ BK250.out 5).trans rfl
                          have hcz102_6 : w101.cell? ⟨gb250,6,none⟩ = some (.bool x251006_2):=(kc_ BK250.out 6).trans rfl
                          have hcz102_7 : w101.cell? ⟨gb250,7,none⟩ = some (.bool x251007_2):=(kc_ BK250.out 7).trans rfl
                          have hfz102_0:=blk_frozen BK250.out 0
                          have hfz102_1:=blk_frozen BK250.out 1
                          have hfz102_2:=blk_frozen BK250.out 2
                          have hfz102_3:=blk_frozen BK250.out 3
                          have hfz102_4:=blk_frozen BK250.out 4
                          have hfz102_5:=blk_frozen BK250.out 5
                          have hfz102_6:=blk_frozen BK250.out 6
                          have hfz102_7:=blk_frozen BK250.out 7
                          have hcz103_0 : w101.cell? ⟨gb303,0,none⟩ = some (.int .u64 ((rd_T57 x7_2 (ji78)).f0)):=(kc_ BK303.out 0).trans rfl
                          have hcz103_1 : w101.cell? ⟨gb303,1,none⟩ = some (.int .i64 ((rd_T57 x7_2 (ji78)).f1)):=(kc_ BK303.out 1).trans rfl
                          have hcz103_2 : w101.cell? ⟨gb303,2,none⟩ = some (.bool ((rd_T57 x7_2 (ji78)).f2)):=(kc_ BK303.out 2).trans rfl
                          have hfz103_0:=blk_frozen BK303.out 0
                          have hfz103_1:=blk_frozen BK303.out 1
                          have hfz103_2:=blk_frozen BK303.out 2
                          obtain ⟨Ao104,co104,eo104⟩:=Kd.V_slice HO_251003.out
                          subst eo104
                          obtain ⟨Ao105,co105,eo105⟩:=Kd.V_slice HO_251004.out
                          subst eo105
                          try go_wp2_with (first|((with_reducible refine gate_callee (f:=20) rfl ?_);refine goesL_ (some 166) rfl rfl Try.func20 (by kernel_rfl) rfl #[.agg #[.int .u64 x251000_2,.int .u64 x251001_2,.string x251002_2,.slice Ao104 x251003_2.length co104,.slice Ao105 x251004_2.length co105,.bool x251005_2,.bool x251006_2,.bool x251007_2],.int .u64 ((rd_T57 x7_2 (ji78)).f0),.int .i64 ((rd_T57 x7_2 (ji78)).f1),.bool ((rd_T57 x7_2 (ji78)).f2)] rfl (by (try simp only [List.map_toArray,List.map_cons,List.map_nil]);first|done|(simp only [hji78];rfl)|rfl|(simp only [List.length_drop,List.length_take];rfl)) ?_;(with_reducible refine (sendq_Acked.calls kj35 x251000_2 x251001_2 x251002_2 (fun k_ => ((some k_ ≠ (.slice (some ad302) x7_2.length co90 : Value).ownBlock ∧ (k_ ≠ gb250 ∧ k_ ≠ gb303)) ∧ some k_ ≠ (v319 : Value).ownBlock)) _ _ x251003_2 (fun k_ => ((some k_ ≠ (.slice (some ad302) x7_2.length co90 : Value).ownBlock ∧ (k_ ≠ gb250 ∧ k_ ≠ gb303)) ∧ some k_ ≠ (v319 : Value).ownBlock)) _ _ x251004_2 x251005_2 x251006_2 x251007_2 ((rd_T57 x7_2 (ji78)).f0) ((rd_T57 x7_2 (ji78)).f1) ((rd_T57 x7_2 (ji78)).f2) t321 t322 t323 t324 t327 t330 t331 t332 _ ?side1 ?side2 A89.out).mono ?_);(case side1 => exact HO_251003.out);(case side2 => exact HO_251004.out);rintro e w106 ⟨v325,v328,rfl,ho0,ho1,hb⟩;refine ⟨_,rfl,?_⟩;have n0_:=am_ (Kd.R_below (by (with_reducible repeat (first|apply ra_|apply rn_|apply rd_));exact HO_7.out) hb);have n1_:=am_ (Kd.V_below (by (with_reducible repeat (first|apply Kd.V_alloc|apply Kd.V_drewN|apply Kd.V_drew));exact HO_251003.out) hb);have n2_:=am_ (Kd.V_below (by (with_reducible repeat (first|apply Kd.V_alloc|apply Kd.V_drewN|apply Kd.V_drew));exact HO_251004.out) hb);have n3_:=am_ (Kd.R_below (by (with_reducible repeat (first|apply ra_|apply rn_|apply rd_));exact HO320.out) hb);have n4_:=am_ (Kd.V_lower (Kd.V_mono (ok':=fun k_ => some k_ ≠ (.slice (some ad302) x7_2.length co90 : Value).ownBlock ∧ some k_ ≠ (v319 : Value).ownBlock ∧ k_ ≠ gb250 ∧ k_ ≠ gb303) ho0 (fun k_ hk_ => ⟨Or.elim hk_ (fun hs_ => Or.elim hs_ (fun hs_ => hs_.1.1) (fun hs_ => hs_.1.1)) (fun hn_ => (Kd.fresh' (Kd.R_lt (by (with_reducible repeat (first|apply ra_|apply rn_|apply rd_));exact HO_7.out)) k_ hn_)),Or.elim hk_ (fun hs_ => Or.elim hs_ (fun hs_ => hs_.2) (fun hs_ => hs_.2)) (fun hn_ => (Kd.fresh' (Kd.R_lt (by (with_reducible repeat (first|apply ra_|apply rn_|apply rd_));exact HO320.out)) k_ hn_)),Or.elim hk_ (fun hs_ => Or.elim hs_ (fun hs_ => hs_.1.2.1) (fun hs_ => hs_.1.2.1)) (fun hn_ => (Kd.freshB (g:=gb250) (o:=.cells #[.int .u64 x251000_2,.int .u64 x251001_2,.string x251002_2,.slice Ao104 x251003_2.length co104,.slice Ao105 x251004_2.length co105,.bool x251005_2,.bool x251006_2,.bool x251007_2] 29 (0,0)) (by (with_reducible repeat (first|refine kn_ ?_ _|refine kd_ ?_|refine ka_ ?_ _));exact BK250.out) k_ hn_)),Or.elim hk_ (fun hs_ => Or.elim hs_ (fun hs_ => hs_.1.2.2) (fun hs_ => hs_.1.2.2)) (fun hn_ => (Kd.freshB (g:=gb303) (o:=.cells #[.int .u64 ((rd_T57 x7_2 (ji78)).f0),.int .i64 ((rd_T57 x7_2 (ji78)).f1),.bool ((rd_T57 x7_2 (ji78)).f2)] 57 (0,0)) (by (with_reducible repeat (first|refine kn_ ?_ _|refine kd_ ?_|refine ka_ ?_ _));exact BK303.out) k_ hn_))⟩)) (below_size (by repeat (first|(with_reducible first|exact HB.out|apply ba_|apply pn_|apply pd_|refine bs_ ?_ GE250.out|refine bs_ ?_ GE303.out)|exact HB.out))));have n5_:=am_ (Kd.V_lower (Kd.V_mono (ok':=fun k_ => some k_ ≠ (.slice (some ad302) x7_2.length co90 : Value).ownBlock ∧ some k_ ≠ (v319 : Value).ownBlock ∧ k_ ≠ gb250 ∧ k_ ≠ gb303) ho1 (fun k_ hk_ => ⟨Or.elim hk_ (fun hs_ => Or.elim hs_ (fun hs_ => hs_.1.1) (fun hs_ => hs_.1.1)) (fun hn_ => (Kd.fresh' (Kd.R_lt (by (with_reducible repeat (first|apply ra_|apply rn_|apply rd_));exact HO_7.out)) k_ hn_)),Or.elim hk_ (fun hs_ => Or.elim hs_ (fun hs_ => hs_.2) (fun hs_ => hs_.2)) (fun hn_ => (Kd.fresh' (Kd.R_lt (by (with_reducible repeat (first|apply ra_|apply rn_|apply rd_));exact HO320.out)) k_ hn_)),Or.elim hk_ (fun hs_ => Or.elim hs_ (fun hs_ => hs_.1.2.1) (fun hs_ => hs_.1.2.1)) (fun hn_ => (Kd.freshB (g:=gb250) (o:=.cells #[.int .u64 x251000_2,.int .u64 x251001_2,.string x251002_2,.slice Ao104 x251003_2.length co104,.slice Ao105 x251004_2.length co105,.bool x251005_2,.bool x251006_2,.bool x251007_2] 29 (0,0)) (by (with_reducible repeat (first|refine kn_ ?_ _|refine kd_ ?_|refine ka_ ?_ _));exact BK250.out) k_ hn_)),Or.elim hk_ (fun hs_ => Or.elim hs_ (fun hs_ => hs_.1.2.2) (fun hs_ => hs_.1.2.2)) (fun hn_ => (Kd.freshB (g:=gb303) (o:=.cells #[.int .u64 ((rd_T57 x7_2 (ji78)).f0),.int .i64 ((rd_T57 x7_2 (ji78)).f1),.bool ((rd_T57 x7_2 (ji78)).f2)] 57 (0,0)) (by (with_reducible repeat (first|refine kn_ ?_ _|refine kd_ ?_|refine ka_ ?_ _));exact BK303.out) k_ hn_))⟩)) (below_size (by repeat (first|(with_reducible first|exact HB.out|apply ba_|apply pn_|apply pd_|refine bs_ ?_ GE250.out|refine bs_ ?_ GE303.out)|exact HB.out))));have n6_:=am_ (blk_below (g:=gb250) (o:=.cells #[.int .u64 x251000_2,.int .u64 x251001_2,.string x251002_2,.slice Ao104 x251003_2.length co104,.slice Ao105 x251004_2.length co105,.bool x251005_2,.bool x251006_2,.bool x251007_2] 29 (0,0)) (by (with_reducible repeat (first|refine kn_ ?_ _|refine kd_ ?_|refine ka_ ?_ _));exact BK250.out) hb);have n7_:=am_ (blk_below (g:=gb303) (o:=.cells #[.int .u64 ((rd_T57 x7_2 (ji78)).f0),.int .i64 ((rd_T57 x7_2 (ji78)).f1),.bool ((rd_T57 x7_2 (ji78)).f2)] 57 (0,0)) (by (with_reducible repeat (first|refine kn_ ?_ _|refine kd_ ?_|refine ka_ ?_ _));exact BK303.out) hb);have n8_:=am_ (Kd.C_below (by repeat (first|(with_reducible exact HR310.out)|(with_reducible refine Kd.C_alloc ?_ _)|(with_reducible refine Kd.C_drewN ?_ _)|(with_reducible refine Kd.C_drew ?_)|exact HR310.out)) hb);have n9_:=am_ (Kd.C_below (by repeat (first|(with_reducible exact HR317.out)|(with_reducible refine Kd.C_alloc ?_ _)|(with_reducible refine Kd.C_drewN ?_ _)|(with_reducible refine Kd.C_drew ?_)|exact HR317.out)) hb);have n10_:=am_ (below_step (by repeat (first|(with_reducible first|exact HB.out|apply ba_|apply pn_|apply pd_|refine bs_ ?_ GE250.out|refine bs_ ?_ GE303.out)|exact HB.out)) hb);clear HO_7;clear HO_251003;clear HO_251004;clear HO320;clear BK250;clear BK303;clear HR310;clear HR317;clear HB;have HO_7:=n0_;have HO_251003:=n1_;have HO_251004:=n2_;have HO320:=n3_;have HO326:=n4_;have HO329:=n5_;have BK250:=n6_;have BK303:=n7_;have HR310:=n8_;have HR317:=n9_;have HB:=n10_;clear n0_ n1_ n2_ n3_ n4_ n5_ n6_ n7_ n8_ n9_ n10_;(try clear hb);(try clear hb2);(try clear hk);(try clear hi);(try clear ho0);(try clear ho1);have hcz107_0 : w106.cell? ⟨gb250,0,none⟩ = some (.int .u64 x251000_2):=(kc_ BK250.out 0).trans rfl;have hcz107_1 : w106.cell? ⟨gb250,1,none⟩ = some (.int .u64 x251001_2):=(kc_ BK250.out 1).trans rfl;have hcz107_2 : w106.cell? ⟨gb250,2,none⟩ = some (.string x251002_2):=(kc_ BK250.out 2).trans rfl;have hcz107_3 : w106.cell? ⟨gb250,3,none⟩ = some (.slice Ao104 x251003_2.length co104):=(kc_ BK250.out 3).trans rfl;have hcz107_4 : w106.cell? ⟨gb250,4,none⟩ = some (.slice Ao105 x251004_2.length co105):=(kc_ BK250.out 4).trans rfl;have hcz107_5 : w106.cell? ⟨gb250,5,none⟩ = some (.bool x251005_2):=(kc_ BK250.out 5).trans rfl;have hcz107_6 : w106.cell? ⟨gb250,6,none⟩ = some (.bool x251006_2):=(kc_ BK250.out 6).trans rfl;have hcz107_7 : w106.cell? ⟨gb250,7,none⟩ = some (.bool x251007_2):=(kc_ BK250.out 7).trans rfl;have hfz107_0:=blk_frozen BK250.out 0;have hfz107_1:=blk_frozen BK250.out 1;have hfz107_2:=blk_frozen BK250.out 2;have hfz107_3:=blk_frozen BK250.out 3;have hfz107_4:=blk_frozen BK250.out 4;have hfz107_5:=blk_frozen BK250.out 5;have hfz107_6:=blk_frozen BK250.out 6;have hfz107_7:=blk_frozen BK250.out 7;obtain ⟨Ao108,co108,eo108⟩:=Kd.V_slice HO326.out;subst eo108;obtain ⟨Ao109,co109,eo109⟩:=Kd.V_slice HO329.out;subst eo109))
                          go_roundg kj35
                          case measure => have:=HJ2.out;have:=HK2.out;have:=HJ27.out;have:=HJ30.out;have:=HJ33.out;have:=HJ35.out;omega
                          case rel => exact ⟨(y318),(wrap64 (x8_2 + 1)),(t321),(t322),(t323),(t324),(t327),(t330),(t331),(t332),(.slice Ao108 t324.length co108),(.slice Ao109 t327.length co109),(by first|rfl|(simp;done)|(simp [*];done)),H',⟨by have:=HJ2.out;have:=HK2.out;have:=HJ27.out;have:=HJ30.out;have:=HJ33.out;have:=HJ35.out;omega⟩,⟨by (with_reducible repeat (first|apply ra_|apply rn_|apply rd_));exact Kd.R_mono (Kd.R_far (p:=⟨gb250,7,none⟩) (Kd.R_far (p:=⟨gb250,6,none⟩) (Kd.R_far (p:=⟨gb250,5,none⟩) (Kd.R_far (p:=⟨gb250,4,none⟩) (Kd.R_far (p:=⟨gb250,3,none⟩) (Kd.R_far (p:=⟨gb250,2,none⟩) (Kd.R_far (p:=⟨gb250,1,none⟩) (Kd.R_far (p:=⟨gb250,0,none⟩) (Kd.R_types HO320.out BK250.out (by decide)) (fun _ hk => hk.2) (.int .u64 t321)) (fun _ hk => hk.2) (.int .u64 t322)) (fun _ hk => hk.2) (.string t323)) (fun _ hk => hk.2) (.slice Ao108 t324.length co108)) (fun _ hk => hk.2) (.slice Ao109 t327.length co109)) (fun _ hk => hk.2) (.bool t330)) (fun _ hk => hk.2) (.bool t331)) (fun _ hk => hk.2) (.bool t332)) (fun _ hk => trivial)⟩,⟨by (with_reducible repeat (first|apply Kd.V_alloc|apply Kd.V_drewN|apply Kd.V_drew));exact Kd.V_mono (Kd.V_far (p:=⟨gb250,7,none⟩) (Kd.V_far (p:=⟨gb250,6,none⟩) (Kd.V_far (p:=⟨gb250,5,none⟩) (Kd.V_far (p:=⟨gb250,4,none⟩) (Kd.V_far (p:=⟨gb250,3,none⟩) (Kd.V_far (p:=⟨gb250,2,none⟩) (Kd.V_far (p:=⟨gb250,1,none⟩) (Kd.V_far (p:=⟨gb250,0,none⟩) (Kd.V_mono HO326.out (fun k_ hk => (⟨hk,hk.2.2.1⟩ : _ ∧ k_ ≠ gb250))) (fun _ hk => hk.2) (.int .u64 t321)) (fun _ hk => hk.2) (.int .u64 t322)) (fun _ hk => hk.2) (.string t323)) (fun _ hk => hk.2) (.slice Ao108 t324.length co108)) (fun _ hk => hk.2) (.slice Ao109 t327.length co109)) (fun _ hk => hk.2) (.bool t330)) (fun _ hk => hk.2) (.bool t331)) (fun _ hk => hk.2) (.bool t332)) (fun _ hk => ⟨hk.1.2.1,hk.1.2.2.1⟩)⟩,⟨by (with_reducible repeat (first|apply Kd.V_alloc|apply Kd.V_drewN|apply Kd.V_drew));exact Kd.V_mono (Kd.V_far (p:=⟨gb250,7,none⟩) (Kd.V_far (p:=⟨gb250,6,none⟩) (Kd.V_far (p:=⟨gb250,5,none⟩) (Kd.V_far (p:=⟨gb250,4,none⟩) (Kd.V_far (p:=⟨gb250,3,none⟩) (Kd.V_far (p:=⟨gb250,2,none⟩) (Kd.V_far (p:=⟨gb250,1,none⟩) (Kd.V_far (p:=⟨gb250,0,none⟩) (Kd.V_mono HO329.out (fun k_ hk => (⟨hk,hk.2.2.1⟩ : _ ∧ k_ ≠ gb250))) (fun _ hk => hk.2) (.int .u64 t321)) (fun _ hk => hk.2) (.int .u64 t322)) (fun _ hk => hk.2) (.string t323)) (fun _ hk => hk.2) (.slice Ao108 t324.length co108)) (fun _ hk => hk.2) (.slice Ao109 t327.length co109)) (fun _ hk => hk.2) (.bool t330)) (fun _ hk => hk.2) (.bool t331)) (fun _ hk => hk.2) (.bool t332)) (fun _ hk => ⟨hk.1.2.1,hk.1.2.2.1⟩)⟩,⟨by (with_reducible repeat (first|refine kn_ ?_ _|refine kd_ ?_|refine ka_ ?_ _));refine blk_put (cs:=#[.int .u64 t321,.int .u64 t322,.string t323,.slice Ao108 t324.length co108,.slice Ao109 t327.length co109,.bool t330,.bool t331,.bool x251007_2]) ?_ 7 _ rfl;(with_reducible repeat (first|refine kn_ ?_ _|refine kd_ ?_|refine ka_ ?_ _));refine blk_put (cs:=#[.int .u64 t321,.int .u64 t322,.string t323,.slice Ao108 t324.length co108,.slice Ao109 t327.length co109,.bool t330,.bool x251006_2,.bool x251007_2]) ?_ 6 _ rfl;(with_reducible repeat (first|refine kn_ ?_ _|refine kd_ ?_|refine ka_ ?_ _));refine blk_put (cs:=#[.int .u64 t321,.int .u64 t322,.string t323,.slice Ao108 t324.length co108,.slice Ao109 t327.length co109,.bool x251005_2,.bool x251006_2,.bool x251007_2]) ?_ 5 _ rfl;(with_reducible repeat (first|refine kn_ ?_ _|refine kd_ ?_|refine ka_ ?_ _));refine blk_put (cs:=#[.int .u64 t321,.int .u64 t322,.string t323,.slice Ao108 t324.length co108,.slice Ao105 x251004_2.length co105,.bool x251005_2,.bool x251006_2,.bool x251007_2]) ?_ 4 _ rfl;(with_reducible repeat (first|refine kn_ ?_ _|refine kd_ ?_|refine ka_ ?_ _));refine blk_put (cs:=#[.int .u64 t321,.int .u64 t322,.string t323,.slice Ao104 x251003_2.length co104,.slice Ao105 x251004_2.length co105,.bool x251005_2,.bool x251006_2,.bool x251007_2]) ?_ 3 _ rfl;(with_reducible repeat (first|refine kn_ ?_ _|refine kd_ ?_|refine ka_ ?_ _));refine blk_put (cs:=#[.int .u64 t321,.int .u64 t322,.string x251002_2,.slice Ao104 x251003_2.length co104,.slice Ao105 x251004_2.length co105,.bool x251005_2,.bool x251006_2,.bool x251007_2]) ?_ 2 _ rfl;(with_reducible repeat (first|refine kn_ ?_ _|refine kd_ ?_|refine ka_ ?_ _));refine blk_put (cs:=#[.int .u64 t321,.int .u64 x251001_2,.string x251002_2,.slice Ao104 x251003_2.length co104,.slice Ao105 x251004_2.length co105,.bool x251005_2,.bool x251006_2,.bool x251007_2]) ?_ 1 _ rfl;(with_reducible repeat (first|refine kn_ ?_ _|refine kd_ ?_|refine ka_ ?_ _));refine blk_put (cs:=#[.int .u64 x251000_2,.int .u64 x251001_2,.string x251002_2,.slice Ao104 x251003_2.length co104,.slice Ao105 x251004_2.length co105,.bool x251005_2,.bool x251006_2,.bool x251007_2]) ?_ 0 _ rfl;(with_reducible repeat (first|refine kn_ ?_ _|refine kd_ ?_|refine ka_ ?_ _));exact BK250.out⟩,⟨by repeat (first|(with_reducible first|exact HB.out|apply ba_|apply pn_|apply pd_|refine bs_ ?_ GE250.out|refine bs_ ?_ GE303.out)|exact HB.out)⟩⟩
                         ·rw [if_neg c88] at H
                          have c88b0 : ((Int.tmod x9_33 3) == 1) = false:=beq_eq_false_iff_ne.mpr c88
                          have c88b1 : ((Int.tmod x9_33 3) != 1) = true:=bne_iff_ne.mpr c88
                          replace H:=Option.bind_eq_some_iff.mp H
                          obtain ⟨⟨t333,t334,t335,t336,t339,t342,t343,t344⟩,A1100,H⟩:=H
                          replace H : (dominolaw15_SendqAll.l0 kj35 a0 l1 y318 (wrap64 (x8_2 + 1)) t333 t334 t335 t336 t339 t342 t343 t344) = some r:=H
                          have A110:=am_ A1100
                          clear A1100
                          have H':=am_ H
                          clear H
                          obtain ⟨Ao111,co111,eo111⟩:=Kd.R_slice HO_7.out
                          subst eo111
                          have p302 : 0 ≤ ((ji78) : Int):=of_decide_eq_true (by first|(with_reducible assumption)|assumption)
                          have q302 : (ji78) < (x7_2.length : Int):=of_decide_eq_true (by first|(with_reducible assumption)|assumption)
                          obtain ⟨ad302,e302,hx302_0,hx302_1,hx302_2⟩:=at_T57 (Kd.R_reads' HO_7.out).2.2 (ji78) p302 q302
                          cases e302
                          replace p302:=eq_true p302
                          replace q302:=eq_true q302
                          try go_wp2_with (first|((with_reducible refine gate_dst (N:=15) rfl ?_);(try (refine gate_guard (by rfl) ?_;dsimp only));refine box_event ?hg (N:=15) ?hd (cs:=#[.int .u64 0,.int .i64 0,.bool false]) (t:=57) ?hr ?_;(case hd => rfl);(case hg => rfl);(case hr => first|(go_simp;done)|(go_simp;rfl));intro gb303 hg w112 hbox hb;have n0_:=am_ (Kd.R_below (Kd.R_elderB (by (with_reducible repeat (first|apply ra_|apply rn_|apply rd_));exact HO_7.out) gb303 (Nat.le_of_eq hg.symm)) hb);have n1_:=am_ (Kd.V_below (Kd.V_elderB (by (with_reducible repeat (first|apply Kd.V_alloc|apply Kd.V_drewN|apply Kd.V_drew));exact HO_251003.out) gb303 (Nat.le_of_eq hg.symm)) hb);have n2_:=am_ (Kd.V_below (Kd.V_elderB (by (with_reducible repeat (first|apply Kd.V_alloc|apply Kd.V_drewN|apply Kd.V_drew));exact HO_251004.out) gb303 (Nat.le_of_eq hg.symm)) hb);have n3_:=am_ (blk_below (g:=gb250) (o:=.cells #[.int .u64 x251000_2,.int .u64 x251001_2,.string x251002_2,u251003,u251004,.bool x251005_2,.bool x251006_2,.bool x251007_2] 29 (0,0)) (by (with_reducible repeat (first|refine kn_ ?_ _|refine kd_ ?_|refine ka_ ?_ _));exact BK250.out) hb);have n4_:=am_ (below_step (by repeat (first|(with_reducible first|exact HB.out|apply ba_|apply pn_|apply pd_|refine bs_ ?_ GE250.out)|exact HB.out)) hb);have n5_:=am_ (hbox);have n6_:=am_ ((by rw [hg];exact (below_size (by repeat (first|(with_reducible first|exact HB.out|apply ba_|apply pn_|apply pd_|refine bs_ ?_ GE250.out)|exact HB.out))) : w.heap.size ≤ gb303));have n7_:=am_ ((by rw [hg];exact (below_size (by repeat (first|(with_reducible first|exact HB.out|apply ba_|apply pn_|apply pd_|refine bs_ ?_ GE250.out)|exact HB.out))) : w.heap.size ≤ gb303));have n8_:=am_ ((by rw [hg];exact Nat.ne_of_lt (blk_lt (g:=gb250) (o:=.cells #[.int .u64 x251000_2,.int .u64 x251001_2,.string x251002_2,u251003,u251004,.bool x251005_2,.bool x251006_2,.bool x251007_2] 29 (0,0)) (by (with_reducible repeat (first|refine kn_ ?_ _|refine kd_ ?_|refine ka_ ?_ _));exact BK250.out)) : gb250 ≠ gb303));have n9_:=am_ ((by rw [hg];exact Nat.ne_of_gt (blk_lt (g:=gb250) (o:=.cells #[.int .u64 x251000_2,.int .u64 x251001_2,.string x251002_2,u251003,u251004,.bool x251005_2,.bool x251006_2,.bool x251007_2] 29 (0,0)) (by (with_reducible repeat (first|refine kn_ ?_ _|refine kd_ ?_|refine ka_ ?_ _));exact BK250.out)) : gb303 ≠ gb250));clear HO_7;clear HO_251003;clear HO_251004;clear BK250;clear HB;have HO_7:=n0_;have HO_251003:=n1_;have HO_251004:=n2_;have BK250:=n3_;have HB:=n4_;have BK303:=n5_;have GW303:=n6_;have GE303:=n7_;have NB250_303:=n8_;have NB303_250:=n9_;clear n0_ n1_ n2_ n3_ n4_ n5_ n6_ n7_ n8_ n9_;clear hb hbox hg;have hnb113:=NB303_250.out;have hnc113:=NB250_303.out;have hcz114_0 : w112.cell? ⟨gb303,0,none⟩ = some (.int .u64 0):=(kc_ BK303.out 0).trans rfl;have hcz114_1 : w112.cell? ⟨gb303,1,none⟩ = some (.int .i64 0):=(kc_ BK303.out 1).trans rfl;have hcz114_2 : w112.cell? ⟨gb303,2,none⟩ = some (.bool false):=(kc_ BK303.out 2).trans rfl;have hfz114_0:=blk_frozen BK303.out 0;have hfz114_1:=blk_frozen BK303.out 1;have hfz114_2:=blk_frozen BK303.out 2; skip))
                          have n0_ : Aside0 (Kd.R k57 57 (((w112.setCell ⟨gb303,0,none⟩ (.int .u64 ((rd_T57 x7_2 (ji78)).f0))).setCell ⟨gb303,1,none⟩ (.int .i64 ((rd_T57 x7_2 (ji78)).f1))).setCell ⟨gb303,2,none⟩ (.bool ((rd_T57 x7_2 (ji78)).f2))) w.heap.size (fun k_ => k_ ≠ gb303) (.slice (some ad302) x7_2.length co111) x7_2):=⟨by (with_reducible repeat (first|apply ra_|apply rn_|apply rd_));exact Kd.R_mono (Kd.R_far (p:=⟨gb303,2,none⟩) (Kd.R_far (p:=⟨gb303,1,none⟩) (Kd.R_far (p:=⟨gb303,0,none⟩) (Kd.R_mono HO_7.out (fun k_ hk => (⟨hk,hk.2⟩ : _ ∧ k_ ≠ gb303))) (fun _ hk => hk.2) (.int .u64 ((rd_T57 x7_2 (ji78)).f0))) (fun _ hk => hk.2) (.int .i64 ((rd_T57 x7_2 (ji78)).f1))) (fun _ hk => hk.2) (.bool ((rd_T57 x7_2 (ji78)).f2))) (fun _ hk => hk.1.2)⟩
                          have n1_ : Aside0 (Kd.V k67 67 (((w112.setCell ⟨gb303,0,none⟩ (.int .u64 ((rd_T57 x7_2 (ji78)).f0))).setCell ⟨gb303,1,none⟩ (.int .i64 ((rd_T57 x7_2 (ji78)).f1))).setCell ⟨gb303,2,none⟩ (.bool ((rd_T57 x7_2 (ji78)).f2))) w.heap.size (fun k_ => some k_ ≠ (.slice (some ad302) x7_2.length co111 : Value).ownBlock ∧ k_ ≠ gb250 ∧ k_ ≠ gb303) u251003 x251003_2):=⟨by (with_reducible repeat (first|apply Kd.V_alloc|apply Kd.V_drewN|apply Kd.V_drew));exact Kd.V_mono (Kd.V_far (p:=⟨gb303,2,none⟩) (Kd.V_far (p:=⟨gb303,1,none⟩) (Kd.V_far (p:=⟨gb303,0,none⟩) (Kd.V_mono HO_251003.out (fun k_ hk => (⟨hk,hk.2⟩ : _ ∧ k_ ≠ gb303))) (fun _ hk => hk.2) (.int .u64 ((rd_T57 x7_2 (ji78)).f0))) (fun _ hk => hk.2) (.int .i64 ((rd_T57 x7_2 (ji78)).f1))) (fun _ hk => hk.2) (.bool ((rd_T57 x7_2 (ji78)).f2))) (fun _ hk => ⟨hk.1.1.1,⟨hk.1.1.2,hk.1.2⟩⟩)⟩
                          have n2_ : Aside0 (Kd.V k67 67 (((w112.setCell ⟨gb303,0,none⟩ (.int .u64 ((rd_T57 x7_2 (ji78)).f0))).setCell ⟨gb303,1,none⟩ (.int .i64 ((rd_T57 x7_2 (ji78)).f1))).setCell ⟨gb303,2,none⟩ (.bool ((rd_T57 x7_2 (ji78)).f2))) w.heap.size (fun k_ => some k_ ≠ (.slice (some ad302) x7_2.length co111 : Value).ownBlock ∧ k_ ≠ gb250 ∧ k_ ≠ gb303) u251004 x251004_2):=⟨by (with_reducible repeat (first|apply Kd.V_alloc|apply Kd.V_drewN|apply Kd.V_drew));exact Kd.V_mono (Kd.V_far (p:=⟨gb303,2,none⟩) (Kd.V_far (p:=⟨gb303,1,none⟩) (Kd.V_far (p:=⟨gb303,0,none⟩) (Kd.V_mono HO_251004.out (fun k_ hk => (⟨hk,hk.2⟩ : _ ∧ k_ ≠ gb303))) (fun _ hk => hk.2) (.int .u64 ((rd_T57 x7_2 (ji78)).f0))) (fun _ hk => hk.2) (.int .i64 ((rd_T57 x7_2 (ji78)).f1))) (fun _ hk => hk.2) (.bool ((rd_T57 x7_2 (ji78)).f2))) (fun _ hk => ⟨hk.1.1.1,⟨hk.1.1.2,hk.1.2⟩⟩)⟩
                          have n3_ : Aside0 ((((w112.setCell ⟨gb303,0,none⟩ (.int .u64 ((rd_T57 x7_2 (ji78)).f0))).setCell ⟨gb303,1,none⟩ (.int .i64 ((rd_T57 x7_2 (ji78)).f1))).setCell ⟨gb303,2,none⟩ (.bool ((rd_T57 x7_2 (ji78)).f2))).heap[gb250]? = some (.cells #[.int .u64 x251000_2,.int .u64 x251001_2,.string x251002_2,u251003,u251004,.bool x251005_2,.bool x251006_2,.bool x251007_2] 29 (0,0))):=⟨by (with_reducible repeat (first|refine kn_ ?_ _|refine kd_ ?_|refine ka_ ?_ _));refine blk_far ?_ NB250_303.out _;(with_reducible repeat (first|refine kn_ ?_ _|refine kd_ ?_|refine ka_ ?_ _));refine blk_far ?_ NB250_303.out _;(with_reducible repeat (first|refine kn_ ?_ _|refine kd_ ?_|refine ka_ ?_ _));refine blk_far ?_ NB250_303.out _;(with_reducible repeat (first|refine kn_ ?_ _|refine kd_ ?_|refine ka_ ?_ _));exact BK250.out⟩
                          have n4_ : Aside0 ((((w112.setCell ⟨gb303,0,none⟩ (.int .u64 ((rd_T57 x7_2 (ji78)).f0))).setCell ⟨gb303,1,none⟩ (.int .i64 ((rd_T57 x7_2 (ji78)).f1))).setCell ⟨gb303,2,none⟩ (.bool ((rd_T57 x7_2 (ji78)).f2))).heap[gb303]? = some (.cells #[.int .u64 ((rd_T57 x7_2 (ji78)).f0),.int .i64 ((rd_T57 x7_2 (ji78)).f1),.bool ((rd_T57 x7_2 (ji78)).f2)] 57 (0,0))):=⟨by (with_reducible repeat (first|refine kn_ ?_ _|refine kd_ ?_|refine ka_ ?_ _));refine blk_put (cs:=#[.int .u64 ((rd_T57 x7_2 (ji78)).f0),.int .i64 ((rd_T57 x7_2 (ji78)).f1),.bool false]) ?_ 2 _ rfl;(with_reducible repeat (first|refine kn_ ?_ _|refine kd_ ?_|refine ka_ ?_ _));refine blk_put (cs:=#[.int .u64 ((rd_T57 x7_2 (ji78)).f0),.int .i64 0,.bool false]) ?_ 1 _ rfl;(with_reducible repeat (first|refine kn_ ?_ _|refine kd_ ?_|refine ka_ ?_ _));refine blk_put (cs:=#[.int .u64 0,.int .i64 0,.bool false]) ?_ 0 _ rfl;(with_reducible repeat (first|refine kn_ ?_ _|refine kd_ ?_|refine ka_ ?_ _));exact BK303.out⟩
                          have n5_ : Aside0 (Below w.heap.size w (((w112.setCell ⟨gb303,0,none⟩ (.int .u64 ((rd_T57 x7_2 (ji78)).f0))).setCell ⟨gb303,1,none⟩ (.int .i64 ((rd_T57 x7_2 (ji78)).f1))).setCell ⟨gb303,2,none⟩ (.bool ((rd_T57 x7_2 (ji78)).f2)))):=⟨by repeat (first|(with_reducible first|exact HB.out|apply ba_|apply pn_|apply pd_|refine bs_ ?_ GE250.out|refine bs_ ?_ GE303.out)|exact HB.out)⟩
                          (try clear HO_7)
                          (try clear HO_251003)
                          (try clear HO_251004)
                          (try clear BK250)
                          (try clear BK303)
                          (try clear HB)
                          generalize (((w112.setCell ⟨gb303,0,none⟩ (.int .u64 ((rd_T57 x7_2 (ji78)).f0))).setCell ⟨gb303,1,none⟩ (.int .i64 ((rd_T57 x7_2 (ji78)).f1))).setCell ⟨gb303,2,none⟩ (.bool ((rd_T57 x7_2 (ji78)).f2))) = w115 at n0_ n1_ n2_ n3_ n4_ n5_ ⊢
                          have HO_7:=n0_
                          have HO_251003:=n1_
                          have HO_251004:=n2_
                          have BK250:=n3_
                          have BK303:=n4_
                          have HB:=n5_
                          clear n0_ n1_ n2_ n3_ n4_ n5_
                          have n0_:=am_ (rd_ HO_7.out)
                          have n1_:=am_ (Kd.V_drew HO_251003.out)
                          have n2_:=am_ (Kd.V_drew HO_251004.out)
                          have n3_:=am_ (kd_ BK250.out)
                          have n4_:=am_ (kd_ BK303.out)
                          have n5_:=am_ (pd_ HB.out)
                          clear HO_7
                          clear HO_251003
                          clear HO_251004
                          clear BK250
                          clear BK303
                          clear HB
                          have HO_7:=n0_
                          have HO_251003:=n1_
                          have HO_251004:=n2_
                          have BK250:=n3_
                          have BK303:=n4_
                          have HB:=n5_
                          clear n0_ n1_ n2_ n3_ n4_ n5_
                          have q117 : ((ji78) : Int) ≤ ((x7_2.length : Int) : Int):=of_decide_eq_true (by first|(with_reducible assumption)|assumption)
                          obtain ⟨i0117,hi0117,_,hsz117,_⟩:=info_parts info57
                          have hroom117 : x7_2.length ≤ co111:=(Kd.R_reads' HO_7.out).2.1
                          have hC117 : Kd.C k57 _ (some ad302) x7_2.length x7_2:=(Kd.R_reads' HO_7.out).2.2
                          have hcut117:=cut_to (P:=Try.prog) 55 57 .i64 Try.underlying55 hi0117 (some ad302) x7_2.length co111 (ji78) (of_decide_eq_true (by first|(with_reducible assumption)|assumption)) q117 hroom117
                          have hr117:=Kd.C_take (m:=((ji78) : Int).toNat) hC117 (by omega)
                          have hy117 : y307.length = ((ji78) : Int).toNat:=(by rw [Ny307.out,List.length_take];omega)
                          rw [← Ny307.out] at hr117
                          rw [← hy117] at hcut117
                          have HR310:=am_ hr117
                          have HC310:=am_ (show y307.length ≤ co111 from by omega)
                          clear hr117 hC117 hroom117 hi0117 hsz117
                          have KY117:=am_ hy117
                          clear hy117
                          have KL117:=am_ (show ((ji78) : Int).toNat ≤ x7_2.length from by omega)
                          replace q117:=eq_true q117
                          have q118 : ((ji84) : Int) ≤ ((x7_2.length : Int) : Int):=of_decide_eq_true (by first|(with_reducible assumption)|assumption)
                          obtain ⟨i0118,hi0118,_,hsz118,_⟩:=info_parts info57
                          have hroom118 : x7_2.length ≤ co111:=(Kd.R_reads' HO_7.out).2.1
                          have hC118 : Kd.C k57 _ (some ad302) x7_2.length x7_2:=(Kd.R_reads' HO_7.out).2.2
                          have q0118 : (0 : Int) ≤ ((ji84) : Int):=of_decide_eq_true (by first|(with_reducible assumption)|assumption)
                          have hcut118:=cut_from (P:=Try.prog) 55 57 .i64 Try.underlying55 hi0118 3 hsz118 (some ad302) x7_2.length co111 (ji84) q0118 q118
                          have hr118:=Kd.C_drop (m:=((ji84) : Int).toNat) (c:=co111) hC118 (by omega) hroom118
                          obtain ⟨A118,hA118⟩ : ∃ A1,A1 = (if co111 = ((ji84) : Int).toNat then (some ad302) else ((some ad302) : Option Addr).map (·.add (((ji84) : Int).toNat * 3))):=⟨_,rfl⟩
                          obtain ⟨c118,hc118⟩ : ∃ c1,c1 = co111 - ((ji84) : Int).toNat:=⟨_,rfl⟩
                          have hy118 : y314.length = x7_2.length - ((ji84) : Int).toNat:=(by rw [Ny314.out,List.length_drop] <;> omega)
                          rw [show (x7_2).drop ((ji84) : Int).toNat = y314 from Ny314.out.symm] at hr118
                          replace hr118 : Kd.C k57 _ A118 y314.length y314:=(by rw [hA118];exact hr118)
                          rw [← hy118,← hA118,← hc118] at hcut118
                          have HR317:=am_ hr118
                          have HC317:=am_ (show y314.length ≤ c118 from by rw [hy118,hc118];exact Nat.sub_le_sub_right hroom118 _)
                          clear hr118 hC118 hroom118 hi0118 hsz118 hc118
                          have KY118:=am_ hy118
                          have KA118:=am_ hA118
                          clear hy118 hA118
                          have KL118:=am_ (show ((ji84) : Int).toNat ≤ x7_2.length from by omega)
                          replace q118:=eq_true q118
                          refine start_ (n:=11) (S:=fun w' => True) (ds:=[]) #[F_,F_,F_,F_,F_,F_,F_,F_,F_,F_,F_] (by kernel_rfl) rfl rfl trivial (fun hHeld => ?_);refine with_tabW dominolaw15_SendqAll.tab25 dominolaw15_SendqAll.bits25 (fun HT_ HW_ => ?_)
                          generalize w115.drew = w116 at HO_7 HO_251003 HO_251004 BK250 BK303 HB HR310 HR317 hHeld ⊢
                          refine pure_ (i:=1) (N:=some 147) (v:=?_) (a':=?_) #[F_,T_,F_,F_,F_,F_,F_,F_,F_,F_,F_] rfl rfl (any_of HT_.out (by kernel_rfl)) (fun _ _ _ h => h) (Or.inl ⟨by rfl,?_⟩) ?_ ?_
                          rotate_left;(intro w';go_simp;with_reducible rfl);rotate_left;(simp only [Act.put,ps_,i64_w,i32_w];rfl)
                          refine pure_ (i:=2) (N:=some 148) (v:=?_) (a':=?_) #[F_,T_,T_,F_,F_,F_,F_,F_,F_,F_,F_] rfl rfl (any_of HT_.out (by kernel_rfl)) (fun _ _ _ h => h) (Or.inl ⟨by rfl,?_⟩) ?_ ?_
                          rotate_left;(intro w';go_simp;with_reducible rfl);rotate_left;(simp only [Act.put,ps_,i64_w,i32_w];rfl)
                          refine pure_ (i:=3) (N:=some 149) (v:=?_) (a':=?_) #[F_,T_,T_,T_,F_,F_,F_,F_,F_,F_,F_] rfl rfl (any_of HT_.out (by kernel_rfl)) (fun _ _ _ h => h) (Or.inl ⟨by rfl,?_⟩) ?_ ?_
                          rotate_left;(intro w';go_simp;with_reducible rfl);rotate_left;(simp only [Act.put,ps_,i64_w,i32_w];rfl)
                          refine pure_ (i:=5) (N:=some 151) (v:=?_) (a':=?_) #[F_,T_,T_,T_,F_,T_,F_,F_,F_,F_,F_] rfl rfl (any_of HT_.out (by kernel_rfl)) (fun _ _ _ h => h) (Or.inl ⟨by rfl,?_⟩) ?_ ?_
                          rotate_left;(intro w';go_simp;with_reducible rfl);rotate_left;(simp only [Act.put,ps_,i64_w,i32_w];rfl)
                          refine pure_ (i:=6) (N:=some 152) (v:=?_) (a':=?_) #[F_,T_,T_,T_,F_,T_,T_,F_,F_,F_,F_] rfl rfl (any_of HT_.out (by kernel_rfl)) (fun _ _ _ h => h) (Or.inl ⟨by rfl,?_⟩) ?_ ?_
                          rotate_left;(intro w';go_simp;with_reducible rfl);rotate_left;(simp only [Act.put,ps_,i64_w,i32_w];rfl)
                          refine pure_ (i:=7) (N:=some 153) (v:=?_) (a':=?_) #[F_,T_,T_,T_,F_,T_,T_,T_,F_,F_,F_] rfl rfl (any_of HT_.out (by kernel_rfl)) (fun _ _ _ h => h) (Or.inl ⟨by rfl,?_⟩) ?_ ?_
                          rotate_left;(intro w';go_simp;with_reducible rfl);rotate_left;(simp only [Act.put,ps_,i64_w,i32_w];rfl)
                          refine pure_ (i:=8) (N:=some 154) (v:=?_) (a':=?_) #[F_,T_,T_,T_,F_,T_,T_,T_,T_,F_,F_] rfl rfl (any_of HT_.out (by kernel_rfl)) (fun _ _ _ h => h) (Or.inl ⟨by rfl,?_⟩) ?_ ?_
                          rotate_left;(intro w';go_simp;with_reducible rfl);rotate_left;(simp only [Act.put,ps_,i64_w,i32_w];rfl)
                          refine one_ (i:=0) (N:=some 146) #[T_,T_,T_,T_,F_,T_,T_,T_,T_,F_,F_] rfl rfl (one_of HT_.out (by kernel_rfl)) (by decide) (fun K hK => ?_)
                          refine Kd.R_lit_step k57 _ 57 ?hg (N:=146) ?hd (xs:=([] : List (S57))) (inner:=[]) (ok:=fun _ => True) (okp:=fun _ => True) ?hr ?hp (fun _ hk => hk) trivial (Below.refl _ _) (Nat.le_refl _) (by simp) ?_;(case hd => rfl);(case hg => rfl);(case hr => first|(go_simp;done)|(go_simp;rfl));(case hp => exact (Reps.none _ _))
                          intro v305 w119 ho120 hb hg_ hnew_
                          clear hg_ hnew_
                          (first|rw [← Ny304.out] at ho120|(simp only [Int.reduceToNat] at ho120;rw [← Ny304.out] at ho120))
                          have n0_:=am_ (Kd.R_elder' (by (with_reducible repeat (first|apply ra_|apply rn_|apply rd_));exact HO_7.out) (Kd.R_base ho120) hb)
                          have n1_:=am_ (Kd.V_elder' (by (with_reducible repeat (first|apply Kd.V_alloc|apply Kd.V_drewN|apply Kd.V_drew));exact HO_251003.out) (Kd.R_base ho120) hb)
                          have n2_:=am_ (Kd.V_elder' (by (with_reducible repeat (first|apply Kd.V_alloc|apply Kd.V_drewN|apply Kd.V_drew));exact HO_251004.out) (Kd.R_base ho120) hb)
                          have n3_:=am_ (Kd.R_lower (Kd.R_newB (Kd.R_new' ho120 (Kd.R_lt (by (with_reducible repeat (first|apply ra_|apply rn_|apply rd_));exact HO_7.out))) (g:=gb303) (o:=.cells #[.int .u64 ((rd_T57 x7_2 (ji78)).f0),.int .i64 ((rd_T57 x7_2 (ji78)).f1),.bool ((rd_T57 x7_2 (ji78)).f2)] 57 (0,0)) (by (with_reducible repeat (first|refine kn_ ?_ _|refine kd_ ?_|refine ka_ ?_ _));exact BK303.out)) (below_size (by repeat (first|(with_reducible first|exact HB.out|apply ba_|apply pn_|apply pd_|refine bs_ ?_ GE250.out|refine bs_ ?_ GE303.out)|exact HB.out))))
                          have n4_:=am_ (blk_below (g:=gb250) (o:=.cells #[.int .u64 x251000_2,.int .u64 x251001_2,.string x251002_2,u251003,u251004,.bool x251005_2,.bool x251006_2,.bool x251007_2] 29 (0,0)) (by (with_reducible repeat (first|refine kn_ ?_ _|refine kd_ ?_|refine ka_ ?_ _));exact BK250.out) hb)
                          have n5_:=am_ (blk_below (g:=gb303) (o:=.cells #[.int .u64 ((rd_T57 x7_2 (ji78)).f0),.int .i64 ((rd_T57 x7_2 (ji78)).f1),.bool ((rd_T57 x7_2 (ji78)).f2)] 57 (0,0)) (by (with_reducible repeat (first|refine kn_ ?_ _|refine kd_ ?_|refine ka_ ?_ _));exact BK303.out) hb)
                          have n6_:=am_ (Kd.C_below (by repeat (first|(with_reducible exact HR310.out)|(with_reducible refine Kd.C_alloc ?_ _)|(with_reducible refine Kd.C_drewN ?_ _)|(with_reducible refine Kd.C_drew ?_)|exact HR310.out)) hb)
                          have n7_:=am_ (Kd.C_below (by repeat (first|(with_reducible exact HR317.out)|(with_reducible refine Kd.C_alloc ?_ _)|(with_reducible refine Kd.C_drewN ?_ _)|(with_reducible refine Kd.C_drew ?_)|exact HR317.out)) hb)
                          have n8_:=am_ (below_step (by repeat (first|(with_reducible first|exact HB.out|apply ba_|apply pn_|apply pd_|refine bs_ ?_ GE250.out|refine bs_ ?_ GE303.out)|exact HB.out)) hb)
                          clear HO_7
                          clear HO_251003
                          clear HO_251004
                          clear BK250
                          clear BK303
                          clear HR310
                          clear HR317
                          clear HB
                          have HO_7:=n0_
                          have HO_251003:=n1_
                          have HO_251004:=n2_
                          have HO306:=n3_
                          have BK250:=n4_
                          have BK303:=n5_
                          have HR310:=n6_
                          have HR317:=n7_
                          have HB:=n8_
                          clear n0_ n1_ n2_ n3_ n4_ n5_ n6_ n7_ n8_
                          clear hb ho120
                          refine hK.out _ _ trivial (fun hHeld => ?_)
                          clear hK K
                          refine norm_ (a':=?_) ?_ ?_
                          rotate_left
                          ·show Act.put _ (some 146) _ = _
                           simp only [Act.put,ps_,i64_w,i32_w]
                           rfl
                          refine one_ (i:=4) (N:=some 150) #[T_,T_,T_,T_,T_,T_,T_,T_,T_,F_,F_] rfl rfl (one_of HT_.out (by kernel_rfl)) (by decide) (fun K hK => ?_)
                          refine Kd.R_append_rows_step k57 (w0:=w) w.heap.size (by rfl) (.tmp 146) (.tmp 149) 55 57 (.agg #[(.int .u64 0),(.int .i64 0),(.bool false)]) 24 rfl Try.underlying55 info57 rfl (by decide) (by omega) v305 y304 y307 _ _ _ (fun k_ => some k_ ≠ (.slice (some ad302) x7_2.length co111 : Value).ownBlock ∧ k_ ≠ gb303) (fun _ => False) rfl rfl ?aO ?aR (fun _ _ h => h) (fun _ h => h.elim) ?aF ?aB ?aS ?aL ?_
                          (case aR => repeat (first|exact (by repeat (first|(with_reducible exact HR310.out)|(with_reducible refine Kd.C_alloc ?_ _)|(with_reducible refine Kd.C_drewN ?_ _)|(with_reducible refine Kd.C_drew ?_)|exact HR310.out))|(with_reducible refine Kd.C_alloc ?_ _)|(with_reducible refine Kd.C_drewN ?_ _)|(with_reducible refine Kd.C_drew ?_)))
                          (case aB => exact (by repeat (first|(with_reducible first|exact HB.out|apply ba_|apply pn_|apply pd_|refine bs_ ?_ GE250.out|refine bs_ ?_ GE303.out)|exact HB.out)))
                          (case aF => exact (fun k_ hk => ⟨Kd.fresh' (Kd.R_lt (by (with_reducible repeat (first|apply ra_|apply rn_|apply rd_));exact HO_7.out)) k_ hk,Kd.freshB (g:=gb303) (o:=.cells #[.int .u64 ((rd_T57 x7_2 (ji78)).f0),.int .i64 ((rd_T57 x7_2 (ji78)).f1),.bool ((rd_T57 x7_2 (ji78)).f2)] 57 (0,0)) (by (with_reducible repeat (first|refine kn_ ?_ _|refine kd_ ?_|refine ka_ ?_ _));exact BK303.out) k_ hk⟩))
                          (case aO => exact (by (with_reducible repeat (first|apply ra_|apply rn_|apply rd_));exact Kd.R_mono HO306.out (fun _ hk => ⟨hk.1.2,hk.2⟩)))
                          (case aS => exact (below_size (by repeat (first|(with_reducible first|exact HB.out|apply ba_|apply pn_|apply pd_|refine bs_ ?_ GE250.out|refine bs_ ?_ GE303.out)|exact HB.out))))
                          (case aL => have:=LMc83.out;omega)
                          intro v312 w121 ho hb hg hat
                          rw [← Ny311.out] at ho
                          have n0_:=am_ (Kd.R_after (ok:=(fun k_ => k_ ≠ gb303)) (by (with_reducible repeat (first|apply ra_|apply rn_|apply rd_));exact HO_7.out) hg hat)
                          have n1_:=am_ (Kd.V_afterv (ok:=(fun k_ => some k_ ≠ (.slice (some ad302) x7_2.length co111 : Value).ownBlock ∧ k_ ≠ gb250 ∧ k_ ≠ gb303)) (by (with_reducible repeat (first|apply Kd.V_alloc|apply Kd.V_drewN|apply Kd.V_drew));exact HO_251003.out) hg hat)
                          have n2_:=am_ (Kd.V_afterv (ok:=(fun k_ => some k_ ≠ (.slice (some ad302) x7_2.length co111 : Value).ownBlock ∧ k_ ≠ gb250 ∧ k_ ≠ gb303)) (by (with_reducible repeat (first|apply Kd.V_alloc|apply Kd.V_drewN|apply Kd.V_drew));exact HO_251004.out) hg hat)
                          have n3_:=am_ (blk_grown (g:=gb250) (o:=.cells #[.int .u64 x251000_2,.int .u64 x251001_2,.string x251002_2,u251003,u251004,.bool x251005_2,.bool x251006_2,.bool x251007_2] 29 (0,0)) (by (with_reducible repeat (first|refine kn_ ?_ _|refine kd_ ?_|refine ka_ ?_ _));exact BK250.out) hg (Kd.R_ne HO306.out BK250.out (by decide)))
                          have n4_:=am_ (blk_grown (g:=gb303) (o:=.cells #[.int .u64 ((rd_T57 x7_2 (ji78)).f0),.int .i64 ((rd_T57 x7_2 (ji78)).f1),.bool ((rd_T57 x7_2 (ji78)).f2)] 57 (0,0)) (by (with_reducible repeat (first|refine kn_ ?_ _|refine kd_ ?_|refine ka_ ?_ _));exact BK303.out) hg (Kd.R_away HO306.out (fun _ hk => hk.2)))
                          have n5_:=am_ (hb)
                          have n6_:=am_ ((show Kd.C k57 w121 (some ad302) y307.length y307 from by rw [Ny307.out];exact Kd.C_take (m:=((ji78) : Int).toNat) ((Kd.R_reads' (Kd.R_after (ok:=(fun k_ => k_ ≠ gb303)) (by (with_reducible repeat (first|apply ra_|apply rn_|apply rd_));exact HO_7.out) hg hat)).2.2) KL117.out))
                          have n7_:=am_ ((show Kd.C k57 w121 A118 y314.length y314 from by rw [Ny314.out,KA118.out];exact Kd.C_drop (m:=((ji84) : Int).toNat) (c:=co111) ((Kd.R_reads' (Kd.R_after (ok:=(fun k_ => k_ ≠ gb303)) (by (with_reducible repeat (first|apply ra_|apply rn_|apply rd_));exact HO_7.out) hg hat)).2.2) KL118.out ((Kd.R_reads' (Kd.R_after (ok:=(fun k_ => k_ ≠ gb303)) (by (with_reducible repeat (first|apply ra_|apply rn_|apply rd_));exact HO_7.out) hg hat)).2.1)))
                          have n8_:=am_ (ho)
                          clear HO_7
                          clear HO_251003
                          clear HO_251004
                          clear BK250
                          clear BK303
                          clear HB
                          clear HR310
                          clear HR317
                          clear HO306
                          have HO_7:=n0_
                          have HO_251003:=n1_
                          have HO_251004:=n2_
                          have BK250:=n3_
                          have BK303:=n4_
                          have HB:=n5_
                          have HR310:=n6_
                          have HR317:=n7_
                          have HO313:=n8_
                          clear n0_ n1_ n2_ n3_ n4_ n5_ n6_ n7_ n8_
                          clear ho hb hg hat
                          refine hK.out _ _ trivial (fun hHeld => ?_)
                          clear hK K
                          refine norm_ (a':=?_) ?_ ?_
                          rotate_left
                          ·show Act.put _ (some 150) _ = _
                           simp only [Act.put,ps_,i64_w,i32_w]
                           rfl
                          refine one_ (i:=9) (N:=some 155) #[T_,T_,T_,T_,T_,T_,T_,T_,T_,T_,F_] rfl rfl (one_of HT_.out (by kernel_rfl)) (by decide) (fun K hK => ?_)
                          refine Kd.R_append_rows_step k57 (w0:=w) w.heap.size (by rfl) (.tmp 150) (.tmp 154) 55 57 (.agg #[(.int .u64 0),(.int .i64 0),(.bool false)]) 24 rfl Try.underlying55 info57 rfl (by decide) (by omega) v312 y311 y314 _ _ _ (fun k_ => some k_ ≠ (.slice (some ad302) x7_2.length co111 : Value).ownBlock ∧ k_ ≠ gb303) (fun _ => False) rfl rfl ?aO ?aR (fun _ _ h => h) (fun _ h => h.elim) ?aF ?aB ?aS ?aL ?_
                          (case aR => repeat (first|exact (by repeat (first|(with_reducible exact HR317.out)|(with_reducible refine Kd.C_alloc ?_ _)|(with_reducible refine Kd.C_drewN ?_ _)|(with_reducible refine Kd.C_drew ?_)|exact HR317.out))|(with_reducible refine Kd.C_alloc ?_ _)|(with_reducible refine Kd.C_drewN ?_ _)|(with_reducible refine Kd.C_drew ?_)))
                          (case aB => exact (by repeat (first|(with_reducible first|exact HB.out|apply ba_|apply pn_|apply pd_|refine bs_ ?_ GE250.out|refine bs_ ?_ GE303.out)|exact HB.out)))
                          (case aF => exact (fun k_ hk => ⟨Kd.fresh' (Kd.R_lt (by (with_reducible repeat (first|apply ra_|apply rn_|apply rd_));exact HO_7.out)) k_ hk,Kd.freshB (g:=gb303) (o:=.cells #[.int .u64 ((rd_T57 x7_2 (ji78)).f0),.int .i64 ((rd_T57 x7_2 (ji78)).f1),.bool ((rd_T57 x7_2 (ji78)).f2)] 57 (0,0)) (by (with_reducible repeat (first|refine kn_ ?_ _|refine kd_ ?_|refine ka_ ?_ _));exact BK303.out) k_ hk⟩))
                          (case aO => exact (by (with_reducible repeat (first|apply ra_|apply rn_|apply rd_));exact HO313.out))
                          (case aS => exact (below_size (by repeat (first|(with_reducible first|exact HB.out|apply ba_|apply pn_|apply pd_|refine bs_ ?_ GE250.out|refine bs_ ?_ GE303.out)|exact HB.out))))
                          (case aL => have:=LMc87.out;omega)
                          intro v319 w122 ho hb hg hat
                          rw [← Ny318.out] at ho
                          have n0_:=am_ (Kd.R_after (ok:=(fun k_ => k_ ≠ gb303)) (by (with_reducible repeat (first|apply ra_|apply rn_|apply rd_));exact HO_7.out) hg hat)
                          have n1_:=am_ (Kd.V_afterv (ok:=(fun k_ => some k_ ≠ (.slice (some ad302) x7_2.length co111 : Value).ownBlock ∧ k_ ≠ gb250 ∧ k_ ≠ gb303)) (by (with_reducible repeat (first|apply Kd.V_alloc|apply Kd.V_drewN|apply Kd.V_drew));exact HO_251003.out) hg hat)
                          have n2_:=am_ (Kd.V_afterv (ok:=(fun k_ => some k_ ≠ (.slice (some ad302) x7_2.length co111 : Value).ownBlock ∧ k_ ≠ gb250 ∧ k_ ≠ gb303)) (by (with_reducible repeat (first|apply Kd.V_alloc|apply Kd.V_drewN|apply Kd.V_drew));exact HO_251004.out) hg hat)
                          have n3_:=am_ (blk_grown (g:=gb250) (o:=.cells #[.int .u64 x251000_2,.int .u64 x251001_2,.string x251002_2,u251003,u251004,.bool x251005_2,.bool x251006_2,.bool x251007_2] 29 (0,0)) (by (with_reducible repeat (first|refine kn_ ?_ _|refine kd_ ?_|refine ka_ ?_ _));exact BK250.out) hg (Kd.R_ne HO313.out BK250.out (by decide)))
                          have n4_:=am_ (blk_grown (g:=gb303) (o:=.cells #[.int .u64 ((rd_T57 x7_2 (ji78)).f0),.int .i64 ((rd_T57 x7_2 (ji78)).f1),.bool ((rd_T57 x7_2 (ji78)).f2)] 57 (0,0)) (by (with_reducible repeat (first|refine kn_ ?_ _|refine kd_ ?_|refine ka_ ?_ _));exact BK303.out) hg (Kd.R_away HO313.out (fun _ hk => hk.2)))
                          have n5_:=am_ (hb)
                          have n6_:=am_ ((show Kd.C k57 w122 (some ad302) y307.length y307 from by rw [Ny307.out];exact Kd.C_take (m:=((ji78) : Int).toNat) ((Kd.R_reads' (Kd.R_after (ok:=(fun k_ => k_ ≠ gb303)) (by (with_reducible repeat (first|apply ra_|apply rn_|apply rd_));exact HO_7.out) hg hat)).2.2) KL117.out))
                          have n7_:=am_ ((show Kd.C k57 w122 A118 y314.length y314 from by rw [Ny314.out,KA118.out];exact Kd.C_drop (m:=((ji84) : Int).toNat) (c:=co111) ((Kd.R_reads' (Kd.R_after (ok:=(fun k_ => k_ ≠ gb303)) (by (with_reducible repeat (first|apply ra_|apply rn_|apply rd_));exact HO_7.out) hg hat)).2.2) KL118.out ((Kd.R_reads' (Kd.R_after (ok:=(fun k_ => k_ ≠ gb303)) (by (with_reducible repeat (first|apply ra_|apply rn_|apply rd_));exact HO_7.out) hg hat)).2.1)))
                          have n8_:=am_ (ho)
                          clear HO_7
                          clear HO_251003
                          clear HO_251004
                          clear BK250
                          clear BK303
                          clear HB
                          clear HR310
                          clear HR317
                          clear HO313
                          have HO_7:=n0_
                          have HO_251003:=n1_
                          have HO_251004:=n2_
                          have BK250:=n3_
                          have BK303:=n4_
                          have HB:=n5_
                          have HR310:=n6_
                          have HR317:=n7_
                          have HO320:=n8_
                          clear n0_ n1_ n2_ n3_ n4_ n5_ n6_ n7_ n8_
                          clear ho hb hg hat
                          refine hK.out _ _ trivial (fun hHeld => ?_)
                          clear hK K
                          refine norm_ (a':=?_) ?_ ?_
                          rotate_left
                          ·show Act.put _ (some 155) _ = _
                           simp only [Act.put,ps_,i64_w,i32_w]
                           rfl
                          refine pure_ (i:=10) (N:=some 7) (v:=?_) (a':=?_) #[T_,T_,T_,T_,T_,T_,T_,T_,T_,T_,T_] rfl rfl (any_of HT_.out (by kernel_rfl)) (fun _ _ _ h => h) (Or.inl ⟨by rfl,?_⟩) ?_ ?_
                          rotate_left;(intro w';go_simp;with_reducible rfl);rotate_left;(simp only [Act.put,ps_,i64_w,i32_w];rfl)
                          refine done_ (done_of HT_.out (by kernel_rfl)) ?_
                          have hcz123_0 : w122.cell? ⟨gb250,0,none⟩ = some (.int .u64 x251000_2):=(kc_ BK250.out 0).trans rfl
                          have hcz123_1 : w122.cell? ⟨gb250,1,none⟩ = some (.int .u64 x251001_2):=(kc_ BK250.out 1).trans rfl
                          have hcz123_2 : w122.cell? ⟨gb250,2,none⟩ = some (.string x251002_2):=(kc_ BK250.out 2).trans rfl
                          have hcz123_3 : w122.cell? ⟨gb250,3,none⟩ = some (u251003):=(kc_ BK250.out 3).trans rfl
                          have hcz123_4 : w122.cell? ⟨gb250,4,none⟩ = some (u251004):=(kc_ BK250.out 4).trans rfl
                          have hcz123_5 : w122.cell? ⟨gb250,5,none⟩ = some (.bool x251005_2):=(kc_ BK250.out 5).trans rfl
                          have hcz123_6 : w122.cell? ⟨gb250,6,none⟩ = some (.bool x251006_2):=(kc_ BK250.out 6).trans rfl
                          have hcz123_7 : w122.cell? ⟨gb250,7,none⟩ = some (.bool x251007_2):=(kc_ BK250.out 7).trans rfl
                          have hfz123_0:=blk_frozen BK250.out 0
                          have hfz123_1:=blk_frozen BK250.out 1
                          have hfz123_2:=blk_frozen BK250.out 2
                          have hfz123_3:=blk_frozen BK250.out 3
                          have hfz123_4:=blk_frozen BK250.out 4
                          have hfz123_5:=blk_frozen BK250.out 5
                          have hfz123_6:=blk_frozen BK250.out 6
                          have hfz123_7:=blk_frozen BK250.out 7
                          have hcz124_0 : w122.cell? ⟨gb303,0,none⟩ = some (.int .u64 ((rd_T57 x7_2 (ji78)).f0)):=(kc_ BK303.out 0).trans rfl
                          have hcz124_1 : w122.cell? ⟨gb303,1,none⟩ = some (.int .i64 ((rd_T57 x7_2 (ji78)).f1)):=(kc_ BK303.out 1).trans rfl
                          have hcz124_2 : w122.cell? ⟨gb303,2,none⟩ = some (.bool ((rd_T57 x7_2 (ji78)).f2)):=(kc_ BK303.out 2).trans rfl
                          have hfz124_0:=blk_frozen BK303.out 0
                          have hfz124_1:=blk_frozen BK303.out 1
                          have hfz124_2:=blk_frozen BK303.out 2
                          obtain ⟨Ao125,co125,eo125⟩:=Kd.V_slice HO_251003.out
                          subst eo125
                          obtain ⟨Ao126,co126,eo126⟩:=Kd.V_slice HO_251004.out
                          subst eo126
                          try go_wp2_with (first|((with_reducible refine gate_callee (f:=18) rfl ?_);refine goesL_ (some 174) rfl rfl Try.func18 (by kernel_rfl) rfl #[.agg #[.int .u64 x251000_2,.int .u64 x251001_2,.string x251002_2,.slice Ao125 x251003_2.length co125,.slice Ao126 x251004_2.length co126,.bool x251005_2,.bool x251006_2,.bool x251007_2],.int .u64 ((rd_T57 x7_2 (ji78)).f0),.int .i64 ((rd_T57 x7_2 (ji78)).f1),.bool ((rd_T57 x7_2 (ji78)).f2)] rfl (by (try simp only [List.map_toArray,List.map_cons,List.map_nil]);first|done|(simp only [hji78];rfl)|rfl|(simp only [List.length_drop,List.length_take];rfl)) ?_;(with_reducible refine (sendq_Lost.calls kj35 x251000_2 x251001_2 x251002_2 (fun k_ => ((some k_ ≠ (.slice (some ad302) x7_2.length co111 : Value).ownBlock ∧ (k_ ≠ gb250 ∧ k_ ≠ gb303)) ∧ some k_ ≠ (v319 : Value).ownBlock)) _ _ x251003_2 (fun k_ => ((some k_ ≠ (.slice (some ad302) x7_2.length co111 : Value).ownBlock ∧ (k_ ≠ gb250 ∧ k_ ≠ gb303)) ∧ some k_ ≠ (v319 : Value).ownBlock)) _ _ x251004_2 x251005_2 x251006_2 x251007_2 ((rd_T57 x7_2 (ji78)).f0) ((rd_T57 x7_2 (ji78)).f1) ((rd_T57 x7_2 (ji78)).f2) t333 t334 t335 t336 t339 t342 t343 t344 _ ?side1 ?side2 A110.out).mono ?_);(case side1 => exact HO_251003.out);(case side2 => exact HO_251004.out);rintro e w127 ⟨v337,v340,rfl,ho0,ho1,hb⟩;refine ⟨_,rfl,?_⟩;have n0_:=am_ (Kd.R_below (by (with_reducible repeat (first|apply ra_|apply rn_|apply rd_));exact HO_7.out) hb);have n1_:=am_ (Kd.V_below (by (with_reducible repeat (first|apply Kd.V_alloc|apply Kd.V_drewN|apply Kd.V_drew));exact HO_251003.out) hb);have n2_:=am_ (Kd.V_below (by (with_reducible repeat (first|apply Kd.V_alloc|apply Kd.V_drewN|apply Kd.V_drew));exact HO_251004.out) hb);have n3_:=am_ (Kd.R_below (by (with_reducible repeat (first|apply ra_|apply rn_|apply rd_));exact HO320.out) hb);have n4_:=am_ (Kd.V_lower (Kd.V_mono (ok':=fun k_ => some k_ ≠ (.slice (some ad302) x7_2.length co111 : Value).ownBlock ∧ some k_ ≠ (v319 : Value).ownBlock ∧ k_ ≠ gb250 ∧ k_ ≠ gb303) ho0 (fun k_ hk_ => ⟨Or.elim hk_ (fun hs_ => Or.elim hs_ (fun hs_ => hs_.1.1) (fun hs_ => hs_.1.1)) (fun hn_ => (Kd.fresh' (Kd.R_lt (by (with_reducible repeat (first|apply ra_|apply rn_|apply rd_));exact HO_7.out)) k_ hn_)),Or.elim hk_ (fun hs_ => Or.elim hs_ (fun hs_ => hs_.2) (fun hs_ => hs_.2)) (fun hn_ => (Kd.fresh' (Kd.R_lt (by (with_reducible repeat (first|apply ra_|apply rn_|apply rd_));exact HO320.out)) k_ hn_)),Or.elim hk_ (fun hs_ => Or.elim hs_ (fun hs_ => hs_.1.2.1) (fun hs_ => hs_.1.2.1)) (fun hn_ => (Kd.freshB (g:=gb250) (o:=.cells #[.int .u64 x251000_2,.int .u64 x251001_2,.string x251002_2,.slice Ao125 x251003_2.length co125,.slice Ao126 x251004_2.length co126,.bool x251005_2,.bool x251006_2,.bool x251007_2] 29 (0,0)) (by (with_reducible repeat (first|refine kn_ ?_ _|refine kd_ ?_|refine ka_ ?_ _));exact BK250.out) k_ hn_)),Or.elim hk_ (fun hs_ => Or.elim hs_ (fun hs_ => hs_.1.2.2) (fun hs_ => hs_.1.2.2)) (fun hn_ => (Kd.freshB (g:=gb303) (o:=.cells #[.int .u64 ((rd_T57 x7_2 (ji78)).f0),.int .i64 ((rd_T57 x7_2 (ji78)).f1),.bool ((rd_T57 x7_2 (ji78)).f2)] 57 (0,0)) (by (with_reducible repeat (first|refine kn_ ?_ _|refine kd_ ?_|refine ka_ ?_ _));exact BK303.out) k_ hn_))⟩)) (below_size (by repeat (first|(with_reducible first|exact HB.out|apply ba_|apply pn_|apply pd_|refine bs_ ?_ GE250.out|refine bs_ ?_ GE303.out)|exact HB.out))));have n5_:=am_ (Kd.V_lower (Kd.V_mono (ok':=fun k_ => some k_ ≠ (.slice (some ad302) x7_2.length co111 : Value).ownBlock ∧ some k_ ≠ (v319 : Value).ownBlock ∧ k_ ≠ gb250 ∧ k_ ≠ gb303) ho1 (fun k_ hk_ => ⟨Or.elim hk_ (fun hs_ => Or.elim hs_ (fun hs_ => hs_.1.1) (fun hs_ => hs_.1.1)) (fun hn_ => (Kd.fresh' (Kd.R_lt (by (with_reducible repeat (first|apply ra_|apply rn_|apply rd_));exact HO_7.out)) k_ hn_)),Or.elim hk_ (fun hs_ => Or.elim hs_ (fun hs_ => hs_.2) (fun hs_ => hs_.2)) (fun hn_ => (Kd.fresh' (Kd.R_lt (by (with_reducible repeat (first|apply ra_|apply rn_|apply rd_));exact HO320.out)) k_ hn_)),Or.elim hk_ (fun hs_ => Or.elim hs_ (fun hs_ => hs_.1.2.1) (fun hs_ => hs_.1.2.1)) (fun hn_ => (Kd.freshB (g:=gb250) (o:=.cells #[.int .u64 x251000_2,.int .u64 x251001_2,.string x251002_2,.slice Ao125 x251003_2.length co125,.slice Ao126 x251004_2.length co126,.bool x251005_2,.bool x251006_2,.bool x251007_2] 29 (0,0)) (by (with_reducible repeat (first|refine kn_ ?_ _|refine kd_ ?_|refine ka_ ?_ _));exact BK250.out) k_ hn_)),Or.elim hk_ (fun hs_ => Or.elim hs_ (fun hs_ => hs_.1.2.2) (fun hs_ => hs_.1.2.2)) (fun hn_ => (Kd.freshB (g:=gb303) (o:=.cells #[.int .u64 ((rd_T57 x7_2 (ji78)).f0),.int .i64 ((rd_T57 x7_2 (ji78)).f1),.bool ((rd_T57 x7_2 (ji78)).f2)] 57 (0,0)) (by (with_reducible repeat (first|refine kn_ ?_ _|refine kd_ ?_|refine ka_ ?_ _));exact BK303.out) k_ hn_))⟩)) (below_size (by repeat (first|(with_reducible first|exact HB.out|apply ba_|apply pn_|apply pd_|refine bs_ ?_ GE250.out|refine bs_ ?_ GE303.out)|exact HB.out))));have n6_:=am_ (blk_below (g:=gb250) (o:=.cells #[.int .u64 x251000_2,.int .u64 x251001_2,.string x251002_2,.slice Ao125 x251003_2.length co125,.slice Ao126 x251004_2.length co126,.bool x251005_2,.bool x251006_2,.bool x251007_2] 29 (0,0)) (by (with_reducible repeat (first|refine kn_ ?_ _|refine kd_ ?_|refine ka_ ?_ _));exact BK250.out) hb);have n7_:=am_ (blk_below (g:=gb303) (o:=.cells #[.int .u64 ((rd_T57 x7_2 (ji78)).f0),.int .i64 ((rd_T57 x7_2 (ji78)).f1),.bool ((rd_T57 x7_2 (ji78)).f2)] 57 (0,0)) (by (with_reducible repeat (first|refine kn_ ?_ _|refine kd_ ?_|refine ka_ ?_ _));exact BK303.out) hb);have n8_:=am_ (Kd.C_below (by repeat (first|(with_reducible exact HR310.out)|(with_reducible refine Kd.C_alloc ?_ _)|(with_reducible refine Kd.C_drewN ?_ _)|(with_reducible refine Kd.C_drew ?_)|exact HR310.out)) hb);have n9_:=am_ (Kd.C_below (by repeat (first|(with_reducible exact HR317.out)|(with_reducible refine Kd.C_alloc ?_ _)|(with_reducible refine Kd.C_drewN ?_ _)|(with_reducible refine Kd.C_drew ?_)|exact HR317.out)) hb);have n10_:=am_ (below_step (by repeat (first|(with_reducible first|exact HB.out|apply ba_|apply pn_|apply pd_|refine bs_ ?_ GE250.out|refine bs_ ?_ GE303.out)|exact HB.out)) hb);clear HO_7;clear HO_251003;clear HO_251004;clear HO320;clear BK250;clear BK303;clear HR310;clear HR317;clear HB;have HO_7:=n0_;have HO_251003:=n1_;have HO_251004:=n2_;have HO320:=n3_;have HO338:=n4_;have HO341:=n5_;have BK250:=n6_;have BK303:=n7_;have HR310:=n8_;have HR317:=n9_;have HB:=n10_;clear n0_ n1_ n2_ n3_ n4_ n5_ n6_ n7_ n8_ n9_ n10_;(try clear hb);(try clear hb2);(try clear hk);(try clear hi);(try clear ho0);(try clear ho1);have hcz128_0 : w127.cell? ⟨gb250,0,none⟩ = some (.int .u64 x251000_2):=(kc_ BK250.out 0).trans rfl;have hcz128_1 : w127.cell? ⟨gb250,1,none⟩ = some (.int .u64 x251001_2):=(kc_ BK250.out 1).trans rfl;have hcz128_2 : w127.cell? ⟨gb250,2,none⟩ = some (.string x251002_2):=(kc_ BK250.out 2).trans rfl;have hcz128_3 : w127.cell? ⟨gb250,3,none⟩ = some (.slice Ao125 x251003_2.length co125):=(kc_ BK250.out 3).trans rfl;have hcz128_4 : w127.cell? ⟨gb250,4,none⟩ = some (.slice Ao126 x251004_2.length co126):=(kc_ BK250.out 4).trans rfl;have hcz128_5 : w127.cell? ⟨gb250,5,none⟩ = some (.bool x251005_2):=(kc_ BK250.out 5).trans rfl;have hcz128_6 : w127.cell? ⟨gb250,6,none⟩ = some (.bool x251006_2):=(kc_ BK250.out 6).trans rfl;have hcz128_7 : w127.cell? ⟨gb250,7,none⟩ = some (.bool x251007_2):=(kc_ BK250.out 7).trans rfl;have hfz128_0:=blk_frozen BK250.out 0;have hfz128_1:=blk_frozen BK250.out 1;have hfz128_2:=blk_frozen BK250.out 2;have hfz128_3:=blk_frozen BK250.out 3;have hfz128_4:=blk_frozen BK250.out 4;have hfz128_5:=blk_frozen BK250.out 5;have hfz128_6:=blk_frozen BK250.out 6;have hfz128_7:=blk_frozen BK250.out 7;obtain ⟨Ao129,co129,eo129⟩:=Kd.V_slice HO338.out;subst eo129;obtain ⟨Ao130,co130,eo130⟩:=Kd.V_slice HO341.out;subst eo130))
                          go_roundg kj35
                          case measure => have:=HJ2.out;have:=HK2.out;have:=HJ27.out;have:=HJ30.out;have:=HJ33.out;have:=HJ35.out;omega
                          case rel => exact ⟨(y318),(wrap64 (x8_2 + 1)),(t333),(t334),(t335),(t336),(t339),(t342),(t343),(t344),(.slice Ao129 t336.length co129),(.slice Ao130 t339.length co130),(by first|rfl|(simp;done)|(simp [*];done)),H',⟨by have:=HJ2.out;have:=HK2.out;have:=HJ27.out;have:=HJ30.out;have:=HJ33.out;have:=HJ35.out;omega⟩,⟨by (with_reducible repeat (first|apply ra_|apply rn_|apply rd_));exact Kd.R_mono (Kd.R_far (p:=⟨gb250,7,none⟩) (Kd.R_far (p:=⟨gb250,6,none⟩) (Kd.R_far (p:=⟨gb250,5,none⟩) (Kd.R_far (p:=⟨gb250,4,none⟩) (Kd.R_far (p:=⟨gb250,3,none⟩) (Kd.R_far (p:=⟨gb250,2,none⟩) (Kd.R_far (p:=⟨gb250,1,none⟩) (Kd.R_far (p:=⟨gb250,0,none⟩) (Kd.R_types HO320.out BK250.out (by decide)) (fun _ hk => hk.2) (.int .u64 t333)) (fun _ hk => hk.2) (.int .u64 t334)) (fun _ hk => hk.2) (.string t335)) (fun _ hk => hk.2) (.slice Ao129 t336.length co129)) (fun _ hk => hk.2) (.slice Ao130 t339.length co130)) (fun _ hk => hk.2) (.bool t342)) (fun _ hk => hk.2) (.bool t343)) (fun _ hk => hk.2) (.bool t344)) (fun _ hk => trivial)⟩,⟨by (with_reducible repeat (first|apply Kd.V_alloc|apply Kd.V_drewN|apply Kd.V_drew));exact Kd.V_mono (Kd.V_far (p:=⟨gb250,7,none⟩) (Kd.V_far (p:=⟨gb250,6,none⟩) (Kd.V_far (p:=⟨gb250,5,none⟩) (Kd.V_far (p:=⟨gb250,4,none⟩) (Kd.V_far (p:=⟨gb250,3,none⟩) (Kd.V_far (p:=⟨gb250,2,none⟩) (Kd.V_far (p:=⟨gb250,1,none⟩) (Kd.V_far (p:=⟨gb250,0,none⟩) (Kd.V_mono HO338.out (fun k_ hk => (⟨hk,hk.2.2.1⟩ : _ ∧ k_ ≠ gb250))) (fun _ hk => hk.2) (.int .u64 t333)) (fun _ hk => hk.2) (.int .u64 t334)) (fun _ hk => hk.2) (.string t335)) (fun _ hk => hk.2) (.slice Ao129 t336.length co129)) (fun _ hk => hk.2) (.slice Ao130 t339.length co130)) (fun _ hk => hk.2) (.bool t342)) (fun _ hk => hk.2) (.bool t343)) (fun _ hk => hk.2) (.bool t344)) (fun _ hk => ⟨hk.1.2.1,hk.1.2.2.1⟩)⟩,⟨by (with_reducible repeat (first|apply Kd.V_alloc|apply Kd.V_drewN|apply Kd.V_drew));exact Kd.V_mono (Kd.V_far (p:=⟨gb250,7,none⟩) (Kd.V_far (p:=⟨gb250,6,none⟩) (Kd.V_far (p:=⟨gb250,5,none⟩) (Kd.V_far (p:=⟨gb250,4,none⟩) (Kd.V_far (p:=⟨gb250,3,none⟩) (Kd.V_far (p:=⟨gb250,2,none⟩) (Kd.V_far (p:=⟨gb250,1,none⟩) (Kd.V_far (p:=⟨gb250,0,none⟩) (Kd.V_mono HO341.out (fun k_ hk => (⟨hk,hk.2.2.1⟩ : _ ∧ k_ ≠ gb250))) (fun _ hk => hk.2) (.int .u64 t333)) (fun _ hk => hk.2) (.int .u64 t334)) (fun _ hk => hk.2) (.string t335)) (fun _ hk => hk.2) (.slice Ao129 t336.length co129)) (fun _ hk => hk.2) (.slice Ao130 t339.length co130)) (fun _ hk => hk.2) (.bool t342)) (fun _ hk => hk.2) (.bool t343)) (fun _ hk => hk.2) (.bool t344)) (fun _ hk => ⟨hk.1.2.1,hk.1.2.2.1⟩)⟩,⟨by (with_reducible repeat (first|refine kn_ ?_ _|refine kd_ ?_|refine ka_ ?_ _));refine blk_put (cs:=#[.int .u64 t333,.int .u64 t334,.string t335,.slice Ao129 t336.length co129,.slice Ao130 t339.length co130,.bool t342,.bool t343,.bool x251007_2]) ?_ 7 _ rfl;(with_reducible repeat (first|refine kn_ ?_ _|refine kd_ ?_|refine ka_ ?_ _));refine blk_put (cs:=#[.int .u64 t333,.int .u64 t334,.string t335,.slice Ao129 t336.length co129,.slice Ao130 t339.length co130,.bool t342,.bool x251006_2,.bool x251007_2]) ?_ 6 _ rfl;(with_reducible repeat (first|refine kn_ ?_ _|refine kd_ ?_|refine ka_ ?_ _));refine blk_put (cs:=#[.int .u64 t333,.int .u64 t334,.string t335,.slice Ao129 t336.length co129,.slice Ao130 t339.length co130,.bool x251005_2,.bool x251006_2,.bool x251007_2]) ?_ 5 _ rfl;(with_reducible repeat (first|refine kn_ ?_ _|refine kd_ ?_|refine ka_ ?_ _));refine blk_put (cs:=#[.int .u64 t333,.int .u64 t334,.string t335,.slice Ao129 t336.length co129,.slice Ao126 x251004_2.length co126,.bool x251005_2,.bool x251006_2,.bool x251007_2]) ?_ 4 _ rfl;(with_reducible repeat (first|refine kn_ ?_ _|refine kd_ ?_|refine ka_ ?_ _));refine blk_put (cs:=#[.int .u64 t333,.int .u64 t334,.string t335,.slice Ao125 x251003_2.length co125,.slice Ao126 x251004_2.length co126,.bool x251005_2,.bool x251006_2,.bool x251007_2]) ?_ 3 _ rfl;(with_reducible repeat (first|refine kn_ ?_ _|refine kd_ ?_|refine ka_ ?_ _));refine blk_put (cs:=#[.int .u64 t333,.int .u64 t334,.string x251002_2,.slice Ao125 x251003_2.length co125,.slice Ao126 x251004_2.length co126,.bool x251005_2,.bool x251006_2,.bool x251007_2]) ?_ 2 _ rfl;(with_reducible repeat (first|refine kn_ ?_ _|refine kd_ ?_|refine ka_ ?_ _));refine blk_put (cs:=#[.int .u64 t333,.int .u64 x251001_2,.string x251002_2,.slice Ao125 x251003_2.length co125,.slice Ao126 x251004_2.length co126,.bool x251005_2,.bool x251006_2,.bool x251007_2]) ?_ 1 _ rfl;(with_reducible repeat (first|refine kn_ ?_ _|refine kd_ ?_|refine ka_ ?_ _));refine blk_put (cs:=#[.int .u64 x251000_2,.int .u64 x251001_2,.string x251002_2,.slice Ao125 x251003_2.length co125,.slice Ao126 x251004_2.length co126,.bool x251005_2,.bool x251006_2,.bool x251007_2]) ?_ 0 _ rfl;(with_reducible repeat (first|refine kn_ ?_ _|refine kd_ ?_|refine ka_ ?_ _));exact BK250.out⟩,⟨by repeat (first|(with_reducible first|exact HB.out|apply ba_|apply pn_|apply pd_|refine bs_ ?_ GE250.out|refine bs_ ?_ GE303.out)|exact HB.out)⟩⟩
                        ·rw [if_neg c87] at H
                         exact absurd H (by simp)
                       ·rw [if_neg c86] at H
                        exact absurd H (by simp)
                      ·rw [if_neg c85] at H
                       exact absurd H (by simp)
                     ·rw [if_neg c83] at H
                      exact absurd H (by simp)
                    ·rw [if_neg c82] at H
                     exact absurd H (by simp)
                   ·rw [if_neg c80] at H
                    exact absurd H (by simp)
                  ·rw [if_neg c79] at H
                   exact absurd H (by simp)
       ·rw [if_neg c27] at H
        have c27b0 : decide (x8_2 < (wrap64 ((l1.length : Int) + 500))) = false:=decide_eq_false c27
        clear c27
        replace H:=Option.bind_eq_some_iff.mp H
        obtain ⟨t266,A1310,H⟩:=H
        replace H : (if t266 = true then (if (x7_2.length : Int) = 0 then (if x251000_2 = (IntKind.u64.wrap ((a0.size : Int))) then (some (x251001_2 == (IntKind.u64.wrap ((a0.size : Int))))) else (none)) else (none)) else (none)) = some r:=H
        have A131:=am_ A1310
        clear A1310
        by_cases c132 : t266 = true
        ·subst c132
         have H1 : (if (x7_2.length : Int) = 0 then (if x251000_2 = (IntKind.u64.wrap ((a0.size : Int))) then (some (x251001_2 == (IntKind.u64.wrap ((a0.size : Int))))) else (none)) else (none)) = some r:=by rw [if_pos rfl] at H;exact H
         clear H
         have H:=H1
         clear H1
         by_cases c133 : (x7_2.length : Int) = 0
         ·rw [if_pos c133] at H
          have c133b0 : ((x7_2.length : Int) == 0) = true:=beq_iff_eq.mpr c133
          have c133b1 : ((x7_2.length : Int) != 0) = false:=bne_eq_false_iff_eq.mpr c133
          clear c133
          by_cases c134 : x251000_2 = (IntKind.u64.wrap ((a0.size : Int)))
          ·rw [if_pos c134] at H
           have c134b0 : (x251000_2 == (IntKind.u64.wrap ((a0.size : Int)))) = true:=beq_iff_eq.mpr c134
           have c134b1 : (x251000_2 != (IntKind.u64.wrap ((a0.size : Int)))) = false:=bne_eq_false_iff_eq.mpr c134
           clear c134
           obtain rfl:=Option.some.inj H
           have hcz135_0 : wr.cell? ⟨gb250,0,none⟩ = some (.int .u64 x251000_2):=(kc_ BK250.out 0).trans rfl
           have hcz135_1 : wr.cell? ⟨gb250,1,none⟩ = some (.int .u64 x251001_2):=(kc_ BK250.out 1).trans rfl
           have hcz135_2 : wr.cell? ⟨gb250,2,none⟩ = some (.string x251002_2):=(kc_ BK250.out 2).trans rfl
           have hcz135_3 : wr.cell? ⟨gb250,3,none⟩ = some (u251003):=(kc_ BK250.out 3).trans rfl
           have hcz135_4 : wr.cell? ⟨gb250,4,none⟩ = some (u251004):=(kc_ BK250.out 4).trans rfl
           have hcz135_5 : wr.cell? ⟨gb250,5,none⟩ = some (.bool x251005_2):=(kc_ BK250.out 5).trans rfl
           have hcz135_6 : wr.cell? ⟨gb250,6,none⟩ = some (.bool x251006_2):=(kc_ BK250.out 6).trans rfl
           have hcz135_7 : wr.cell? ⟨gb250,7,none⟩ = some (.bool x251007_2):=(kc_ BK250.out 7).trans rfl
           have hfz135_0:=blk_frozen BK250.out 0
           have hfz135_1:=blk_frozen BK250.out 1
           have hfz135_2:=blk_frozen BK250.out 2
           have hfz135_3:=blk_frozen BK250.out 3
           have hfz135_4:=blk_frozen BK250.out 4
           have hfz135_5:=blk_frozen BK250.out 5
           have hfz135_6:=blk_frozen BK250.out 6
           have hfz135_7:=blk_frozen BK250.out 7
           obtain ⟨Ao136,co136,eo136⟩:=Kd.V_slice HO_251003.out
           subst eo136
           obtain ⟨Ao137,co137,eo137⟩:=Kd.V_slice HO_251004.out
           subst eo137
           go_wp2_with (first|((with_reducible refine gate_callee (f:=24) rfl ?_);refine goesL_ (some 176) rfl rfl Try.func24 (by kernel_rfl) rfl #[.agg #[.int .u64 x251000_2,.int .u64 x251001_2,.string x251002_2,.slice Ao136 x251003_2.length co136,.slice Ao137 x251004_2.length co137,.bool x251005_2,.bool x251006_2,.bool x251007_2]] rfl (by (try simp only [List.map_toArray,List.map_cons,List.map_nil]);first|done|rfl|(simp only [List.length_drop,List.length_take];rfl)) ?_;(with_reducible refine (sendq_Done.calls x251000_2 x251001_2 x251002_2 _ _ x251003_2 _ _ x251004_2 x251005_2 x251006_2 x251007_2 true _ ?side1 ?side2 ?side3 ?side4 A131.out).mono ?_);(case side1 => repeat (first|exact (Kd.V_reads' HO_251003.out).2.2|(with_reducible refine Kd.C_alloc ?_ _)|(with_reducible refine Kd.C_drewN ?_ _)|(with_reducible refine Kd.C_drew ?_)));(case side2 => exact (Kd.V_reads' HO_251003.out).2.1);(case side3 => repeat (first|exact (Kd.V_reads' HO_251004.out).2.2|(with_reducible refine Kd.C_alloc ?_ _)|(with_reducible refine Kd.C_drewN ?_ _)|(with_reducible refine Kd.C_drew ?_)));(case side4 => exact (Kd.V_reads' HO_251004.out).2.1);rintro e w138 ⟨rfl,hb⟩;refine ⟨_,rfl,?_⟩;have n0_:=am_ (Kd.R_below (by (with_reducible repeat (first|apply ra_|apply rn_|apply rd_));exact HO_7.out) hb);have n1_:=am_ (Kd.V_below (by (with_reducible repeat (first|apply Kd.V_alloc|apply Kd.V_drewN|apply Kd.V_drew));exact HO_251003.out) hb);have n2_:=am_ (Kd.V_below (by (with_reducible repeat (first|apply Kd.V_alloc|apply Kd.V_drewN|apply Kd.V_drew));exact HO_251004.out) hb);have n3_:=am_ (blk_below (g:=gb250) (o:=.cells #[.int .u64 x251000_2,.int .u64 x251001_2,.string x251002_2,.slice Ao136 x251003_2.length co136,.slice Ao137 x251004_2.length co137,.bool x251005_2,.bool x251006_2,.bool x251007_2] 29 (0,0)) (by (with_reducible repeat (first|refine kn_ ?_ _|refine kd_ ?_|refine ka_ ?_ _));exact BK250.out) hb);have n4_:=am_ (below_step (by repeat (first|(with_reducible first|exact HB.out|apply ba_|apply pn_|apply pd_|refine bs_ ?_ GE250.out)|exact HB.out)) hb);clear HO_7;clear HO_251003;clear HO_251004;clear BK250;clear HB;have HO_7:=n0_;have HO_251003:=n1_;have HO_251004:=n2_;have BK250:=n3_;have HB:=n4_;clear n0_ n1_ n2_ n3_ n4_;(try clear hb);(try clear hb2);(try clear hk);(try clear hi);obtain ⟨Ao139,co139,eo139⟩:=Kd.R_slice HO_7.out;subst eo139;have hcz140_0 : w138.cell? ⟨gb250,0,none⟩ = some (.int .u64 x251000_2):=(kc_ BK250.out 0).trans rfl;have hcz140_1 : w138.cell? ⟨gb250,1,none⟩ = some (.int .u64 x251001_2):=(kc_ BK250.out 1).trans rfl;have hcz140_2 : w138.cell? ⟨gb250,2,none⟩ = some (.string x251002_2):=(kc_ BK250.out 2).trans rfl;have hcz140_3 : w138.cell? ⟨gb250,3,none⟩ = some (.slice Ao136 x251003_2.length co136):=(kc_ BK250.out 3).trans rfl;have hcz140_4 : w138.cell? ⟨gb250,4,none⟩ = some (.slice Ao137 x251004_2.length co137):=(kc_ BK250.out 4).trans rfl;have hcz140_5 : w138.cell? ⟨gb250,5,none⟩ = some (.bool x251005_2):=(kc_ BK250.out 5).trans rfl;have hcz140_6 : w138.cell? ⟨gb250,6,none⟩ = some (.bool x251006_2):=(kc_ BK250.out 6).trans rfl;have hcz140_7 : w138.cell? ⟨gb250,7,none⟩ = some (.bool x251007_2):=(kc_ BK250.out 7).trans rfl;have hfz140_0:=blk_frozen BK250.out 0;have hfz140_1:=blk_frozen BK250.out 1;have hfz140_2:=blk_frozen BK250.out 2;have hfz140_3:=blk_frozen BK250.out 3;have hfz140_4:=blk_frozen BK250.out 4;have hfz140_5:=blk_frozen BK250.out 5;have hfz140_6:=blk_frozen BK250.out 6;have hfz140_7:=blk_frozen BK250.out 7; skip))
           go_ret
           exact ⟨by first|rfl|(simp [errW_none,errW_some] <;> rfl)|(simp [*,errW_none,errW_some] <;> rfl),by repeat (first|(with_reducible first|exact HB.out|apply ba_|apply pn_|apply pd_|refine bs_ ?_ GE250.out)|exact HB.out)⟩
          ·rw [if_neg c134] at H
           exact absurd H (by simp)
         ·rw [if_neg c133] at H
          exact absurd H (by simp)
        ·replace c132:=Bool.eq_false_iff.mpr c132
         subst c132
         have H1 : (none) = some r:=by rw [if_neg (show ¬ (false = true) by decide)] at H;exact H
         clear H
         have H:=H1
         clear H1
         exact absurd H (by simp)
    ·rw [if_neg c13] at H
     exact absurd H (by simp)

/-- THE ONE PURE STATEMENT of dominolaw15_SendqAll: yours. -/
def dominolaw15_SendqAll.Pure : Prop:=∀ (a0 : ByteArray) (l1 : List Int),a0.size ≤ 140737488351232 → l1.length ≤ maxLen → l1.length * 1 ≤ 140737488351232 → (∀ x ∈ l1,(Lit.int .u8 x).wf = true) → ∃ k,dominolaw15_SendqAll.f k a0 l1 = some true
theorem dominolaw15_SendqAll.walk (P : dominolaw15_SendqAll.Pure) (a0 : ByteArray) (a1 : Option Addr) (len1 cap1 : Nat) (z1 : List Int) (w : World) (w0 : a0.size ≤ 140737488351232) (w1 : (a1 = none ∧ len1 = 0 ∧ cap1 = 0 ∧ z1 = []) ∨ ∃ x,a1 = some x ∧ len1 ≤ cap1 ∧ cap1 ≤ maxLen ∧ z1.length = cap1 ∧ (∀ i,i < z1.length → w.cell? (x.add i) = some (.int .u8 (z1.getD i 0))) ∧ ∀ n ∈ z1,(Lit.int .u8 n).wf = true) (y1 : len1 * 1 ≤ 140737488351232) :
  Calls Try.prog 4 #[.string a0,.slice a1 len1 cap1] w fun e w' => e = .returned (.bool true) ∧ Below w.heap.size w w':=by
 obtain ⟨l1,rfl,hr1,hm1,hw1,hc1⟩:=ReadsInt.ofRowC w1
 obtain ⟨k,h⟩:=P a0 l1 w0 hm1 y1 hw1
 refine (dominolaw15_SendqAll.calls k a0 _ _ l1 true w (Kd.C_of_reads (d:=(0 : Int)) (h1:=fun _ => rfl) hr1) hc1 h).mono ?_
 rintro e w' ⟨rfl,hd⟩
 exact ⟨rfl,hd⟩

end Go.Proofs.Ytocagkmnefkniaa.PSqx
