-- printed for this claim by a program of the claim (wip/tools/pp.py over the kit's print)
import Derived.Test.YtocagkmnefkniaaPSqcx0
import Derived.Test.YtocagkmnefkniaaPSqcx1
import Derived.Test.YtocagkmnefkniaaPSqcx2
import Derived.Test.YtocagkmnefkniaaPSqcx4
import Derived.Test.YtocagkmnefkniaaPSqcx5
import Derived.Test.YtocagkmnefkniaaPSqcx6
import Derived.Test.YtocagkmnefkniaaPSqcx8
import Derived.Test.YtocagkmnefkniaaPSqcx9
namespace Go.Proofs.Ytocagkmnefkniaa.PSqc
open Go.RowKit Go.Proofs.YtocagkmnefkniaaW.PrintWords Go.Proofs.YtocagkmnefkniaaW.PrintLast Go.Proofs.YtocagkmnefkniaaW.PrintMore
attribute [local go_sem] max2_int min2_int max_two min_two max_three min_three max_four min_four   -- for this text's walks alone
set_option linter.unusedVariables false
set_option linter.unusedSimpArgs false

attribute [local go_sem] isSome_setCell_
/-! ### dominolaw15_SendqCredit: function 5 -/
mutual
def dominolaw15_SendqCredit.j0 : Nat → List (S35) → Int → Int → Bool → Option (Bool)
 | 0,_,_,_,_ => none
 | k + 1,x0,x1,x2,x19 => if x19 = true then ((dominolaw15_shown.f k).bind fun t240 => (some t240)) else (dominolaw15_SendqCredit.l0 k x0 x1 x2 0 0 0 (⟨#[]⟩ : ByteArray) ([] : List (S67)) ([] : List (S67)) false false false)
def dominolaw15_SendqCredit.l0 : Nat → List (S35) → Int → Int → Int → Int → Int → ByteArray → List (S67) → List (S67) → Bool → Bool → Bool → Option (Bool)
 | 0,_,_,_,_,_,_,_,_,_,_,_,_ => none
 | k + 1,x0,x1,x2,x8,x242000,x242001,x242002,x242003,x242004,x242005,x242006,x242007 => if x8 < (x0.length : Int) then (if 0 ≤ x8 then (if ((rd_T35 x0 x8).f0) = 0 then ((sendq_Write.f k x242000 x242001 x242002 x242003 x242004 x242005 x242006 x242007 ((rd_T35 x0 x8).f3) 500).bind fun bt244 => (dominolaw15_SendqCredit.j2 k x0 x1 x2 x8 bt244.1 bt244.2.1 bt244.2.2.1 bt244.2.2.2.1 bt244.2.2.2.2.1 bt244.2.2.2.2.2.1 bt244.2.2.2.2.2.2.1 bt244.2.2.2.2.2.2.2.1)) else (if ((rd_T35 x0 x8).f0) = 1 then ((sendq_Finish.f x242000 x242001 x242002 x242003 x242004 x242005 x242006 x242007).bind fun bt257 => (dominolaw15_SendqCredit.j2 k x0 x1 x2 x8 bt257.1 bt257.2.1 bt257.2.2.1 bt257.2.2.2.1 bt257.2.2.2.2.1 bt257.2.2.2.2.2.1 bt257.2.2.2.2.2.2.1 bt257.2.2.2.2.2.2.2)) else (if ((rd_T35 x0 x8).f0) = 3 then ((sendq_Lost.f k x242000 x242001 x242002 x242003 x242004 x242005 x242006 x242007 (Int.tmod ((rd_T35 x0 x8).f2) 1000) ((rd_T35 x0 x8).f1) ((rd_T35 x0 x8).f4)).bind fun bt272 => (dominolaw15_SendqCredit.j2 k x0 x1 x2 x8 bt272.1 bt272.2.1 bt272.2.2.1 bt272.2.2.2.1 bt272.2.2.2.2.1 bt272.2.2.2.2.2.1 bt272.2.2.2.2.2.2.1 bt272.2.2.2.2.2.2.2)) else (if ((rd_T35 x0 x8).f0) = 4 then ((sendq_Acked.f k x242000 x242001 x242002 x242003 x242004 x242005 x242006 x242007 (Int.tmod ((rd_T35 x0 x8).f2) 1000) ((rd_T35 x0 x8).f1) ((rd_T35 x0 x8).f4)).bind fun bt287 => (dominolaw15_SendqCredit.j2 k x0 x1 x2 x8 bt287.1 bt287.2.1 bt287.2.2.1 bt287.2.2.2.1 bt287.2.2.2.2.1 bt287.2.2.2.2.2.1 bt287.2.2.2.2.2.2.1 bt287.2.2.2.2.2.2.2)) else (dominolaw15_SendqCredit.j2 k x0 x1 x2 x8 x242000 x242001 x242002 x242003 x242004 x242005 x242006 x242007))))) else (none)) else (some true)
def dominolaw15_SendqCredit.j2 : Nat → List (S35) → Int → Int → Int → Int → Int → ByteArray → List (S67) → List (S67) → Bool → Bool → Bool → Option (Bool)
 | 0,_,_,_,_,_,_,_,_,_,_,_,_ => none
 | k + 1,x0,x1,x2,x8,x242000,x242001,x242002,x242003,x242004,x242005,x242006,x242007 => (sendq_Next.f x242000 x242001 x242002 x242003 x242004 x242005 x242006 x242007 x2 (IntKind.u64.wrap (x1))).bind fun bt299 => (if bt299.2.1.toList = ([] : List UInt8) then (if bt299.2.2.2 = true then (if bt299.2.2.1 = true then (if x242005 = true then ((sendq_End.f x242000 x242001 x242002 x242003 x242004 x242005 x242006 x242007).bind fun t303 => (dominolaw15_SendqCredit.j3 k x0 x1 x2 x8 bt299.1 bt299.2.1 bt299.2.2.1 bt299.2.2.2 ((IntKind.u64.wrap (bt299.1 + (IntKind.u64.wrap ((bt299.2.1.size : Int))))) != t303) x242000 x242001 x242002 x242003 x242004 x242005 x242006 x242007)) else (none)) else (dominolaw15_SendqCredit.j3 k x0 x1 x2 x8 bt299.1 bt299.2.1 bt299.2.2.1 bt299.2.2.2 false x242000 x242001 x242002 x242003 x242004 x242005 x242006 x242007)) else (if bt299.1 = 0 then (if bt299.2.2.1 = true then (none) else (dominolaw15_SendqCredit.j3 k x0 x1 x2 x8 bt299.1 bt299.2.1 bt299.2.2.1 bt299.2.2.2 false x242000 x242001 x242002 x242003 x242004 x242005 x242006 x242007)) else (none))) else (if (IntKind.u64.wrap (bt299.1 + (IntKind.u64.wrap ((bt299.2.1.size : Int))))) > (IntKind.u64.wrap (x1)) then (none) else (if (bt299.2.1.size : Int) > x2 then (none) else (if bt299.2.2.2 = true then (if bt299.2.2.1 = true then (if x242005 = true then ((sendq_End.f x242000 x242001 x242002 x242003 x242004 x242005 x242006 x242007).bind fun t304 => (dominolaw15_SendqCredit.j3 k x0 x1 x2 x8 bt299.1 bt299.2.1 bt299.2.2.1 bt299.2.2.2 ((IntKind.u64.wrap (bt299.1 + (IntKind.u64.wrap ((bt299.2.1.size : Int))))) != t304) x242000 x242001 x242002 x242003 x242004 x242005 x242006 x242007)) else (none)) else (dominolaw15_SendqCredit.j3 k x0 x1 x2 x8 bt299.1 bt299.2.1 bt299.2.2.1 bt299.2.2.2 false x242000 x242001 x242002 x242003 x242004 x242005 x242006 x242007)) else (none)))))
def dominolaw15_SendqCredit.j3 : Nat → List (S35) → Int → Int → Int → Int → ByteArray → Bool → Bool → Bool → Int → Int → ByteArray → List (S67) → List (S67) → Bool → Bool → Bool → Option (Bool)
 | 0,_,_,_,_,_,_,_,_,_,_,_,_,_,_,_,_,_ => none
 | k + 1,x0,x1,x2,x8,x9,x10,x11,x12,x149,x242000,x242001,x242002,x242003,x242004,x242005,x242006,x242007 => if x149 = true then (none) else (if x12 = true then ((sendq_Sent.f k x242000 x242001 x242002 x242003 x242004 x242005 x242006 x242007 x9 (x10.size : Int) x11).bind fun bt305 => (dominolaw15_SendqCredit.l0 k x0 x1 x2 (wrap64 (x8 + 1)) bt305.1 bt305.2.1 bt305.2.2.1 bt305.2.2.2.1 bt305.2.2.2.2.1 bt305.2.2.2.2.2.1 bt305.2.2.2.2.2.2.1 bt305.2.2.2.2.2.2.2)) else (dominolaw15_SendqCredit.l0 k x0 x1 x2 (wrap64 (x8 + 1)) x242000 x242001 x242002 x242003 x242004 x242005 x242006 x242007))
end
def dominolaw15_SendqCredit.f (k : Nat) (l0 : List (S35)) (a1 : Int) (a2 : Int) : Option (Bool):=(dominolaw15_bounded.f k l0).bind fun t238 => (if t238 = true then ((dominolaw15_shown.f k).bind fun t239 => (dominolaw15_SendqCredit.j0 k l0 a1 a2 (!t239))) else (dominolaw15_SendqCredit.j0 k l0 a1 a2 true))
theorem dominolaw15_SendqCredit.mono_l : ∀ k,(∀ y0 y1 y2 y3,LeO (dominolaw15_SendqCredit.j0 k y0 y1 y2 y3) (dominolaw15_SendqCredit.j0 (k + 1) y0 y1 y2 y3)) ∧ (∀ y0 y1 y2 y3 y4 y5 y6 y7 y8 y9 y10 y11,LeO (dominolaw15_SendqCredit.l0 k y0 y1 y2 y3 y4 y5 y6 y7 y8 y9 y10 y11) (dominolaw15_SendqCredit.l0 (k + 1) y0 y1 y2 y3 y4 y5 y6 y7 y8 y9 y10 y11)) ∧ (∀ y0 y1 y2 y3 y4 y5 y6 y7 y8 y9 y10 y11,LeO (dominolaw15_SendqCredit.j2 k y0 y1 y2 y3 y4 y5 y6 y7 y8 y9 y10 y11) (dominolaw15_SendqCredit.j2 (k + 1) y0 y1 y2 y3 y4 y5 y6 y7 y8 y9 y10 y11)) ∧ (∀ y0 y1 y2 y3 y4 y5 y6 y7 y8 y9 y10 y11 y12 y13 y14 y15 y16,LeO (dominolaw15_SendqCredit.j3 k y0 y1 y2 y3 y4 y5 y6 y7 y8 y9 y10 y11 y12 y13 y14 y15 y16) (dominolaw15_SendqCredit.j3 (k + 1) y0 y1 y2 y3 y4 y5 y6 y7 y8 y9 y10 y11 y12 y13 y14 y15 y16))
 | 0 => ⟨fun _ _ _ _ r h => by simp [dominolaw15_SendqCredit.j0] at h,fun _ _ _ _ _ _ _ _ _ _ _ _ r h => by simp [dominolaw15_SendqCredit.l0] at h,fun _ _ _ _ _ _ _ _ _ _ _ _ r h => by simp [dominolaw15_SendqCredit.j2] at h,fun _ _ _ _ _ _ _ _ _ _ _ _ _ _ _ _ _ r h => by simp [dominolaw15_SendqCredit.j3] at h⟩
 | k + 1 => by
  obtain ⟨ih0,ih1,ih2,ih3⟩:=dominolaw15_SendqCredit.mono_l k
  refine ⟨?_,?_,?_,?_⟩
  ·intro y0 y1 y2 y3
   unfold dominolaw15_SendqCredit.j0
   repeat' first
   | (with_reducible exact ih0 _ _ _ _)
   | (with_reducible exact ih1 _ _ _ _ _ _ _ _ _ _ _ _)
   | (with_reducible exact ih2 _ _ _ _ _ _ _ _ _ _ _ _)
   | (with_reducible exact ih3 _ _ _ _ _ _ _ _ _ _ _ _ _ _ _ _ _)
   | (with_reducible exact dominolaw15_bounded.mono _ _)
   | (with_reducible exact dominolaw15_shown.mono _)
   | (with_reducible exact sendq_Acked.mono _ _ _ _ _ _ _ _ _ _ _ _)
   | (with_reducible exact sendq_Lost.mono _ _ _ _ _ _ _ _ _ _ _ _)
   | (with_reducible exact sendq_Sent.mono _ _ _ _ _ _ _ _ _ _ _ _)
   | (with_reducible exact sendq_Write.mono _ _ _ _ _ _ _ _ _ _ _)
   | (with_reducible exact LeO.refl _)
   | (with_reducible exact LeO.none _)
   | (with_reducible refine LeO.ite ?_ ?_)
   | (with_reducible refine LeO.bind ?_ (fun _ => ?_))
   | exact ih0 _ _ _ _
   | exact ih1 _ _ _ _ _ _ _ _ _ _ _ _
   | exact ih2 _ _ _ _ _ _ _ _ _ _ _ _
   | exact ih3 _ _ _ _ _ _ _ _ _ _ _ _ _ _ _ _ _
   | exact dominolaw15_bounded.mono _ _
   | exact dominolaw15_shown.mono _
   | exact sendq_Acked.mono _ _ _ _ _ _ _ _ _ _ _ _
   | exact sendq_Lost.mono _ _ _ _ _ _ _ _ _ _ _ _
   | exact sendq_Sent.mono _ _ _ _ _ _ _ _ _ _ _ _
   | exact sendq_Write.mono _ _ _ _ _ _ _ _ _ _ _
   | exact LeO.none _
   | refine LeO.ite ?_ ?_
   | refine LeO.bind ?_ (fun _ => ?_)
  ·intro y0 y1 y2 y3 y4 y5 y6 y7 y8 y9 y10 y11
   unfold dominolaw15_SendqCredit.l0
   repeat' first
   | (with_reducible exact ih0 _ _ _ _)
   | (with_reducible exact ih1 _ _ _ _ _ _ _ _ _ _ _ _)
   | (with_reducible exact ih2 _ _ _ _ _ _ _ _ _ _ _ _)
   | (with_reducible exact ih3 _ _ _ _ _ _ _ _ _ _ _ _ _ _ _ _ _)
   | (with_reducible exact dominolaw15_bounded.mono _ _)
   | (with_reducible exact dominolaw15_shown.mono _)
   | (with_reducible exact sendq_Acked.mono _ _ _ _ _ _ _ _ _ _ _ _)
   | (with_reducible exact sendq_Lost.mono _ _ _ _ _ _ _ _ _ _ _ _)
   | (with_reducible exact sendq_Sent.mono _ _ _ _ _ _ _ _ _ _ _ _)
   | (with_reducible exact sendq_Write.mono _ _ _ _ _ _ _ _ _ _ _)
   | (with_reducible exact LeO.refl _)
   | (with_reducible exact LeO.none _)
   | (with_reducible refine LeO.ite ?_ ?_)
   | (with_reducible refine LeO.bind ?_ (fun _ => ?_))
   | exact ih0 _ _ _ _
   | exact ih1 _ _ _ _ _ _ _ _ _ _ _ _
   | exact ih2 _ _ _ _ _ _ _ _ _ _ _ _
   | exact ih3 _ _ _ _ _ _ _ _ _ _ _ _ _ _ _ _ _
   | exact dominolaw15_bounded.mono _ _
   | exact dominolaw15_shown.mono _
   | exact sendq_Acked.mono _ _ _ _ _ _ _ _ _ _ _ _
   | exact sendq_Lost.mono _ _ _ _ _ _ _ _ _ _ _ _
   | exact sendq_Sent.mono _ _ _ _ _ _ _ _ _ _ _ _
   | exact sendq_Write.mono _ _ _ _ _ _ _ _ _ _ _
   | exact LeO.none _
   | refine LeO.ite ?_ ?_
   | refine LeO.bind ?_ (fun _ => ?_)
  ·intro y0 y1 y2 y3 y4 y5 y6 y7 y8 y9 y10 y11
   unfold dominolaw15_SendqCredit.j2
   repeat' first
   | (with_reducible exact ih0 _ _ _ _)
   | (with_reducible exact ih1 _ _ _ _ _ _ _ _ _ _ _ _)
   | (with_reducible exact ih2 _ _ _ _ _ _ _ _ _ _ _ _)
   | (with_reducible exact ih3 _ _ _ _ _ _ _ _ _ _ _ _ _ _ _ _ _)
   | (with_reducible exact dominolaw15_bounded.mono _ _)
   | (with_reducible exact dominolaw15_shown.mono _)
   | (with_reducible exact sendq_Acked.mono _ _ _ _ _ _ _ _ _ _ _ _)
   | (with_reducible exact sendq_Lost.mono _ _ _ _ _ _ _ _ _ _ _ _)
   | (with_reducible exact sendq_Sent.mono _ _ _ _ _ _ _ _ _ _ _ _)
   | (with_reducible exact sendq_Write.mono _ _ _ _ _ _ _ _ _ _ _)
   | (with_reducible exact LeO.refl _)
   | (with_reducible exact LeO.none _)
   | (with_reducible refine LeO.ite ?_ ?_)
   | (with_reducible refine LeO.bind ?_ (fun _ => ?_))
   | exact ih0 _ _ _ _
   | exact ih1 _ _ _ _ _ _ _ _ _ _ _ _
   | exact ih2 _ _ _ _ _ _ _ _ _ _ _ _
   | exact ih3 _ _ _ _ _ _ _ _ _ _ _ _ _ _ _ _ _
   | exact dominolaw15_bounded.mono _ _
   | exact dominolaw15_shown.mono _
   | exact sendq_Acked.mono _ _ _ _ _ _ _ _ _ _ _ _
   | exact sendq_Lost.mono _ _ _ _ _ _ _ _ _ _ _ _
   | exact sendq_Sent.mono _ _ _ _ _ _ _ _ _ _ _ _
   | exact sendq_Write.mono _ _ _ _ _ _ _ _ _ _ _
   | exact LeO.none _
   | refine LeO.ite ?_ ?_
   | refine LeO.bind ?_ (fun _ => ?_)
  ·intro y0 y1 y2 y3 y4 y5 y6 y7 y8 y9 y10 y11 y12 y13 y14 y15 y16
   unfold dominolaw15_SendqCredit.j3
   repeat' first
   | (with_reducible exact ih0 _ _ _ _)
   | (with_reducible exact ih1 _ _ _ _ _ _ _ _ _ _ _ _)
   | (with_reducible exact ih2 _ _ _ _ _ _ _ _ _ _ _ _)
   | (with_reducible exact ih3 _ _ _ _ _ _ _ _ _ _ _ _ _ _ _ _ _)
   | (with_reducible exact dominolaw15_bounded.mono _ _)
   | (with_reducible exact dominolaw15_shown.mono _)
   | (with_reducible exact sendq_Acked.mono _ _ _ _ _ _ _ _ _ _ _ _)
   | (with_reducible exact sendq_Lost.mono _ _ _ _ _ _ _ _ _ _ _ _)
   | (with_reducible exact sendq_Sent.mono _ _ _ _ _ _ _ _ _ _ _ _)
   | (with_reducible exact sendq_Write.mono _ _ _ _ _ _ _ _ _ _ _)
   | (with_reducible exact LeO.refl _)
   | (with_reducible exact LeO.none _)
   | (with_reducible refine LeO.ite ?_ ?_)
   | (with_reducible refine LeO.bind ?_ (fun _ => ?_))
   | exact ih0 _ _ _ _
   | exact ih1 _ _ _ _ _ _ _ _ _ _ _ _
   | exact ih2 _ _ _ _ _ _ _ _ _ _ _ _
   | exact ih3 _ _ _ _ _ _ _ _ _ _ _ _ _ _ _ _ _
   | exact dominolaw15_bounded.mono _ _
   | exact dominolaw15_shown.mono _
   | exact sendq_Acked.mono _ _ _ _ _ _ _ _ _ _ _ _
   | exact sendq_Lost.mono _ _ _ _ _ _ _ _ _ _ _ _
   | exact sendq_Sent.mono _ _ _ _ _ _ _ _ _ _ _ _
   | exact sendq_Write.mono _ _ _ _ _ _ _ _ _ _ _
   | exact LeO.none _
   | refine LeO.ite ?_ ?_
   | refine LeO.bind ?_ (fun _ => ?_)
theorem dominolaw15_SendqCredit.mono : ∀ a0 a1 a2 k,LeO (dominolaw15_SendqCredit.f k a0 a1 a2) (dominolaw15_SendqCredit.f (k + 1) a0 a1 a2):=by
 intro a0 a1 a2 k
 obtain ⟨ih0,ih1,ih2,ih3⟩:=dominolaw15_SendqCredit.mono_l k
 unfold dominolaw15_SendqCredit.f
 repeat' first
   | (with_reducible exact ih0 _ _ _ _)
   | (with_reducible exact ih1 _ _ _ _ _ _ _ _ _ _ _ _)
   | (with_reducible exact ih2 _ _ _ _ _ _ _ _ _ _ _ _)
   | (with_reducible exact ih3 _ _ _ _ _ _ _ _ _ _ _ _ _ _ _ _ _)
   | (with_reducible exact dominolaw15_bounded.mono _ _)
   | (with_reducible exact dominolaw15_shown.mono _)
   | (with_reducible exact sendq_Acked.mono _ _ _ _ _ _ _ _ _ _ _ _)
   | (with_reducible exact sendq_Lost.mono _ _ _ _ _ _ _ _ _ _ _ _)
   | (with_reducible exact sendq_Sent.mono _ _ _ _ _ _ _ _ _ _ _ _)
   | (with_reducible exact sendq_Write.mono _ _ _ _ _ _ _ _ _ _ _)
   | (with_reducible exact LeO.refl _)
   | (with_reducible exact LeO.none _)
   | (with_reducible refine LeO.ite ?_ ?_)
   | (with_reducible refine LeO.bind ?_ (fun _ => ?_))
   | exact ih0 _ _ _ _
   | exact ih1 _ _ _ _ _ _ _ _ _ _ _ _
   | exact ih2 _ _ _ _ _ _ _ _ _ _ _ _
   | exact ih3 _ _ _ _ _ _ _ _ _ _ _ _ _ _ _ _ _
   | exact dominolaw15_bounded.mono _ _
   | exact dominolaw15_shown.mono _
   | exact sendq_Acked.mono _ _ _ _ _ _ _ _ _ _ _ _
   | exact sendq_Lost.mono _ _ _ _ _ _ _ _ _ _ _ _
   | exact sendq_Sent.mono _ _ _ _ _ _ _ _ _ _ _ _
   | exact sendq_Write.mono _ _ _ _ _ _ _ _ _ _ _
   | exact LeO.none _
   | refine LeO.ite ?_ ?_
   | refine LeO.bind ?_ (fun _ => ?_)
def dominolaw15_SendqCredit.T9 : Bool × List (List Nat × List Nat):=(true,[([],[]),([],[]),([],[]),([1,2],[1,2]),([3],[3]),([4],[4]),([0,5],[0,5]),([6],[6]),([7],[7]),([7],[7]),([8,6,0,1,2,3,4,5,6,7,8],[8])])
def dominolaw15_SendqCredit.B9 : List Nat:=[0,0,0,6,14,30,63,127,255,255,511]
theorem dominolaw15_SendqCredit.tab9 : rtab .any (opsOf Try.f5 9) = dominolaw15_SendqCredit.T9:=by kernel_rfl
theorem dominolaw15_SendqCredit.bits9 : waitsOk dominolaw15_SendqCredit.T9.2 dominolaw15_SendqCredit.B9 = true:=by kernel_rfl
def dominolaw15_SendqCredit.T13 : Bool × List (List Nat × List Nat):=(true,[([],[]),([],[]),([],[]),([1,2],[1,2]),([3],[3]),([4],[4]),([5],[5]),([],[]),([],[]),([7,8],[7,8]),([9],[9]),([10],[10]),([],[]),([],[]),([12,13],[12,13]),([14],[14]),([15],[15]),([0,6,11,16],[0,6,11,16]),([17,17,0,1,2,3,4,5,6,7,8,9,10,11,12,13,14,15,16,17],[17])])
def dominolaw15_SendqCredit.B13 : List Nat:=[0,0,0,6,14,30,62,0,0,384,896,1920,0,0,12288,28672,61440,131071,262143]
theorem dominolaw15_SendqCredit.tab13 : rtab .any (opsOf Try.f5 13) = dominolaw15_SendqCredit.T13:=by kernel_rfl
theorem dominolaw15_SendqCredit.bits13 : waitsOk dominolaw15_SendqCredit.T13.2 dominolaw15_SendqCredit.B13 = true:=by kernel_rfl
def dominolaw15_SendqCredit.T15 : Bool × List (List Nat × List Nat):=(true,[([],[]),([],[]),([],[]),([1,2],[1,2]),([3],[3]),([4],[4]),([5],[5]),([],[]),([],[]),([7,8],[7,8]),([9],[9]),([10],[10]),([],[]),([],[]),([12,13],[12,13]),([14],[14]),([15],[15]),([0,6,11,16],[0,6,11,16]),([17,17,0,1,2,3,4,5,6,7,8,9,10,11,12,13,14,15,16,17],[17])])
def dominolaw15_SendqCredit.B15 : List Nat:=[0,0,0,6,14,30,62,0,0,384,896,1920,0,0,12288,28672,61440,131071,262143]
theorem dominolaw15_SendqCredit.tab15 : rtab .any (opsOf Try.f5 15) = dominolaw15_SendqCredit.T15:=by kernel_rfl
theorem dominolaw15_SendqCredit.bits15 : waitsOk dominolaw15_SendqCredit.T15.2 dominolaw15_SendqCredit.B15 = true:=by kernel_rfl
set_option maxHeartbeats 8000000 in
set_option maxRecDepth 100000 in
theorem dominolaw15_SendqCredit.calls (k : Nat) (A0 : Option Addr) (c0 : Nat) (l0 : List (S35)) (a1 : Int) (a2 : Int) (r : Bool) (w : World) (hr0 : Kd.C k35 w A0 l0.length l0) (hc0 : l0.length ≤ c0) (h : dominolaw15_SendqCredit.f k l0 a1 a2 = some r) :
  Calls Try.prog 5 #[.slice A0 l0.length c0,.int .u16 a1,.int .i64 a2] w fun e w' => e = .returned (.bool r) ∧ Below w.heap.size w w':=by
 have hu29:=Try.underlying29
 have HR0:=am_ hr0
 have HC0:=am_ hc0
 clear hr0 hc0
 have HB:=am_ (Below.refl w.heap.size w)
 have H : ((dominolaw15_bounded.f k l0).bind fun t238 => (if t238 = true then ((dominolaw15_shown.f k).bind fun t239 => (dominolaw15_SendqCredit.j0 k l0 a1 a2 (!t239))) else (dominolaw15_SendqCredit.j0 k l0 a1 a2 true))) = some r:=h
 clear h
 have HC4:=am_ H
 clear H
 go_enter Try.func5,Try.ntmps5
 go_upto_region 1 with (fail)
 go_cut [19] from 12 to 19 (fun v19 wc => ∃ (kq : Nat) (x19_3 : Bool),v19 = .bool x19_3 ∧ Aside0 (dominolaw15_SendqCredit.j0 kq l0 a1 a2 x19_3 = some r) ∧ Aside0 (kq ≤ k) ∧ Aside0 (Below w.heap.size w wc))
 case first =>
  have H:=HC4.out
  clear HC4
  replace H:=Option.bind_eq_some_iff.mp H
  obtain ⟨t238,A50,H⟩:=H
  replace H : (if t238 = true then ((dominolaw15_shown.f k).bind fun t239 => (dominolaw15_SendqCredit.j0 k l0 a1 a2 (!t239))) else (dominolaw15_SendqCredit.j0 k l0 a1 a2 true)) = some r:=H
  have A5:=am_ A50
  clear A50
  by_cases c6 : t238 = true
  ·subst c6
   have H1 : ((dominolaw15_shown.f k).bind fun t239 => (dominolaw15_SendqCredit.j0 k l0 a1 a2 (!t239))) = some r:=by rw [if_pos rfl] at H;exact H
   clear H
   have H:=H1
   clear H1
   replace H:=Option.bind_eq_some_iff.mp H
   obtain ⟨t239,A70,H⟩:=H
   replace H : (dominolaw15_SendqCredit.j0 k l0 a1 a2 (!t239)) = some r:=H
   have A7:=am_ A70
   clear A70
   have H':=am_ H
   clear H
   go_wp2_with (first|((with_reducible refine gate_callee (f:=8) rfl ?_);refine goesL_ (some 14) rfl rfl Try.func8 (by kernel_rfl) rfl #[.slice A0 l0.length c0] rfl (by (try simp only [List.map_toArray,List.map_cons,List.map_nil]);first|done|rfl|(simp only [List.length_drop,List.length_take];rfl)) ?_;(with_reducible refine (dominolaw15_bounded.calls k _ _ l0 true _ ?side1 ?side2 A5.out).mono ?_);(case side1 => repeat (first|exact (Kd.C_below HR0.out HB.out)|(with_reducible refine Kd.C_alloc ?_ _)|(with_reducible refine Kd.C_drewN ?_ _)|(with_reducible refine Kd.C_drew ?_)));(case side2 => exact HC0.out);rintro e w' ⟨rfl,⟨nd,rfl⟩⟩;refine ⟨_,rfl,?_⟩)|(go_at_call 9;(with_reducible refine (dominolaw15_shown.calls k  t239 _ A7.out).mono ?_);rintro e w8 ⟨rfl,hb⟩;have n0_:=am_ (below_step (by repeat (first|(with_reducible first|exact HB.out|apply ba_|apply pn_|apply pd_)|exact HB.out)) hb);clear HB;have HB:=n0_;clear n0_;(try clear hb);(try clear hb2);(try clear hk);(try clear hi)))
   go_meet
   case rel => exact ⟨_,(!t239),(by first|rfl|(simp;done)|(simp [*];done)),H',⟨by first|omega|exact Nat.le_refl _⟩,⟨by repeat (first|(with_reducible first|exact HB.out|apply ba_|apply pn_|apply pd_)|exact HB.out)⟩⟩
  ·replace c6:=Bool.eq_false_iff.mpr c6
   subst c6
   have H1 : (dominolaw15_SendqCredit.j0 k l0 a1 a2 true) = some r:=by rw [if_neg (show ¬ (false = true) by decide)] at H;exact H
   clear H
   have H:=H1
   clear H1
   have H':=am_ H
   clear H
   go_wp2_with (first|((with_reducible refine gate_callee (f:=8) rfl ?_);refine goesL_ (some 14) rfl rfl Try.func8 (by kernel_rfl) rfl #[.slice A0 l0.length c0] rfl (by (try simp only [List.map_toArray,List.map_cons,List.map_nil]);first|done|rfl|(simp only [List.length_drop,List.length_take];rfl)) ?_;(with_reducible refine (dominolaw15_bounded.calls k _ _ l0 false _ ?side1 ?side2 A5.out).mono ?_);(case side1 => repeat (first|exact (Kd.C_below HR0.out HB.out)|(with_reducible refine Kd.C_alloc ?_ _)|(with_reducible refine Kd.C_drewN ?_ _)|(with_reducible refine Kd.C_drew ?_)));(case side2 => exact HC0.out);rintro e w' ⟨rfl,⟨nd,rfl⟩⟩;refine ⟨_,rfl,?_⟩))
   go_meet
   case rel => exact ⟨_,(true),(by first|rfl|(simp;done)|(simp [*];done)),H',⟨by first|omega|exact Nat.le_refl _⟩,⟨by repeat (first|(with_reducible first|exact HB.out|apply ba_|apply pn_|apply pd_)|exact HB.out)⟩⟩
 case rest =>
  clear HC4
  try clear p2;try clear c5
  try clear c6;try clear c8
  obtain ⟨kq,x19_3,rfl,HA,HJ3,HB⟩:=hcut
  cases kq with
  | zero => exact absurd HA.out (by simp [dominolaw15_SendqCredit.j0])
  | succ kj3 =>
   have H:=HA.out
   clear HA
   simp only [dominolaw15_SendqCredit.j0] at H
   by_cases c9 : x19_3 = true
   ·subst c9
    have H1 : ((dominolaw15_shown.f kj3).bind fun t240 => (some t240)) = some r:=by rw [if_pos rfl] at H;exact H
    clear H
    have H:=H1
    clear H1
    replace H:=Option.bind_eq_some_iff.mp H
    obtain ⟨t240,A100,H⟩:=H
    replace H : (some t240) = some r:=H
    have A10:=am_ A100
    clear A100
    obtain rfl:=Option.some.inj H
    go_wp2_with (first|((with_reducible refine gate_callee (f:=9) rfl ?_);refine goesL_ (some 20) rfl rfl Try.func9 (by kernel_rfl) rfl #[] rfl (by (try simp only [List.map_toArray,List.map_cons,List.map_nil]);first|done|rfl|(simp only [List.length_drop,List.length_take];rfl)) ?_;(with_reducible refine (dominolaw15_shown.calls kj3  t240 _ A10.out).mono ?_);rintro e w11 ⟨rfl,hb⟩;refine ⟨_,rfl,?_⟩;have n0_:=am_ (below_step (by repeat (first|(with_reducible first|exact HB.out|apply ba_|apply pn_|apply pd_)|exact HB.out)) hb);clear HB;have HB:=n0_;clear n0_;(try clear hb);(try clear hb2);(try clear hk);(try clear hi)))
    go_ret
    exact ⟨by first|rfl|(simp [errW_none,errW_some] <;> rfl)|(simp [*,errW_none,errW_some] <;> rfl),by repeat (first|(with_reducible first|exact HB.out|apply ba_|apply pn_|apply pd_)|exact HB.out)⟩
   ·replace c9:=Bool.eq_false_iff.mpr c9
    subst c9
    have H1 : (dominolaw15_SendqCredit.l0 kj3 l0 a1 a2 0 0 0 (⟨#[]⟩ : ByteArray) ([] : List (S67)) ([] : List (S67)) false false false) = some r:=by rw [if_neg (show ¬ (false = true) by decide)] at H;exact H
    clear H
    have H:=H1
    clear H1
    have H':=am_ H
    clear H
    go_wp2_with (first|((with_reducible refine gate_dst (N:=7) rfl ?_);(try (refine gate_guard (by rfl) ?_;dsimp only));refine box_event ?hg (N:=7) ?hd (cs:=kk0_) (t:=29) ?hr ?_;(case hd => rfl);(case hg => rfl);(case hr => first|(go_simp;done)|(go_simp;rfl));intro gb241 hg w12 hbox hb;have n0_:=am_ (below_step (by repeat (first|(with_reducible first|exact HB.out|apply ba_|apply pn_|apply pd_)|exact HB.out)) hb);have n1_:=am_ (hbox);have n2_:=am_ ((by rw [hg];exact (below_size (by repeat (first|(with_reducible first|exact HB.out|apply ba_|apply pn_|apply pd_)|exact HB.out))) : w.heap.size ≤ gb241));have n3_:=am_ ((by rw [hg];exact (below_size (by repeat (first|(with_reducible first|exact HB.out|apply ba_|apply pn_|apply pd_)|exact HB.out))) : w.heap.size ≤ gb241));clear HB;have HB:=n0_;have BK241:=n1_;have GW241:=n2_;have GE241:=n3_;clear n0_ n1_ n2_ n3_;clear hb hbox hg;have hcz13_0 : w12.cell? ⟨gb241,0,none⟩ = some (.int .u64 0):=(kc_ BK241.out 0).trans rfl;have hcz13_1 : w12.cell? ⟨gb241,1,none⟩ = some (.int .u64 0):=(kc_ BK241.out 1).trans rfl;have hcz13_2 : w12.cell? ⟨gb241,2,none⟩ = some (.string (⟨#[]⟩ : ByteArray)):=(kc_ BK241.out 2).trans rfl;have hcz13_3 : w12.cell? ⟨gb241,3,none⟩ = some (.slice none 0 0):=(kc_ BK241.out 3).trans rfl;have hcz13_4 : w12.cell? ⟨gb241,4,none⟩ = some (.slice none 0 0):=(kc_ BK241.out 4).trans rfl;have hcz13_5 : w12.cell? ⟨gb241,5,none⟩ = some (.bool false):=(kc_ BK241.out 5).trans rfl;have hcz13_6 : w12.cell? ⟨gb241,6,none⟩ = some (.bool false):=(kc_ BK241.out 6).trans rfl;have hcz13_7 : w12.cell? ⟨gb241,7,none⟩ = some (.bool false):=(kc_ BK241.out 7).trans rfl;have hfz13_0:=blk_frozen BK241.out 0;have hfz13_1:=blk_frozen BK241.out 1;have hfz13_2:=blk_frozen BK241.out 2;have hfz13_3:=blk_frozen BK241.out 3;have hfz13_4:=blk_frozen BK241.out 4;have hfz13_5:=blk_frozen BK241.out 5;have hfz13_6:=blk_frozen BK241.out 6;have hfz13_7:=blk_frozen BK241.out 7; skip))
    go_loopg [8] kj3 (fun kq v8 w' => ∃ (x8_2 : Int) (x242000_2 : Int) (x242001_2 : Int) (x242002_2 : ByteArray) (x242003_2 : List (S67)) (x242004_2 : List (S67)) (x242005_2 : Bool) (x242006_2 : Bool) (x242007_2 : Bool) (u242003 : Value) (u242004 : Value),v8 = .int .i64 x8_2 ∧ Aside0 (dominolaw15_SendqCredit.l0 kq l0 a1 a2 x8_2 x242000_2 x242001_2 x242002_2 x242003_2 x242004_2 x242005_2 x242006_2 x242007_2 = some r) ∧ Aside0 (kq ≤ kj3) ∧ Aside0 (Kd.V k67 67 w' w.heap.size (fun k_ => k_ ≠ gb241) u242003 x242003_2) ∧ Aside0 (Kd.V k67 67 w' w.heap.size (fun k_ => k_ ≠ gb241) u242004 x242004_2) ∧ Aside0 (w'.heap[gb241]? = some (.cells #[.int .u64 x242000_2,.int .u64 x242001_2,.string x242002_2,u242003,u242004,.bool x242005_2,.bool x242006_2,.bool x242007_2] 29 (0,0))) ∧ Aside0 (Below w.heap.size w w'))
    case atStart => exact ⟨(0),(0),(0),((⟨#[]⟩ : ByteArray)),(([] : List (S67))),(([] : List (S67))),(false),(false),(false),(.slice none 0 0),(.slice none 0 0),(by first|rfl|(simp;done)|(simp [*];done)),H',⟨Nat.le_refl _⟩,⟨Kd.V_nil _ _ _ _ _⟩,⟨Kd.V_nil _ _ _ _ _⟩,⟨by (with_reducible repeat (first|refine kn_ ?_ _|refine kd_ ?_|refine ka_ ?_ _));refine blk_put (cs:=kk0_) ?_ 7 _ rfl;(with_reducible repeat (first|refine kn_ ?_ _|refine kd_ ?_|refine ka_ ?_ _));refine blk_put (cs:=kk0_) ?_ 6 _ rfl;(with_reducible repeat (first|refine kn_ ?_ _|refine kd_ ?_|refine ka_ ?_ _));refine blk_put (cs:=kk0_) ?_ 5 _ rfl;(with_reducible repeat (first|refine kn_ ?_ _|refine kd_ ?_|refine ka_ ?_ _));refine blk_put (cs:=kk0_) ?_ 4 _ rfl;(with_reducible repeat (first|refine kn_ ?_ _|refine kd_ ?_|refine ka_ ?_ _));refine blk_put (cs:=kk0_) ?_ 3 _ rfl;(with_reducible repeat (first|refine kn_ ?_ _|refine kd_ ?_|refine ka_ ?_ _));refine blk_put (cs:=kk0_) ?_ 2 _ rfl;(with_reducible repeat (first|refine kn_ ?_ _|refine kd_ ?_|refine ka_ ?_ _));refine blk_put (cs:=kk0_) ?_ 1 _ rfl;(with_reducible repeat (first|refine kn_ ?_ _|refine kd_ ?_|refine ka_ ?_ _));refine blk_put (cs:=kk0_) ?_ 0 _ rfl;(with_reducible repeat (first|refine kn_ ?_ _|refine kd_ ?_|refine ka_ ?_ _));exact BK241.out⟩,⟨by repeat (first|(with_reducible first|exact HB.out|apply ba_|apply pn_|apply pd_|refine bs_ ?_ GE241.out)|exact HB.out)⟩⟩
    case round =>
     clear H'
     try clear p2;try clear c5
     try clear c6;try clear c8
     try clear c9;try clear hcz13_0
     try clear hcz13_1;try clear hcz13_2
     try clear hcz13_3;try clear hcz13_4
     try clear hcz13_5;try clear hcz13_6
     try clear hcz13_7;try clear hfz13_0
     try clear hfz13_1;try clear hfz13_2
     try clear hfz13_3;try clear hfz13_4
     try clear hfz13_5;try clear hfz13_6
     try clear hfz13_7;try clear p2
     obtain ⟨x8_2,x242000_2,x242001_2,x242002_2,x242003_2,x242004_2,x242005_2,x242006_2,x242007_2,u242003,u242004,rfl,HA,HK2,HO_242003,HO_242004,BK241,HB⟩:=hrel
     cases gk with
     | zero => exact absurd HA.out (by simp [dominolaw15_SendqCredit.l0])
     | succ k2 =>
      have H:=HA.out
      clear HA
      simp only [dominolaw15_SendqCredit.l0] at H
      by_cases c14 : x8_2 < (l0.length : Int)
      ·rw [if_pos c14] at H
       have c14b0 : decide (x8_2 < (l0.length : Int)) = true:=decide_eq_true c14
       clear c14
       by_cases c15 : 0 ≤ x8_2
       ·rw [if_pos c15] at H
        have c15b0 : decide (0 ≤ x8_2) = true:=decide_eq_true c15
        clear c15
        have HC16:=am_ H
        clear H
        have p242 : 0 ≤ (x8_2 : Int):=of_decide_eq_true (by first|(with_reducible assumption)|assumption)
        have q242 : x8_2 < (l0.length : Int):=of_decide_eq_true (by first|(with_reducible assumption)|assumption)
        obtain ⟨ad242,e242,hx242_0,hx242_1,hx242_2,hx242_3,hx242_4⟩:=at_T35 HR0.out x8_2 p242 q242
        cases e242
        replace hx242_0:=(HB.out.cell (World.block_lt_of_cell? w _ hx242_0)).trans hx242_0
        replace hx242_1:=(HB.out.cell (World.block_lt_of_cell? w _ hx242_1)).trans hx242_1
        replace hx242_2:=(HB.out.cell (World.block_lt_of_cell? w _ hx242_2)).trans hx242_2
        replace hx242_3:=(HB.out.cell (World.block_lt_of_cell? w _ hx242_3)).trans hx242_3
        replace hx242_4:=(HB.out.cell (World.block_lt_of_cell? w _ hx242_4)).trans hx242_4
        replace p242:=eq_true p242
        replace q242:=eq_true q242
        go_upto_block 2 with (fail)
        go_cut [] from 22 to 24 (fun wc => ∃ (kq : Nat) (x242000_15 : Int) (x242001_15 : Int) (x242002_15 : ByteArray) (x242003_15 : List (S67)) (x242004_15 : List (S67)) (x242005_15 : Bool) (x242006_15 : Bool) (x242007_15 : Bool) (u242003 : Value) (u242004 : Value),Aside0 (dominolaw15_SendqCredit.j2 kq l0 a1 a2 x8_2 x242000_15 x242001_15 x242002_15 x242003_15 x242004_15 x242005_15 x242006_15 x242007_15 = some r) ∧ Aside0 (kq ≤ k2) ∧ Aside0 (Kd.V k67 67 wc w.heap.size (fun k_ => k_ ≠ gb241) u242003 x242003_15) ∧ Aside0 (Kd.V k67 67 wc w.heap.size (fun k_ => k_ ≠ gb241) u242004 x242004_15) ∧ Aside0 (wc.heap[gb241]? = some (.cells #[.int .u64 x242000_15,.int .u64 x242001_15,.string x242002_15,u242003,u242004,.bool x242005_15,.bool x242006_15,.bool x242007_15] 29 (0,0))) ∧ Aside0 (Below w.heap.size w wc))
        case first =>
         have H:=HC16.out
         clear HC16
         by_cases c17 : ((rd_T35 l0 x8_2).f0) = 0
         ·rw [if_pos c17] at H
          have c17b0 : (((rd_T35 l0 x8_2).f0) == 0) = true:=beq_iff_eq.mpr c17
          have c17b1 : (((rd_T35 l0 x8_2).f0) != 0) = false:=bne_eq_false_iff_eq.mpr c17
          clear c17
          (first|rw [c17b0]|(simp only [i64_w,i32_w];rw [c17b0])|skip)
          replace H:=Option.bind_eq_some_iff.mp H
          obtain ⟨⟨t244,t245,t246,t247,t250,t253,t254,t255,t256⟩,A180,H⟩:=H
          replace H : (dominolaw15_SendqCredit.j2 k2 l0 a1 a2 x8_2 t244 t245 t246 t247 t250 t253 t254 t255) = some r:=H
          have A18:=am_ A180
          clear A180
          have H':=am_ H
          clear H
          try go_wp2
          have n0_:=am_ (Kd.V_drew HO_242003.out)
          have n1_:=am_ (Kd.V_drew HO_242004.out)
          have n2_:=am_ (kd_ BK241.out)
          have n3_:=am_ (pd_ HB.out)
          clear HO_242003
          clear HO_242004
          clear BK241
          clear HB
          have HO_242003:=n0_
          have HO_242004:=n1_
          have BK241:=n2_
          have HB:=n3_
          clear n0_ n1_ n2_ n3_
          have p243 : 0 ≤ (x8_2 : Int):=of_decide_eq_true (by first|(with_reducible assumption)|assumption)
          have q243 : x8_2 < (l0.length : Int):=of_decide_eq_true (by first|(with_reducible assumption)|assumption)
          obtain ⟨ad243,e243,hx243_0,hx243_1,hx243_2,hx243_3,hx243_4⟩:=at_T35 HR0.out x8_2 p243 q243
          have hw243_4:=hx243_4
          have hw243_3:=hx243_3
          have hw243_2:=hx243_2
          have hw243_1:=hx243_1
          have hw243_0:=hx243_0
          obtain rfl : ad242 = ad243:=(by injection e243)
          replace hx243_0:=(HB.out.cell (World.block_lt_of_cell? w _ hx243_0)).trans hx243_0
          replace hx243_1:=(HB.out.cell (World.block_lt_of_cell? w _ hx243_1)).trans hx243_1
          replace hx243_2:=(HB.out.cell (World.block_lt_of_cell? w _ hx243_2)).trans hx243_2
          replace hx243_3:=(HB.out.cell (World.block_lt_of_cell? w _ hx243_3)).trans hx243_3
          replace hx243_4:=(HB.out.cell (World.block_lt_of_cell? w _ hx243_4)).trans hx243_4
          replace p243:=eq_true p243
          replace q243:=eq_true q243
          obtain ⟨Ao20,co20,eo20⟩:=Kd.V_slice HO_242003.out
          (first|subst eo20|(injection eo20 with f1_ f2_ f3_;have f4_:=f1_.symm;have f5_:=f3_.symm;clear f1_ f2_ f3_;subst f4_;subst f5_))
          obtain ⟨Ao21,co21,eo21⟩:=Kd.V_slice HO_242004.out
          (first|subst eo21|(injection eo21 with f1_ f2_ f3_;have f4_:=f1_.symm;have f5_:=f3_.symm;clear f1_ f2_ f3_;subst f4_;subst f5_))
          refine start_ (n:=11) (S:=fun w' => w'.cell? ⟨gb241,0,none⟩ = some (.int .u64 x242000_2) ∧ w'.cell? ⟨gb241,1,none⟩ = some (.int .u64 x242001_2) ∧ w'.cell? ⟨gb241,2,none⟩ = some (.string x242002_2) ∧ w'.cell? ⟨gb241,3,none⟩ = some (.slice Ao20 x242003_2.length co20) ∧ w'.cell? ⟨gb241,4,none⟩ = some (.slice Ao21 x242004_2.length co21) ∧ w'.cell? ⟨gb241,5,none⟩ = some (.bool x242005_2) ∧ w'.cell? ⟨gb241,6,none⟩ = some (.bool x242006_2) ∧ w'.cell? ⟨gb241,7,none⟩ = some (.bool x242007_2) ∧ w'.cell? (ad242.add ((x8_2).toNat * 5)) = some (.int .i64 ((rd_T35 l0 x8_2).f0)) ∧ w'.cell? ⟨(ad242.add ((x8_2).toNat * 5)).block,(ad242.add ((x8_2).toNat * 5)).off + 1,none⟩ = some (.int .i64 ((rd_T35 l0 x8_2).f1)) ∧ w'.cell? ⟨(ad242.add ((x8_2).toNat * 5)).block,(ad242.add ((x8_2).toNat * 5)).off + 2,none⟩ = some (.int .u64 ((rd_T35 l0 x8_2).f2)) ∧ w'.cell? ⟨(ad242.add ((x8_2).toNat * 5)).block,(ad242.add ((x8_2).toNat * 5)).off + 3,none⟩ = some (.string ((rd_T35 l0 x8_2).f3)) ∧ w'.cell? ⟨(ad242.add ((x8_2).toNat * 5)).block,(ad242.add ((x8_2).toNat * 5)).off + 4,none⟩ = some (.bool ((rd_T35 l0 x8_2).f4))) (ds:=[10]) #[F_,F_,F_,F_,F_,F_,F_,F_,F_,F_,F_] (by kernel_rfl) rfl rfl ⟨(kc_ BK241.out 0).trans rfl,(kc_ BK241.out 1).trans rfl,(kc_ BK241.out 2).trans rfl,(kc_ BK241.out 3).trans rfl,(kc_ BK241.out 4).trans rfl,(kc_ BK241.out 5).trans rfl,(kc_ BK241.out 6).trans rfl,(kc_ BK241.out 7).trans rfl,(up_ HB.out hw243_0),(up_ HB.out hw243_1),(up_ HB.out hw243_2),(up_ HB.out hw243_3),(up_ HB.out hw243_4)⟩ (fun hHeld => ?_);refine with_tabW dominolaw15_SendqCredit.tab9 dominolaw15_SendqCredit.bits9 (fun HT_ HW_ => ?_)
          generalize wr.drew = w19 at HO_242003 HO_242004 BK241 HB hx243_0 hx243_1 hx243_2 hx243_3 hx243_4 hHeld ⊢
          refine pure_ (i:=1) (N:=some 37) (v:=?_) (a':=?_) #[F_,T_,F_,F_,F_,F_,F_,F_,F_,F_,F_] rfl rfl (any_of HT_.out (by kernel_rfl)) (fun _ _ _ h => h) (Or.inl ⟨by rfl,?_⟩) ?_ ?_
          rotate_left;(intro w';go_simp;with_reducible rfl);rotate_left;(simp only [Act.put,ps_,i64_w,i32_w];rfl)
          refine pure_ (i:=2) (N:=some 38) (v:=?_) (a':=?_) #[F_,T_,T_,F_,F_,F_,F_,F_,F_,F_,F_] rfl rfl (any_of HT_.out (by kernel_rfl)) (fun _ _ _ h => h) (Or.inl ⟨by rfl,?_⟩) ?_ ?_
          rotate_left;(intro w';go_simp;with_reducible rfl);rotate_left;(simp only [Act.put,ps_,i64_w,i32_w];rfl)
          refine pure_ (i:=3) (N:=some 39) (v:=?_) (a':=?_) #[F_,T_,T_,T_,F_,F_,F_,F_,F_,F_,F_] rfl rfl (any_of HT_.out (by kernel_rfl)) (fun _ _ _ h => h) (Or.inl ⟨by rfl,?_⟩) ?_ ?_
          rotate_left;(intro w';go_simp;with_reducible rfl);rotate_left;(simp only [Act.put,ps_,i64_w,i32_w];rfl)
          refine pure_ (i:=4) (N:=some 40) (v:=?_) (a':=?_) #[F_,T_,T_,T_,T_,F_,F_,F_,F_,F_,F_] rfl rfl (any_of HT_.out (by kernel_rfl)) (fun _ _ _ h => h) (Or.inl ⟨by rfl,?_⟩) ?_ ?_
          rotate_left;(intro w';go_simp;with_reducible rfl);rotate_left;(simp only [Act.put,ps_,i64_w,i32_w];rfl)
          refine take_ (i:=0) (N:=some 36) (v:=?_) (a':=?_) #[T_,T_,T_,T_,T_,F_,F_,F_,F_,F_,F_] rfl rfl (take_ofW HT_.out HW_.out (by kernel_rfl)) (fun _ _ _ h => h) (Or.inl ⟨by rfl,?_⟩) hHeld ?_ ?_
          rotate_left
          ·rintro w' ⟨s0,s1,s2,s3,s4,s5,s6,s7,s8,s9,s10,s11,s12⟩
           go_simp
           with_reducible rfl
          rotate_left
          ·simp only [Act.put,ps_,i64_w,i32_w]
           rfl
          refine take_ (i:=5) (N:=some 41) (v:=?_) (a':=?_) #[T_,T_,T_,T_,T_,T_,F_,F_,F_,F_,F_] rfl rfl (take_ofW HT_.out HW_.out (by kernel_rfl)) (fun _ _ _ h => h) (Or.inl ⟨by rfl,?_⟩) hHeld ?_ ?_
          rotate_left
          ·rintro w' ⟨s0,s1,s2,s3,s4,s5,s6,s7,s8,s9,s10,s11,s12⟩
           go_simp
           with_reducible rfl
          rotate_left
          ·simp only [Act.put,ps_,i64_w,i32_w]
           rfl
          refine one_ (i:=6) (N:=some 42) #[T_,T_,T_,T_,T_,T_,T_,F_,F_,F_,F_] rfl rfl (one_of HT_.out (by kernel_rfl)) (by decide) (fun K hK => ?_)
          refine goes_ Try.func12 (by kernel_rfl) rfl #[.agg #[.int .u64 x242000_2,.int .u64 x242001_2,.string x242002_2,.slice Ao20 x242003_2.length co20,.slice Ao21 x242004_2.length co21,.bool x242005_2,.bool x242006_2,.bool x242007_2],.string ((rd_T35 l0 x8_2).f3),.int .i64 500] (by rfl) rfl rfl (by (try simp only [List.map_toArray,List.map_cons,List.map_nil]);first|done|rfl|(simp only [List.length_drop,List.length_take];rfl)) ?_
          with_reducible refine (sendq_Write.calls k2 x242000_2 x242001_2 x242002_2 (fun k_ => k_ ≠ gb241) _ _ x242003_2 (fun k_ => k_ ≠ gb241) _ _ x242004_2 x242005_2 x242006_2 x242007_2 ((rd_T35 l0 x8_2).f3) 500 t244 t245 t246 t247 t250 t253 t254 t255 t256 _ ?side1 ?side2 A18.out).mono ?_
          (case side1 => exact HO_242003.out)
          (case side2 => exact HO_242004.out)
          rintro e w22 ⟨v248,v251,rfl,ho0,ho1,hb⟩
          refine ⟨_,rfl,?_⟩
          have n0_:=am_ (Kd.V_below (by (with_reducible repeat (first|apply Kd.V_alloc|apply Kd.V_drewN|apply Kd.V_drew));exact HO_242003.out) hb)
          have n1_:=am_ (Kd.V_below (by (with_reducible repeat (first|apply Kd.V_alloc|apply Kd.V_drewN|apply Kd.V_drew));exact HO_242004.out) hb)
          have n2_:=am_ (Kd.V_lower (Kd.V_mono (ok':=fun k_ => k_ ≠ gb241) ho0 (fun k_ hk_ => Or.elim hk_ (fun hs_ => Or.elim hs_ (fun hs_ => hs_) (fun hs_ => hs_)) (fun hn_ => (Kd.freshB (g:=gb241) (o:=.cells #[.int .u64 x242000_2,.int .u64 x242001_2,.string x242002_2,.slice Ao20 x242003_2.length co20,.slice Ao21 x242004_2.length co21,.bool x242005_2,.bool x242006_2,.bool x242007_2] 29 (0,0)) (by (with_reducible repeat (first|refine kn_ ?_ _|refine kd_ ?_|refine ka_ ?_ _));exact BK241.out) k_ hn_)))) (below_size (by repeat (first|(with_reducible first|exact HB.out|apply ba_|apply pn_|apply pd_|refine bs_ ?_ GE241.out)|exact HB.out))))
          have n3_:=am_ (Kd.V_lower (Kd.V_mono (ok':=fun k_ => k_ ≠ gb241) ho1 (fun k_ hk_ => Or.elim hk_ (fun hs_ => Or.elim hs_ (fun hs_ => hs_) (fun hs_ => hs_)) (fun hn_ => (Kd.freshB (g:=gb241) (o:=.cells #[.int .u64 x242000_2,.int .u64 x242001_2,.string x242002_2,.slice Ao20 x242003_2.length co20,.slice Ao21 x242004_2.length co21,.bool x242005_2,.bool x242006_2,.bool x242007_2] 29 (0,0)) (by (with_reducible repeat (first|refine kn_ ?_ _|refine kd_ ?_|refine ka_ ?_ _));exact BK241.out) k_ hn_)))) (below_size (by repeat (first|(with_reducible first|exact HB.out|apply ba_|apply pn_|apply pd_|refine bs_ ?_ GE241.out)|exact HB.out))))
          have n4_:=am_ (blk_below (g:=gb241) (o:=.cells #[.int .u64 x242000_2,.int .u64 x242001_2,.string x242002_2,.slice Ao20 x242003_2.length co20,.slice Ao21 x242004_2.length co21,.bool x242005_2,.bool x242006_2,.bool x242007_2] 29 (0,0)) (by (with_reducible repeat (first|refine kn_ ?_ _|refine kd_ ?_|refine ka_ ?_ _));exact BK241.out) hb)
          have n5_:=am_ (below_step (by repeat (first|(with_reducible first|exact HB.out|apply ba_|apply pn_|apply pd_|refine bs_ ?_ GE241.out)|exact HB.out)) hb)
          clear HO_242003
          clear HO_242004
          clear BK241
          clear HB
          have HO_242003:=n0_
          have HO_242004:=n1_
          have HO249:=n2_
          have HO252:=n3_
          have BK241:=n4_
          have HB:=n5_
          clear n0_ n1_ n2_ n3_ n4_ n5_
          (try clear hb)
          (try clear hb2)
          (try clear hk)
          (try clear hi)
          (try clear ho0)
          (try clear ho1)
          obtain ⟨Ao26,co26,eo26⟩:=Kd.V_slice HO249.out
          (first|subst eo26|(injection eo26 with f1_ f2_ f3_;have f4_:=f1_.symm;have f5_:=f3_.symm;clear f1_ f2_ f3_;subst f4_;subst f5_))
          obtain ⟨Ao28,co28,eo28⟩:=Kd.V_slice HO252.out
          (first|subst eo28|(injection eo28 with f1_ f2_ f3_;have f4_:=f1_.symm;have f5_:=f3_.symm;clear f1_ f2_ f3_;subst f4_;subst f5_))
          refine hK.out _ _ ⟨(kc_ BK241.out 0).trans rfl,(kc_ BK241.out 1).trans rfl,(kc_ BK241.out 2).trans rfl,(kc_ BK241.out 3).trans rfl,(kc_ BK241.out 4).trans rfl,(kc_ BK241.out 5).trans rfl,(kc_ BK241.out 6).trans rfl,(kc_ BK241.out 7).trans rfl,(up_ HB.out hw243_0),(up_ HB.out hw243_1),(up_ HB.out hw243_2),(up_ HB.out hw243_3),(up_ HB.out hw243_4)⟩ (fun hHeld => ?_)
          clear hK K
          refine norm_ (a':=?_) ?_ ?_
          rotate_left
          ·show Act.put _ (some 42) _ = _
           simp only [Act.put,ps_,i64_w,i32_w]
           rfl
          refine pure_ (i:=7) (N:=some 35) (v:=?_) (a':=?_) #[T_,T_,T_,T_,T_,T_,T_,T_,F_,F_,F_] rfl rfl (any_of HT_.out (by kernel_rfl)) (fun _ _ _ h => h) (Or.inl ⟨by rfl,?_⟩) ?_ ?_
          rotate_left;(intro w';go_simp;with_reducible rfl);rotate_left;(simp only [Act.put,ps_,i64_w,i32_w];rfl)
          refine pure_ (i:=8) (N:=some 43) (v:=?_) (a':=?_) #[T_,T_,T_,T_,T_,T_,T_,T_,T_,F_,F_] rfl rfl (any_of HT_.out (by kernel_rfl)) (fun _ _ _ h => h) (Or.inl ⟨by rfl,?_⟩) ?_ ?_
          rotate_left;(intro w';go_simp;with_reducible rfl);rotate_left;(simp only [Act.put,ps_,i64_w,i32_w];rfl)
          refine pure_ (i:=9) (N:=some 44) (v:=?_) (a':=?_) #[T_,T_,T_,T_,T_,T_,T_,T_,T_,T_,F_] rfl rfl (any_of HT_.out (by kernel_rfl)) (fun _ _ _ h => h) (Or.inl ⟨by rfl,?_⟩) ?_ ?_
          rotate_left;(intro w';go_simp;with_reducible rfl);rotate_left;(simp only [Act.put,ps_,i64_w,i32_w];rfl)
          refine last_ (i:=10) (N:=none) #[T_,T_,T_,T_,T_,T_,T_,T_,T_,T_,T_] rfl rfl (one_of HT_.out (by kernel_rfl)) (by decide) (fun K hK => ?_)
          have hs23 : w22.cell? ⟨gb241,0,none⟩ = some (.int .u64 x242000_2):=(kc_ BK241.out 0).trans rfl
          have hfs23:=blk_frozen BK241.out 0
          have hs24 : w22.cell? ⟨gb241,1,none⟩ = some (.int .u64 x242001_2):=(kc_ BK241.out 1).trans rfl
          have hfs24:=blk_frozen BK241.out 1
          have hs25 : w22.cell? ⟨gb241,2,none⟩ = some (.string x242002_2):=(kc_ BK241.out 2).trans rfl
          have hfs25:=blk_frozen BK241.out 2
          have hs27 : w22.cell? ⟨gb241,3,none⟩ = some (.slice Ao20 x242003_2.length co20):=(kc_ BK241.out 3).trans rfl
          have hfs27:=blk_frozen BK241.out 3
          have hs29 : w22.cell? ⟨gb241,4,none⟩ = some (.slice Ao21 x242004_2.length co21):=(kc_ BK241.out 4).trans rfl
          have hfs29:=blk_frozen BK241.out 4
          have hs30 : w22.cell? ⟨gb241,5,none⟩ = some (.bool x242005_2):=(kc_ BK241.out 5).trans rfl
          have hfs30:=blk_frozen BK241.out 5
          have hs31 : w22.cell? ⟨gb241,6,none⟩ = some (.bool x242006_2):=(kc_ BK241.out 6).trans rfl
          have hfs31:=blk_frozen BK241.out 6
          have hs32 : w22.cell? ⟨gb241,7,none⟩ = some (.bool x242007_2):=(kc_ BK241.out 7).trans rfl
          have hfs32:=blk_frozen BK241.out 7
          refine skip_ (w1:=?_) (by rfl) rfl ?_ ?_
          rotate_left
          ·go_simp
           rfl
          refine hK.out _ _ ?_
          clear hK K
          refine done_ (done_of HT_.out (by kernel_rfl)) ?_
          try go_wp2
          go_meet
          case rel => exact ⟨_,(t244),(t245),(t246),(t247),(t250),(t253),(t254),(t255),(.slice Ao26 t247.length co26),(.slice Ao28 t250.length co28),H',⟨by have:=HJ3.out;have:=HK2.out;first|omega|exact Nat.le_refl _⟩,⟨by (with_reducible repeat (first|apply Kd.V_alloc|apply Kd.V_drewN|apply Kd.V_drew));exact Kd.V_mono (Kd.V_far (p:=⟨gb241,7,none⟩) (Kd.V_far (p:=⟨gb241,6,none⟩) (Kd.V_far (p:=⟨gb241,5,none⟩) (Kd.V_far (p:=⟨gb241,4,none⟩) (Kd.V_far (p:=⟨gb241,3,none⟩) (Kd.V_far (p:=⟨gb241,2,none⟩) (Kd.V_far (p:=⟨gb241,1,none⟩) (Kd.V_far (p:=⟨gb241,0,none⟩) (Kd.V_mono HO249.out (fun k_ hk => (⟨hk,hk⟩ : _ ∧ k_ ≠ gb241))) (fun _ hk => hk.2) (.int .u64 t244)) (fun _ hk => hk.2) (.int .u64 t245)) (fun _ hk => hk.2) (.string t246)) (fun _ hk => hk.2) (.slice Ao26 t247.length co26)) (fun _ hk => hk.2) (.slice Ao28 t250.length co28)) (fun _ hk => hk.2) (.bool t253)) (fun _ hk => hk.2) (.bool t254)) (fun _ hk => hk.2) (.bool t255)) (fun _ hk => hk.1)⟩,⟨by (with_reducible repeat (first|apply Kd.V_alloc|apply Kd.V_drewN|apply Kd.V_drew));exact Kd.V_mono (Kd.V_far (p:=⟨gb241,7,none⟩) (Kd.V_far (p:=⟨gb241,6,none⟩) (Kd.V_far (p:=⟨gb241,5,none⟩) (Kd.V_far (p:=⟨gb241,4,none⟩) (Kd.V_far (p:=⟨gb241,3,none⟩) (Kd.V_far (p:=⟨gb241,2,none⟩) (Kd.V_far (p:=⟨gb241,1,none⟩) (Kd.V_far (p:=⟨gb241,0,none⟩) (Kd.V_mono HO252.out (fun k_ hk => (⟨hk,hk⟩ : _ ∧ k_ ≠ gb241))) (fun _ hk => hk.2) (.int .u64 t244)) (fun _ hk => hk.2) (.int .u64 t245)) (fun _ hk => hk.2) (.string t246)) (fun _ hk => hk.2) (.slice Ao26 t247.length co26)) (fun _ hk => hk.2) (.slice Ao28 t250.length co28)) (fun _ hk => hk.2) (.bool t253)) (fun _ hk => hk.2) (.bool t254)) (fun _ hk => hk.2) (.bool t255)) (fun _ hk => hk.1)⟩,⟨by (with_reducible repeat (first|refine kn_ ?_ _|refine kd_ ?_|refine ka_ ?_ _));refine blk_put (cs:=#[.int .u64 t244,.int .u64 t245,.string t246,.slice Ao26 t247.length co26,.slice Ao28 t250.length co28,.bool t253,.bool t254,.bool x242007_2]) ?_ 7 _ rfl;(with_reducible repeat (first|refine kn_ ?_ _|refine kd_ ?_|refine ka_ ?_ _));refine blk_put (cs:=#[.int .u64 t244,.int .u64 t245,.string t246,.slice Ao26 t247.length co26,.slice Ao28 t250.length co28,.bool t253,.bool x242006_2,.bool x242007_2]) ?_ 6 _ rfl;(with_reducible repeat (first|refine kn_ ?_ _|refine kd_ ?_|refine ka_ ?_ _));refine blk_put (cs:=#[.int .u64 t244,.int .u64 t245,.string t246,.slice Ao26 t247.length co26,.slice Ao28 t250.length co28,.bool x242005_2,.bool x242006_2,.bool x242007_2]) ?_ 5 _ rfl;(with_reducible repeat (first|refine kn_ ?_ _|refine kd_ ?_|refine ka_ ?_ _));refine blk_put (cs:=#[.int .u64 t244,.int .u64 t245,.string t246,.slice Ao26 t247.length co26,.slice Ao21 x242004_2.length co21,.bool x242005_2,.bool x242006_2,.bool x242007_2]) ?_ 4 _ rfl;(with_reducible repeat (first|refine kn_ ?_ _|refine kd_ ?_|refine ka_ ?_ _));refine blk_put (cs:=#[.int .u64 t244,.int .u64 t245,.string t246,.slice Ao20 x242003_2.length co20,.slice Ao21 x242004_2.length co21,.bool x242005_2,.bool x242006_2,.bool x242007_2]) ?_ 3 _ rfl;(with_reducible repeat (first|refine kn_ ?_ _|refine kd_ ?_|refine ka_ ?_ _));refine blk_put (cs:=#[.int .u64 t244,.int .u64 t245,.string x242002_2,.slice Ao20 x242003_2.length co20,.slice Ao21 x242004_2.length co21,.bool x242005_2,.bool x242006_2,.bool x242007_2]) ?_ 2 _ rfl;(with_reducible repeat (first|refine kn_ ?_ _|refine kd_ ?_|refine ka_ ?_ _));refine blk_put (cs:=#[.int .u64 t244,.int .u64 x242001_2,.string x242002_2,.slice Ao20 x242003_2.length co20,.slice Ao21 x242004_2.length co21,.bool x242005_2,.bool x242006_2,.bool x242007_2]) ?_ 1 _ rfl;(with_reducible repeat (first|refine kn_ ?_ _|refine kd_ ?_|refine ka_ ?_ _));refine blk_put (cs:=#[.int .u64 x242000_2,.int .u64 x242001_2,.string x242002_2,.slice Ao20 x242003_2.length co20,.slice Ao21 x242004_2.length co21,.bool x242005_2,.bool x242006_2,.bool x242007_2]) ?_ 0 _ rfl;(with_reducible repeat (first|refine kn_ ?_ _|refine kd_ ?_|refine ka_ ?_ _));exact BK241.out⟩,⟨by repeat (first|(with_reducible first|exact HB.out|apply ba_|apply pn_|apply pd_|refine bs_ ?_ GE241.out)|exact HB.out)⟩⟩
         ·rw [if_neg c17] at H
          have c17b0 : (((rd_T35 l0 x8_2).f0) == 0) = false:=beq_eq_false_iff_ne.mpr c17
          have c17b1 : (((rd_T35 l0 x8_2).f0) != 0) = true:=bne_iff_ne.mpr c17
          (first|rw [c17b0]|(simp only [i64_w,i32_w];rw [c17b0])|skip)
          by_cases c33 : ((rd_T35 l0 x8_2).f0) = 1
          ·rw [if_pos c33] at H
           have c33b0 : (((rd_T35 l0 x8_2).f0) == 1) = true:=beq_iff_eq.mpr c33
           have c33b1 : (((rd_T35 l0 x8_2).f0) != 1) = false:=bne_eq_false_iff_eq.mpr c33
           clear c33
           replace H:=Option.bind_eq_some_iff.mp H
           obtain ⟨⟨t257,t258,t259,t260,t263,t266,t267,t268⟩,A340,H⟩:=H
           replace H : (dominolaw15_SendqCredit.j2 k2 l0 a1 a2 x8_2 t257 t258 t259 t260 t263 t266 t267 t268) = some r:=H
           have A34:=am_ A340
           clear A340
           have H':=am_ H
           clear H
           have hcz35_0 : wr.cell? ⟨gb241,0,none⟩ = some (.int .u64 x242000_2):=(kc_ BK241.out 0).trans rfl
           have hcz35_1 : wr.cell? ⟨gb241,1,none⟩ = some (.int .u64 x242001_2):=(kc_ BK241.out 1).trans rfl
           have hcz35_2 : wr.cell? ⟨gb241,2,none⟩ = some (.string x242002_2):=(kc_ BK241.out 2).trans rfl
           have hcz35_3 : wr.cell? ⟨gb241,3,none⟩ = some (u242003):=(kc_ BK241.out 3).trans rfl
           have hcz35_4 : wr.cell? ⟨gb241,4,none⟩ = some (u242004):=(kc_ BK241.out 4).trans rfl
           have hcz35_5 : wr.cell? ⟨gb241,5,none⟩ = some (.bool x242005_2):=(kc_ BK241.out 5).trans rfl
           have hcz35_6 : wr.cell? ⟨gb241,6,none⟩ = some (.bool x242006_2):=(kc_ BK241.out 6).trans rfl
           have hcz35_7 : wr.cell? ⟨gb241,7,none⟩ = some (.bool x242007_2):=(kc_ BK241.out 7).trans rfl
           have hfz35_0:=blk_frozen BK241.out 0
           have hfz35_1:=blk_frozen BK241.out 1
           have hfz35_2:=blk_frozen BK241.out 2
           have hfz35_3:=blk_frozen BK241.out 3
           have hfz35_4:=blk_frozen BK241.out 4
           have hfz35_5:=blk_frozen BK241.out 5
           have hfz35_6:=blk_frozen BK241.out 6
           have hfz35_7:=blk_frozen BK241.out 7
           obtain ⟨Ao36,co36,eo36⟩:=Kd.V_slice HO_242003.out
           subst eo36
           obtain ⟨Ao37,co37,eo37⟩:=Kd.V_slice HO_242004.out
           subst eo37
           go_wp2_with (first|((with_reducible refine gate_callee (f:=14) rfl ?_);refine goesL_ (some 48) rfl rfl Try.func14 (by kernel_rfl) rfl #[.agg #[.int .u64 x242000_2,.int .u64 x242001_2,.string x242002_2,.slice Ao36 x242003_2.length co36,.slice Ao37 x242004_2.length co37,.bool x242005_2,.bool x242006_2,.bool x242007_2]] rfl (by (try simp only [List.map_toArray,List.map_cons,List.map_nil]);first|done|rfl|(simp only [List.length_drop,List.length_take];rfl)) ?_;(with_reducible refine (sendq_Finish.calls x242000_2 x242001_2 x242002_2 (fun k_ => k_ ≠ gb241) _ _ x242003_2 (fun k_ => k_ ≠ gb241) _ _ x242004_2 x242005_2 x242006_2 x242007_2 t257 t258 t259 t260 t263 t266 t267 t268 _ ?side1 ?side2 A34.out).mono ?_);(case side1 => exact HO_242003.out);(case side2 => exact HO_242004.out);rintro e w38 ⟨v261,v264,rfl,ho0,ho1,hb⟩;refine ⟨_,rfl,?_⟩;have n0_:=am_ (Kd.V_below (by (with_reducible repeat (first|apply Kd.V_alloc|apply Kd.V_drewN|apply Kd.V_drew));exact HO_242003.out) hb);have n1_:=am_ (Kd.V_below (by (with_reducible repeat (first|apply Kd.V_alloc|apply Kd.V_drewN|apply Kd.V_drew));exact HO_242004.out) hb);have n2_:=am_ (Kd.V_lower (Kd.V_mono (ok':=fun k_ => k_ ≠ gb241) ho0 (fun k_ hk_ => Or.elim hk_ (fun hs_ => Or.elim hs_ (fun hs_ => hs_) (fun hs_ => hs_)) (fun hn_ => (Kd.freshB (g:=gb241) (o:=.cells #[.int .u64 x242000_2,.int .u64 x242001_2,.string x242002_2,.slice Ao36 x242003_2.length co36,.slice Ao37 x242004_2.length co37,.bool x242005_2,.bool x242006_2,.bool x242007_2] 29 (0,0)) (by (with_reducible repeat (first|refine kn_ ?_ _|refine kd_ ?_|refine ka_ ?_ _));exact BK241.out) k_ hn_)))) (below_size (by repeat (first|(with_reducible first|exact HB.out|apply ba_|apply pn_|apply pd_|refine bs_ ?_ GE241.out)|exact HB.out))));have n3_:=am_ (Kd.V_lower (Kd.V_mono (ok':=fun k_ => k_ ≠ gb241) ho1 (fun k_ hk_ => Or.elim hk_ (fun hs_ => Or.elim hs_ (fun hs_ => hs_) (fun hs_ => hs_)) (fun hn_ => (Kd.freshB (g:=gb241) (o:=.cells #[.int .u64 x242000_2,.int .u64 x242001_2,.string x242002_2,.slice Ao36 x242003_2.length co36,.slice Ao37 x242004_2.length co37,.bool x242005_2,.bool x242006_2,.bool x242007_2] 29 (0,0)) (by (with_reducible repeat (first|refine kn_ ?_ _|refine kd_ ?_|refine ka_ ?_ _));exact BK241.out) k_ hn_)))) (below_size (by repeat (first|(with_reducible first|exact HB.out|apply ba_|apply pn_|apply pd_|refine bs_ ?_ GE241.out)|exact HB.out))));have n4_:=am_ (blk_below (g:=gb241) (o:=.cells #[.int .u64 x242000_2,.int .u64 x242001_2,.string x242002_2,.slice Ao36 x242003_2.length co36,.slice Ao37 x242004_2.length co37,.bool x242005_2,.bool x242006_2,.bool x242007_2] 29 (0,0)) (by (with_reducible repeat (first|refine kn_ ?_ _|refine kd_ ?_|refine ka_ ?_ _));exact BK241.out) hb);have n5_:=am_ (below_step (by repeat (first|(with_reducible first|exact HB.out|apply ba_|apply pn_|apply pd_|refine bs_ ?_ GE241.out)|exact HB.out)) hb);clear HO_242003;clear HO_242004;clear BK241;clear HB;have HO_242003:=n0_;have HO_242004:=n1_;have HO262:=n2_;have HO265:=n3_;have BK241:=n4_;have HB:=n5_;clear n0_ n1_ n2_ n3_ n4_ n5_;(try clear hb);(try clear hb2);(try clear hk);(try clear hi);(try clear ho0);(try clear ho1);have hcz39_0 : w38.cell? ⟨gb241,0,none⟩ = some (.int .u64 x242000_2):=(kc_ BK241.out 0).trans rfl;have hcz39_1 : w38.cell? ⟨gb241,1,none⟩ = some (.int .u64 x242001_2):=(kc_ BK241.out 1).trans rfl;have hcz39_2 : w38.cell? ⟨gb241,2,none⟩ = some (.string x242002_2):=(kc_ BK241.out 2).trans rfl;have hcz39_3 : w38.cell? ⟨gb241,3,none⟩ = some (.slice Ao36 x242003_2.length co36):=(kc_ BK241.out 3).trans rfl;have hcz39_4 : w38.cell? ⟨gb241,4,none⟩ = some (.slice Ao37 x242004_2.length co37):=(kc_ BK241.out 4).trans rfl;have hcz39_5 : w38.cell? ⟨gb241,5,none⟩ = some (.bool x242005_2):=(kc_ BK241.out 5).trans rfl;have hcz39_6 : w38.cell? ⟨gb241,6,none⟩ = some (.bool x242006_2):=(kc_ BK241.out 6).trans rfl;have hcz39_7 : w38.cell? ⟨gb241,7,none⟩ = some (.bool x242007_2):=(kc_ BK241.out 7).trans rfl;have hfz39_0:=blk_frozen BK241.out 0;have hfz39_1:=blk_frozen BK241.out 1;have hfz39_2:=blk_frozen BK241.out 2;have hfz39_3:=blk_frozen BK241.out 3;have hfz39_4:=blk_frozen BK241.out 4;have hfz39_5:=blk_frozen BK241.out 5;have hfz39_6:=blk_frozen BK241.out 6;have hfz39_7:=blk_frozen BK241.out 7;obtain ⟨Ao40,co40,eo40⟩:=Kd.V_slice HO262.out;subst eo40;obtain ⟨Ao41,co41,eo41⟩:=Kd.V_slice HO265.out;subst eo41))
           go_meet
           case rel => exact ⟨_,(t257),(t258),(t259),(t260),(t263),(t266),(t267),(t268),(.slice Ao40 t260.length co40),(.slice Ao41 t263.length co41),H',⟨by have:=HJ3.out;have:=HK2.out;first|omega|exact Nat.le_refl _⟩,⟨by (with_reducible repeat (first|apply Kd.V_alloc|apply Kd.V_drewN|apply Kd.V_drew));exact Kd.V_mono (Kd.V_far (p:=⟨gb241,7,none⟩) (Kd.V_far (p:=⟨gb241,6,none⟩) (Kd.V_far (p:=⟨gb241,5,none⟩) (Kd.V_far (p:=⟨gb241,4,none⟩) (Kd.V_far (p:=⟨gb241,3,none⟩) (Kd.V_far (p:=⟨gb241,2,none⟩) (Kd.V_far (p:=⟨gb241,1,none⟩) (Kd.V_far (p:=⟨gb241,0,none⟩) (Kd.V_mono HO262.out (fun k_ hk => (⟨hk,hk⟩ : _ ∧ k_ ≠ gb241))) (fun _ hk => hk.2) (.int .u64 t257)) (fun _ hk => hk.2) (.int .u64 t258)) (fun _ hk => hk.2) (.string t259)) (fun _ hk => hk.2) (.slice Ao40 t260.length co40)) (fun _ hk => hk.2) (.slice Ao41 t263.length co41)) (fun _ hk => hk.2) (.bool t266)) (fun _ hk => hk.2) (.bool t267)) (fun _ hk => hk.2) (.bool t268)) (fun _ hk => hk.1)⟩,⟨by (with_reducible repeat (first|apply Kd.V_alloc|apply Kd.V_drewN|apply Kd.V_drew));exact Kd.V_mono (Kd.V_far (p:=⟨gb241,7,none⟩) (Kd.V_far (p:=⟨gb241,6,none⟩) (Kd.V_far (p:=⟨gb241,5,none⟩) (Kd.V_far (p:=⟨gb241,4,none⟩) (Kd.V_far (p:=⟨gb241,3,none⟩) (Kd.V_far (p:=⟨gb241,2,none⟩) (Kd.V_far (p:=⟨gb241,1,none⟩) (Kd.V_far (p:=⟨gb241,0,none⟩) (Kd.V_mono HO265.out (fun k_ hk => (⟨hk,hk⟩ : _ ∧ k_ ≠ gb241))) (fun _ hk => hk.2) (.int .u64 t257)) (fun _ hk => hk.2) (.int .u64 t258)) (fun _ hk => hk.2) (.string t259)) (fun _ hk => hk.2) (.slice Ao40 t260.length co40)) (fun _ hk => hk.2) (.slice Ao41 t263.length co41)) (fun _ hk => hk.2) (.bool t266)) (fun _ hk => hk.2) (.bool t267)) (fun _ hk => hk.2) (.bool t268)) (fun _ hk => hk.1)⟩,⟨by (with_reducible repeat (first|refine kn_ ?_ _|refine kd_ ?_|refine ka_ ?_ _));refine blk_put (cs:=#[.int .u64 t257,.int .u64 t258,.string t259,.slice Ao40 t260.length co40,.slice Ao41 t263.length co41,.bool t266,.bool t267,.bool x242007_2]) ?_ 7 _ rfl;(with_reducible repeat (first|refine kn_ ?_ _|refine kd_ ?_|refine ka_ ?_ _));refine blk_put (cs:=#[.int .u64 t257,.int .u64 t258,.string t259,.slice Ao40 t260.length co40,.slice Ao41 t263.length co41,.bool t266,.bool x242006_2,.bool x242007_2]) ?_ 6 _ rfl;(with_reducible repeat (first|refine kn_ ?_ _|refine kd_ ?_|refine ka_ ?_ _));refine blk_put (cs:=#[.int .u64 t257,.int .u64 t258,.string t259,.slice Ao40 t260.length co40,.slice Ao41 t263.length co41,.bool x242005_2,.bool x242006_2,.bool x242007_2]) ?_ 5 _ rfl;(with_reducible repeat (first|refine kn_ ?_ _|refine kd_ ?_|refine ka_ ?_ _));refine blk_put (cs:=#[.int .u64 t257,.int .u64 t258,.string t259,.slice Ao40 t260.length co40,.slice Ao37 x242004_2.length co37,.bool x242005_2,.bool x242006_2,.bool x242007_2]) ?_ 4 _ rfl;(with_reducible repeat (first|refine kn_ ?_ _|refine kd_ ?_|refine ka_ ?_ _));refine blk_put (cs:=#[.int .u64 t257,.int .u64 t258,.string t259,.slice Ao36 x242003_2.length co36,.slice Ao37 x242004_2.length co37,.bool x242005_2,.bool x242006_2,.bool x242007_2]) ?_ 3 _ rfl;(with_reducible repeat (first|refine kn_ ?_ _|refine kd_ ?_|refine ka_ ?_ _));refine blk_put (cs:=#[.int .u64 t257,.int .u64 t258,.string x242002_2,.slice Ao36 x242003_2.length co36,.slice Ao37 x242004_2.length co37,.bool x242005_2,.bool x242006_2,.bool x242007_2]) ?_ 2 _ rfl;(with_reducible repeat (first|refine kn_ ?_ _|refine kd_ ?_|refine ka_ ?_ _));refine blk_put (cs:=#[.int .u64 t257,.int .u64 x242001_2,.string x242002_2,.slice Ao36 x242003_2.length co36,.slice Ao37 x242004_2.length co37,.bool x242005_2,.bool x242006_2,.bool x242007_2]) ?_ 1 _ rfl;(with_reducible repeat (first|refine kn_ ?_ _|refine kd_ ?_|refine ka_ ?_ _));refine blk_put (cs:=#[.int .u64 x242000_2,.int .u64 x242001_2,.string x242002_2,.slice Ao36 x242003_2.length co36,.slice Ao37 x242004_2.length co37,.bool x242005_2,.bool x242006_2,.bool x242007_2]) ?_ 0 _ rfl;(with_reducible repeat (first|refine kn_ ?_ _|refine kd_ ?_|refine ka_ ?_ _));exact BK241.out⟩,⟨by repeat (first|(with_reducible first|exact HB.out|apply ba_|apply pn_|apply pd_|refine bs_ ?_ GE241.out)|exact HB.out)⟩⟩
          ·rw [if_neg c33] at H
           have c33b0 : (((rd_T35 l0 x8_2).f0) == 1) = false:=beq_eq_false_iff_ne.mpr c33
           have c33b1 : (((rd_T35 l0 x8_2).f0) != 1) = true:=bne_iff_ne.mpr c33
           by_cases c42 : ((rd_T35 l0 x8_2).f0) = 3
           ·rw [if_pos c42] at H
            have c42b0 : (((rd_T35 l0 x8_2).f0) == 3) = true:=beq_iff_eq.mpr c42
            have c42b1 : (((rd_T35 l0 x8_2).f0) != 3) = false:=bne_eq_false_iff_eq.mpr c42
            clear c42
            replace H:=Option.bind_eq_some_iff.mp H
            obtain ⟨⟨t272,t273,t274,t275,t278,t281,t282,t283⟩,A430,H⟩:=H
            replace H : (dominolaw15_SendqCredit.j2 k2 l0 a1 a2 x8_2 t272 t273 t274 t275 t278 t281 t282 t283) = some r:=H
            have A43:=am_ A430
            clear A430
            have H':=am_ H
            clear H
            try go_wp2
            have n0_:=am_ (Kd.V_drew HO_242003.out)
            have n1_:=am_ (Kd.V_drew HO_242004.out)
            have n2_:=am_ (kd_ BK241.out)
            have n3_:=am_ (pd_ HB.out)
            clear HO_242003
            clear HO_242004
            clear BK241
            clear HB
            have HO_242003:=n0_
            have HO_242004:=n1_
            have BK241:=n2_
            have HB:=n3_
            clear n0_ n1_ n2_ n3_
            have p269 : 0 ≤ (x8_2 : Int):=of_decide_eq_true (by first|(with_reducible assumption)|assumption)
            have q269 : x8_2 < (l0.length : Int):=of_decide_eq_true (by first|(with_reducible assumption)|assumption)
            obtain ⟨ad269,e269,hx269_0,hx269_1,hx269_2,hx269_3,hx269_4⟩:=at_T35 HR0.out x8_2 p269 q269
            have hw269_4:=hx269_4
            have hw269_3:=hx269_3
            have hw269_2:=hx269_2
            have hw269_1:=hx269_1
            have hw269_0:=hx269_0
            obtain rfl : ad242 = ad269:=(by injection e269)
            replace hx269_0:=(HB.out.cell (World.block_lt_of_cell? w _ hx269_0)).trans hx269_0
            replace hx269_1:=(HB.out.cell (World.block_lt_of_cell? w _ hx269_1)).trans hx269_1
            replace hx269_2:=(HB.out.cell (World.block_lt_of_cell? w _ hx269_2)).trans hx269_2
            replace hx269_3:=(HB.out.cell (World.block_lt_of_cell? w _ hx269_3)).trans hx269_3
            replace hx269_4:=(HB.out.cell (World.block_lt_of_cell? w _ hx269_4)).trans hx269_4
            replace p269:=eq_true p269
            replace q269:=eq_true q269
            have p270 : 0 ≤ (x8_2 : Int):=of_decide_eq_true (by first|(with_reducible assumption)|assumption)
            have q270 : x8_2 < (l0.length : Int):=of_decide_eq_true (by first|(with_reducible assumption)|assumption)
            obtain ⟨ad270,e270,hx270_0,hx270_1,hx270_2,hx270_3,hx270_4⟩:=at_T35 HR0.out x8_2 p270 q270
            have hw270_4:=hx270_4
            have hw270_3:=hx270_3
            have hw270_2:=hx270_2
            have hw270_1:=hx270_1
            have hw270_0:=hx270_0
            obtain rfl : ad242 = ad270:=(by injection e270)
            replace hx270_0:=(HB.out.cell (World.block_lt_of_cell? w _ hx270_0)).trans hx270_0
            replace hx270_1:=(HB.out.cell (World.block_lt_of_cell? w _ hx270_1)).trans hx270_1
            replace hx270_2:=(HB.out.cell (World.block_lt_of_cell? w _ hx270_2)).trans hx270_2
            replace hx270_3:=(HB.out.cell (World.block_lt_of_cell? w _ hx270_3)).trans hx270_3
            replace hx270_4:=(HB.out.cell (World.block_lt_of_cell? w _ hx270_4)).trans hx270_4
            replace p270:=eq_true p270
            replace q270:=eq_true q270
            have p271 : 0 ≤ (x8_2 : Int):=of_decide_eq_true (by first|(with_reducible assumption)|assumption)
            have q271 : x8_2 < (l0.length : Int):=of_decide_eq_true (by first|(with_reducible assumption)|assumption)
            obtain ⟨ad271,e271,hx271_0,hx271_1,hx271_2,hx271_3,hx271_4⟩:=at_T35 HR0.out x8_2 p271 q271
            have hw271_4:=hx271_4
            have hw271_3:=hx271_3
            have hw271_2:=hx271_2
            have hw271_1:=hx271_1
            have hw271_0:=hx271_0
            obtain rfl : ad242 = ad271:=(by injection e271)
            replace hx271_0:=(HB.out.cell (World.block_lt_of_cell? w _ hx271_0)).trans hx271_0
            replace hx271_1:=(HB.out.cell (World.block_lt_of_cell? w _ hx271_1)).trans hx271_1
            replace hx271_2:=(HB.out.cell (World.block_lt_of_cell? w _ hx271_2)).trans hx271_2
            replace hx271_3:=(HB.out.cell (World.block_lt_of_cell? w _ hx271_3)).trans hx271_3
            replace hx271_4:=(HB.out.cell (World.block_lt_of_cell? w _ hx271_4)).trans hx271_4
            replace p271:=eq_true p271
            replace q271:=eq_true q271
            obtain ⟨Ao45,co45,eo45⟩:=Kd.V_slice HO_242003.out
            (first|subst eo45|(injection eo45 with f1_ f2_ f3_;have f4_:=f1_.symm;have f5_:=f3_.symm;clear f1_ f2_ f3_;subst f4_;subst f5_))
            obtain ⟨Ao46,co46,eo46⟩:=Kd.V_slice HO_242004.out
            (first|subst eo46|(injection eo46 with f1_ f2_ f3_;have f4_:=f1_.symm;have f5_:=f3_.symm;clear f1_ f2_ f3_;subst f4_;subst f5_))
            refine start_ (n:=19) (S:=fun w' => w'.cell? ⟨gb241,0,none⟩ = some (.int .u64 x242000_2) ∧ w'.cell? ⟨gb241,1,none⟩ = some (.int .u64 x242001_2) ∧ w'.cell? ⟨gb241,2,none⟩ = some (.string x242002_2) ∧ w'.cell? ⟨gb241,3,none⟩ = some (.slice Ao45 x242003_2.length co45) ∧ w'.cell? ⟨gb241,4,none⟩ = some (.slice Ao46 x242004_2.length co46) ∧ w'.cell? ⟨gb241,5,none⟩ = some (.bool x242005_2) ∧ w'.cell? ⟨gb241,6,none⟩ = some (.bool x242006_2) ∧ w'.cell? ⟨gb241,7,none⟩ = some (.bool x242007_2) ∧ w'.cell? (ad242.add ((x8_2).toNat * 5)) = some (.int .i64 ((rd_T35 l0 x8_2).f0)) ∧ w'.cell? ⟨(ad242.add ((x8_2).toNat * 5)).block,(ad242.add ((x8_2).toNat * 5)).off + 1,none⟩ = some (.int .i64 ((rd_T35 l0 x8_2).f1)) ∧ w'.cell? ⟨(ad242.add ((x8_2).toNat * 5)).block,(ad242.add ((x8_2).toNat * 5)).off + 2,none⟩ = some (.int .u64 ((rd_T35 l0 x8_2).f2)) ∧ w'.cell? ⟨(ad242.add ((x8_2).toNat * 5)).block,(ad242.add ((x8_2).toNat * 5)).off + 3,none⟩ = some (.string ((rd_T35 l0 x8_2).f3)) ∧ w'.cell? ⟨(ad242.add ((x8_2).toNat * 5)).block,(ad242.add ((x8_2).toNat * 5)).off + 4,none⟩ = some (.bool ((rd_T35 l0 x8_2).f4)) ∧ w'.cell? (ad242.add ((x8_2).toNat * 5)) = some (.int .i64 ((rd_T35 l0 x8_2).f0)) ∧ w'.cell? ⟨(ad242.add ((x8_2).toNat * 5)).block,(ad242.add ((x8_2).toNat * 5)).off + 1,none⟩ = some (.int .i64 ((rd_T35 l0 x8_2).f1)) ∧ w'.cell? ⟨(ad242.add ((x8_2).toNat * 5)).block,(ad242.add ((x8_2).toNat * 5)).off + 2,none⟩ = some (.int .u64 ((rd_T35 l0 x8_2).f2)) ∧ w'.cell? ⟨(ad242.add ((x8_2).toNat * 5)).block,(ad242.add ((x8_2).toNat * 5)).off + 3,none⟩ = some (.string ((rd_T35 l0 x8_2).f3)) ∧ w'.cell? ⟨(ad242.add ((x8_2).toNat * 5)).block,(ad242.add ((x8_2).toNat * 5)).off + 4,none⟩ = some (.bool ((rd_T35 l0 x8_2).f4)) ∧ w'.cell? (ad242.add ((x8_2).toNat * 5)) = some (.int .i64 ((rd_T35 l0 x8_2).f0)) ∧ w'.cell? ⟨(ad242.add ((x8_2).toNat * 5)).block,(ad242.add ((x8_2).toNat * 5)).off + 1,none⟩ = some (.int .i64 ((rd_T35 l0 x8_2).f1)) ∧ w'.cell? ⟨(ad242.add ((x8_2).toNat * 5)).block,(ad242.add ((x8_2).toNat * 5)).off + 2,none⟩ = some (.int .u64 ((rd_T35 l0 x8_2).f2)) ∧ w'.cell? ⟨(ad242.add ((x8_2).toNat * 5)).block,(ad242.add ((x8_2).toNat * 5)).off + 3,none⟩ = some (.string ((rd_T35 l0 x8_2).f3)) ∧ w'.cell? ⟨(ad242.add ((x8_2).toNat * 5)).block,(ad242.add ((x8_2).toNat * 5)).off + 4,none⟩ = some (.bool ((rd_T35 l0 x8_2).f4))) (ds:=[18]) #[F_,F_,F_,F_,F_,F_,F_,F_,F_,F_,F_,F_,F_,F_,F_,F_,F_,F_,F_] (by kernel_rfl) rfl rfl ⟨(kc_ BK241.out 0).trans rfl,(kc_ BK241.out 1).trans rfl,(kc_ BK241.out 2).trans rfl,(kc_ BK241.out 3).trans rfl,(kc_ BK241.out 4).trans rfl,(kc_ BK241.out 5).trans rfl,(kc_ BK241.out 6).trans rfl,(kc_ BK241.out 7).trans rfl,(up_ HB.out hw269_0),(up_ HB.out hw269_1),(up_ HB.out hw269_2),(up_ HB.out hw269_3),(up_ HB.out hw269_4),(up_ HB.out hw270_0),(up_ HB.out hw270_1),(up_ HB.out hw270_2),(up_ HB.out hw270_3),(up_ HB.out hw270_4),(up_ HB.out hw271_0),(up_ HB.out hw271_1),(up_ HB.out hw271_2),(up_ HB.out hw271_3),(up_ HB.out hw271_4)⟩ (fun hHeld => ?_);refine with_tabW dominolaw15_SendqCredit.tab13 dominolaw15_SendqCredit.bits13 (fun HT_ HW_ => ?_)
            generalize wr.drew = w44 at HO_242003 HO_242004 BK241 HB hx269_0 hx269_1 hx269_2 hx269_3 hx269_4 hx270_0 hx270_1 hx270_2 hx270_3 hx270_4 hx271_0 hx271_1 hx271_2 hx271_3 hx271_4 hHeld ⊢
            refine pure_ (i:=1) (N:=some 52) (v:=?_) (a':=?_) #[F_,T_,F_,F_,F_,F_,F_,F_,F_,F_,F_,F_,F_,F_,F_,F_,F_,F_,F_] rfl rfl (any_of HT_.out (by kernel_rfl)) (fun _ _ _ h => h) (Or.inl ⟨by rfl,?_⟩) ?_ ?_
            rotate_left;(intro w';go_simp;with_reducible rfl);rotate_left;(simp only [Act.put,ps_,i64_w,i32_w];rfl)
            refine pure_ (i:=2) (N:=some 53) (v:=?_) (a':=?_) #[F_,T_,T_,F_,F_,F_,F_,F_,F_,F_,F_,F_,F_,F_,F_,F_,F_,F_,F_] rfl rfl (any_of HT_.out (by kernel_rfl)) (fun _ _ _ h => h) (Or.inl ⟨by rfl,?_⟩) ?_ ?_
            rotate_left;(intro w';go_simp;with_reducible rfl);rotate_left;(simp only [Act.put,ps_,i64_w,i32_w];rfl)
            refine pure_ (i:=3) (N:=some 54) (v:=?_) (a':=?_) #[F_,T_,T_,T_,F_,F_,F_,F_,F_,F_,F_,F_,F_,F_,F_,F_,F_,F_,F_] rfl rfl (any_of HT_.out (by kernel_rfl)) (fun _ _ _ h => h) (Or.inl ⟨by rfl,?_⟩) ?_ ?_
            rotate_left;(intro w';go_simp;with_reducible rfl);rotate_left;(simp only [Act.put,ps_,i64_w,i32_w];rfl)
            refine pure_ (i:=4) (N:=some 55) (v:=?_) (a':=?_) #[F_,T_,T_,T_,T_,F_,F_,F_,F_,F_,F_,F_,F_,F_,F_,F_,F_,F_,F_] rfl rfl (any_of HT_.out (by kernel_rfl)) (fun _ _ _ h => h) (Or.inl ⟨by rfl,?_⟩) ?_ ?_
            rotate_left;(intro w';go_simp;with_reducible rfl);rotate_left;(simp only [Act.put,ps_,i64_w,i32_w];rfl)
            refine pure_ (i:=7) (N:=some 58) (v:=?_) (a':=?_) #[F_,T_,T_,T_,T_,F_,F_,T_,F_,F_,F_,F_,F_,F_,F_,F_,F_,F_,F_] rfl rfl (any_of HT_.out (by kernel_rfl)) (fun _ _ _ h => h) (Or.inl ⟨by rfl,?_⟩) ?_ ?_
            rotate_left;(intro w';go_simp;with_reducible rfl);rotate_left;(simp only [Act.put,ps_,i64_w,i32_w];rfl)
            refine pure_ (i:=8) (N:=some 59) (v:=?_) (a':=?_) #[F_,T_,T_,T_,T_,F_,F_,T_,T_,F_,F_,F_,F_,F_,F_,F_,F_,F_,F_] rfl rfl (any_of HT_.out (by kernel_rfl)) (fun _ _ _ h => h) (Or.inl ⟨by rfl,?_⟩) ?_ ?_
            rotate_left;(intro w';go_simp;with_reducible rfl);rotate_left;(simp only [Act.put,ps_,i64_w,i32_w];rfl)
            refine pure_ (i:=9) (N:=some 60) (v:=?_) (a':=?_) #[F_,T_,T_,T_,T_,F_,F_,T_,T_,T_,F_,F_,F_,F_,F_,F_,F_,F_,F_] rfl rfl (any_of HT_.out (by kernel_rfl)) (fun _ _ _ h => h) (Or.inl ⟨by rfl,?_⟩) ?_ ?_
            rotate_left;(intro w';go_simp;with_reducible rfl);rotate_left;(simp only [Act.put,ps_,i64_w,i32_w];rfl)
            refine pure_ (i:=10) (N:=some 61) (v:=?_) (a':=?_) #[F_,T_,T_,T_,T_,F_,F_,T_,T_,T_,T_,F_,F_,F_,F_,F_,F_,F_,F_] rfl rfl (any_of HT_.out (by kernel_rfl)) (fun _ _ _ h => h) (Or.inl ⟨by rfl,?_⟩) ?_ ?_
            rotate_left;(intro w';go_simp;with_reducible rfl);rotate_left;(simp only [Act.put,ps_,i64_w,i32_w];rfl)
            refine pure_ (i:=12) (N:=some 63) (v:=?_) (a':=?_) #[F_,T_,T_,T_,T_,F_,F_,T_,T_,T_,T_,F_,T_,F_,F_,F_,F_,F_,F_] rfl rfl (any_of HT_.out (by kernel_rfl)) (fun _ _ _ h => h) (Or.inl ⟨by rfl,?_⟩) ?_ ?_
            rotate_left;(intro w';go_simp;with_reducible rfl);rotate_left;(simp only [Act.put,ps_,i64_w,i32_w];rfl)
            refine pure_ (i:=13) (N:=some 64) (v:=?_) (a':=?_) #[F_,T_,T_,T_,T_,F_,F_,T_,T_,T_,T_,F_,T_,T_,F_,F_,F_,F_,F_] rfl rfl (any_of HT_.out (by kernel_rfl)) (fun _ _ _ h => h) (Or.inl ⟨by rfl,?_⟩) ?_ ?_
            rotate_left;(intro w';go_simp;with_reducible rfl);rotate_left;(simp only [Act.put,ps_,i64_w,i32_w];rfl)
            refine pure_ (i:=14) (N:=some 65) (v:=?_) (a':=?_) #[F_,T_,T_,T_,T_,F_,F_,T_,T_,T_,T_,F_,T_,T_,T_,F_,F_,F_,F_] rfl rfl (any_of HT_.out (by kernel_rfl)) (fun _ _ _ h => h) (Or.inl ⟨by rfl,?_⟩) ?_ ?_
            rotate_left;(intro w';go_simp;with_reducible rfl);rotate_left;(simp only [Act.put,ps_,i64_w,i32_w];rfl)
            refine pure_ (i:=15) (N:=some 66) (v:=?_) (a':=?_) #[F_,T_,T_,T_,T_,F_,F_,T_,T_,T_,T_,F_,T_,T_,T_,T_,F_,F_,F_] rfl rfl (any_of HT_.out (by kernel_rfl)) (fun _ _ _ h => h) (Or.inl ⟨by rfl,?_⟩) ?_ ?_
            rotate_left;(intro w';go_simp;with_reducible rfl);rotate_left;(simp only [Act.put,ps_,i64_w,i32_w];rfl)
            refine take_ (i:=0) (N:=some 51) (v:=?_) (a':=?_) #[T_,T_,T_,T_,T_,F_,F_,T_,T_,T_,T_,F_,T_,T_,T_,T_,F_,F_,F_] rfl rfl (take_ofW HT_.out HW_.out (by kernel_rfl)) (fun _ _ _ h => h) (Or.inl ⟨by rfl,?_⟩) hHeld ?_ ?_
            rotate_left
            ·rintro w' ⟨s0,s1,s2,s3,s4,s5,s6,s7,s8,s9,s10,s11,s12,s13,s14,s15,s16,s17,s18,s19,s20,s21,s22⟩
             go_simp
             with_reducible rfl
            rotate_left
            ·simp only [Act.put,ps_,i64_w,i32_w]
             rfl
            refine take_ (i:=5) (N:=some 56) (v:=?_) (a':=?_) #[T_,T_,T_,T_,T_,T_,F_,T_,T_,T_,T_,F_,T_,T_,T_,T_,F_,F_,F_] rfl rfl (take_ofW HT_.out HW_.out (by kernel_rfl)) (fun _ _ _ h => h) (Or.inl ⟨by rfl,?_⟩) hHeld ?_ ?_
            rotate_left
            ·rintro w' ⟨s0,s1,s2,s3,s4,s5,s6,s7,s8,s9,s10,s11,s12,s13,s14,s15,s16,s17,s18,s19,s20,s21,s22⟩
             go_simp
             with_reducible rfl
            rotate_left
            ·simp only [Act.put,ps_,i64_w,i32_w]
             rfl
            refine pure_ (i:=6) (N:=some 57) (v:=?_) (a':=?_) #[T_,T_,T_,T_,T_,T_,T_,T_,T_,T_,T_,F_,T_,T_,T_,T_,F_,F_,F_] rfl rfl (any_of HT_.out (by kernel_rfl)) (fun _ _ _ h => h) (Or.inl ⟨by rfl,?_⟩) ?_ ?_
            rotate_left;(intro w';go_simp;with_reducible rfl);rotate_left;(simp only [Act.put,ps_,i64_w,i32_w];rfl)
            refine take_ (i:=11) (N:=some 62) (v:=?_) (a':=?_) #[T_,T_,T_,T_,T_,T_,T_,T_,T_,T_,T_,T_,T_,T_,T_,T_,F_,F_,F_] rfl rfl (take_ofW HT_.out HW_.out (by kernel_rfl)) (fun _ _ _ h => h) (Or.inl ⟨by rfl,?_⟩) hHeld ?_ ?_
            rotate_left
            ·rintro w' ⟨s0,s1,s2,s3,s4,s5,s6,s7,s8,s9,s10,s11,s12,s13,s14,s15,s16,s17,s18,s19,s20,s21,s22⟩
             go_simp
             with_reducible rfl
            rotate_left
            ·simp only [Act.put,ps_,i64_w,i32_w]
             rfl
            refine take_ (i:=16) (N:=some 67) (v:=?_) (a':=?_) #[T_,T_,T_,T_,T_,T_,T_,T_,T_,T_,T_,T_,T_,T_,T_,T_,T_,F_,F_] rfl rfl (take_ofW HT_.out HW_.out (by kernel_rfl)) (fun _ _ _ h => h) (Or.inl ⟨by rfl,?_⟩) hHeld ?_ ?_
            rotate_left
            ·rintro w' ⟨s0,s1,s2,s3,s4,s5,s6,s7,s8,s9,s10,s11,s12,s13,s14,s15,s16,s17,s18,s19,s20,s21,s22⟩
             go_simp
             with_reducible rfl
            rotate_left
            ·simp only [Act.put,ps_,i64_w,i32_w]
             rfl
            refine one_ (i:=17) (N:=some 68) #[T_,T_,T_,T_,T_,T_,T_,T_,T_,T_,T_,T_,T_,T_,T_,T_,T_,T_,F_] rfl rfl (one_of HT_.out (by kernel_rfl)) (by decide) (fun K hK => ?_)
            refine goes_ Try.func18 (by kernel_rfl) rfl #[.agg #[.int .u64 x242000_2,.int .u64 x242001_2,.string x242002_2,.slice Ao45 x242003_2.length co45,.slice Ao46 x242004_2.length co46,.bool x242005_2,.bool x242006_2,.bool x242007_2],.int .u64 (Int.tmod ((rd_T35 l0 x8_2).f2) 1000),.int .i64 ((rd_T35 l0 x8_2).f1),.bool ((rd_T35 l0 x8_2).f4)] (by rfl) rfl rfl (by (try simp only [List.map_toArray,List.map_cons,List.map_nil]);first|done|rfl|(simp only [List.length_drop,List.length_take];rfl)) ?_
            with_reducible refine (sendq_Lost.calls k2 x242000_2 x242001_2 x242002_2 (fun k_ => k_ ≠ gb241) _ _ x242003_2 (fun k_ => k_ ≠ gb241) _ _ x242004_2 x242005_2 x242006_2 x242007_2 (Int.tmod ((rd_T35 l0 x8_2).f2) 1000) ((rd_T35 l0 x8_2).f1) ((rd_T35 l0 x8_2).f4) t272 t273 t274 t275 t278 t281 t282 t283 _ ?side1 ?side2 A43.out).mono ?_
            (case side1 => exact HO_242003.out)
            (case side2 => exact HO_242004.out)
            rintro e w47 ⟨v276,v279,rfl,ho0,ho1,hb⟩
            refine ⟨_,rfl,?_⟩
            have n0_:=am_ (Kd.V_below (by (with_reducible repeat (first|apply Kd.V_alloc|apply Kd.V_drewN|apply Kd.V_drew));exact HO_242003.out) hb)
            have n1_:=am_ (Kd.V_below (by (with_reducible repeat (first|apply Kd.V_alloc|apply Kd.V_drewN|apply Kd.V_drew));exact HO_242004.out) hb)
            have n2_:=am_ (Kd.V_lower (Kd.V_mono (ok':=fun k_ => k_ ≠ gb241) ho0 (fun k_ hk_ => Or.elim hk_ (fun hs_ => Or.elim hs_ (fun hs_ => hs_) (fun hs_ => hs_)) (fun hn_ => (Kd.freshB (g:=gb241) (o:=.cells #[.int .u64 x242000_2,.int .u64 x242001_2,.string x242002_2,.slice Ao45 x242003_2.length co45,.slice Ao46 x242004_2.length co46,.bool x242005_2,.bool x242006_2,.bool x242007_2] 29 (0,0)) (by (with_reducible repeat (first|refine kn_ ?_ _|refine kd_ ?_|refine ka_ ?_ _));exact BK241.out) k_ hn_)))) (below_size (by repeat (first|(with_reducible first|exact HB.out|apply ba_|apply pn_|apply pd_|refine bs_ ?_ GE241.out)|exact HB.out))))
            have n3_:=am_ (Kd.V_lower (Kd.V_mono (ok':=fun k_ => k_ ≠ gb241) ho1 (fun k_ hk_ => Or.elim hk_ (fun hs_ => Or.elim hs_ (fun hs_ => hs_) (fun hs_ => hs_)) (fun hn_ => (Kd.freshB (g:=gb241) (o:=.cells #[.int .u64 x242000_2,.int .u64 x242001_2,.string x242002_2,.slice Ao45 x242003_2.length co45,.slice Ao46 x242004_2.length co46,.bool x242005_2,.bool x242006_2,.bool x242007_2] 29 (0,0)) (by (with_reducible repeat (first|refine kn_ ?_ _|refine kd_ ?_|refine ka_ ?_ _));exact BK241.out) k_ hn_)))) (below_size (by repeat (first|(with_reducible first|exact HB.out|apply ba_|apply pn_|apply pd_|refine bs_ ?_ GE241.out)|exact HB.out))))
            have n4_:=am_ (blk_below (g:=gb241) (o:=.cells #[.int .u64 x242000_2,.int .u64 x242001_2,.string x242002_2,.slice Ao45 x242003_2.length co45,.slice Ao46 x242004_2.length co46,.bool x242005_2,.bool x242006_2,.bool x242007_2] 29 (0,0)) (by (with_reducible repeat (first|refine kn_ ?_ _|refine kd_ ?_|refine ka_ ?_ _));exact BK241.out) hb)
            have n5_:=am_ (below_step (by repeat (first|(with_reducible first|exact HB.out|apply ba_|apply pn_|apply pd_|refine bs_ ?_ GE241.out)|exact HB.out)) hb)
            clear HO_242003
            clear HO_242004
            clear BK241
            clear HB
            have HO_242003:=n0_
            have HO_242004:=n1_
            have HO277:=n2_
            have HO280:=n3_
            have BK241:=n4_
            have HB:=n5_
            clear n0_ n1_ n2_ n3_ n4_ n5_
            (try clear hb)
            (try clear hb2)
            (try clear hk)
            (try clear hi)
            (try clear ho0)
            (try clear ho1)
            obtain ⟨Ao51,co51,eo51⟩:=Kd.V_slice HO277.out
            (first|subst eo51|(injection eo51 with f1_ f2_ f3_;have f4_:=f1_.symm;have f5_:=f3_.symm;clear f1_ f2_ f3_;subst f4_;subst f5_))
            obtain ⟨Ao53,co53,eo53⟩:=Kd.V_slice HO280.out
            (first|subst eo53|(injection eo53 with f1_ f2_ f3_;have f4_:=f1_.symm;have f5_:=f3_.symm;clear f1_ f2_ f3_;subst f4_;subst f5_))
            refine hK.out _ _ ⟨(kc_ BK241.out 0).trans rfl,(kc_ BK241.out 1).trans rfl,(kc_ BK241.out 2).trans rfl,(kc_ BK241.out 3).trans rfl,(kc_ BK241.out 4).trans rfl,(kc_ BK241.out 5).trans rfl,(kc_ BK241.out 6).trans rfl,(kc_ BK241.out 7).trans rfl,(up_ HB.out hw269_0),(up_ HB.out hw269_1),(up_ HB.out hw269_2),(up_ HB.out hw269_3),(up_ HB.out hw269_4),(up_ HB.out hw270_0),(up_ HB.out hw270_1),(up_ HB.out hw270_2),(up_ HB.out hw270_3),(up_ HB.out hw270_4),(up_ HB.out hw271_0),(up_ HB.out hw271_1),(up_ HB.out hw271_2),(up_ HB.out hw271_3),(up_ HB.out hw271_4)⟩ (fun hHeld => ?_)
            clear hK K
            refine norm_ (a':=?_) ?_ ?_
            rotate_left
            ·show Act.put _ (some 68) _ = _
             simp only [Act.put,ps_,i64_w,i32_w]
             rfl
            refine last_ (i:=18) (N:=none) #[T_,T_,T_,T_,T_,T_,T_,T_,T_,T_,T_,T_,T_,T_,T_,T_,T_,T_,T_] rfl rfl (one_of HT_.out (by kernel_rfl)) (by decide) (fun K hK => ?_)
            have hs48 : w47.cell? ⟨gb241,0,none⟩ = some (.int .u64 x242000_2):=(kc_ BK241.out 0).trans rfl
            have hfs48:=blk_frozen BK241.out 0
            have hs49 : w47.cell? ⟨gb241,1,none⟩ = some (.int .u64 x242001_2):=(kc_ BK241.out 1).trans rfl
            have hfs49:=blk_frozen BK241.out 1
            have hs50 : w47.cell? ⟨gb241,2,none⟩ = some (.string x242002_2):=(kc_ BK241.out 2).trans rfl
            have hfs50:=blk_frozen BK241.out 2
            have hs52 : w47.cell? ⟨gb241,3,none⟩ = some (.slice Ao45 x242003_2.length co45):=(kc_ BK241.out 3).trans rfl
            have hfs52:=blk_frozen BK241.out 3
            have hs54 : w47.cell? ⟨gb241,4,none⟩ = some (.slice Ao46 x242004_2.length co46):=(kc_ BK241.out 4).trans rfl
            have hfs54:=blk_frozen BK241.out 4
            have hs55 : w47.cell? ⟨gb241,5,none⟩ = some (.bool x242005_2):=(kc_ BK241.out 5).trans rfl
            have hfs55:=blk_frozen BK241.out 5
            have hs56 : w47.cell? ⟨gb241,6,none⟩ = some (.bool x242006_2):=(kc_ BK241.out 6).trans rfl
            have hfs56:=blk_frozen BK241.out 6
            have hs57 : w47.cell? ⟨gb241,7,none⟩ = some (.bool x242007_2):=(kc_ BK241.out 7).trans rfl
            have hfs57:=blk_frozen BK241.out 7
            refine skip_ (w1:=?_) (by rfl) rfl ?_ ?_
            rotate_left
            ·go_simp
             rfl
            refine hK.out _ _ ?_
            clear hK K
            refine done_ (done_of HT_.out (by kernel_rfl)) ?_
            try go_wp2
            go_meet
            case rel => exact ⟨_,(t272),(t273),(t274),(t275),(t278),(t281),(t282),(t283),(.slice Ao51 t275.length co51),(.slice Ao53 t278.length co53),H',⟨by have:=HJ3.out;have:=HK2.out;first|omega|exact Nat.le_refl _⟩,⟨by (with_reducible repeat (first|apply Kd.V_alloc|apply Kd.V_drewN|apply Kd.V_drew));exact Kd.V_mono (Kd.V_far (p:=⟨gb241,7,none⟩) (Kd.V_far (p:=⟨gb241,6,none⟩) (Kd.V_far (p:=⟨gb241,5,none⟩) (Kd.V_far (p:=⟨gb241,4,none⟩) (Kd.V_far (p:=⟨gb241,3,none⟩) (Kd.V_far (p:=⟨gb241,2,none⟩) (Kd.V_far (p:=⟨gb241,1,none⟩) (Kd.V_far (p:=⟨gb241,0,none⟩) (Kd.V_mono HO277.out (fun k_ hk => (⟨hk,hk⟩ : _ ∧ k_ ≠ gb241))) (fun _ hk => hk.2) (.int .u64 t272)) (fun _ hk => hk.2) (.int .u64 t273)) (fun _ hk => hk.2) (.string t274)) (fun _ hk => hk.2) (.slice Ao51 t275.length co51)) (fun _ hk => hk.2) (.slice Ao53 t278.length co53)) (fun _ hk => hk.2) (.bool t281)) (fun _ hk => hk.2) (.bool t282)) (fun _ hk => hk.2) (.bool t283)) (fun _ hk => hk.1)⟩,⟨by (with_reducible repeat (first|apply Kd.V_alloc|apply Kd.V_drewN|apply Kd.V_drew));exact Kd.V_mono (Kd.V_far (p:=⟨gb241,7,none⟩) (Kd.V_far (p:=⟨gb241,6,none⟩) (Kd.V_far (p:=⟨gb241,5,none⟩) (Kd.V_far (p:=⟨gb241,4,none⟩) (Kd.V_far (p:=⟨gb241,3,none⟩) (Kd.V_far (p:=⟨gb241,2,none⟩) (Kd.V_far (p:=⟨gb241,1,none⟩) (Kd.V_far (p:=⟨gb241,0,none⟩) (Kd.V_mono HO280.out (fun k_ hk => (⟨hk,hk⟩ : _ ∧ k_ ≠ gb241))) (fun _ hk => hk.2) (.int .u64 t272)) (fun _ hk => hk.2) (.int .u64 t273)) (fun _ hk => hk.2) (.string t274)) (fun _ hk => hk.2) (.slice Ao51 t275.length co51)) (fun _ hk => hk.2) (.slice Ao53 t278.length co53)) (fun _ hk => hk.2) (.bool t281)) (fun _ hk => hk.2) (.bool t282)) (fun _ hk => hk.2) (.bool t283)) (fun _ hk => hk.1)⟩,⟨by (with_reducible repeat (first|refine kn_ ?_ _|refine kd_ ?_|refine ka_ ?_ _));refine blk_put (cs:=#[.int .u64 t272,.int .u64 t273,.string t274,.slice Ao51 t275.length co51,.slice Ao53 t278.length co53,.bool t281,.bool t282,.bool x242007_2]) ?_ 7 _ rfl;(with_reducible repeat (first|refine kn_ ?_ _|refine kd_ ?_|refine ka_ ?_ _));refine blk_put (cs:=#[.int .u64 t272,.int .u64 t273,.string t274,.slice Ao51 t275.length co51,.slice Ao53 t278.length co53,.bool t281,.bool x242006_2,.bool x242007_2]) ?_ 6 _ rfl;(with_reducible repeat (first|refine kn_ ?_ _|refine kd_ ?_|refine ka_ ?_ _));refine blk_put (cs:=#[.int .u64 t272,.int .u64 t273,.string t274,.slice Ao51 t275.length co51,.slice Ao53 t278.length co53,.bool x242005_2,.bool x242006_2,.bool x242007_2]) ?_ 5 _ rfl;(with_reducible repeat (first|refine kn_ ?_ _|refine kd_ ?_|refine ka_ ?_ _));refine blk_put (cs:=#[.int .u64 t272,.int .u64 t273,.string t274,.slice Ao51 t275.length co51,.slice Ao46 x242004_2.length co46,.bool x242005_2,.bool x242006_2,.bool x242007_2]) ?_ 4 _ rfl;(with_reducible repeat (first|refine kn_ ?_ _|refine kd_ ?_|refine ka_ ?_ _));refine blk_put (cs:=#[.int .u64 t272,.int .u64 t273,.string t274,.slice Ao45 x242003_2.length co45,.slice Ao46 x242004_2.length co46,.bool x242005_2,.bool x242006_2,.bool x242007_2]) ?_ 3 _ rfl;(with_reducible repeat (first|refine kn_ ?_ _|refine kd_ ?_|refine ka_ ?_ _));refine blk_put (cs:=#[.int .u64 t272,.int .u64 t273,.string x242002_2,.slice Ao45 x242003_2.length co45,.slice Ao46 x242004_2.length co46,.bool x242005_2,.bool x242006_2,.bool x242007_2]) ?_ 2 _ rfl;(with_reducible repeat (first|refine kn_ ?_ _|refine kd_ ?_|refine ka_ ?_ _));refine blk_put (cs:=#[.int .u64 t272,.int .u64 x242001_2,.string x242002_2,.slice Ao45 x242003_2.length co45,.slice Ao46 x242004_2.length co46,.bool x242005_2,.bool x242006_2,.bool x242007_2]) ?_ 1 _ rfl;(with_reducible repeat (first|refine kn_ ?_ _|refine kd_ ?_|refine ka_ ?_ _));refine blk_put (cs:=#[.int .u64 x242000_2,.int .u64 x242001_2,.string x242002_2,.slice Ao45 x242003_2.length co45,.slice Ao46 x242004_2.length co46,.bool x242005_2,.bool x242006_2,.bool x242007_2]) ?_ 0 _ rfl;(with_reducible repeat (first|refine kn_ ?_ _|refine kd_ ?_|refine ka_ ?_ _));exact BK241.out⟩,⟨by repeat (first|(with_reducible first|exact HB.out|apply ba_|apply pn_|apply pd_|refine bs_ ?_ GE241.out)|exact HB.out)⟩⟩
           ·rw [if_neg c42] at H
            have c42b0 : (((rd_T35 l0 x8_2).f0) == 3) = false:=beq_eq_false_iff_ne.mpr c42
            have c42b1 : (((rd_T35 l0 x8_2).f0) != 3) = true:=bne_iff_ne.mpr c42
            by_cases c58 : ((rd_T35 l0 x8_2).f0) = 4
            ·rw [if_pos c58] at H
             have c58b0 : (((rd_T35 l0 x8_2).f0) == 4) = true:=beq_iff_eq.mpr c58
             have c58b1 : (((rd_T35 l0 x8_2).f0) != 4) = false:=bne_eq_false_iff_eq.mpr c58
             clear c58
             replace H:=Option.bind_eq_some_iff.mp H
             obtain ⟨⟨t287,t288,t289,t290,t293,t296,t297,t298⟩,A590,H⟩:=H
             replace H : (dominolaw15_SendqCredit.j2 k2 l0 a1 a2 x8_2 t287 t288 t289 t290 t293 t296 t297 t298) = some r:=H
             have A59:=am_ A590
             clear A590
             have H':=am_ H
             clear H
             try go_wp2
             have n0_:=am_ (Kd.V_drew HO_242003.out)
             have n1_:=am_ (Kd.V_drew HO_242004.out)
             have n2_:=am_ (kd_ BK241.out)
             have n3_:=am_ (pd_ HB.out)
             clear HO_242003
             clear HO_242004
             clear BK241
             clear HB
             have HO_242003:=n0_
             have HO_242004:=n1_
             have BK241:=n2_
             have HB:=n3_
             clear n0_ n1_ n2_ n3_
             have p284 : 0 ≤ (x8_2 : Int):=of_decide_eq_true (by first|(with_reducible assumption)|assumption)
             have q284 : x8_2 < (l0.length : Int):=of_decide_eq_true (by first|(with_reducible assumption)|assumption)
             obtain ⟨ad284,e284,hx284_0,hx284_1,hx284_2,hx284_3,hx284_4⟩:=at_T35 HR0.out x8_2 p284 q284
             have hw284_4:=hx284_4
             have hw284_3:=hx284_3
             have hw284_2:=hx284_2
             have hw284_1:=hx284_1
             have hw284_0:=hx284_0
             obtain rfl : ad242 = ad284:=(by injection e284)
             replace hx284_0:=(HB.out.cell (World.block_lt_of_cell? w _ hx284_0)).trans hx284_0
             replace hx284_1:=(HB.out.cell (World.block_lt_of_cell? w _ hx284_1)).trans hx284_1
             replace hx284_2:=(HB.out.cell (World.block_lt_of_cell? w _ hx284_2)).trans hx284_2
             replace hx284_3:=(HB.out.cell (World.block_lt_of_cell? w _ hx284_3)).trans hx284_3
             replace hx284_4:=(HB.out.cell (World.block_lt_of_cell? w _ hx284_4)).trans hx284_4
             replace p284:=eq_true p284
             replace q284:=eq_true q284
             have p285 : 0 ≤ (x8_2 : Int):=of_decide_eq_true (by first|(with_reducible assumption)|assumption)
             have q285 : x8_2 < (l0.length : Int):=of_decide_eq_true (by first|(with_reducible assumption)|assumption)
             obtain ⟨ad285,e285,hx285_0,hx285_1,hx285_2,hx285_3,hx285_4⟩:=at_T35 HR0.out x8_2 p285 q285
             have hw285_4:=hx285_4
             have hw285_3:=hx285_3
             have hw285_2:=hx285_2
             have hw285_1:=hx285_1
             have hw285_0:=hx285_0
             obtain rfl : ad242 = ad285:=(by injection e285)
             replace hx285_0:=(HB.out.cell (World.block_lt_of_cell? w _ hx285_0)).trans hx285_0
             replace hx285_1:=(HB.out.cell (World.block_lt_of_cell? w _ hx285_1)).trans hx285_1
             replace hx285_2:=(HB.out.cell (World.block_lt_of_cell? w _ hx285_2)).trans hx285_2
             replace hx285_3:=(HB.out.cell (World.block_lt_of_cell? w _ hx285_3)).trans hx285_3
             replace hx285_4:=(HB.out.cell (World.block_lt_of_cell? w _ hx285_4)).trans hx285_4
             replace p285:=eq_true p285
             replace q285:=eq_true q285
             have p286 : 0 ≤ (x8_2 : Int):=of_decide_eq_true (by first|(with_reducible assumption)|assumption)
             have q286 : x8_2 < (l0.length : Int):=of_decide_eq_true (by first|(with_reducible assumption)|assumption)
             obtain ⟨ad286,e286,hx286_0,hx286_1,hx286_2,hx286_3,hx286_4⟩:=at_T35 HR0.out x8_2 p286 q286
             have hw286_4:=hx286_4
             have hw286_3:=hx286_3
             have hw286_2:=hx286_2
             have hw286_1:=hx286_1
             have hw286_0:=hx286_0
             obtain rfl : ad242 = ad286:=(by injection e286)
             replace hx286_0:=(HB.out.cell (World.block_lt_of_cell? w _ hx286_0)).trans hx286_0
             replace hx286_1:=(HB.out.cell (World.block_lt_of_cell? w _ hx286_1)).trans hx286_1
             replace hx286_2:=(HB.out.cell (World.block_lt_of_cell? w _ hx286_2)).trans hx286_2
             replace hx286_3:=(HB.out.cell (World.block_lt_of_cell? w _ hx286_3)).trans hx286_3
             replace hx286_4:=(HB.out.cell (World.block_lt_of_cell? w _ hx286_4)).trans hx286_4
             replace p286:=eq_true p286
             replace q286:=eq_true q286
             obtain ⟨Ao61,co61,eo61⟩:=Kd.V_slice HO_242003.out
             (first|subst eo61|(injection eo61 with f1_ f2_ f3_;have f4_:=f1_.symm;have f5_:=f3_.symm;clear f1_ f2_ f3_;subst f4_;subst f5_))
             obtain ⟨Ao62,co62,eo62⟩:=Kd.V_slice HO_242004.out
             (first|subst eo62|(injection eo62 with f1_ f2_ f3_;have f4_:=f1_.symm;have f5_:=f3_.symm;clear f1_ f2_ f3_;subst f4_;subst f5_))
             refine start_ (n:=19) (S:=fun w' => w'.cell? ⟨gb241,0,none⟩ = some (.int .u64 x242000_2) ∧ w'.cell? ⟨gb241,1,none⟩ = some (.int .u64 x242001_2) ∧ w'.cell? ⟨gb241,2,none⟩ = some (.string x242002_2) ∧ w'.cell? ⟨gb241,3,none⟩ = some (.slice Ao61 x242003_2.length co61) ∧ w'.cell? ⟨gb241,4,none⟩ = some (.slice Ao62 x242004_2.length co62) ∧ w'.cell? ⟨gb241,5,none⟩ = some (.bool x242005_2) ∧ w'.cell? ⟨gb241,6,none⟩ = some (.bool x242006_2) ∧ w'.cell? ⟨gb241,7,none⟩ = some (.bool x242007_2) ∧ w'.cell? (ad242.add ((x8_2).toNat * 5)) = some (.int .i64 ((rd_T35 l0 x8_2).f0)) ∧ w'.cell? ⟨(ad242.add ((x8_2).toNat * 5)).block,(ad242.add ((x8_2).toNat * 5)).off + 1,none⟩ = some (.int .i64 ((rd_T35 l0 x8_2).f1)) ∧ w'.cell? ⟨(ad242.add ((x8_2).toNat * 5)).block,(ad242.add ((x8_2).toNat * 5)).off + 2,none⟩ = some (.int .u64 ((rd_T35 l0 x8_2).f2)) ∧ w'.cell? ⟨(ad242.add ((x8_2).toNat * 5)).block,(ad242.add ((x8_2).toNat * 5)).off + 3,none⟩ = some (.string ((rd_T35 l0 x8_2).f3)) ∧ w'.cell? ⟨(ad242.add ((x8_2).toNat * 5)).block,(ad242.add ((x8_2).toNat * 5)).off + 4,none⟩ = some (.bool ((rd_T35 l0 x8_2).f4)) ∧ w'.cell? (ad242.add ((x8_2).toNat * 5)) = some (.int .i64 ((rd_T35 l0 x8_2).f0)) ∧ w'.cell? ⟨(ad242.add ((x8_2).toNat * 5)).block,(ad242.add ((x8_2).toNat * 5)).off + 1,none⟩ = some (.int .i64 ((rd_T35 l0 x8_2).f1)) ∧ w'.cell? ⟨(ad242.add ((x8_2).toNat * 5)).block,(ad242.add ((x8_2).toNat * 5)).off + 2,none⟩ = some (.int .u64 ((rd_T35 l0 x8_2).f2)) ∧ w'.cell? ⟨(ad242.add ((x8_2).toNat * 5)).block,(ad242.add ((x8_2).toNat * 5)).off + 3,none⟩ = some (.string ((rd_T35 l0 x8_2).f3)) ∧ w'.cell? ⟨(ad242.add ((x8_2).toNat * 5)).block,(ad242.add ((x8_2).toNat * 5)).off + 4,none⟩ = some (.bool ((rd_T35 l0 x8_2).f4)) ∧ w'.cell? (ad242.add ((x8_2).toNat * 5)) = some (.int .i64 ((rd_T35 l0 x8_2).f0)) ∧ w'.cell? ⟨(ad242.add ((x8_2).toNat * 5)).block,(ad242.add ((x8_2).toNat * 5)).off + 1,none⟩ = some (.int .i64 ((rd_T35 l0 x8_2).f1)) ∧ w'.cell? ⟨(ad242.add ((x8_2).toNat * 5)).block,(ad242.add ((x8_2).toNat * 5)).off + 2,none⟩ = some (.int .u64 ((rd_T35 l0 x8_2).f2)) ∧ w'.cell? ⟨(ad242.add ((x8_2).toNat * 5)).block,(ad242.add ((x8_2).toNat * 5)).off + 3,none⟩ = some (.string ((rd_T35 l0 x8_2).f3)) ∧ w'.cell? ⟨(ad242.add ((x8_2).toNat * 5)).block,(ad242.add ((x8_2).toNat * 5)).off + 4,none⟩ = some (.bool ((rd_T35 l0 x8_2).f4))) (ds:=[18]) #[F_,F_,F_,F_,F_,F_,F_,F_,F_,F_,F_,F_,F_,F_,F_,F_,F_,F_,F_] (by kernel_rfl) rfl rfl ⟨(kc_ BK241.out 0).trans rfl,(kc_ BK241.out 1).trans rfl,(kc_ BK241.out 2).trans rfl,(kc_ BK241.out 3).trans rfl,(kc_ BK241.out 4).trans rfl,(kc_ BK241.out 5).trans rfl,(kc_ BK241.out 6).trans rfl,(kc_ BK241.out 7).trans rfl,(up_ HB.out hw284_0),(up_ HB.out hw284_1),(up_ HB.out hw284_2),(up_ HB.out hw284_3),(up_ HB.out hw284_4),(up_ HB.out hw285_0),(up_ HB.out hw285_1),(up_ HB.out hw285_2),(up_ HB.out hw285_3),(up_ HB.out hw285_4),(up_ HB.out hw286_0),(up_ HB.out hw286_1),(up_ HB.out hw286_2),(up_ HB.out hw286_3),(up_ HB.out hw286_4)⟩ (fun hHeld => ?_);refine with_tabW dominolaw15_SendqCredit.tab15 dominolaw15_SendqCredit.bits15 (fun HT_ HW_ => ?_)
             generalize wr.drew = w60 at HO_242003 HO_242004 BK241 HB hx284_0 hx284_1 hx284_2 hx284_3 hx284_4 hx285_0 hx285_1 hx285_2 hx285_3 hx285_4 hx286_0 hx286_1 hx286_2 hx286_3 hx286_4 hHeld ⊢
             refine pure_ (i:=1) (N:=some 72) (v:=?_) (a':=?_) #[F_,T_,F_,F_,F_,F_,F_,F_,F_,F_,F_,F_,F_,F_,F_,F_,F_,F_,F_] rfl rfl (any_of HT_.out (by kernel_rfl)) (fun _ _ _ h => h) (Or.inl ⟨by rfl,?_⟩) ?_ ?_
             rotate_left;(intro w';go_simp;with_reducible rfl);rotate_left;(simp only [Act.put,ps_,i64_w,i32_w];rfl)
             refine pure_ (i:=2) (N:=some 73) (v:=?_) (a':=?_) #[F_,T_,T_,F_,F_,F_,F_,F_,F_,F_,F_,F_,F_,F_,F_,F_,F_,F_,F_] rfl rfl (any_of HT_.out (by kernel_rfl)) (fun _ _ _ h => h) (Or.inl ⟨by rfl,?_⟩) ?_ ?_
             rotate_left;(intro w';go_simp;with_reducible rfl);rotate_left;(simp only [Act.put,ps_,i64_w,i32_w];rfl)
             refine pure_ (i:=3) (N:=some 74) (v:=?_) (a':=?_) #[F_,T_,T_,T_,F_,F_,F_,F_,F_,F_,F_,F_,F_,F_,F_,F_,F_,F_,F_] rfl rfl (any_of HT_.out (by kernel_rfl)) (fun _ _ _ h => h) (Or.inl ⟨by rfl,?_⟩) ?_ ?_
             rotate_left;(intro w';go_simp;with_reducible rfl);rotate_left;(simp only [Act.put,ps_,i64_w,i32_w];rfl)
             refine pure_ (i:=4) (N:=some 75) (v:=?_) (a':=?_) #[F_,T_,T_,T_,T_,F_,F_,F_,F_,F_,F_,F_,F_,F_,F_,F_,F_,F_,F_] rfl rfl (any_of HT_.out (by kernel_rfl)) (fun _ _ _ h => h) (Or.inl ⟨by rfl,?_⟩) ?_ ?_
             rotate_left;(intro w';go_simp;with_reducible rfl);rotate_left;(simp only [Act.put,ps_,i64_w,i32_w];rfl)
             refine pure_ (i:=7) (N:=some 78) (v:=?_) (a':=?_) #[F_,T_,T_,T_,T_,F_,F_,T_,F_,F_,F_,F_,F_,F_,F_,F_,F_,F_,F_] rfl rfl (any_of HT_.out (by kernel_rfl)) (fun _ _ _ h => h) (Or.inl ⟨by rfl,?_⟩) ?_ ?_
             rotate_left;(intro w';go_simp;with_reducible rfl);rotate_left;(simp only [Act.put,ps_,i64_w,i32_w];rfl)
             refine pure_ (i:=8) (N:=some 79) (v:=?_) (a':=?_) #[F_,T_,T_,T_,T_,F_,F_,T_,T_,F_,F_,F_,F_,F_,F_,F_,F_,F_,F_] rfl rfl (any_of HT_.out (by kernel_rfl)) (fun _ _ _ h => h) (Or.inl ⟨by rfl,?_⟩) ?_ ?_
             rotate_left;(intro w';go_simp;with_reducible rfl);rotate_left;(simp only [Act.put,ps_,i64_w,i32_w];rfl)
             refine pure_ (i:=9) (N:=some 80) (v:=?_) (a':=?_) #[F_,T_,T_,T_,T_,F_,F_,T_,T_,T_,F_,F_,F_,F_,F_,F_,F_,F_,F_] rfl rfl (any_of HT_.out (by kernel_rfl)) (fun _ _ _ h => h) (Or.inl ⟨by rfl,?_⟩) ?_ ?_
             rotate_left;(intro w';go_simp;with_reducible rfl);rotate_left;(simp only [Act.put,ps_,i64_w,i32_w];rfl)
             refine pure_ (i:=10) (N:=some 81) (v:=?_) (a':=?_) #[F_,T_,T_,T_,T_,F_,F_,T_,T_,T_,T_,F_,F_,F_,F_,F_,F_,F_,F_] rfl rfl (any_of HT_.out (by kernel_rfl)) (fun _ _ _ h => h) (Or.inl ⟨by rfl,?_⟩) ?_ ?_
             rotate_left;(intro w';go_simp;with_reducible rfl);rotate_left;(simp only [Act.put,ps_,i64_w,i32_w];rfl)
             refine pure_ (i:=12) (N:=some 83) (v:=?_) (a':=?_) #[F_,T_,T_,T_,T_,F_,F_,T_,T_,T_,T_,F_,T_,F_,F_,F_,F_,F_,F_] rfl rfl (any_of HT_.out (by kernel_rfl)) (fun _ _ _ h => h) (Or.inl ⟨by rfl,?_⟩) ?_ ?_
             rotate_left;(intro w';go_simp;with_reducible rfl);rotate_left;(simp only [Act.put,ps_,i64_w,i32_w];rfl)
             refine pure_ (i:=13) (N:=some 84) (v:=?_) (a':=?_) #[F_,T_,T_,T_,T_,F_,F_,T_,T_,T_,T_,F_,T_,T_,F_,F_,F_,F_,F_] rfl rfl (any_of HT_.out (by kernel_rfl)) (fun _ _ _ h => h) (Or.inl ⟨by rfl,?_⟩) ?_ ?_
             rotate_left;(intro w';go_simp;with_reducible rfl);rotate_left;(simp only [Act.put,ps_,i64_w,i32_w];rfl)
             refine pure_ (i:=14) (N:=some 85) (v:=?_) (a':=?_) #[F_,T_,T_,T_,T_,F_,F_,T_,T_,T_,T_,F_,T_,T_,T_,F_,F_,F_,F_] rfl rfl (any_of HT_.out (by kernel_rfl)) (fun _ _ _ h => h) (Or.inl ⟨by rfl,?_⟩) ?_ ?_
             rotate_left;(intro w';go_simp;with_reducible rfl);rotate_left;(simp only [Act.put,ps_,i64_w,i32_w];rfl)
             refine pure_ (i:=15) (N:=some 86) (v:=?_) (a':=?_) #[F_,T_,T_,T_,T_,F_,F_,T_,T_,T_,T_,F_,T_,T_,T_,T_,F_,F_,F_] rfl rfl (any_of HT_.out (by kernel_rfl)) (fun _ _ _ h => h) (Or.inl ⟨by rfl,?_⟩) ?_ ?_
             rotate_left;(intro w';go_simp;with_reducible rfl);rotate_left;(simp only [Act.put,ps_,i64_w,i32_w];rfl)
             refine take_ (i:=0) (N:=some 71) (v:=?_) (a':=?_) #[T_,T_,T_,T_,T_,F_,F_,T_,T_,T_,T_,F_,T_,T_,T_,T_,F_,F_,F_] rfl rfl (take_ofW HT_.out HW_.out (by kernel_rfl)) (fun _ _ _ h => h) (Or.inl ⟨by rfl,?_⟩) hHeld ?_ ?_
             rotate_left
             ·rintro w' ⟨s0,s1,s2,s3,s4,s5,s6,s7,s8,s9,s10,s11,s12,s13,s14,s15,s16,s17,s18,s19,s20,s21,s22⟩
              go_simp
              with_reducible rfl
             rotate_left
             ·simp only [Act.put,ps_,i64_w,i32_w]
              rfl
             refine take_ (i:=5) (N:=some 76) (v:=?_) (a':=?_) #[T_,T_,T_,T_,T_,T_,F_,T_,T_,T_,T_,F_,T_,T_,T_,T_,F_,F_,F_] rfl rfl (take_ofW HT_.out HW_.out (by kernel_rfl)) (fun _ _ _ h => h) (Or.inl ⟨by rfl,?_⟩) hHeld ?_ ?_
             rotate_left
             ·rintro w' ⟨s0,s1,s2,s3,s4,s5,s6,s7,s8,s9,s10,s11,s12,s13,s14,s15,s16,s17,s18,s19,s20,s21,s22⟩
              go_simp
              with_reducible rfl
             rotate_left
             ·simp only [Act.put,ps_,i64_w,i32_w]
              rfl
             refine pure_ (i:=6) (N:=some 77) (v:=?_) (a':=?_) #[T_,T_,T_,T_,T_,T_,T_,T_,T_,T_,T_,F_,T_,T_,T_,T_,F_,F_,F_] rfl rfl (any_of HT_.out (by kernel_rfl)) (fun _ _ _ h => h) (Or.inl ⟨by rfl,?_⟩) ?_ ?_
             rotate_left;(intro w';go_simp;with_reducible rfl);rotate_left;(simp only [Act.put,ps_,i64_w,i32_w];rfl)
             refine take_ (i:=11) (N:=some 82) (v:=?_) (a':=?_) #[T_,T_,T_,T_,T_,T_,T_,T_,T_,T_,T_,T_,T_,T_,T_,T_,F_,F_,F_] rfl rfl (take_ofW HT_.out HW_.out (by kernel_rfl)) (fun _ _ _ h => h) (Or.inl ⟨by rfl,?_⟩) hHeld ?_ ?_
             rotate_left
             ·rintro w' ⟨s0,s1,s2,s3,s4,s5,s6,s7,s8,s9,s10,s11,s12,s13,s14,s15,s16,s17,s18,s19,s20,s21,s22⟩
              go_simp
              with_reducible rfl
             rotate_left
             ·simp only [Act.put,ps_,i64_w,i32_w]
              rfl
             refine take_ (i:=16) (N:=some 87) (v:=?_) (a':=?_) #[T_,T_,T_,T_,T_,T_,T_,T_,T_,T_,T_,T_,T_,T_,T_,T_,T_,F_,F_] rfl rfl (take_ofW HT_.out HW_.out (by kernel_rfl)) (fun _ _ _ h => h) (Or.inl ⟨by rfl,?_⟩) hHeld ?_ ?_
             rotate_left
             ·rintro w' ⟨s0,s1,s2,s3,s4,s5,s6,s7,s8,s9,s10,s11,s12,s13,s14,s15,s16,s17,s18,s19,s20,s21,s22⟩
              go_simp
              with_reducible rfl
             rotate_left
             ·simp only [Act.put,ps_,i64_w,i32_w]
              rfl
             refine one_ (i:=17) (N:=some 88) #[T_,T_,T_,T_,T_,T_,T_,T_,T_,T_,T_,T_,T_,T_,T_,T_,T_,T_,F_] rfl rfl (one_of HT_.out (by kernel_rfl)) (by decide) (fun K hK => ?_)
             refine goes_ Try.func20 (by kernel_rfl) rfl #[.agg #[.int .u64 x242000_2,.int .u64 x242001_2,.string x242002_2,.slice Ao61 x242003_2.length co61,.slice Ao62 x242004_2.length co62,.bool x242005_2,.bool x242006_2,.bool x242007_2],.int .u64 (Int.tmod ((rd_T35 l0 x8_2).f2) 1000),.int .i64 ((rd_T35 l0 x8_2).f1),.bool ((rd_T35 l0 x8_2).f4)] (by rfl) rfl rfl (by (try simp only [List.map_toArray,List.map_cons,List.map_nil]);first|done|rfl|(simp only [List.length_drop,List.length_take];rfl)) ?_
             with_reducible refine (sendq_Acked.calls k2 x242000_2 x242001_2 x242002_2 (fun k_ => k_ ≠ gb241) _ _ x242003_2 (fun k_ => k_ ≠ gb241) _ _ x242004_2 x242005_2 x242006_2 x242007_2 (Int.tmod ((rd_T35 l0 x8_2).f2) 1000) ((rd_T35 l0 x8_2).f1) ((rd_T35 l0 x8_2).f4) t287 t288 t289 t290 t293 t296 t297 t298 _ ?side1 ?side2 A59.out).mono ?_
             (case side1 => exact HO_242003.out)
             (case side2 => exact HO_242004.out)
             rintro e w63 ⟨v291,v294,rfl,ho0,ho1,hb⟩
             refine ⟨_,rfl,?_⟩
             have n0_:=am_ (Kd.V_below (by (with_reducible repeat (first|apply Kd.V_alloc|apply Kd.V_drewN|apply Kd.V_drew));exact HO_242003.out) hb)
             have n1_:=am_ (Kd.V_below (by (with_reducible repeat (first|apply Kd.V_alloc|apply Kd.V_drewN|apply Kd.V_drew));exact HO_242004.out) hb)
             have n2_:=am_ (Kd.V_lower (Kd.V_mono (ok':=fun k_ => k_ ≠ gb241) ho0 (fun k_ hk_ => Or.elim hk_ (fun hs_ => Or.elim hs_ (fun hs_ => hs_) (fun hs_ => hs_)) (fun hn_ => (Kd.freshB (g:=gb241) (o:=.cells #[.int .u64 x242000_2,.int .u64 x242001_2,.string x242002_2,.slice Ao61 x242003_2.length co61,.slice Ao62 x242004_2.length co62,.bool x242005_2,.bool x242006_2,.bool x242007_2] 29 (0,0)) (by (with_reducible repeat (first|refine kn_ ?_ _|refine kd_ ?_|refine ka_ ?_ _));exact BK241.out) k_ hn_)))) (below_size (by repeat (first|(with_reducible first|exact HB.out|apply ba_|apply pn_|apply pd_|refine bs_ ?_ GE241.out)|exact HB.out))))
             have n3_:=am_ (Kd.V_lower (Kd.V_mono (ok':=fun k_ => k_ ≠ gb241) ho1 (fun k_ hk_ => Or.elim hk_ (fun hs_ => Or.elim hs_ (fun hs_ => hs_) (fun hs_ => hs_)) (fun hn_ => (Kd.freshB (g:=gb241) (o:=.cells #[.int .u64 x242000_2,.int .u64 x242001_2,.string x242002_2,.slice Ao61 x242003_2.length co61,.slice Ao62 x242004_2.length co62,.bool x242005_2,.bool x242006_2,.bool x242007_2] 29 (0,0)) (by (with_reducible repeat (first|refine kn_ ?_ _|refine kd_ ?_|refine ka_ ?_ _));exact BK241.out) k_ hn_)))) (below_size (by repeat (first|(with_reducible first|exact HB.out|apply ba_|apply pn_|apply pd_|refine bs_ ?_ GE241.out)|exact HB.out))))
             have n4_:=am_ (blk_below (g:=gb241) (o:=.cells #[.int .u64 x242000_2,.int .u64 x242001_2,.string x242002_2,.slice Ao61 x242003_2.length co61,.slice Ao62 x242004_2.length co62,.bool x242005_2,.bool x242006_2,.bool x242007_2] 29 (0,0)) (by (with_reducible repeat (first|refine kn_ ?_ _|refine kd_ ?_|refine ka_ ?_ _));exact BK241.out) hb)
             have n5_:=am_ (below_step (by repeat (first|(with_reducible first|exact HB.out|apply ba_|apply pn_|apply pd_|refine bs_ ?_ GE241.out)|exact HB.out)) hb)
             clear HO_242003
             clear HO_242004
             clear BK241
             clear HB
             have HO_242003:=n0_
             have HO_242004:=n1_
             have HO292:=n2_
             have HO295:=n3_
             have BK241:=n4_
             have HB:=n5_
             clear n0_ n1_ n2_ n3_ n4_ n5_
             (try clear hb)
             (try clear hb2)
             (try clear hk)
             (try clear hi)
             (try clear ho0)
             (try clear ho1)
             obtain ⟨Ao67,co67,eo67⟩:=Kd.V_slice HO292.out
             (first|subst eo67|(injection eo67 with f1_ f2_ f3_;have f4_:=f1_.symm;have f5_:=f3_.symm;clear f1_ f2_ f3_;subst f4_;subst f5_))
             obtain ⟨Ao69,co69,eo69⟩:=Kd.V_slice HO295.out
             (first|subst eo69|(injection eo69 with f1_ f2_ f3_;have f4_:=f1_.symm;have f5_:=f3_.symm;clear f1_ f2_ f3_;subst f4_;subst f5_))
             refine hK.out _ _ ⟨(kc_ BK241.out 0).trans rfl,(kc_ BK241.out 1).trans rfl,(kc_ BK241.out 2).trans rfl,(kc_ BK241.out 3).trans rfl,(kc_ BK241.out 4).trans rfl,(kc_ BK241.out 5).trans rfl,(kc_ BK241.out 6).trans rfl,(kc_ BK241.out 7).trans rfl,(up_ HB.out hw284_0),(up_ HB.out hw284_1),(up_ HB.out hw284_2),(up_ HB.out hw284_3),(up_ HB.out hw284_4),(up_ HB.out hw285_0),(up_ HB.out hw285_1),(up_ HB.out hw285_2),(up_ HB.out hw285_3),(up_ HB.out hw285_4),(up_ HB.out hw286_0),(up_ HB.out hw286_1),(up_ HB.out hw286_2),(up_ HB.out hw286_3),(up_ HB.out hw286_4)⟩ (fun hHeld => ?_)
             clear hK K
             refine norm_ (a':=?_) ?_ ?_
             rotate_left
             ·show Act.put _ (some 88) _ = _
              simp only [Act.put,ps_,i64_w,i32_w]
              rfl
             refine last_ (i:=18) (N:=none) #[T_,T_,T_,T_,T_,T_,T_,T_,T_,T_,T_,T_,T_,T_,T_,T_,T_,T_,T_] rfl rfl (one_of HT_.out (by kernel_rfl)) (by decide) (fun K hK => ?_)
             have hs64 : w63.cell? ⟨gb241,0,none⟩ = some (.int .u64 x242000_2):=(kc_ BK241.out 0).trans rfl
             have hfs64:=blk_frozen BK241.out 0
             have hs65 : w63.cell? ⟨gb241,1,none⟩ = some (.int .u64 x242001_2):=(kc_ BK241.out 1).trans rfl
             have hfs65:=blk_frozen BK241.out 1
             have hs66 : w63.cell? ⟨gb241,2,none⟩ = some (.string x242002_2):=(kc_ BK241.out 2).trans rfl
             have hfs66:=blk_frozen BK241.out 2
             have hs68 : w63.cell? ⟨gb241,3,none⟩ = some (.slice Ao61 x242003_2.length co61):=(kc_ BK241.out 3).trans rfl
             have hfs68:=blk_frozen BK241.out 3
             have hs70 : w63.cell? ⟨gb241,4,none⟩ = some (.slice Ao62 x242004_2.length co62):=(kc_ BK241.out 4).trans rfl
             have hfs70:=blk_frozen BK241.out 4
             have hs71 : w63.cell? ⟨gb241,5,none⟩ = some (.bool x242005_2):=(kc_ BK241.out 5).trans rfl
             have hfs71:=blk_frozen BK241.out 5
             have hs72 : w63.cell? ⟨gb241,6,none⟩ = some (.bool x242006_2):=(kc_ BK241.out 6).trans rfl
             have hfs72:=blk_frozen BK241.out 6
             have hs73 : w63.cell? ⟨gb241,7,none⟩ = some (.bool x242007_2):=(kc_ BK241.out 7).trans rfl
             have hfs73:=blk_frozen BK241.out 7
             refine skip_ (w1:=?_) (by rfl) rfl ?_ ?_
             rotate_left
             ·go_simp
              rfl
             refine hK.out _ _ ?_
             clear hK K
             refine done_ (done_of HT_.out (by kernel_rfl)) ?_
             try go_wp2
             go_meet
             case rel => exact ⟨_,(t287),(t288),(t289),(t290),(t293),(t296),(t297),(t298),(.slice Ao67 t290.length co67),(.slice Ao69 t293.length co69),H',⟨by have:=HJ3.out;have:=HK2.out;first|omega|exact Nat.le_refl _⟩,⟨by (with_reducible repeat (first|apply Kd.V_alloc|apply Kd.V_drewN|apply Kd.V_drew));exact Kd.V_mono (Kd.V_far (p:=⟨gb241,7,none⟩) (Kd.V_far (p:=⟨gb241,6,none⟩) (Kd.V_far (p:=⟨gb241,5,none⟩) (Kd.V_far (p:=⟨gb241,4,none⟩) (Kd.V_far (p:=⟨gb241,3,none⟩) (Kd.V_far (p:=⟨gb241,2,none⟩) (Kd.V_far (p:=⟨gb241,1,none⟩) (Kd.V_far (p:=⟨gb241,0,none⟩) (Kd.V_mono HO292.out (fun k_ hk => (⟨hk,hk⟩ : _ ∧ k_ ≠ gb241))) (fun _ hk => hk.2) (.int .u64 t287)) (fun _ hk => hk.2) (.int .u64 t288)) (fun _ hk => hk.2) (.string t289)) (fun _ hk => hk.2) (.slice Ao67 t290.length co67)) (fun _ hk => hk.2) (.slice Ao69 t293.length co69)) (fun _ hk => hk.2) (.bool t296)) (fun _ hk => hk.2) (.bool t297)) (fun _ hk => hk.2) (.bool t298)) (fun _ hk => hk.1)⟩,⟨by (with_reducible repeat (first|apply Kd.V_alloc|apply Kd.V_drewN|apply Kd.V_drew));exact Kd.V_mono (Kd.V_far (p:=⟨gb241,7,none⟩) (Kd.V_far (p:=⟨gb241,6,none⟩) (Kd.V_far (p:=⟨gb241,5,none⟩) (Kd.V_far (p:=⟨gb241,4,none⟩) (Kd.V_far (p:=⟨gb241,3,none⟩) (Kd.V_far (p:=⟨gb241,2,none⟩) (Kd.V_far (p:=⟨gb241,1,none⟩) (Kd.V_far (p:=⟨gb241,0,none⟩) (Kd.V_mono HO295.out (fun k_ hk => (⟨hk,hk⟩ : _ ∧ k_ ≠ gb241))) (fun _ hk => hk.2) (.int .u64 t287)) (fun _ hk => hk.2) (.int .u64 t288)) (fun _ hk => hk.2) (.string t289)) (fun _ hk => hk.2) (.slice Ao67 t290.length co67)) (fun _ hk => hk.2) (.slice Ao69 t293.length co69)) (fun _ hk => hk.2) (.bool t296)) (fun _ hk => hk.2) (.bool t297)) (fun _ hk => hk.2) (.bool t298)) (fun _ hk => hk.1)⟩,⟨by (with_reducible repeat (first|refine kn_ ?_ _|refine kd_ ?_|refine ka_ ?_ _));refine blk_put (cs:=#[.int .u64 t287,.int .u64 t288,.string t289,.slice Ao67 t290.length co67,.slice Ao69 t293.length co69,.bool t296,.bool t297,.bool x242007_2]) ?_ 7 _ rfl;(with_reducible repeat (first|refine kn_ ?_ _|refine kd_ ?_|refine ka_ ?_ _));refine blk_put (cs:=#[.int .u64 t287,.int .u64 t288,.string t289,.slice Ao67 t290.length co67,.slice Ao69 t293.length co69,.bool t296,.bool x242006_2,.bool x242007_2]) ?_ 6 _ rfl;(with_reducible repeat (first|refine kn_ ?_ _|refine kd_ ?_|refine ka_ ?_ _));refine blk_put (cs:=#[.int .u64 t287,.int .u64 t288,.string t289,.slice Ao67 t290.length co67,.slice Ao69 t293.length co69,.bool x242005_2,.bool x242006_2,.bool x242007_2]) ?_ 5 _ rfl;(with_reducible repeat (first|refine kn_ ?_ _|refine kd_ ?_|refine ka_ ?_ _));refine blk_put (cs:=#[.int .u64 t287,.int .u64 t288,.string t289,.slice Ao67 t290.length co67,.slice Ao62 x242004_2.length co62,.bool x242005_2,.bool x242006_2,.bool x242007_2]) ?_ 4 _ rfl;(with_reducible repeat (first|refine kn_ ?_ _|refine kd_ ?_|refine ka_ ?_ _));refine blk_put (cs:=#[.int .u64 t287,.int .u64 t288,.string t289,.slice Ao61 x242003_2.length co61,.slice Ao62 x242004_2.length co62,.bool x242005_2,.bool x242006_2,.bool x242007_2]) ?_ 3 _ rfl;(with_reducible repeat (first|refine kn_ ?_ _|refine kd_ ?_|refine ka_ ?_ _));refine blk_put (cs:=#[.int .u64 t287,.int .u64 t288,.string x242002_2,.slice Ao61 x242003_2.length co61,.slice Ao62 x242004_2.length co62,.bool x242005_2,.bool x242006_2,.bool x242007_2]) ?_ 2 _ rfl;(with_reducible repeat (first|refine kn_ ?_ _|refine kd_ ?_|refine ka_ ?_ _));refine blk_put (cs:=#[.int .u64 t287,.int .u64 x242001_2,.string x242002_2,.slice Ao61 x242003_2.length co61,.slice Ao62 x242004_2.length co62,.bool x242005_2,.bool x242006_2,.bool x242007_2]) ?_ 1 _ rfl;(with_reducible repeat (first|refine kn_ ?_ _|refine kd_ ?_|refine ka_ ?_ _));refine blk_put (cs:=#[.int .u64 x242000_2,.int .u64 x242001_2,.string x242002_2,.slice Ao61 x242003_2.length co61,.slice Ao62 x242004_2.length co62,.bool x242005_2,.bool x242006_2,.bool x242007_2]) ?_ 0 _ rfl;(with_reducible repeat (first|refine kn_ ?_ _|refine kd_ ?_|refine ka_ ?_ _));exact BK241.out⟩,⟨by repeat (first|(with_reducible first|exact HB.out|apply ba_|apply pn_|apply pd_|refine bs_ ?_ GE241.out)|exact HB.out)⟩⟩
            ·rw [if_neg c58] at H
             have c58b0 : (((rd_T35 l0 x8_2).f0) == 4) = false:=beq_eq_false_iff_ne.mpr c58
             have c58b1 : (((rd_T35 l0 x8_2).f0) != 4) = true:=bne_iff_ne.mpr c58
             have H':=am_ H
             clear H
             go_wp2
             go_meet
             case rel => exact ⟨_,(x242000_2),(x242001_2),(x242002_2),(x242003_2),(x242004_2),(x242005_2),(x242006_2),(x242007_2),(u242003),(u242004),H',⟨by have:=HJ3.out;have:=HK2.out;first|omega|exact Nat.le_refl _⟩,⟨by (with_reducible repeat (first|apply Kd.V_alloc|apply Kd.V_drewN|apply Kd.V_drew));exact HO_242003.out⟩,⟨by (with_reducible repeat (first|apply Kd.V_alloc|apply Kd.V_drewN|apply Kd.V_drew));exact HO_242004.out⟩,⟨by (with_reducible repeat (first|refine kn_ ?_ _|refine kd_ ?_|refine ka_ ?_ _));exact BK241.out⟩,⟨by repeat (first|(with_reducible first|exact HB.out|apply ba_|apply pn_|apply pd_|refine bs_ ?_ GE241.out)|exact HB.out)⟩⟩
        case rest =>
         clear HC16
         try clear c1;try clear c2
         try clear p2;try clear q2
         try clear hx2;try clear c3
         try clear c4;try clear c5
         try clear c14;try clear c18
         try clear c20;try clear p26
         try clear q26;try clear hx26
         try clear p27;try clear q27
         try clear hx27;try clear p28
         try clear q28;try clear hx28
         try clear c33;try clear c33b0
         try clear c33b1;try clear c42
         try clear c42b0;try clear c42b1
         try clear c58;try clear c58b0
         try clear c58b1;try clear hcz35_7
         try clear hcz39_0;try clear hcz39_1
         try clear hcz39_2;try clear hcz39_3
         try clear hcz39_4;try clear hcz39_5
         try clear hcz39_6;try clear hcz39_7
         try clear hfz35_0;try clear hfz35_1
         try clear hfz35_2;try clear hfz35_3
         try clear hfz35_4;try clear hfz35_5
         try clear hfz35_6;try clear hfz35_7
         try clear hfz39_0;try clear hfz39_1
         try clear hfz39_2;try clear hfz39_3
         try clear hfz39_4;try clear hfz39_5
         try clear hfz39_6;try clear hfz39_7
         try clear hx269_0;try clear hx269_1
         try clear hx269_2;try clear hx269_3
         try clear hx269_4;try clear hx270_0
         try clear hx270_1;try clear hx270_2
         try clear hx270_3;try clear hx270_4
         try clear hx271_0;try clear hx271_1
         try clear hx271_2;try clear hx271_3
         try clear hx271_4;try clear hx284_0
         try clear hx284_1;try clear hx284_2
         try clear hx284_3;try clear hx284_4
         try clear hx285_0;try clear hx285_1
         try clear hx285_2;try clear hx285_3
         try clear hx285_4;try clear hx286_0
         try clear hx286_1;try clear hx286_2
         try clear hx286_3;try clear hx286_4
         try clear p269;try clear p270
         try clear p271;try clear p284
         try clear p285;try clear p286
         try clear q269;try clear q270
         try clear q271;try clear q284
         try clear q285;try clear q286
         obtain ⟨kq,x242000_15,x242001_15,x242002_15,x242003_15,x242004_15,x242005_15,x242006_15,x242007_15,u242003,u242004,HA,HJ15,HO_242003,HO_242004,BK241,HB⟩:=hcut
         cases kq with
         | zero => exact absurd HA.out (by simp [dominolaw15_SendqCredit.j2])
         | succ kj15 =>
          have H:=HA.out
          clear HA
          simp only [dominolaw15_SendqCredit.j2] at H
          replace H:=Option.bind_eq_some_iff.mp H
          obtain ⟨⟨t299,t300,t301,t302⟩,A740,H⟩:=H
          replace H : (if t300.toList = ([] : List UInt8) then (if t302 = true then (if t301 = true then (if x242005_15 = true then ((sendq_End.f x242000_15 x242001_15 x242002_15 x242003_15 x242004_15 x242005_15 x242006_15 x242007_15).bind fun t303 => (dominolaw15_SendqCredit.j3 kj15 l0 a1 a2 x8_2 t299 t300 t301 t302 ((IntKind.u64.wrap (t299 + (IntKind.u64.wrap ((t300.size : Int))))) != t303) x242000_15 x242001_15 x242002_15 x242003_15 x242004_15 x242005_15 x242006_15 x242007_15)) else (none)) else (dominolaw15_SendqCredit.j3 kj15 l0 a1 a2 x8_2 t299 t300 t301 t302 false x242000_15 x242001_15 x242002_15 x242003_15 x242004_15 x242005_15 x242006_15 x242007_15)) else (if t299 = 0 then (if t301 = true then (none) else (dominolaw15_SendqCredit.j3 kj15 l0 a1 a2 x8_2 t299 t300 t301 t302 false x242000_15 x242001_15 x242002_15 x242003_15 x242004_15 x242005_15 x242006_15 x242007_15)) else (none))) else (if (IntKind.u64.wrap (t299 + (IntKind.u64.wrap ((t300.size : Int))))) > (IntKind.u64.wrap (a1)) then (none) else (if (t300.size : Int) > a2 then (none) else (if t302 = true then (if t301 = true then (if x242005_15 = true then ((sendq_End.f x242000_15 x242001_15 x242002_15 x242003_15 x242004_15 x242005_15 x242006_15 x242007_15).bind fun t304 => (dominolaw15_SendqCredit.j3 kj15 l0 a1 a2 x8_2 t299 t300 t301 t302 ((IntKind.u64.wrap (t299 + (IntKind.u64.wrap ((t300.size : Int))))) != t304) x242000_15 x242001_15 x242002_15 x242003_15 x242004_15 x242005_15 x242006_15 x242007_15)) else (none)) else (dominolaw15_SendqCredit.j3 kj15 l0 a1 a2 x8_2 t299 t300 t301 t302 false x242000_15 x242001_15 x242002_15 x242003_15 x242004_15 x242005_15 x242006_15 x242007_15)) else (none))))) = some r:=H
          have A74:=am_ A740
          clear A740
          have HC75:=am_ H
          clear H
          have hcz76_0 : wc.cell? ⟨gb241,0,none⟩ = some (.int .u64 x242000_15):=(kc_ BK241.out 0).trans rfl
          have hcz76_1 : wc.cell? ⟨gb241,1,none⟩ = some (.int .u64 x242001_15):=(kc_ BK241.out 1).trans rfl
          have hcz76_2 : wc.cell? ⟨gb241,2,none⟩ = some (.string x242002_15):=(kc_ BK241.out 2).trans rfl
          have hcz76_3 : wc.cell? ⟨gb241,3,none⟩ = some (u242003):=(kc_ BK241.out 3).trans rfl
          have hcz76_4 : wc.cell? ⟨gb241,4,none⟩ = some (u242004):=(kc_ BK241.out 4).trans rfl
          have hcz76_5 : wc.cell? ⟨gb241,5,none⟩ = some (.bool x242005_15):=(kc_ BK241.out 5).trans rfl
          have hcz76_6 : wc.cell? ⟨gb241,6,none⟩ = some (.bool x242006_15):=(kc_ BK241.out 6).trans rfl
          have hcz76_7 : wc.cell? ⟨gb241,7,none⟩ = some (.bool x242007_15):=(kc_ BK241.out 7).trans rfl
          have hfz76_0:=blk_frozen BK241.out 0
          have hfz76_1:=blk_frozen BK241.out 1
          have hfz76_2:=blk_frozen BK241.out 2
          have hfz76_3:=blk_frozen BK241.out 3
          have hfz76_4:=blk_frozen BK241.out 4
          have hfz76_5:=blk_frozen BK241.out 5
          have hfz76_6:=blk_frozen BK241.out 6
          have hfz76_7:=blk_frozen BK241.out 7
          obtain ⟨Ao77,co77,eo77⟩:=Kd.V_slice HO_242003.out
          subst eo77
          obtain ⟨Ao78,co78,eo78⟩:=Kd.V_slice HO_242004.out
          subst eo78
          go_upto_region 17 with (first|((with_reducible refine gate_callee (f:=10) rfl ?_);refine goesL_ (some 94) rfl rfl Try.func10 (by kernel_rfl) rfl #[.agg #[.int .u64 x242000_15,.int .u64 x242001_15,.string x242002_15,.slice Ao77 x242003_15.length co77,.slice Ao78 x242004_15.length co78,.bool x242005_15,.bool x242006_15,.bool x242007_15],.int .i64 a2,.int .u64 (IntKind.u64.wrap (a1))] rfl (by (try simp only [List.map_toArray,List.map_cons,List.map_nil]);first|done|rfl|(simp only [List.length_drop,List.length_take];rfl)) ?_;(with_reducible refine (sendq_Next.calls x242000_15 x242001_15 x242002_15 _ _ x242003_15 _ _ x242004_15 x242005_15 x242006_15 x242007_15 a2 (IntKind.u64.wrap (a1)) t299 t300 t301 t302 _ ?side1 ?side2 ?side3 ?side4 A74.out).mono ?_);(case side1 => repeat (first|exact (Kd.V_reads' HO_242003.out).2.2|(with_reducible refine Kd.C_alloc ?_ _)|(with_reducible refine Kd.C_drewN ?_ _)|(with_reducible refine Kd.C_drew ?_)));(case side2 => exact (Kd.V_reads' HO_242003.out).2.1);(case side3 => repeat (first|exact (Kd.V_reads' HO_242004.out).2.2|(with_reducible refine Kd.C_alloc ?_ _)|(with_reducible refine Kd.C_drewN ?_ _)|(with_reducible refine Kd.C_drew ?_)));(case side4 => exact (Kd.V_reads' HO_242004.out).2.1);rintro e w79 ⟨rfl,hb⟩;refine ⟨_,rfl,?_⟩;have n0_:=am_ (Kd.V_below (by (with_reducible repeat (first|apply Kd.V_alloc|apply Kd.V_drewN|apply Kd.V_drew));exact HO_242003.out) hb);have n1_:=am_ (Kd.V_below (by (with_reducible repeat (first|apply Kd.V_alloc|apply Kd.V_drewN|apply Kd.V_drew));exact HO_242004.out) hb);have n2_:=am_ (blk_below (g:=gb241) (o:=.cells #[.int .u64 x242000_15,.int .u64 x242001_15,.string x242002_15,.slice Ao77 x242003_15.length co77,.slice Ao78 x242004_15.length co78,.bool x242005_15,.bool x242006_15,.bool x242007_15] 29 (0,0)) (by (with_reducible repeat (first|refine kn_ ?_ _|refine kd_ ?_|refine ka_ ?_ _));exact BK241.out) hb);have n3_:=am_ (below_step (by repeat (first|(with_reducible first|exact HB.out|apply ba_|apply pn_|apply pd_|refine bs_ ?_ GE241.out)|exact HB.out)) hb);clear HO_242003;clear HO_242004;clear BK241;clear HB;have HO_242003:=n0_;have HO_242004:=n1_;have BK241:=n2_;have HB:=n3_;clear n0_ n1_ n2_ n3_;(try clear hb);(try clear hb2);(try clear hk);(try clear hi)))
          (try simp only [Act.put,ps_])
          go_cut [149] from 135 to 149 (fun v149 wc => ∃ (kq : Nat) (x149_74 : Bool),v149 = .bool x149_74 ∧ Aside0 (dominolaw15_SendqCredit.j3 kq l0 a1 a2 x8_2 t299 t300 t301 t302 x149_74 x242000_15 x242001_15 x242002_15 x242003_15 x242004_15 x242005_15 x242006_15 x242007_15 = some r) ∧ Aside0 (kq ≤ kj15) ∧ Aside0 (Kd.V k67 67 wc w.heap.size (fun k_ => k_ ≠ gb241) (.slice Ao77 x242003_15.length co77) x242003_15) ∧ Aside0 (Kd.V k67 67 wc w.heap.size (fun k_ => k_ ≠ gb241) (.slice Ao78 x242004_15.length co78) x242004_15) ∧ Aside0 (wc.heap[gb241]? = some (.cells #[.int .u64 x242000_15,.int .u64 x242001_15,.string x242002_15,(.slice Ao77 x242003_15.length co77),(.slice Ao78 x242004_15.length co78),.bool x242005_15,.bool x242006_15,.bool x242007_15] 29 (0,0))) ∧ Aside0 (Below w.heap.size w wc))
          case first =>
           have H:=HC75.out
           clear HC75
           by_cases c80 : t300.toList = ([] : List UInt8)
           ·rw [if_pos c80] at H
            have c80b0 : (t300.toList == ([] : List UInt8)) = true:=beq_iff_eq.mpr c80
            have c80b1 : (t300.toList != ([] : List UInt8)) = false:=bne_eq_false_iff_eq.mpr c80
            clear c80
            (first|rw [c80b0]|(simp only [i64_w,i32_w];rw [c80b0])|skip)
            by_cases c81 : t302 = true
            ·subst c81
             have H1 : (if t301 = true then (if x242005_15 = true then ((sendq_End.f x242000_15 x242001_15 x242002_15 x242003_15 x242004_15 x242005_15 x242006_15 x242007_15).bind fun t303 => (dominolaw15_SendqCredit.j3 kj15 l0 a1 a2 x8_2 t299 t300 t301 true ((IntKind.u64.wrap (t299 + (IntKind.u64.wrap ((t300.size : Int))))) != t303) x242000_15 x242001_15 x242002_15 x242003_15 x242004_15 x242005_15 x242006_15 x242007_15)) else (none)) else (dominolaw15_SendqCredit.j3 kj15 l0 a1 a2 x8_2 t299 t300 t301 true false x242000_15 x242001_15 x242002_15 x242003_15 x242004_15 x242005_15 x242006_15 x242007_15)) = some r:=by rw [if_pos rfl] at H;exact H
             clear H
             have H:=H1
             clear H1
             by_cases c82 : t301 = true
             ·subst c82
              have H1 : (if x242005_15 = true then ((sendq_End.f x242000_15 x242001_15 x242002_15 x242003_15 x242004_15 x242005_15 x242006_15 x242007_15).bind fun t303 => (dominolaw15_SendqCredit.j3 kj15 l0 a1 a2 x8_2 t299 t300 true true ((IntKind.u64.wrap (t299 + (IntKind.u64.wrap ((t300.size : Int))))) != t303) x242000_15 x242001_15 x242002_15 x242003_15 x242004_15 x242005_15 x242006_15 x242007_15)) else (none)) = some r:=by rw [if_pos rfl] at H;exact H
              clear H
              have H:=H1
              clear H1
              by_cases c83 : x242005_15 = true
              ·subst c83
               have H1 : ((sendq_End.f x242000_15 x242001_15 x242002_15 x242003_15 x242004_15 true x242006_15 x242007_15).bind fun t303 => (dominolaw15_SendqCredit.j3 kj15 l0 a1 a2 x8_2 t299 t300 true true ((IntKind.u64.wrap (t299 + (IntKind.u64.wrap ((t300.size : Int))))) != t303) x242000_15 x242001_15 x242002_15 x242003_15 x242004_15 true x242006_15 x242007_15)) = some r:=by rw [if_pos rfl] at H;exact H
               clear H
               have H:=H1
               clear H1
               replace H:=Option.bind_eq_some_iff.mp H
               obtain ⟨t303,A840,H⟩:=H
               replace H : (dominolaw15_SendqCredit.j3 kj15 l0 a1 a2 x8_2 t299 t300 true true ((IntKind.u64.wrap (t299 + (IntKind.u64.wrap ((t300.size : Int))))) != t303) x242000_15 x242001_15 x242002_15 x242003_15 x242004_15 true x242006_15 x242007_15) = some r:=H
               have A84:=am_ A840
               clear A840
               have H':=am_ H
               clear H
               have hcz85_0 : w79.cell? ⟨gb241,0,none⟩ = some (.int .u64 x242000_15):=(kc_ BK241.out 0).trans rfl
               have hcz85_1 : w79.cell? ⟨gb241,1,none⟩ = some (.int .u64 x242001_15):=(kc_ BK241.out 1).trans rfl
               have hcz85_2 : w79.cell? ⟨gb241,2,none⟩ = some (.string x242002_15):=(kc_ BK241.out 2).trans rfl
               have hcz85_3 : w79.cell? ⟨gb241,3,none⟩ = some (.slice Ao77 x242003_15.length co77):=(kc_ BK241.out 3).trans rfl
               have hcz85_4 : w79.cell? ⟨gb241,4,none⟩ = some (.slice Ao78 x242004_15.length co78):=(kc_ BK241.out 4).trans rfl
               have hcz85_5 : w79.cell? ⟨gb241,5,none⟩ = some (.bool true):=(kc_ BK241.out 5).trans rfl
               have hcz85_6 : w79.cell? ⟨gb241,6,none⟩ = some (.bool x242006_15):=(kc_ BK241.out 6).trans rfl
               have hcz85_7 : w79.cell? ⟨gb241,7,none⟩ = some (.bool x242007_15):=(kc_ BK241.out 7).trans rfl
               have hfz85_0:=blk_frozen BK241.out 0
               have hfz85_1:=blk_frozen BK241.out 1
               have hfz85_2:=blk_frozen BK241.out 2
               have hfz85_3:=blk_frozen BK241.out 3
               have hfz85_4:=blk_frozen BK241.out 4
               have hfz85_5:=blk_frozen BK241.out 5
               have hfz85_6:=blk_frozen BK241.out 6
               have hfz85_7:=blk_frozen BK241.out 7
               go_wp2_with (first|(go_at_call 26;(with_reducible refine (sendq_End.calls x242000_15 x242001_15 x242002_15 _ _ x242003_15 _ _ x242004_15 true x242006_15 x242007_15 t303 _ ?side1 ?side2 ?side3 ?side4 A84.out).mono ?_);(case side1 => repeat (first|exact (Kd.V_reads' HO_242003.out).2.2|(with_reducible refine Kd.C_alloc ?_ _)|(with_reducible refine Kd.C_drewN ?_ _)|(with_reducible refine Kd.C_drew ?_)));(case side2 => exact (Kd.V_reads' HO_242003.out).2.1);(case side3 => repeat (first|exact (Kd.V_reads' HO_242004.out).2.2|(with_reducible refine Kd.C_alloc ?_ _)|(with_reducible refine Kd.C_drewN ?_ _)|(with_reducible refine Kd.C_drew ?_)));(case side4 => exact (Kd.V_reads' HO_242004.out).2.1);rintro e w86 ⟨rfl,hb⟩;have n0_:=am_ (Kd.V_below (by (with_reducible repeat (first|apply Kd.V_alloc|apply Kd.V_drewN|apply Kd.V_drew));exact HO_242003.out) hb);have n1_:=am_ (Kd.V_below (by (with_reducible repeat (first|apply Kd.V_alloc|apply Kd.V_drewN|apply Kd.V_drew));exact HO_242004.out) hb);have n2_:=am_ (blk_below (g:=gb241) (o:=.cells #[.int .u64 x242000_15,.int .u64 x242001_15,.string x242002_15,.slice Ao77 x242003_15.length co77,.slice Ao78 x242004_15.length co78,.bool true,.bool x242006_15,.bool x242007_15] 29 (0,0)) (by (with_reducible repeat (first|refine kn_ ?_ _|refine kd_ ?_|refine ka_ ?_ _));exact BK241.out) hb);have n3_:=am_ (below_step (by repeat (first|(with_reducible first|exact HB.out|apply ba_|apply pn_|apply pd_|refine bs_ ?_ GE241.out)|exact HB.out)) hb);clear HO_242003;clear HO_242004;clear BK241;clear HB;have HO_242003:=n0_;have HO_242004:=n1_;have BK241:=n2_;have HB:=n3_;clear n0_ n1_ n2_ n3_;(try clear hb);(try clear hb2);(try clear hk);(try clear hi)))
               go_meet
               case rel => exact ⟨_,(((IntKind.u64.wrap (t299 + (IntKind.u64.wrap ((t300.size : Int))))) != t303)),(by first|rfl|(simp;done)|(simp [*];done)),H',⟨by have:=HJ3.out;have:=HK2.out;have:=HJ15.out;first|omega|exact Nat.le_refl _⟩,⟨by (with_reducible repeat (first|apply Kd.V_alloc|apply Kd.V_drewN|apply Kd.V_drew));exact HO_242003.out⟩,⟨by (with_reducible repeat (first|apply Kd.V_alloc|apply Kd.V_drewN|apply Kd.V_drew));exact HO_242004.out⟩,⟨by (with_reducible repeat (first|refine kn_ ?_ _|refine kd_ ?_|refine ka_ ?_ _));exact BK241.out⟩,⟨by repeat (first|(with_reducible first|exact HB.out|apply ba_|apply pn_|apply pd_|refine bs_ ?_ GE241.out)|exact HB.out)⟩⟩
              ·replace c83:=Bool.eq_false_iff.mpr c83
               subst c83
               have H1 : (none) = some r:=by rw [if_neg (show ¬ (false = true) by decide)] at H;exact H
               clear H
               have H:=H1
               clear H1
               exact absurd H (by simp)
             ·replace c82:=Bool.eq_false_iff.mpr c82
              subst c82
              have H1 : (dominolaw15_SendqCredit.j3 kj15 l0 a1 a2 x8_2 t299 t300 false true false x242000_15 x242001_15 x242002_15 x242003_15 x242004_15 x242005_15 x242006_15 x242007_15) = some r:=by rw [if_neg (show ¬ (false = true) by decide)] at H;exact H
              clear H
              have H:=H1
              clear H1
              have H':=am_ H
              clear H
              go_wp2
              go_meet
              case rel => exact ⟨_,(false),(by first|rfl|(simp;done)|(simp [*];done)),H',⟨by have:=HJ3.out;have:=HK2.out;have:=HJ15.out;first|omega|exact Nat.le_refl _⟩,⟨by (with_reducible repeat (first|apply Kd.V_alloc|apply Kd.V_drewN|apply Kd.V_drew));exact HO_242003.out⟩,⟨by (with_reducible repeat (first|apply Kd.V_alloc|apply Kd.V_drewN|apply Kd.V_drew));exact HO_242004.out⟩,⟨by (with_reducible repeat (first|refine kn_ ?_ _|refine kd_ ?_|refine ka_ ?_ _));exact BK241.out⟩,⟨by repeat (first|(with_reducible first|exact HB.out|apply ba_|apply pn_|apply pd_|refine bs_ ?_ GE241.out)|exact HB.out)⟩⟩
            ·replace c81:=Bool.eq_false_iff.mpr c81
             subst c81
             have H1 : (if t299 = 0 then (if t301 = true then (none) else (dominolaw15_SendqCredit.j3 kj15 l0 a1 a2 x8_2 t299 t300 t301 false false x242000_15 x242001_15 x242002_15 x242003_15 x242004_15 x242005_15 x242006_15 x242007_15)) else (none)) = some r:=by rw [if_neg (show ¬ (false = true) by decide)] at H;exact H
             clear H
             have H:=H1
             clear H1
             by_cases c87 : t299 = 0
             ·rw [if_pos c87] at H
              have c87b0 : (t299 == 0) = true:=beq_iff_eq.mpr c87
              have c87b1 : (t299 != 0) = false:=bne_eq_false_iff_eq.mpr c87
              clear c87
              by_cases c88 : t301 = true
              ·subst c88
               have H1 : (none) = some r:=by rw [if_pos rfl] at H;exact H
               clear H
               have H:=H1
               clear H1
               exact absurd H (by simp)
              ·replace c88:=Bool.eq_false_iff.mpr c88
               subst c88
               have H1 : (dominolaw15_SendqCredit.j3 kj15 l0 a1 a2 x8_2 t299 t300 false false false x242000_15 x242001_15 x242002_15 x242003_15 x242004_15 x242005_15 x242006_15 x242007_15) = some r:=by rw [if_neg (show ¬ (false = true) by decide)] at H;exact H
               clear H
               have H:=H1
               clear H1
               have H':=am_ H
               clear H
               go_wp2
               go_meet
               case rel => exact ⟨_,(false),(by first|rfl|(simp;done)|(simp [*];done)),H',⟨by have:=HJ3.out;have:=HK2.out;have:=HJ15.out;first|omega|exact Nat.le_refl _⟩,⟨by (with_reducible repeat (first|apply Kd.V_alloc|apply Kd.V_drewN|apply Kd.V_drew));exact HO_242003.out⟩,⟨by (with_reducible repeat (first|apply Kd.V_alloc|apply Kd.V_drewN|apply Kd.V_drew));exact HO_242004.out⟩,⟨by (with_reducible repeat (first|refine kn_ ?_ _|refine kd_ ?_|refine ka_ ?_ _));exact BK241.out⟩,⟨by repeat (first|(with_reducible first|exact HB.out|apply ba_|apply pn_|apply pd_|refine bs_ ?_ GE241.out)|exact HB.out)⟩⟩
             ·rw [if_neg c87] at H
              exact absurd H (by simp)
           ·rw [if_neg c80] at H
            have c80b0 : (t300.toList == ([] : List UInt8)) = false:=beq_eq_false_iff_ne.mpr c80
            have c80b1 : (t300.toList != ([] : List UInt8)) = true:=bne_iff_ne.mpr c80
            (first|rw [c80b0]|(simp only [i64_w,i32_w];rw [c80b0])|skip)
            by_cases c89 : (IntKind.u64.wrap (t299 + (IntKind.u64.wrap ((t300.size : Int))))) > (IntKind.u64.wrap (a1))
            ·rw [if_pos c89] at H
             exact absurd H (by simp)
            ·rw [if_neg c89] at H
             have c89b0 : decide ((IntKind.u64.wrap (a1)) < (IntKind.u64.wrap (t299 + (IntKind.u64.wrap ((t300.size : Int)))))) = false:=decide_eq_false c89
             clear c89
             by_cases c90 : (t300.size : Int) > a2
             ·rw [if_pos c90] at H
              exact absurd H (by simp)
             ·rw [if_neg c90] at H
              have c90b0 : decide (a2 < (t300.size : Int)) = false:=decide_eq_false c90
              clear c90
              by_cases c91 : t302 = true
              ·subst c91
               have H1 : (if t301 = true then (if x242005_15 = true then ((sendq_End.f x242000_15 x242001_15 x242002_15 x242003_15 x242004_15 x242005_15 x242006_15 x242007_15).bind fun t304 => (dominolaw15_SendqCredit.j3 kj15 l0 a1 a2 x8_2 t299 t300 t301 true ((IntKind.u64.wrap (t299 + (IntKind.u64.wrap ((t300.size : Int))))) != t304) x242000_15 x242001_15 x242002_15 x242003_15 x242004_15 x242005_15 x242006_15 x242007_15)) else (none)) else (dominolaw15_SendqCredit.j3 kj15 l0 a1 a2 x8_2 t299 t300 t301 true false x242000_15 x242001_15 x242002_15 x242003_15 x242004_15 x242005_15 x242006_15 x242007_15)) = some r:=by rw [if_pos rfl] at H;exact H
               clear H
               have H:=H1
               clear H1
               by_cases c92 : t301 = true
               ·subst c92
                have H1 : (if x242005_15 = true then ((sendq_End.f x242000_15 x242001_15 x242002_15 x242003_15 x242004_15 x242005_15 x242006_15 x242007_15).bind fun t304 => (dominolaw15_SendqCredit.j3 kj15 l0 a1 a2 x8_2 t299 t300 true true ((IntKind.u64.wrap (t299 + (IntKind.u64.wrap ((t300.size : Int))))) != t304) x242000_15 x242001_15 x242002_15 x242003_15 x242004_15 x242005_15 x242006_15 x242007_15)) else (none)) = some r:=by rw [if_pos rfl] at H;exact H
                clear H
                have H:=H1
                clear H1
                by_cases c93 : x242005_15 = true
                ·subst c93
                 have H1 : ((sendq_End.f x242000_15 x242001_15 x242002_15 x242003_15 x242004_15 true x242006_15 x242007_15).bind fun t304 => (dominolaw15_SendqCredit.j3 kj15 l0 a1 a2 x8_2 t299 t300 true true ((IntKind.u64.wrap (t299 + (IntKind.u64.wrap ((t300.size : Int))))) != t304) x242000_15 x242001_15 x242002_15 x242003_15 x242004_15 true x242006_15 x242007_15)) = some r:=by rw [if_pos rfl] at H;exact H
                 clear H
                 have H:=H1
                 clear H1
                 replace H:=Option.bind_eq_some_iff.mp H
                 obtain ⟨t304,A940,H⟩:=H
                 replace H : (dominolaw15_SendqCredit.j3 kj15 l0 a1 a2 x8_2 t299 t300 true true ((IntKind.u64.wrap (t299 + (IntKind.u64.wrap ((t300.size : Int))))) != t304) x242000_15 x242001_15 x242002_15 x242003_15 x242004_15 true x242006_15 x242007_15) = some r:=H
                 have A94:=am_ A940
                 clear A940
                 have H':=am_ H
                 clear H
                 have hcz95_0 : w79.cell? ⟨gb241,0,none⟩ = some (.int .u64 x242000_15):=(kc_ BK241.out 0).trans rfl
                 have hcz95_1 : w79.cell? ⟨gb241,1,none⟩ = some (.int .u64 x242001_15):=(kc_ BK241.out 1).trans rfl
                 have hcz95_2 : w79.cell? ⟨gb241,2,none⟩ = some (.string x242002_15):=(kc_ BK241.out 2).trans rfl
                 have hcz95_3 : w79.cell? ⟨gb241,3,none⟩ = some (.slice Ao77 x242003_15.length co77):=(kc_ BK241.out 3).trans rfl
                 have hcz95_4 : w79.cell? ⟨gb241,4,none⟩ = some (.slice Ao78 x242004_15.length co78):=(kc_ BK241.out 4).trans rfl
                 have hcz95_5 : w79.cell? ⟨gb241,5,none⟩ = some (.bool true):=(kc_ BK241.out 5).trans rfl
                 have hcz95_6 : w79.cell? ⟨gb241,6,none⟩ = some (.bool x242006_15):=(kc_ BK241.out 6).trans rfl
                 have hcz95_7 : w79.cell? ⟨gb241,7,none⟩ = some (.bool x242007_15):=(kc_ BK241.out 7).trans rfl
                 have hfz95_0:=blk_frozen BK241.out 0
                 have hfz95_1:=blk_frozen BK241.out 1
                 have hfz95_2:=blk_frozen BK241.out 2
                 have hfz95_3:=blk_frozen BK241.out 3
                 have hfz95_4:=blk_frozen BK241.out 4
                 have hfz95_5:=blk_frozen BK241.out 5
                 have hfz95_6:=blk_frozen BK241.out 6
                 have hfz95_7:=blk_frozen BK241.out 7
                 go_wp2_with (first|(go_at_call 26;(with_reducible refine (sendq_End.calls x242000_15 x242001_15 x242002_15 _ _ x242003_15 _ _ x242004_15 true x242006_15 x242007_15 t304 _ ?side1 ?side2 ?side3 ?side4 A94.out).mono ?_);(case side1 => repeat (first|exact (Kd.V_reads' HO_242003.out).2.2|(with_reducible refine Kd.C_alloc ?_ _)|(with_reducible refine Kd.C_drewN ?_ _)|(with_reducible refine Kd.C_drew ?_)));(case side2 => exact (Kd.V_reads' HO_242003.out).2.1);(case side3 => repeat (first|exact (Kd.V_reads' HO_242004.out).2.2|(with_reducible refine Kd.C_alloc ?_ _)|(with_reducible refine Kd.C_drewN ?_ _)|(with_reducible refine Kd.C_drew ?_)));(case side4 => exact (Kd.V_reads' HO_242004.out).2.1);rintro e w96 ⟨rfl,hb⟩;have n0_:=am_ (Kd.V_below (by (with_reducible repeat (first|apply Kd.V_alloc|apply Kd.V_drewN|apply Kd.V_drew));exact HO_242003.out) hb);have n1_:=am_ (Kd.V_below (by (with_reducible repeat (first|apply Kd.V_alloc|apply Kd.V_drewN|apply Kd.V_drew));exact HO_242004.out) hb);have n2_:=am_ (blk_below (g:=gb241) (o:=.cells #[.int .u64 x242000_15,.int .u64 x242001_15,.string x242002_15,.slice Ao77 x242003_15.length co77,.slice Ao78 x242004_15.length co78,.bool true,.bool x242006_15,.bool x242007_15] 29 (0,0)) (by (with_reducible repeat (first|refine kn_ ?_ _|refine kd_ ?_|refine ka_ ?_ _));exact BK241.out) hb);have n3_:=am_ (below_step (by repeat (first|(with_reducible first|exact HB.out|apply ba_|apply pn_|apply pd_|refine bs_ ?_ GE241.out)|exact HB.out)) hb);clear HO_242003;clear HO_242004;clear BK241;clear HB;have HO_242003:=n0_;have HO_242004:=n1_;have BK241:=n2_;have HB:=n3_;clear n0_ n1_ n2_ n3_;(try clear hb);(try clear hb2);(try clear hk);(try clear hi)))
                 go_meet
                 case rel => exact ⟨_,(((IntKind.u64.wrap (t299 + (IntKind.u64.wrap ((t300.size : Int))))) != t304)),(by first|rfl|(simp;done)|(simp [*];done)),H',⟨by have:=HJ3.out;have:=HK2.out;have:=HJ15.out;first|omega|exact Nat.le_refl _⟩,⟨by (with_reducible repeat (first|apply Kd.V_alloc|apply Kd.V_drewN|apply Kd.V_drew));exact HO_242003.out⟩,⟨by (with_reducible repeat (first|apply Kd.V_alloc|apply Kd.V_drewN|apply Kd.V_drew));exact HO_242004.out⟩,⟨by (with_reducible repeat (first|refine kn_ ?_ _|refine kd_ ?_|refine ka_ ?_ _));exact BK241.out⟩,⟨by repeat (first|(with_reducible first|exact HB.out|apply ba_|apply pn_|apply pd_|refine bs_ ?_ GE241.out)|exact HB.out)⟩⟩
                ·replace c93:=Bool.eq_false_iff.mpr c93
                 subst c93
                 have H1 : (none) = some r:=by rw [if_neg (show ¬ (false = true) by decide)] at H;exact H
                 clear H
                 have H:=H1
                 clear H1
                 exact absurd H (by simp)
               ·replace c92:=Bool.eq_false_iff.mpr c92
                subst c92
                have H1 : (dominolaw15_SendqCredit.j3 kj15 l0 a1 a2 x8_2 t299 t300 false true false x242000_15 x242001_15 x242002_15 x242003_15 x242004_15 x242005_15 x242006_15 x242007_15) = some r:=by rw [if_neg (show ¬ (false = true) by decide)] at H;exact H
                clear H
                have H:=H1
                clear H1
                have H':=am_ H
                clear H
                go_wp2
                go_meet
                case rel => exact ⟨_,(false),(by first|rfl|(simp;done)|(simp [*];done)),H',⟨by have:=HJ3.out;have:=HK2.out;have:=HJ15.out;first|omega|exact Nat.le_refl _⟩,⟨by (with_reducible repeat (first|apply Kd.V_alloc|apply Kd.V_drewN|apply Kd.V_drew));exact HO_242003.out⟩,⟨by (with_reducible repeat (first|apply Kd.V_alloc|apply Kd.V_drewN|apply Kd.V_drew));exact HO_242004.out⟩,⟨by (with_reducible repeat (first|refine kn_ ?_ _|refine kd_ ?_|refine ka_ ?_ _));exact BK241.out⟩,⟨by repeat (first|(with_reducible first|exact HB.out|apply ba_|apply pn_|apply pd_|refine bs_ ?_ GE241.out)|exact HB.out)⟩⟩
              ·replace c91:=Bool.eq_false_iff.mpr c91
               subst c91
               have H1 : (none) = some r:=by rw [if_neg (show ¬ (false = true) by decide)] at H;exact H
               clear H
               have H:=H1
               clear H1
               exact absurd H (by simp)
          case rest =>
           clear HC75
           try clear c1;try clear c2
           try clear p2;try clear q2
           try clear hx2;try clear c3
           try clear c4;try clear c5
           try clear c8;try clear c9
           try clear c10;try clear c14
           try clear c18;try clear c20
           try clear p26;try clear q26
           try clear hx26;try clear p27
           try clear q27;try clear hx27
           try clear p28;try clear q28
           try clear hx28;try clear c33
           try clear c33b0;try clear c33b1
           try clear c42;try clear c42b0
           try clear c42b1;try clear c58
           try clear c58b0;try clear c58b1
           try clear c80;try clear c80b0
           try clear c80b1;try clear c81
           try clear c82;try clear c83
           try clear c87;try clear c87b0
           try clear c87b1;try clear c88
           try clear c89;try clear c89b0
           try clear c90;try clear c90b0
           try clear c91;try clear c92
           try clear c93;try clear hcz35_7
           try clear hcz39_0;try clear hcz39_1
           try clear hcz39_2;try clear hcz39_3
           try clear hcz39_4;try clear hcz39_5
           try clear hcz39_6;try clear hcz39_7
           try clear hcz76_0;try clear hcz76_1
           try clear hcz76_2;try clear hcz76_3
           try clear hcz76_4;try clear hcz76_5
           try clear hcz76_6;try clear hcz76_7
           try clear hcz85_0;try clear hcz85_1
           try clear hcz85_2;try clear hcz85_3
           try clear hcz85_4;try clear hcz85_5
           try clear hcz85_6;try clear hcz85_7
           try clear hcz95_0;try clear hcz95_1
           try clear hcz95_2;try clear hcz95_3
           try clear hcz95_4;try clear hcz95_5
           try clear hcz95_6;try clear hcz95_7
           try clear hfz35_0;try clear hfz35_1
           try clear hfz35_2;try clear hfz35_3
           try clear hfz35_4;try clear hfz35_5
           try clear hfz35_6;try clear hfz35_7
           try clear hfz39_0;try clear hfz39_1
           try clear hfz39_2;try clear hfz39_3
           try clear hfz39_4;try clear hfz39_5
           try clear hfz39_6;try clear hfz39_7
           try clear hfz76_0;try clear hfz76_1
           try clear hfz76_2;try clear hfz76_3
           try clear hfz76_4;try clear hfz76_5
           try clear hfz76_6;try clear hfz76_7
           try clear hfz85_0;try clear hfz85_1
           try clear hfz85_2;try clear hfz85_3
           try clear hfz85_4;try clear hfz85_5
           try clear hfz85_6;try clear hfz85_7
           try clear hfz95_0;try clear hfz95_1
           try clear hfz95_2;try clear hfz95_3
           try clear hfz95_4;try clear hfz95_5
           try clear hfz95_6;try clear hfz95_7
           try clear hx269_0;try clear hx269_1
           try clear hx269_2;try clear hx269_3
           try clear hx269_4;try clear hx270_0
           try clear hx270_1;try clear hx270_2
           try clear hx270_3;try clear hx270_4
           try clear hx271_0;try clear hx271_1
           try clear hx271_2;try clear hx271_3
           try clear hx271_4;try clear hx284_0
           try clear hx284_1;try clear hx284_2
           try clear hx284_3;try clear hx284_4
           try clear hx285_0;try clear hx285_1
           try clear hx285_2;try clear hx285_3
           try clear hx285_4;try clear hx286_0
           try clear hx286_1;try clear hx286_2
           try clear hx286_3;try clear hx286_4
           try clear p2;try clear p26
           try clear p269;try clear p27
           try clear p270;try clear p271
           try clear p28;try clear p284
           try clear p285;try clear p286
           try clear q2;try clear q26
           try clear q269;try clear q27
           try clear q270;try clear q271
           try clear q28;try clear q284
           try clear q285;try clear q286
           obtain ⟨kq,x149_74,rfl,HA,HJ74,HO_242003,HO_242004,BK241,HB⟩:=hcut
           cases kq with
           | zero => exact absurd HA.out (by simp [dominolaw15_SendqCredit.j3])
           | succ kj74 =>
            have H:=HA.out
            clear HA
            simp only [dominolaw15_SendqCredit.j3] at H
            by_cases c97 : x149_74 = true
            ·subst c97
             have H1 : (none) = some r:=by rw [if_pos rfl] at H;exact H
             clear H
             have H:=H1
             clear H1
             exact absurd H (by simp)
            ·replace c97:=Bool.eq_false_iff.mpr c97
             subst c97
             have H1 : (if t302 = true then ((sendq_Sent.f kj74 x242000_15 x242001_15 x242002_15 x242003_15 x242004_15 x242005_15 x242006_15 x242007_15 t299 (t300.size : Int) t301).bind fun bt305 => (dominolaw15_SendqCredit.l0 kj74 l0 a1 a2 (wrap64 (x8_2 + 1)) bt305.1 bt305.2.1 bt305.2.2.1 bt305.2.2.2.1 bt305.2.2.2.2.1 bt305.2.2.2.2.2.1 bt305.2.2.2.2.2.2.1 bt305.2.2.2.2.2.2.2)) else (dominolaw15_SendqCredit.l0 kj74 l0 a1 a2 (wrap64 (x8_2 + 1)) x242000_15 x242001_15 x242002_15 x242003_15 x242004_15 x242005_15 x242006_15 x242007_15)) = some r:=by rw [if_neg (show ¬ (false = true) by decide)] at H;exact H
             clear H
             have H:=H1
             clear H1
             by_cases c98 : t302 = true
             ·subst c98
              have H1 : ((sendq_Sent.f kj74 x242000_15 x242001_15 x242002_15 x242003_15 x242004_15 x242005_15 x242006_15 x242007_15 t299 (t300.size : Int) t301).bind fun bt305 => (dominolaw15_SendqCredit.l0 kj74 l0 a1 a2 (wrap64 (x8_2 + 1)) bt305.1 bt305.2.1 bt305.2.2.1 bt305.2.2.2.1 bt305.2.2.2.2.1 bt305.2.2.2.2.2.1 bt305.2.2.2.2.2.2.1 bt305.2.2.2.2.2.2.2)) = some r:=by rw [if_pos rfl] at H;exact H
              clear H
              have H:=H1
              clear H1
              replace H:=Option.bind_eq_some_iff.mp H
              obtain ⟨⟨t305,t306,t307,t308,t311,t314,t315,t316⟩,A990,H⟩:=H
              replace H : (dominolaw15_SendqCredit.l0 kj74 l0 a1 a2 (wrap64 (x8_2 + 1)) t305 t306 t307 t308 t311 t314 t315 t316) = some r:=H
              have A99:=am_ A990
              clear A990
              have H':=am_ H
              clear H
              have hcz100_0 : wc.cell? ⟨gb241,0,none⟩ = some (.int .u64 x242000_15):=(kc_ BK241.out 0).trans rfl
              have hcz100_1 : wc.cell? ⟨gb241,1,none⟩ = some (.int .u64 x242001_15):=(kc_ BK241.out 1).trans rfl
              have hcz100_2 : wc.cell? ⟨gb241,2,none⟩ = some (.string x242002_15):=(kc_ BK241.out 2).trans rfl
              have hcz100_3 : wc.cell? ⟨gb241,3,none⟩ = some (.slice Ao77 x242003_15.length co77):=(kc_ BK241.out 3).trans rfl
              have hcz100_4 : wc.cell? ⟨gb241,4,none⟩ = some (.slice Ao78 x242004_15.length co78):=(kc_ BK241.out 4).trans rfl
              have hcz100_5 : wc.cell? ⟨gb241,5,none⟩ = some (.bool x242005_15):=(kc_ BK241.out 5).trans rfl
              have hcz100_6 : wc.cell? ⟨gb241,6,none⟩ = some (.bool x242006_15):=(kc_ BK241.out 6).trans rfl
              have hcz100_7 : wc.cell? ⟨gb241,7,none⟩ = some (.bool x242007_15):=(kc_ BK241.out 7).trans rfl
              have hfz100_0:=blk_frozen BK241.out 0
              have hfz100_1:=blk_frozen BK241.out 1
              have hfz100_2:=blk_frozen BK241.out 2
              have hfz100_3:=blk_frozen BK241.out 3
              have hfz100_4:=blk_frozen BK241.out 4
              have hfz100_5:=blk_frozen BK241.out 5
              have hfz100_6:=blk_frozen BK241.out 6
              have hfz100_7:=blk_frozen BK241.out 7
              go_wp2_with (first|((with_reducible refine gate_callee (f:=16) rfl ?_);refine goesL_ (some 156) rfl rfl Try.func16 (by kernel_rfl) rfl #[.agg #[.int .u64 x242000_15,.int .u64 x242001_15,.string x242002_15,.slice Ao77 x242003_15.length co77,.slice Ao78 x242004_15.length co78,.bool x242005_15,.bool x242006_15,.bool x242007_15],.int .u64 t299,.int .i64 (t300.size : Int),.bool t301] rfl (by (try simp only [List.map_toArray,List.map_cons,List.map_nil]);first|done|rfl|(simp only [List.length_drop,List.length_take];rfl)) ?_;(with_reducible refine (sendq_Sent.calls kj74 x242000_15 x242001_15 x242002_15 (fun k_ => k_ ≠ gb241) _ _ x242003_15 (fun k_ => k_ ≠ gb241) _ _ x242004_15 x242005_15 x242006_15 x242007_15 t299 (t300.size : Int) t301 t305 t306 t307 t308 t311 t314 t315 t316 _ ?side1 ?side2 A99.out).mono ?_);(case side1 => exact HO_242003.out);(case side2 => exact HO_242004.out);rintro e w101 ⟨v309,v312,rfl,ho0,ho1,hb⟩;refine ⟨_,rfl,?_⟩;have n0_:=am_ (Kd.V_below (by (with_reducible repeat (first|apply Kd.V_alloc|apply Kd.V_drewN|apply Kd.V_drew));exact HO_242003.out) hb);have n1_:=am_ (Kd.V_below (by (with_reducible repeat (first|apply Kd.V_alloc|apply Kd.V_drewN|apply Kd.V_drew));exact HO_242004.out) hb);have n2_:=am_ (Kd.V_lower (Kd.V_mono (ok':=fun k_ => k_ ≠ gb241) ho0 (fun k_ hk_ => Or.elim hk_ (fun hs_ => Or.elim hs_ (fun hs_ => hs_) (fun hs_ => hs_)) (fun hn_ => (Kd.freshB (g:=gb241) (o:=.cells #[.int .u64 x242000_15,.int .u64 x242001_15,.string x242002_15,.slice Ao77 x242003_15.length co77,.slice Ao78 x242004_15.length co78,.bool x242005_15,.bool x242006_15,.bool x242007_15] 29 (0,0)) (by (with_reducible repeat (first|refine kn_ ?_ _|refine kd_ ?_|refine ka_ ?_ _));exact BK241.out) k_ hn_)))) (below_size (by repeat (first|(with_reducible first|exact HB.out|apply ba_|apply pn_|apply pd_|refine bs_ ?_ GE241.out)|exact HB.out))));have n3_:=am_ (Kd.V_lower (Kd.V_mono (ok':=fun k_ => k_ ≠ gb241) ho1 (fun k_ hk_ => Or.elim hk_ (fun hs_ => Or.elim hs_ (fun hs_ => hs_) (fun hs_ => hs_)) (fun hn_ => (Kd.freshB (g:=gb241) (o:=.cells #[.int .u64 x242000_15,.int .u64 x242001_15,.string x242002_15,.slice Ao77 x242003_15.length co77,.slice Ao78 x242004_15.length co78,.bool x242005_15,.bool x242006_15,.bool x242007_15] 29 (0,0)) (by (with_reducible repeat (first|refine kn_ ?_ _|refine kd_ ?_|refine ka_ ?_ _));exact BK241.out) k_ hn_)))) (below_size (by repeat (first|(with_reducible first|exact HB.out|apply ba_|apply pn_|apply pd_|refine bs_ ?_ GE241.out)|exact HB.out))));have n4_:=am_ (blk_below (g:=gb241) (o:=.cells #[.int .u64 x242000_15,.int .u64 x242001_15,.string x242002_15,.slice Ao77 x242003_15.length co77,.slice Ao78 x242004_15.length co78,.bool x242005_15,.bool x242006_15,.bool x242007_15] 29 (0,0)) (by (with_reducible repeat (first|refine kn_ ?_ _|refine kd_ ?_|refine ka_ ?_ _));exact BK241.out) hb);have n5_:=am_ (below_step (by repeat (first|(with_reducible first|exact HB.out|apply ba_|apply pn_|apply pd_|refine bs_ ?_ GE241.out)|exact HB.out)) hb);clear HO_242003;clear HO_242004;clear BK241;clear HB;have HO_242003:=n0_;have HO_242004:=n1_;have HO310:=n2_;have HO313:=n3_;have BK241:=n4_;have HB:=n5_;clear n0_ n1_ n2_ n3_ n4_ n5_;(try clear hb);(try clear hb2);(try clear hk);(try clear hi);(try clear ho0);(try clear ho1);have hcz102_0 : w101.cell? ⟨gb241,0,none⟩ = some (.int .u64 x242000_15):=(kc_ BK241.out 0).trans rfl;have hcz102_1 : w101.cell? ⟨gb241,1,none⟩ = some (.int .u64 x242001_15):=(kc_ BK241.out 1).trans rfl;have hcz102_2 : w101.cell? ⟨gb241,2,none⟩ = some (.string x242002_15):=(kc_ BK241.out 2).trans rfl;have hcz102_3 : w101.cell? ⟨gb241,3,none⟩ = some (.slice Ao77 x242003_15.length co77):=(kc_ BK241.out 3).trans rfl;have hcz102_4 : w101.cell? ⟨gb241,4,none⟩ = some (.slice Ao78 x242004_15.length co78):=(kc_ BK241.out 4).trans rfl;have hcz102_5 : w101.cell? ⟨gb241,5,none⟩ = some (.bool x242005_15):=(kc_ BK241.out 5).trans rfl;have hcz102_6 : w101.cell? ⟨gb241,6,none⟩ = some (.bool x242006_15):=(kc_ BK241.out 6).trans rfl;have hcz102_7 : w101.cell? ⟨gb241,7,none⟩ = some (.bool x242007_15):=(kc_ BK241.out 7).trans rfl;have hfz102_0:=blk_frozen BK241.out 0;have hfz102_1:=blk_frozen BK241.out 1;have hfz102_2:=blk_frozen BK241.out 2;have hfz102_3:=blk_frozen BK241.out 3;have hfz102_4:=blk_frozen BK241.out 4;have hfz102_5:=blk_frozen BK241.out 5;have hfz102_6:=blk_frozen BK241.out 6;have hfz102_7:=blk_frozen BK241.out 7;obtain ⟨Ao103,co103,eo103⟩:=Kd.V_slice HO310.out;subst eo103;obtain ⟨Ao104,co104,eo104⟩:=Kd.V_slice HO313.out;subst eo104))
              go_roundg kj74
              case measure => have:=HJ3.out;have:=HK2.out;have:=HJ15.out;have:=HJ74.out;omega
              case rel => exact ⟨(wrap64 (x8_2 + 1)),(t305),(t306),(t307),(t308),(t311),(t314),(t315),(t316),(.slice Ao103 t308.length co103),(.slice Ao104 t311.length co104),(by first|rfl|(simp;done)|(simp [*];done)),H',⟨by have:=HJ3.out;have:=HK2.out;have:=HJ15.out;have:=HJ74.out;omega⟩,⟨by (with_reducible repeat (first|apply Kd.V_alloc|apply Kd.V_drewN|apply Kd.V_drew));exact Kd.V_mono (Kd.V_far (p:=⟨gb241,7,none⟩) (Kd.V_far (p:=⟨gb241,6,none⟩) (Kd.V_far (p:=⟨gb241,5,none⟩) (Kd.V_far (p:=⟨gb241,4,none⟩) (Kd.V_far (p:=⟨gb241,3,none⟩) (Kd.V_far (p:=⟨gb241,2,none⟩) (Kd.V_far (p:=⟨gb241,1,none⟩) (Kd.V_far (p:=⟨gb241,0,none⟩) (Kd.V_mono HO310.out (fun k_ hk => (⟨hk,hk⟩ : _ ∧ k_ ≠ gb241))) (fun _ hk => hk.2) (.int .u64 t305)) (fun _ hk => hk.2) (.int .u64 t306)) (fun _ hk => hk.2) (.string t307)) (fun _ hk => hk.2) (.slice Ao103 t308.length co103)) (fun _ hk => hk.2) (.slice Ao104 t311.length co104)) (fun _ hk => hk.2) (.bool t314)) (fun _ hk => hk.2) (.bool t315)) (fun _ hk => hk.2) (.bool t316)) (fun _ hk => hk.1)⟩,⟨by (with_reducible repeat (first|apply Kd.V_alloc|apply Kd.V_drewN|apply Kd.V_drew));exact Kd.V_mono (Kd.V_far (p:=⟨gb241,7,none⟩) (Kd.V_far (p:=⟨gb241,6,none⟩) (Kd.V_far (p:=⟨gb241,5,none⟩) (Kd.V_far (p:=⟨gb241,4,none⟩) (Kd.V_far (p:=⟨gb241,3,none⟩) (Kd.V_far (p:=⟨gb241,2,none⟩) (Kd.V_far (p:=⟨gb241,1,none⟩) (Kd.V_far (p:=⟨gb241,0,none⟩) (Kd.V_mono HO313.out (fun k_ hk => (⟨hk,hk⟩ : _ ∧ k_ ≠ gb241))) (fun _ hk => hk.2) (.int .u64 t305)) (fun _ hk => hk.2) (.int .u64 t306)) (fun _ hk => hk.2) (.string t307)) (fun _ hk => hk.2) (.slice Ao103 t308.length co103)) (fun _ hk => hk.2) (.slice Ao104 t311.length co104)) (fun _ hk => hk.2) (.bool t314)) (fun _ hk => hk.2) (.bool t315)) (fun _ hk => hk.2) (.bool t316)) (fun _ hk => hk.1)⟩,⟨by (with_reducible repeat (first|refine kn_ ?_ _|refine kd_ ?_|refine ka_ ?_ _));refine blk_put (cs:=#[.int .u64 t305,.int .u64 t306,.string t307,.slice Ao103 t308.length co103,.slice Ao104 t311.length co104,.bool t314,.bool t315,.bool x242007_15]) ?_ 7 _ rfl;(with_reducible repeat (first|refine kn_ ?_ _|refine kd_ ?_|refine ka_ ?_ _));refine blk_put (cs:=#[.int .u64 t305,.int .u64 t306,.string t307,.slice Ao103 t308.length co103,.slice Ao104 t311.length co104,.bool t314,.bool x242006_15,.bool x242007_15]) ?_ 6 _ rfl;(with_reducible repeat (first|refine kn_ ?_ _|refine kd_ ?_|refine ka_ ?_ _));refine blk_put (cs:=#[.int .u64 t305,.int .u64 t306,.string t307,.slice Ao103 t308.length co103,.slice Ao104 t311.length co104,.bool x242005_15,.bool x242006_15,.bool x242007_15]) ?_ 5 _ rfl;(with_reducible repeat (first|refine kn_ ?_ _|refine kd_ ?_|refine ka_ ?_ _));refine blk_put (cs:=#[.int .u64 t305,.int .u64 t306,.string t307,.slice Ao103 t308.length co103,.slice Ao78 x242004_15.length co78,.bool x242005_15,.bool x242006_15,.bool x242007_15]) ?_ 4 _ rfl;(with_reducible repeat (first|refine kn_ ?_ _|refine kd_ ?_|refine ka_ ?_ _));refine blk_put (cs:=#[.int .u64 t305,.int .u64 t306,.string t307,.slice Ao77 x242003_15.length co77,.slice Ao78 x242004_15.length co78,.bool x242005_15,.bool x242006_15,.bool x242007_15]) ?_ 3 _ rfl;(with_reducible repeat (first|refine kn_ ?_ _|refine kd_ ?_|refine ka_ ?_ _));refine blk_put (cs:=#[.int .u64 t305,.int .u64 t306,.string x242002_15,.slice Ao77 x242003_15.length co77,.slice Ao78 x242004_15.length co78,.bool x242005_15,.bool x242006_15,.bool x242007_15]) ?_ 2 _ rfl;(with_reducible repeat (first|refine kn_ ?_ _|refine kd_ ?_|refine ka_ ?_ _));refine blk_put (cs:=#[.int .u64 t305,.int .u64 x242001_15,.string x242002_15,.slice Ao77 x242003_15.length co77,.slice Ao78 x242004_15.length co78,.bool x242005_15,.bool x242006_15,.bool x242007_15]) ?_ 1 _ rfl;(with_reducible repeat (first|refine kn_ ?_ _|refine kd_ ?_|refine ka_ ?_ _));refine blk_put (cs:=#[.int .u64 x242000_15,.int .u64 x242001_15,.string x242002_15,.slice Ao77 x242003_15.length co77,.slice Ao78 x242004_15.length co78,.bool x242005_15,.bool x242006_15,.bool x242007_15]) ?_ 0 _ rfl;(with_reducible repeat (first|refine kn_ ?_ _|refine kd_ ?_|refine ka_ ?_ _));exact BK241.out⟩,⟨by repeat (first|(with_reducible first|exact HB.out|apply ba_|apply pn_|apply pd_|refine bs_ ?_ GE241.out)|exact HB.out)⟩⟩
             ·replace c98:=Bool.eq_false_iff.mpr c98
              subst c98
              have H1 : (dominolaw15_SendqCredit.l0 kj74 l0 a1 a2 (wrap64 (x8_2 + 1)) x242000_15 x242001_15 x242002_15 x242003_15 x242004_15 x242005_15 x242006_15 x242007_15) = some r:=by rw [if_neg (show ¬ (false = true) by decide)] at H;exact H
              clear H
              have H:=H1
              clear H1
              have H':=am_ H
              clear H
              go_wp2
              go_roundg kj74
              case measure => have:=HJ3.out;have:=HK2.out;have:=HJ15.out;have:=HJ74.out;omega
              case rel => exact ⟨(wrap64 (x8_2 + 1)),(x242000_15),(x242001_15),(x242002_15),(x242003_15),(x242004_15),(x242005_15),(x242006_15),(x242007_15),(.slice Ao77 x242003_15.length co77),(.slice Ao78 x242004_15.length co78),(by first|rfl|(simp;done)|(simp [*];done)),H',⟨by have:=HJ3.out;have:=HK2.out;have:=HJ15.out;have:=HJ74.out;omega⟩,⟨by (with_reducible repeat (first|apply Kd.V_alloc|apply Kd.V_drewN|apply Kd.V_drew));exact HO_242003.out⟩,⟨by (with_reducible repeat (first|apply Kd.V_alloc|apply Kd.V_drewN|apply Kd.V_drew));exact HO_242004.out⟩,⟨by (with_reducible repeat (first|refine kn_ ?_ _|refine kd_ ?_|refine ka_ ?_ _));exact BK241.out⟩,⟨by repeat (first|(with_reducible first|exact HB.out|apply ba_|apply pn_|apply pd_|refine bs_ ?_ GE241.out)|exact HB.out)⟩⟩
       ·rw [if_neg c15] at H
        exact absurd H (by simp)
      ·rw [if_neg c14] at H
       have c14b0 : decide (x8_2 < (l0.length : Int)) = false:=decide_eq_false c14
       clear c14
       obtain rfl:=Option.some.inj H
       go_wp2
       go_ret
       exact ⟨by first|rfl|(simp [errW_none,errW_some] <;> rfl)|(simp [*,errW_none,errW_some] <;> rfl),by repeat (first|(with_reducible first|exact HB.out|apply ba_|apply pn_|apply pd_|refine bs_ ?_ GE241.out)|exact HB.out)⟩

/-- THE ONE PURE STATEMENT of dominolaw15_SendqCredit: yours. -/
def dominolaw15_SendqCredit.Pure : Prop:=∀ (l0 : List (S35)) (a1 : Int) (a2 : Int),l0.length ≤ maxLen → l0.length * 48 ≤ 140737488351232 → (∀ x ∈ l0,((Lit.int .i64 x.f0).wf = true ∧ (Lit.int .i64 x.f1).wf = true ∧ (Lit.int .u64 x.f2).wf = true ∧ x.f3.size ≤ maxLen ∧ True)) → (Lit.int .u16 a1).wf = true → (Lit.int .i64 a2).wf = true → ∃ k,dominolaw15_SendqCredit.f k l0 a1 a2 = some true
theorem dominolaw15_SendqCredit.walk (P : dominolaw15_SendqCredit.Pure) (a0 : Option Addr) (cap0 : Nat) (l0 : List (S35)) (a1 : Int) (a2 : Int) (w : World) (hr0 : Kd.C k35 w a0 l0.length l0) (hc0 : l0.length ≤ cap0) (w0_0 : l0.length ≤ maxLen) (w0_1 : l0.length * 48 ≤ 140737488351232) (w0_2 : (∀ x ∈ l0,((Lit.int .i64 x.f0).wf = true ∧ (Lit.int .i64 x.f1).wf = true ∧ (Lit.int .u64 x.f2).wf = true ∧ x.f3.size ≤ maxLen ∧ True))) (w1 : (Lit.int .u16 a1).wf = true) (w2 : (Lit.int .i64 a2).wf = true) :
  Calls Try.prog 5 #[.slice a0 l0.length cap0,.int .u16 a1,.int .i64 a2] w fun e w' => e = .returned (.bool true) ∧ Below w.heap.size w w':=by
 obtain ⟨k,h⟩:=P l0 a1 a2 w0_0 w0_1 w0_2 w1 w2
 refine (dominolaw15_SendqCredit.calls k a0 cap0 l0 a1 a2 true w hr0 hc0 h).mono ?_
 rintro e w' ⟨rfl,hd⟩
 exact ⟨rfl,hd⟩

end Go.Proofs.Ytocagkmnefkniaa.PSqc
