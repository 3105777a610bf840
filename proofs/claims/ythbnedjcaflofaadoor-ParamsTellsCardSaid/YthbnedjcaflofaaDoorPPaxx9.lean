-- printed for this claim by a program of the claim (wip/tools/pp.py over the kit's print)
import Derived.Test.YthbnedjcaflofaaDoorPPaxx0
import Derived.Test.YthbnedjcaflofaaDoorPPaxx7
import Derived.Test.YthbnedjcaflofaaDoorPPaxx8
namespace Go.Proofs.YthbnedjcaflofaaDoor.PPax
open Go.RowKit Go.Proofs.YthbnedjcaflofaaDoorW.PrintWords Go.Proofs.YthbnedjcaflofaaDoorW.PrintLast Go.Proofs.YthbnedjcaflofaaDoorW.PrintMore
attribute [local go_sem] max2_int min2_int max_two min_two max_three min_three max_four min_four   -- for this text's walks alone
set_option linter.unusedVariables false
set_option linter.unusedSimpArgs false

attribute [local go_sem] isSome_setCell_
/-! ### dominoref05_Put: function 10 -/
mutual
def dominoref05_Put.l0 : Nat → ByteArray → Int → Int → Int → Int → Int → Int → Int → Int → Int → Int → Int → Int → ByteArray → Option (ByteArray × Int)
 | 0,_,_,_,_,_,_,_,_,_,_,_,_,_,_ => none
 | k + 1,x5,x6,x165000,x165001,x165002,x165003,x165004,x165005,x165006,x165007,x165008,x165009,x165010,x165011 => if x6 ≤ 14 then ((dominoref05_value.f x165000 x165001 x165002 x165003 x165004 x165005 x165006 x165007 x165008 x165009 x165010 x165011 x6).bind fun bt166 => ((dominoref05_Default.f).bind fun bt168 => ((dominoref05_value.f bt168.1 bt168.2.1 bt168.2.2.1 bt168.2.2.2.1 bt168.2.2.2.2.1 bt168.2.2.2.2.2.1 bt168.2.2.2.2.2.2.1 bt168.2.2.2.2.2.2.2.1 bt168.2.2.2.2.2.2.2.2.1 bt168.2.2.2.2.2.2.2.2.2.1 bt168.2.2.2.2.2.2.2.2.2.2.1 bt168.2.2.2.2.2.2.2.2.2.2.2 x6).bind fun bt180 => (if bt166.2 = true then (dominoref05_Put.j1 k x5 x6 bt166.1 (bt166.1 != bt180.1) x165000 x165001 x165002 x165003 x165004 x165005 x165006 x165007 x165008 x165009 x165010 x165011) else (dominoref05_Put.j1 k x5 x6 bt166.1 false x165000 x165001 x165002 x165003 x165004 x165005 x165006 x165007 x165008 x165009 x165010 x165011))))) else (some (x5,0))
def dominoref05_Put.j1 : Nat → ByteArray → Int → Int → Bool → Int → Int → Int → Int → Int → Int → Int → Int → Int → Int → Int → ByteArray → Option (ByteArray × Int)
 | 0,_,_,_,_,_,_,_,_,_,_,_,_,_,_,_,_ => none
 | k + 1,x5,x6,x7,x37,x165000,x165001,x165002,x165003,x165004,x165005,x165006,x165007,x165008,x165009,x165010,x165011 => if x37 = true then ((dominoref05_v.f k x6).bind fun t182 => (if x5.size + t182.size ≤ 9223372036854775807 then ((dominoref05_v.f k x7).bind fun t183 => ((dominoref05_v.f k (t183.size : Int)).bind fun t184 => (if (x5 ++ t182).size + t184.size ≤ 9223372036854775807 then (if ((x5 ++ t182) ++ t184).size + t183.size ≤ 9223372036854775807 then (dominoref05_Put.j2 k (((x5 ++ t182) ++ t184) ++ t183) x6 x165000 x165001 x165002 x165003 x165004 x165005 x165006 x165007 x165008 x165009 x165010 x165011) else (none)) else (none)))) else (none))) else (dominoref05_Put.j2 k x5 x6 x165000 x165001 x165002 x165003 x165004 x165005 x165006 x165007 x165008 x165009 x165010 x165011)
def dominoref05_Put.j2 : Nat → ByteArray → Int → Int → Int → Int → Int → Int → Int → Int → Int → Int → Int → Int → ByteArray → Option (ByteArray × Int)
 | 0,_,_,_,_,_,_,_,_,_,_,_,_,_,_ => none
 | k + 1,x5,x6,x165000,x165001,x165002,x165003,x165004,x165005,x165006,x165007,x165008,x165009,x165010,x165011 => if x6 = 2 then (dominoref05_Put.j3 k x5 x6 (x165011.toList != ([] : List UInt8)) x165000 x165001 x165002 x165003 x165004 x165005 x165006 x165007 x165008 x165009 x165010 x165011) else (dominoref05_Put.j3 k x5 x6 false x165000 x165001 x165002 x165003 x165004 x165005 x165006 x165007 x165008 x165009 x165010 x165011)
def dominoref05_Put.j3 : Nat → ByteArray → Int → Bool → Int → Int → Int → Int → Int → Int → Int → Int → Int → Int → Int → ByteArray → Option (ByteArray × Int)
 | 0,_,_,_,_,_,_,_,_,_,_,_,_,_,_,_ => none
 | k + 1,x5,x6,x57,x165000,x165001,x165002,x165003,x165004,x165005,x165006,x165007,x165008,x165009,x165010,x165011 => if x57 = true then ((dominoref05_v.f k 2).bind fun t185 => (if x5.size + t185.size ≤ 9223372036854775807 then ((dominoref05_v.f k 16).bind fun t186 => (if (x5 ++ t185).size + t186.size ≤ 9223372036854775807 then (if ((x5 ++ t185) ++ t186).size + x165011.size ≤ 9223372036854775807 then (dominoref05_Put.l0 k (((x5 ++ t185) ++ t186) ++ x165011) (IntKind.u64.wrap (x6 + 1)) x165000 x165001 x165002 x165003 x165004 x165005 x165006 x165007 x165008 x165009 x165010 x165011) else (none)) else (none))) else (none))) else (dominoref05_Put.l0 k x5 (IntKind.u64.wrap (x6 + 1)) x165000 x165001 x165002 x165003 x165004 x165005 x165006 x165007 x165008 x165009 x165010 x165011)
end
def dominoref05_Put.f (k : Nat) (a0_0 : Int) (a0_1 : Int) (a0_2 : Int) (a0_3 : Int) (a0_4 : Int) (a0_5 : Int) (a0_6 : Int) (a0_7 : Int) (a0_8 : Int) (a0_9 : Int) (a0_10 : Int) (a0_11 : ByteArray) : Option (ByteArray × Int):=(dominoref05_Check.f k a0_0 a0_1 a0_2 a0_3 a0_4 a0_5 a0_6 a0_7 a0_8 a0_9 a0_10 a0_11).bind fun t165 => (if t165 = 0 then (dominoref05_Put.l0 k (⟨#[]⟩ : ByteArray) 1 a0_0 a0_1 a0_2 a0_3 a0_4 a0_5 a0_6 a0_7 a0_8 a0_9 a0_10 a0_11) else (some ((⟨#[]⟩ : ByteArray),t165)))
theorem dominoref05_Put.mono_l : ∀ k,(∀ y0 y1 y2 y3 y4 y5 y6 y7 y8 y9 y10 y11 y12 y13,LeO (dominoref05_Put.l0 k y0 y1 y2 y3 y4 y5 y6 y7 y8 y9 y10 y11 y12 y13) (dominoref05_Put.l0 (k + 1) y0 y1 y2 y3 y4 y5 y6 y7 y8 y9 y10 y11 y12 y13)) ∧ (∀ y0 y1 y2 y3 y4 y5 y6 y7 y8 y9 y10 y11 y12 y13 y14 y15,LeO (dominoref05_Put.j1 k y0 y1 y2 y3 y4 y5 y6 y7 y8 y9 y10 y11 y12 y13 y14 y15) (dominoref05_Put.j1 (k + 1) y0 y1 y2 y3 y4 y5 y6 y7 y8 y9 y10 y11 y12 y13 y14 y15)) ∧ (∀ y0 y1 y2 y3 y4 y5 y6 y7 y8 y9 y10 y11 y12 y13,LeO (dominoref05_Put.j2 k y0 y1 y2 y3 y4 y5 y6 y7 y8 y9 y10 y11 y12 y13) (dominoref05_Put.j2 (k + 1) y0 y1 y2 y3 y4 y5 y6 y7 y8 y9 y10 y11 y12 y13)) ∧ (∀ y0 y1 y2 y3 y4 y5 y6 y7 y8 y9 y10 y11 y12 y13 y14,LeO (dominoref05_Put.j3 k y0 y1 y2 y3 y4 y5 y6 y7 y8 y9 y10 y11 y12 y13 y14) (dominoref05_Put.j3 (k + 1) y0 y1 y2 y3 y4 y5 y6 y7 y8 y9 y10 y11 y12 y13 y14))
 | 0 => ⟨fun _ _ _ _ _ _ _ _ _ _ _ _ _ _ r h => by simp [dominoref05_Put.l0] at h,fun _ _ _ _ _ _ _ _ _ _ _ _ _ _ _ _ r h => by simp [dominoref05_Put.j1] at h,fun _ _ _ _ _ _ _ _ _ _ _ _ _ _ r h => by simp [dominoref05_Put.j2] at h,fun _ _ _ _ _ _ _ _ _ _ _ _ _ _ _ r h => by simp [dominoref05_Put.j3] at h⟩
 | k + 1 => by
  obtain ⟨ih0,ih1,ih2,ih3⟩:=dominoref05_Put.mono_l k
  refine ⟨?_,?_,?_,?_⟩
  ·intro y0 y1 y2 y3 y4 y5 y6 y7 y8 y9 y10 y11 y12 y13
   unfold dominoref05_Put.l0
   repeat' first
   | (with_reducible exact ih0 _ _ _ _ _ _ _ _ _ _ _ _ _ _)
   | (with_reducible exact ih1 _ _ _ _ _ _ _ _ _ _ _ _ _ _ _ _)
   | (with_reducible exact ih2 _ _ _ _ _ _ _ _ _ _ _ _ _ _)
   | (with_reducible exact ih3 _ _ _ _ _ _ _ _ _ _ _ _ _ _ _)
   | (with_reducible exact dominoref05_Check.mono _ _ _ _ _ _ _ _ _ _ _ _ _)
   | (with_reducible exact dominoref05_v.mono _ _)
   | (with_reducible exact LeO.refl _)
   | (with_reducible exact LeO.none _)
   | (with_reducible refine LeO.ite ?_ ?_)
   | (with_reducible refine LeO.bind ?_ (fun _ => ?_))
   | exact ih0 _ _ _ _ _ _ _ _ _ _ _ _ _ _
   | exact ih1 _ _ _ _ _ _ _ _ _ _ _ _ _ _ _ _
   | exact ih2 _ _ _ _ _ _ _ _ _ _ _ _ _ _
   | exact ih3 _ _ _ _ _ _ _ _ _ _ _ _ _ _ _
   | exact dominoref05_Check.mono _ _ _ _ _ _ _ _ _ _ _ _ _
   | exact dominoref05_v.mono _ _
   | exact LeO.none _
   | refine LeO.ite ?_ ?_
   | refine LeO.bind ?_ (fun _ => ?_)
  ·intro y0 y1 y2 y3 y4 y5 y6 y7 y8 y9 y10 y11 y12 y13 y14 y15
   unfold dominoref05_Put.j1
   repeat' first
   | (with_reducible exact ih0 _ _ _ _ _ _ _ _ _ _ _ _ _ _)
   | (with_reducible exact ih1 _ _ _ _ _ _ _ _ _ _ _ _ _ _ _ _)
   | (with_reducible exact ih2 _ _ _ _ _ _ _ _ _ _ _ _ _ _)
   | (with_reducible exact ih3 _ _ _ _ _ _ _ _ _ _ _ _ _ _ _)
   | (with_reducible exact dominoref05_Check.mono _ _ _ _ _ _ _ _ _ _ _ _ _)
   | (with_reducible exact dominoref05_v.mono _ _)
   | (with_reducible exact LeO.refl _)
   | (with_reducible exact LeO.none _)
   | (with_reducible refine LeO.ite ?_ ?_)
   | (with_reducible refine LeO.bind ?_ (fun _ => ?_))
   | exact ih0 _ _ _ _ _ _ _ _ _ _ _ _ _ _
   | exact ih1 _ _ _ _ _ _ _ _ _ _ _ _ _ _ _ _
   | exact ih2 _ _ _ _ _ _ _ _ _ _ _ _ _ _
   | exact ih3 _ _ _ _ _ _ _ _ _ _ _ _ _ _ _
   | exact dominoref05_Check.mono _ _ _ _ _ _ _ _ _ _ _ _ _
   | exact dominoref05_v.mono _ _
   | exact LeO.none _
   | refine LeO.ite ?_ ?_
   | refine LeO.bind ?_ (fun _ => ?_)
  ·intro y0 y1 y2 y3 y4 y5 y6 y7 y8 y9 y10 y11 y12 y13
   unfold dominoref05_Put.j2
   repeat' first
   | (with_reducible exact ih0 _ _ _ _ _ _ _ _ _ _ _ _ _ _)
   | (with_reducible exact ih1 _ _ _ _ _ _ _ _ _ _ _ _ _ _ _ _)
   | (with_reducible exact ih2 _ _ _ _ _ _ _ _ _ _ _ _ _ _)
   | (with_reducible exact ih3 _ _ _ _ _ _ _ _ _ _ _ _ _ _ _)
   | (with_reducible exact dominoref05_Check.mono _ _ _ _ _ _ _ _ _ _ _ _ _)
   | (with_reducible exact dominoref05_v.mono _ _)
   | (with_reducible exact LeO.refl _)
   | (with_reducible exact LeO.none _)
   | (with_reducible refine LeO.ite ?_ ?_)
   | (with_reducible refine LeO.bind ?_ (fun _ => ?_))
   | exact ih0 _ _ _ _ _ _ _ _ _ _ _ _ _ _
   | exact ih1 _ _ _ _ _ _ _ _ _ _ _ _ _ _ _ _
   | exact ih2 _ _ _ _ _ _ _ _ _ _ _ _ _ _
   | exact ih3 _ _ _ _ _ _ _ _ _ _ _ _ _ _ _
   | exact dominoref05_Check.mono _ _ _ _ _ _ _ _ _ _ _ _ _
   | exact dominoref05_v.mono _ _
   | exact LeO.none _
   | refine LeO.ite ?_ ?_
   | refine LeO.bind ?_ (fun _ => ?_)
  ·intro y0 y1 y2 y3 y4 y5 y6 y7 y8 y9 y10 y11 y12 y13 y14
   unfold dominoref05_Put.j3
   repeat' first
   | (with_reducible exact ih0 _ _ _ _ _ _ _ _ _ _ _ _ _ _)
   | (with_reducible exact ih1 _ _ _ _ _ _ _ _ _ _ _ _ _ _ _ _)
   | (with_reducible exact ih2 _ _ _ _ _ _ _ _ _ _ _ _ _ _)
   | (with_reducible exact ih3 _ _ _ _ _ _ _ _ _ _ _ _ _ _ _)
   | (with_reducible exact dominoref05_Check.mono _ _ _ _ _ _ _ _ _ _ _ _ _)
   | (with_reducible exact dominoref05_v.mono _ _)
   | (with_reducible exact LeO.refl _)
   | (with_reducible exact LeO.none _)
   | (with_reducible refine LeO.ite ?_ ?_)
   | (with_reducible refine LeO.bind ?_ (fun _ => ?_))
   | exact ih0 _ _ _ _ _ _ _ _ _ _ _ _ _ _
   | exact ih1 _ _ _ _ _ _ _ _ _ _ _ _ _ _ _ _
   | exact ih2 _ _ _ _ _ _ _ _ _ _ _ _ _ _
   | exact ih3 _ _ _ _ _ _ _ _ _ _ _ _ _ _ _
   | exact dominoref05_Check.mono _ _ _ _ _ _ _ _ _ _ _ _ _
   | exact dominoref05_v.mono _ _
   | exact LeO.none _
   | refine LeO.ite ?_ ?_
   | refine LeO.bind ?_ (fun _ => ?_)
theorem dominoref05_Put.mono : ∀ a0 a1 a2 a3 a4 a5 a6 a7 a8 a9 a10 a11 k,LeO (dominoref05_Put.f k a0 a1 a2 a3 a4 a5 a6 a7 a8 a9 a10 a11) (dominoref05_Put.f (k + 1) a0 a1 a2 a3 a4 a5 a6 a7 a8 a9 a10 a11):=by
 intro a0 a1 a2 a3 a4 a5 a6 a7 a8 a9 a10 a11 k
 obtain ⟨ih0,ih1,ih2,ih3⟩:=dominoref05_Put.mono_l k
 unfold dominoref05_Put.f
 repeat' first
   | (with_reducible exact ih0 _ _ _ _ _ _ _ _ _ _ _ _ _ _)
   | (with_reducible exact ih1 _ _ _ _ _ _ _ _ _ _ _ _ _ _ _ _)
   | (with_reducible exact ih2 _ _ _ _ _ _ _ _ _ _ _ _ _ _)
   | (with_reducible exact ih3 _ _ _ _ _ _ _ _ _ _ _ _ _ _ _)
   | (with_reducible exact dominoref05_Check.mono _ _ _ _ _ _ _ _ _ _ _ _ _)
   | (with_reducible exact dominoref05_v.mono _ _)
   | (with_reducible exact LeO.refl _)
   | (with_reducible exact LeO.none _)
   | (with_reducible refine LeO.ite ?_ ?_)
   | (with_reducible refine LeO.bind ?_ (fun _ => ?_))
   | exact ih0 _ _ _ _ _ _ _ _ _ _ _ _ _ _
   | exact ih1 _ _ _ _ _ _ _ _ _ _ _ _ _ _ _ _
   | exact ih2 _ _ _ _ _ _ _ _ _ _ _ _ _ _
   | exact ih3 _ _ _ _ _ _ _ _ _ _ _ _ _ _ _
   | exact dominoref05_Check.mono _ _ _ _ _ _ _ _ _ _ _ _ _
   | exact dominoref05_v.mono _ _
   | exact LeO.none _
   | refine LeO.ite ?_ ?_
   | refine LeO.bind ?_ (fun _ => ?_)
def dominoref05_Put.T13 : Bool × List (List Nat × List Nat):=(true,[([],[]),([],[]),([0,1],[0,1]),([1],[]),([2,3],[2,3]),([],[]),([5],[5]),([4,6],[4,6]),([7,3,0,1,2,3,4,5,6,7],[0,7])])
def dominoref05_Put.B13 : List Nat:=[0,0,3,2,15,0,32,127,255]
theorem dominoref05_Put.tab13 : rtab .any (opsOf Tryd.f10 13) = dominoref05_Put.T13:=by kernel_rfl
theorem dominoref05_Put.bits13 : waitsOk dominoref05_Put.T13.2 dominoref05_Put.B13 = true:=by kernel_rfl
set_option maxHeartbeats 8000000 in
set_option maxRecDepth 100000 in
theorem dominoref05_Put.calls (k : Nat) (a0_0 : Int) (a0_1 : Int) (a0_2 : Int) (a0_3 : Int) (a0_4 : Int) (a0_5 : Int) (a0_6 : Int) (a0_7 : Int) (a0_8 : Int) (a0_9 : Int) (a0_10 : Int) (a0_11 : ByteArray) (r1 : ByteArray) (r2 : Int) (w : World) (h : dominoref05_Put.f k a0_0 a0_1 a0_2 a0_3 a0_4 a0_5 a0_6 a0_7 a0_8 a0_9 a0_10 a0_11 = some (r1,r2)) :
  Calls Tryd.prog 10 #[.agg #[.int .u64 a0_0,.int .u64 a0_1,.int .u64 a0_2,.int .u64 a0_3,.int .u64 a0_4,.int .u64 a0_5,.int .u64 a0_6,.int .u64 a0_7,.int .u64 a0_8,.int .u64 a0_9,.int .u64 a0_10,.string a0_11]] w fun e w' => e = .returned (.tuple #[.string r1,.int .i64 r2]) ∧ Below w.heap.size w w':=by
 have hu26:=Tryd.underlying26
 have HB:=am_ (Below.refl w.heap.size w)
 have H : ((dominoref05_Check.f k a0_0 a0_1 a0_2 a0_3 a0_4 a0_5 a0_6 a0_7 a0_8 a0_9 a0_10 a0_11).bind fun t165 => (if t165 = 0 then (dominoref05_Put.l0 k (⟨#[]⟩ : ByteArray) 1 a0_0 a0_1 a0_2 a0_3 a0_4 a0_5 a0_6 a0_7 a0_8 a0_9 a0_10 a0_11) else (some ((⟨#[]⟩ : ByteArray),t165)))) = some (r1,r2):=h
 clear h
 replace H:=Option.bind_eq_some_iff.mp H
 obtain ⟨t165,A20,H⟩:=H
 replace H : (if t165 = 0 then (dominoref05_Put.l0 k (⟨#[]⟩ : ByteArray) 1 a0_0 a0_1 a0_2 a0_3 a0_4 a0_5 a0_6 a0_7 a0_8 a0_9 a0_10 a0_11) else (some ((⟨#[]⟩ : ByteArray),t165))) = some (r1,r2):=H
 have A2:=am_ A20
 clear A20
 by_cases c3 : t165 = 0
 ·rw [if_pos c3] at H
  have c3b0 : (t165 == 0) = true:=beq_iff_eq.mpr c3
  have c3b1 : (t165 != 0) = false:=bne_eq_false_iff_eq.mpr c3
  clear c3
  have H':=am_ H
  clear H
  go_enter Tryd.func10,Tryd.ntmps10
  go_wp2_with (first|((with_reducible refine gate_dst (N:=1) rfl ?_);refine box_event ?hg (N:=1) ?hd (cs:=#[.int .u64 a0_0,.int .u64 a0_1,.int .u64 a0_2,.int .u64 a0_3,.int .u64 a0_4,.int .u64 a0_5,.int .u64 a0_6,.int .u64 a0_7,.int .u64 a0_8,.int .u64 a0_9,.int .u64 a0_10,.string a0_11]) (t:=26) ?hr ?_;(case hd => rfl);(case hg => rfl);(case hr => first|(go_simp;done)|(go_simp;rfl));intro gb164 hg w4 hbox hb;have n0_:=am_ (below_step (by repeat (first|(with_reducible first|exact HB.out|apply ba_|apply pn_|apply pd_)|exact HB.out)) hb);have n1_:=am_ (hbox);have n2_:=am_ ((by rw [hg];exact (below_size (by repeat (first|(with_reducible first|exact HB.out|apply ba_|apply pn_|apply pd_)|exact HB.out))) : w.heap.size ≤ gb164));have n3_:=am_ ((by rw [hg];exact (below_size (by repeat (first|(with_reducible first|exact HB.out|apply ba_|apply pn_|apply pd_)|exact HB.out))) : w.heap.size ≤ gb164));clear HB;have HB:=n0_;have BK164:=n1_;have GW164:=n2_;have GE164:=n3_;clear n0_ n1_ n2_ n3_;clear hb hbox hg;have hcz5_0 : w4.cell? ⟨gb164,0,none⟩ = some (.int .u64 a0_0):=(kc_ BK164.out 0).trans rfl;have hcz5_1 : w4.cell? ⟨gb164,1,none⟩ = some (.int .u64 a0_1):=(kc_ BK164.out 1).trans rfl;have hcz5_2 : w4.cell? ⟨gb164,2,none⟩ = some (.int .u64 a0_2):=(kc_ BK164.out 2).trans rfl;have hcz5_3 : w4.cell? ⟨gb164,3,none⟩ = some (.int .u64 a0_3):=(kc_ BK164.out 3).trans rfl;have hcz5_4 : w4.cell? ⟨gb164,4,none⟩ = some (.int .u64 a0_4):=(kc_ BK164.out 4).trans rfl;have hcz5_5 : w4.cell? ⟨gb164,5,none⟩ = some (.int .u64 a0_5):=(kc_ BK164.out 5).trans rfl;have hcz5_6 : w4.cell? ⟨gb164,6,none⟩ = some (.int .u64 a0_6):=(kc_ BK164.out 6).trans rfl;have hcz5_7 : w4.cell? ⟨gb164,7,none⟩ = some (.int .u64 a0_7):=(kc_ BK164.out 7).trans rfl;have hcz5_8 : w4.cell? ⟨gb164,8,none⟩ = some (.int .u64 a0_8):=(kc_ BK164.out 8).trans rfl;have hcz5_9 : w4.cell? ⟨gb164,9,none⟩ = some (.int .u64 a0_9):=(kc_ BK164.out 9).trans rfl;have hcz5_10 : w4.cell? ⟨gb164,10,none⟩ = some (.int .u64 a0_10):=(kc_ BK164.out 10).trans rfl;have hcz5_11 : w4.cell? ⟨gb164,11,none⟩ = some (.string a0_11):=(kc_ BK164.out 11).trans rfl;have hfz5_0:=blk_frozen BK164.out 0;have hfz5_1:=blk_frozen BK164.out 1;have hfz5_2:=blk_frozen BK164.out 2;have hfz5_3:=blk_frozen BK164.out 3;have hfz5_4:=blk_frozen BK164.out 4;have hfz5_5:=blk_frozen BK164.out 5;have hfz5_6:=blk_frozen BK164.out 6;have hfz5_7:=blk_frozen BK164.out 7;have hfz5_8:=blk_frozen BK164.out 8;have hfz5_9:=blk_frozen BK164.out 9;have hfz5_10:=blk_frozen BK164.out 10;have hfz5_11:=blk_frozen BK164.out 11; skip)|((with_reducible refine gate_callee (f:=14) rfl ?_);refine goesL_ (some 12) rfl rfl Tryd.func14 (by kernel_rfl) rfl #[.agg #[.int .u64 a0_0,.int .u64 a0_1,.int .u64 a0_2,.int .u64 a0_3,.int .u64 a0_4,.int .u64 a0_5,.int .u64 a0_6,.int .u64 a0_7,.int .u64 a0_8,.int .u64 a0_9,.int .u64 a0_10,.string a0_11]] rfl (by (try simp only [List.map_toArray,List.map_cons,List.map_nil]);first|done|rfl|(simp only [List.length_drop,List.length_take];rfl)) ?_;(with_reducible refine (dominoref05_Check.calls k a0_0 a0_1 a0_2 a0_3 a0_4 a0_5 a0_6 a0_7 a0_8 a0_9 a0_10 a0_11 t165 _ A2.out).mono ?_);rintro e w6 ⟨rfl,hb⟩;refine ⟨_,rfl,?_⟩;have n0_:=am_ (blk_below (g:=gb164) (o:=.cells #[.int .u64 a0_0,.int .u64 a0_1,.int .u64 a0_2,.int .u64 a0_3,.int .u64 a0_4,.int .u64 a0_5,.int .u64 a0_6,.int .u64 a0_7,.int .u64 a0_8,.int .u64 a0_9,.int .u64 a0_10,.string a0_11] 26 (0,0)) (by (with_reducible repeat (first|refine kn_ ?_ _|refine kd_ ?_|refine ka_ ?_ _));exact BK164.out) hb);have n1_:=am_ (below_step (by repeat (first|(with_reducible first|exact HB.out|apply ba_|apply pn_|apply pd_|refine bs_ ?_ GE164.out)|exact HB.out)) hb);clear BK164;clear HB;have BK164:=n0_;have HB:=n1_;clear n0_ n1_;(try clear hb);(try clear hb2);(try clear hk);(try clear hi)))
  go_loopg [5,6] k (fun kq v5 v6 w' => ∃ (x5_1 : ByteArray) (x6_1 : Int),v5 = .string x5_1 ∧ v6 = .int .u64 x6_1 ∧ Aside0 (dominoref05_Put.l0 kq x5_1 x6_1 a0_0 a0_1 a0_2 a0_3 a0_4 a0_5 a0_6 a0_7 a0_8 a0_9 a0_10 a0_11 = some (r1,r2)) ∧ Aside0 (kq ≤ k) ∧ Aside0 (w'.heap[gb164]? = some (.cells #[.int .u64 a0_0,.int .u64 a0_1,.int .u64 a0_2,.int .u64 a0_3,.int .u64 a0_4,.int .u64 a0_5,.int .u64 a0_6,.int .u64 a0_7,.int .u64 a0_8,.int .u64 a0_9,.int .u64 a0_10,.string a0_11] 26 (0,0))) ∧ Aside0 (Below w.heap.size w w'))
  case atStart => exact ⟨((⟨#[]⟩ : ByteArray)),(1),(by first|rfl|(simp;done)|(simp [*];done)),(by first|rfl|(simp;done)|(simp [*];done)),H',⟨Nat.le_refl _⟩,⟨by (with_reducible repeat (first|refine kn_ ?_ _|refine kd_ ?_|refine ka_ ?_ _));exact BK164.out⟩,⟨by repeat (first|(with_reducible first|exact HB.out|apply ba_|apply pn_|apply pd_|refine bs_ ?_ GE164.out)|exact HB.out)⟩⟩
  case round =>
   clear H'
   try clear c1;try clear p2
   try clear c3;try clear c3b0
   try clear c3b1;try clear hcz5_0
   try clear hcz5_1;try clear hcz5_10
   try clear hcz5_11;try clear hcz5_2
   try clear hcz5_3;try clear hcz5_4
   try clear hcz5_5;try clear hcz5_6
   try clear hcz5_7;try clear hcz5_8
   try clear hcz5_9;try clear hfz5_0
   try clear hfz5_1;try clear hfz5_10
   try clear hfz5_11;try clear hfz5_2
   try clear hfz5_3;try clear hfz5_4
   try clear hfz5_5;try clear hfz5_6
   try clear hfz5_7;try clear hfz5_8;try clear hfz5_9
   obtain ⟨x5_1,x6_1,rfl,rfl,HA,HK1,BK164,HB⟩:=hrel
   cases gk with
   | zero => exact absurd HA.out (by simp [dominoref05_Put.l0])
   | succ k1 =>
    have H:=HA.out
    clear HA
    simp only [dominoref05_Put.l0] at H
    by_cases c7 : x6_1 ≤ 14
    ·rw [if_pos c7] at H
     have c7b0 : decide (x6_1 ≤ 14) = true:=decide_eq_true c7
     clear c7
     replace H:=Option.bind_eq_some_iff.mp H
     obtain ⟨⟨t166,t167⟩,A80,H⟩:=H
     replace H : ((dominoref05_Default.f).bind fun bt168 => ((dominoref05_value.f bt168.1 bt168.2.1 bt168.2.2.1 bt168.2.2.2.1 bt168.2.2.2.2.1 bt168.2.2.2.2.2.1 bt168.2.2.2.2.2.2.1 bt168.2.2.2.2.2.2.2.1 bt168.2.2.2.2.2.2.2.2.1 bt168.2.2.2.2.2.2.2.2.2.1 bt168.2.2.2.2.2.2.2.2.2.2.1 bt168.2.2.2.2.2.2.2.2.2.2.2 x6_1).bind fun bt180 => (if t167 = true then (dominoref05_Put.j1 k1 x5_1 x6_1 t166 (t166 != bt180.1) a0_0 a0_1 a0_2 a0_3 a0_4 a0_5 a0_6 a0_7 a0_8 a0_9 a0_10 a0_11) else (dominoref05_Put.j1 k1 x5_1 x6_1 t166 false a0_0 a0_1 a0_2 a0_3 a0_4 a0_5 a0_6 a0_7 a0_8 a0_9 a0_10 a0_11)))) = some (r1,r2):=H
     have A8:=am_ A80
     clear A80
     replace H:=Option.bind_eq_some_iff.mp H
     obtain ⟨⟨t168,t169,t170,t171,t172,t173,t174,t175,t176,t177,t178,t179⟩,A90,H⟩:=H
     replace H : ((dominoref05_value.f t168 t169 t170 t171 t172 t173 t174 t175 t176 t177 t178 t179 x6_1).bind fun bt180 => (if t167 = true then (dominoref05_Put.j1 k1 x5_1 x6_1 t166 (t166 != bt180.1) a0_0 a0_1 a0_2 a0_3 a0_4 a0_5 a0_6 a0_7 a0_8 a0_9 a0_10 a0_11) else (dominoref05_Put.j1 k1 x5_1 x6_1 t166 false a0_0 a0_1 a0_2 a0_3 a0_4 a0_5 a0_6 a0_7 a0_8 a0_9 a0_10 a0_11))) = some (r1,r2):=H
     have A9:=am_ A90
     clear A90
     replace H:=Option.bind_eq_some_iff.mp H
     obtain ⟨⟨t180,t181⟩,A100,H⟩:=H
     replace H : (if t167 = true then (dominoref05_Put.j1 k1 x5_1 x6_1 t166 (t166 != t180) a0_0 a0_1 a0_2 a0_3 a0_4 a0_5 a0_6 a0_7 a0_8 a0_9 a0_10 a0_11) else (dominoref05_Put.j1 k1 x5_1 x6_1 t166 false a0_0 a0_1 a0_2 a0_3 a0_4 a0_5 a0_6 a0_7 a0_8 a0_9 a0_10 a0_11)) = some (r1,r2):=H
     have A10:=am_ A100
     clear A100
     have HC11:=am_ H
     clear H
     have hcz12_0 : wr.cell? ⟨gb164,0,none⟩ = some (.int .u64 a0_0):=(kc_ BK164.out 0).trans rfl
     have hcz12_1 : wr.cell? ⟨gb164,1,none⟩ = some (.int .u64 a0_1):=(kc_ BK164.out 1).trans rfl
     have hcz12_2 : wr.cell? ⟨gb164,2,none⟩ = some (.int .u64 a0_2):=(kc_ BK164.out 2).trans rfl
     have hcz12_3 : wr.cell? ⟨gb164,3,none⟩ = some (.int .u64 a0_3):=(kc_ BK164.out 3).trans rfl
     have hcz12_4 : wr.cell? ⟨gb164,4,none⟩ = some (.int .u64 a0_4):=(kc_ BK164.out 4).trans rfl
     have hcz12_5 : wr.cell? ⟨gb164,5,none⟩ = some (.int .u64 a0_5):=(kc_ BK164.out 5).trans rfl
     have hcz12_6 : wr.cell? ⟨gb164,6,none⟩ = some (.int .u64 a0_6):=(kc_ BK164.out 6).trans rfl
     have hcz12_7 : wr.cell? ⟨gb164,7,none⟩ = some (.int .u64 a0_7):=(kc_ BK164.out 7).trans rfl
     have hcz12_8 : wr.cell? ⟨gb164,8,none⟩ = some (.int .u64 a0_8):=(kc_ BK164.out 8).trans rfl
     have hcz12_9 : wr.cell? ⟨gb164,9,none⟩ = some (.int .u64 a0_9):=(kc_ BK164.out 9).trans rfl
     have hcz12_10 : wr.cell? ⟨gb164,10,none⟩ = some (.int .u64 a0_10):=(kc_ BK164.out 10).trans rfl
     have hcz12_11 : wr.cell? ⟨gb164,11,none⟩ = some (.string a0_11):=(kc_ BK164.out 11).trans rfl
     have hfz12_0:=blk_frozen BK164.out 0
     have hfz12_1:=blk_frozen BK164.out 1
     have hfz12_2:=blk_frozen BK164.out 2
     have hfz12_3:=blk_frozen BK164.out 3
     have hfz12_4:=blk_frozen BK164.out 4
     have hfz12_5:=blk_frozen BK164.out 5
     have hfz12_6:=blk_frozen BK164.out 6
     have hfz12_7:=blk_frozen BK164.out 7
     have hfz12_8:=blk_frozen BK164.out 8
     have hfz12_9:=blk_frozen BK164.out 9
     have hfz12_10:=blk_frozen BK164.out 10
     have hfz12_11:=blk_frozen BK164.out 11
     go_upto_region 10 with (first|((with_reducible refine gate_callee (f:=22) rfl ?_);refine goesL_ (some 23) rfl rfl Tryd.func22 (by kernel_rfl) rfl #[.agg #[.int .u64 a0_0,.int .u64 a0_1,.int .u64 a0_2,.int .u64 a0_3,.int .u64 a0_4,.int .u64 a0_5,.int .u64 a0_6,.int .u64 a0_7,.int .u64 a0_8,.int .u64 a0_9,.int .u64 a0_10,.string a0_11],.int .u64 x6_1] rfl (by (try simp only [List.map_toArray,List.map_cons,List.map_nil]);first|done|rfl|(simp only [List.length_drop,List.length_take];rfl)) ?_;(with_reducible refine (dominoref05_value.calls a0_0 a0_1 a0_2 a0_3 a0_4 a0_5 a0_6 a0_7 a0_8 a0_9 a0_10 a0_11 x6_1 t166 t167 _ A8.out).mono ?_);rintro e w13 ⟨rfl,hb⟩;refine ⟨_,rfl,?_⟩;have n0_:=am_ (blk_below (g:=gb164) (o:=.cells #[.int .u64 a0_0,.int .u64 a0_1,.int .u64 a0_2,.int .u64 a0_3,.int .u64 a0_4,.int .u64 a0_5,.int .u64 a0_6,.int .u64 a0_7,.int .u64 a0_8,.int .u64 a0_9,.int .u64 a0_10,.string a0_11] 26 (0,0)) (by (with_reducible repeat (first|refine kn_ ?_ _|refine kd_ ?_|refine ka_ ?_ _));exact BK164.out) hb);have n1_:=am_ (below_step (by repeat (first|(with_reducible first|exact HB.out|apply ba_|apply pn_|apply pd_|refine bs_ ?_ GE164.out)|exact HB.out)) hb);clear BK164;clear HB;have BK164:=n0_;have HB:=n1_;clear n0_ n1_;(try clear hb);(try clear hb2);(try clear hk);(try clear hi))|((with_reducible refine gate_callee (f:=16) rfl ?_);refine goesL_ (some 27) rfl rfl Tryd.func16 (by kernel_rfl) rfl #[] rfl (by (try simp only [List.map_toArray,List.map_cons,List.map_nil]);first|done|rfl|(simp only [List.length_drop,List.length_take];rfl)) ?_;(with_reducible refine (dominoref05_Default.calls  t168 t169 t170 t171 t172 t173 t174 t175 t176 t177 t178 t179 _ A9.out).mono ?_);rintro e w14 ⟨rfl,hb⟩;refine ⟨_,rfl,?_⟩;have n0_:=am_ (blk_below (g:=gb164) (o:=.cells #[.int .u64 a0_0,.int .u64 a0_1,.int .u64 a0_2,.int .u64 a0_3,.int .u64 a0_4,.int .u64 a0_5,.int .u64 a0_6,.int .u64 a0_7,.int .u64 a0_8,.int .u64 a0_9,.int .u64 a0_10,.string a0_11] 26 (0,0)) (by (with_reducible repeat (first|refine kn_ ?_ _|refine kd_ ?_|refine ka_ ?_ _));exact BK164.out) hb);have n1_:=am_ (below_step (by repeat (first|(with_reducible first|exact HB.out|apply ba_|apply pn_|apply pd_|refine bs_ ?_ GE164.out)|exact HB.out)) hb);clear BK164;clear HB;have BK164:=n0_;have HB:=n1_;clear n0_ n1_;(try clear hb);(try clear hb2);(try clear hk);(try clear hi))|((with_reducible refine gate_callee (f:=22) rfl ?_);refine goesL_ (some 29) rfl rfl Tryd.func22 (by kernel_rfl) rfl #[.agg #[.int .u64 t168,.int .u64 t169,.int .u64 t170,.int .u64 t171,.int .u64 t172,.int .u64 t173,.int .u64 t174,.int .u64 t175,.int .u64 t176,.int .u64 t177,.int .u64 t178,.string t179],.int .u64 x6_1] rfl (by (try simp only [List.map_toArray,List.map_cons,List.map_nil]);first|done|rfl|(simp only [List.length_drop,List.length_take];rfl)) ?_;(with_reducible refine (dominoref05_value.calls t168 t169 t170 t171 t172 t173 t174 t175 t176 t177 t178 t179 x6_1 t180 t181 _ A10.out).mono ?_);rintro e w15 ⟨rfl,hb⟩;refine ⟨_,rfl,?_⟩;have n0_:=am_ (blk_below (g:=gb164) (o:=.cells #[.int .u64 a0_0,.int .u64 a0_1,.int .u64 a0_2,.int .u64 a0_3,.int .u64 a0_4,.int .u64 a0_5,.int .u64 a0_6,.int .u64 a0_7,.int .u64 a0_8,.int .u64 a0_9,.int .u64 a0_10,.string a0_11] 26 (0,0)) (by (with_reducible repeat (first|refine kn_ ?_ _|refine kd_ ?_|refine ka_ ?_ _));exact BK164.out) hb);have n1_:=am_ (below_step (by repeat (first|(with_reducible first|exact HB.out|apply ba_|apply pn_|apply pd_|refine bs_ ?_ GE164.out)|exact HB.out)) hb);clear BK164;clear HB;have BK164:=n0_;have HB:=n1_;clear n0_ n1_;(try clear hb);(try clear hb2);(try clear hk);(try clear hi)))
     (try simp only [Act.put,ps_])
     go_cut [37] (fun v37 wc => ∃ (kq : Nat) (x37_10 : Bool),v37 = .bool x37_10 ∧ Aside0 (dominoref05_Put.j1 kq x5_1 x6_1 t166 x37_10 a0_0 a0_1 a0_2 a0_3 a0_4 a0_5 a0_6 a0_7 a0_8 a0_9 a0_10 a0_11 = some (r1,r2)) ∧ Aside0 (kq ≤ k1) ∧ Aside0 (wc.heap[gb164]? = some (.cells #[.int .u64 a0_0,.int .u64 a0_1,.int .u64 a0_2,.int .u64 a0_3,.int .u64 a0_4,.int .u64 a0_5,.int .u64 a0_6,.int .u64 a0_7,.int .u64 a0_8,.int .u64 a0_9,.int .u64 a0_10,.string a0_11] 26 (0,0))) ∧ Aside0 (Below w.heap.size w wc))
     case first =>
      have H:=HC11.out
      clear HC11
      by_cases c16 : t167 = true
      ·subst c16
       have H1 : (dominoref05_Put.j1 k1 x5_1 x6_1 t166 (t166 != t180) a0_0 a0_1 a0_2 a0_3 a0_4 a0_5 a0_6 a0_7 a0_8 a0_9 a0_10 a0_11) = some (r1,r2):=by rw [if_pos rfl] at H;exact H
       clear H
       have H:=H1
       clear H1
       have H':=am_ H
       clear H
       go_wp2
       go_meet
       case rel => exact ⟨_,((t166 != t180)),(by first|rfl|(simp;done)|(simp [*];done)),H',⟨by have:=HK1.out;first|omega|exact Nat.le_refl _⟩,⟨by (with_reducible repeat (first|refine kn_ ?_ _|refine kd_ ?_|refine ka_ ?_ _));exact BK164.out⟩,⟨by repeat (first|(with_reducible first|exact HB.out|apply ba_|apply pn_|apply pd_|refine bs_ ?_ GE164.out)|exact HB.out)⟩⟩
      ·replace c16:=Bool.eq_false_iff.mpr c16
       subst c16
       have H1 : (dominoref05_Put.j1 k1 x5_1 x6_1 t166 false a0_0 a0_1 a0_2 a0_3 a0_4 a0_5 a0_6 a0_7 a0_8 a0_9 a0_10 a0_11) = some (r1,r2):=by rw [if_neg (show ¬ (false = true) by decide)] at H;exact H
       clear H
       have H:=H1
       clear H1
       have H':=am_ H
       clear H
       go_wp2
       go_meet
       case rel => exact ⟨_,(false),(by first|rfl|(simp;done)|(simp [*];done)),H',⟨by have:=HK1.out;first|omega|exact Nat.le_refl _⟩,⟨by (with_reducible repeat (first|refine kn_ ?_ _|refine kd_ ?_|refine ka_ ?_ _));exact BK164.out⟩,⟨by repeat (first|(with_reducible first|exact HB.out|apply ba_|apply pn_|apply pd_|refine bs_ ?_ GE164.out)|exact HB.out)⟩⟩
     case rest =>
      clear HC11
      try clear c1;try clear c2
      try clear p2;try clear c3
      try clear c3b0;try clear c3b1
      try clear c7;try clear c7b0
      try clear c10;try clear c14
      try clear c16;try clear hcz12_0
      try clear hcz12_1;try clear hcz12_10
      try clear hcz12_11;try clear hcz12_2
      try clear hcz12_3;try clear hcz12_4
      try clear hcz12_5;try clear hcz12_6
      try clear hcz12_7;try clear hcz12_8
      try clear hcz12_9;try clear hcz5_0
      try clear hcz5_1;try clear hcz5_10
      try clear hcz5_11;try clear hcz5_2
      try clear hcz5_3;try clear hcz5_4
      try clear hcz5_5;try clear hcz5_6
      try clear hcz5_7;try clear hcz5_8
      try clear hcz5_9;try clear hfz12_0
      try clear hfz12_1;try clear hfz12_10
      try clear hfz12_11;try clear hfz12_2
      try clear hfz12_3;try clear hfz12_4
      try clear hfz12_5;try clear hfz12_6
      try clear hfz12_7;try clear hfz12_8
      try clear hfz12_9;try clear hfz5_0
      try clear hfz5_1;try clear hfz5_10
      try clear hfz5_11;try clear hfz5_2
      try clear hfz5_3;try clear hfz5_4
      try clear hfz5_5;try clear hfz5_6
      try clear hfz5_7;try clear hfz5_8
      try clear hfz5_9;try clear p2
      obtain ⟨kq,x37_10,rfl,HA,HJ10,BK164,HB⟩:=hcut
      cases kq with
      | zero => exact absurd HA.out (by simp [dominoref05_Put.j1])
      | succ kj10 =>
       have H:=HA.out
       clear HA
       simp only [dominoref05_Put.j1] at H
       have HC17:=am_ H
       clear H
       go_upto_if 37 with (fail)
       go_cut [5] (fun v5 wc => ∃ (kq : Nat) (x5_16 : ByteArray),v5 = .string x5_16 ∧ Aside0 (dominoref05_Put.j2 kq x5_16 x6_1 a0_0 a0_1 a0_2 a0_3 a0_4 a0_5 a0_6 a0_7 a0_8 a0_9 a0_10 a0_11 = some (r1,r2)) ∧ Aside0 (kq ≤ kj10) ∧ Aside0 (wc.heap[gb164]? = some (.cells #[.int .u64 a0_0,.int .u64 a0_1,.int .u64 a0_2,.int .u64 a0_3,.int .u64 a0_4,.int .u64 a0_5,.int .u64 a0_6,.int .u64 a0_7,.int .u64 a0_8,.int .u64 a0_9,.int .u64 a0_10,.string a0_11] 26 (0,0))) ∧ Aside0 (Below w.heap.size w wc))
       case first =>
        have H:=HC17.out
        clear HC17
        by_cases c18 : x37_10 = true
        ·subst c18
         have H1 : ((dominoref05_v.f kj10 x6_1).bind fun t182 => (if x5_1.size + t182.size ≤ 9223372036854775807 then ((dominoref05_v.f kj10 t166).bind fun t183 => ((dominoref05_v.f kj10 (t183.size : Int)).bind fun t184 => (if (x5_1 ++ t182).size + t184.size ≤ 9223372036854775807 then (if ((x5_1 ++ t182) ++ t184).size + t183.size ≤ 9223372036854775807 then (dominoref05_Put.j2 kj10 (((x5_1 ++ t182) ++ t184) ++ t183) x6_1 a0_0 a0_1 a0_2 a0_3 a0_4 a0_5 a0_6 a0_7 a0_8 a0_9 a0_10 a0_11) else (none)) else (none)))) else (none))) = some (r1,r2):=by rw [if_pos rfl] at H;exact H
         clear H
         have H:=H1
         clear H1
         replace H:=Option.bind_eq_some_iff.mp H
         obtain ⟨t182,A190,H⟩:=H
         replace H : (if x5_1.size + t182.size ≤ 9223372036854775807 then ((dominoref05_v.f kj10 t166).bind fun t183 => ((dominoref05_v.f kj10 (t183.size : Int)).bind fun t184 => (if (x5_1 ++ t182).size + t184.size ≤ 9223372036854775807 then (if ((x5_1 ++ t182) ++ t184).size + t183.size ≤ 9223372036854775807 then (dominoref05_Put.j2 kj10 (((x5_1 ++ t182) ++ t184) ++ t183) x6_1 a0_0 a0_1 a0_2 a0_3 a0_4 a0_5 a0_6 a0_7 a0_8 a0_9 a0_10 a0_11) else (none)) else (none)))) else (none)) = some (r1,r2):=H
         have A19:=am_ A190
         clear A190
         by_cases c20 : x5_1.size + t182.size ≤ 9223372036854775807
         ·rw [if_pos c20] at H
          have c20b0:=eq_true c20
          have c20b1 : decide (x5_1.size + t182.size ≤ 9223372036854775807) = true:=decide_eq_true c20
          try have c20b2 : (9223372036854775807 < x5_1.size + t182.size) = False:=eq_false (Nat.not_lt.2 c20)
          replace H:=Option.bind_eq_some_iff.mp H
          obtain ⟨t183,A210,H⟩:=H
          replace H : ((dominoref05_v.f kj10 (t183.size : Int)).bind fun t184 => (if (x5_1 ++ t182).size + t184.size ≤ 9223372036854775807 then (if ((x5_1 ++ t182) ++ t184).size + t183.size ≤ 9223372036854775807 then (dominoref05_Put.j2 kj10 (((x5_1 ++ t182) ++ t184) ++ t183) x6_1 a0_0 a0_1 a0_2 a0_3 a0_4 a0_5 a0_6 a0_7 a0_8 a0_9 a0_10 a0_11) else (none)) else (none))) = some (r1,r2):=H
          have A21:=am_ A210
          clear A210
          replace H:=Option.bind_eq_some_iff.mp H
          obtain ⟨t184,A220,H⟩:=H
          replace H : (if (x5_1 ++ t182).size + t184.size ≤ 9223372036854775807 then (if ((x5_1 ++ t182) ++ t184).size + t183.size ≤ 9223372036854775807 then (dominoref05_Put.j2 kj10 (((x5_1 ++ t182) ++ t184) ++ t183) x6_1 a0_0 a0_1 a0_2 a0_3 a0_4 a0_5 a0_6 a0_7 a0_8 a0_9 a0_10 a0_11) else (none)) else (none)) = some (r1,r2):=H
          have A22:=am_ A220
          clear A220
          by_cases c23 : (x5_1 ++ t182).size + t184.size ≤ 9223372036854775807
          ·rw [if_pos c23] at H
           have c23b0:=eq_true c23
           have c23b1 : decide ((x5_1 ++ t182).size + t184.size ≤ 9223372036854775807) = true:=decide_eq_true c23
           try have c23b2 : (9223372036854775807 < (x5_1 ++ t182).size + t184.size) = False:=eq_false (Nat.not_lt.2 c23)
           (try (have c23b3:=c23;simp [ByteArray.size_append] at c23b3;have c23b4:=eq_false (Nat.not_lt.2 c23b3);have c23b5:=eq_true c23b3;clear c23b3))
           by_cases c24 : ((x5_1 ++ t182) ++ t184).size + t183.size ≤ 9223372036854775807
           ·rw [if_pos c24] at H
            have c24b0:=eq_true c24
            have c24b1 : decide (((x5_1 ++ t182) ++ t184).size + t183.size ≤ 9223372036854775807) = true:=decide_eq_true c24
            try have c24b2 : (9223372036854775807 < ((x5_1 ++ t182) ++ t184).size + t183.size) = False:=eq_false (Nat.not_lt.2 c24)
            (try (have c24b3:=c24;simp [ByteArray.size_append] at c24b3;have c24b4:=eq_false (Nat.not_lt.2 c24b3);have c24b5:=eq_true c24b3;clear c24b3))
            have H':=am_ H
            clear H
            go_wp2_with (first|((with_reducible refine gate_callee (f:=23) rfl ?_);refine goesL_ (some 40) rfl rfl Tryd.func23 (by kernel_rfl) rfl #[.int .u64 x6_1] rfl (by (try simp only [List.map_toArray,List.map_cons,List.map_nil]);first|done|rfl|(simp only [List.length_drop,List.length_take];rfl)) ?_;(with_reducible refine (dominoref05_v.calls kj10 x6_1 t182 _ A19.out).mono ?_);rintro e w25 ⟨rfl,hb⟩;refine ⟨_,rfl,?_⟩;have n0_:=am_ (blk_below (g:=gb164) (o:=.cells #[.int .u64 a0_0,.int .u64 a0_1,.int .u64 a0_2,.int .u64 a0_3,.int .u64 a0_4,.int .u64 a0_5,.int .u64 a0_6,.int .u64 a0_7,.int .u64 a0_8,.int .u64 a0_9,.int .u64 a0_10,.string a0_11] 26 (0,0)) (by (with_reducible repeat (first|refine kn_ ?_ _|refine kd_ ?_|refine ka_ ?_ _));exact BK164.out) hb);have n1_:=am_ (below_step (by repeat (first|(with_reducible first|exact HB.out|apply ba_|apply pn_|apply pd_|refine bs_ ?_ GE164.out)|exact HB.out)) hb);clear BK164;clear HB;have BK164:=n0_;have HB:=n1_;clear n0_ n1_;(try clear hb);(try clear hb2);(try clear hk);(try clear hi))|((with_reducible refine gate_callee (f:=23) rfl ?_);refine goesL_ (some 43) rfl rfl Tryd.func23 (by kernel_rfl) rfl #[.int .u64 t166] rfl (by (try simp only [List.map_toArray,List.map_cons,List.map_nil]);first|done|rfl|(simp only [List.length_drop,List.length_take];rfl)) ?_;(with_reducible refine (dominoref05_v.calls kj10 t166 t183 _ A21.out).mono ?_);rintro e w26 ⟨rfl,hb⟩;refine ⟨_,rfl,?_⟩;have n0_:=am_ (blk_below (g:=gb164) (o:=.cells #[.int .u64 a0_0,.int .u64 a0_1,.int .u64 a0_2,.int .u64 a0_3,.int .u64 a0_4,.int .u64 a0_5,.int .u64 a0_6,.int .u64 a0_7,.int .u64 a0_8,.int .u64 a0_9,.int .u64 a0_10,.string a0_11] 26 (0,0)) (by (with_reducible repeat (first|refine kn_ ?_ _|refine kd_ ?_|refine ka_ ?_ _));exact BK164.out) hb);have n1_:=am_ (below_step (by repeat (first|(with_reducible first|exact HB.out|apply ba_|apply pn_|apply pd_|refine bs_ ?_ GE164.out)|exact HB.out)) hb);clear BK164;clear HB;have BK164:=n0_;have HB:=n1_;clear n0_ n1_;(try clear hb);(try clear hb2);(try clear hk);(try clear hi))|((with_reducible refine gate_callee (f:=23) rfl ?_);refine goesL_ (some 46) rfl rfl Tryd.func23 (by kernel_rfl) rfl #[.int .u64 (t183.size : Int)] rfl (by (try simp only [List.map_toArray,List.map_cons,List.map_nil]);first|done|rfl|(simp only [List.length_drop,List.length_take];rfl)) ?_;(with_reducible refine (dominoref05_v.calls kj10 (t183.size : Int) t184 _ A22.out).mono ?_);rintro e w27 ⟨rfl,hb⟩;refine ⟨_,rfl,?_⟩;have n0_:=am_ (blk_below (g:=gb164) (o:=.cells #[.int .u64 a0_0,.int .u64 a0_1,.int .u64 a0_2,.int .u64 a0_3,.int .u64 a0_4,.int .u64 a0_5,.int .u64 a0_6,.int .u64 a0_7,.int .u64 a0_8,.int .u64 a0_9,.int .u64 a0_10,.string a0_11] 26 (0,0)) (by (with_reducible repeat (first|refine kn_ ?_ _|refine kd_ ?_|refine ka_ ?_ _));exact BK164.out) hb);have n1_:=am_ (below_step (by repeat (first|(with_reducible first|exact HB.out|apply ba_|apply pn_|apply pd_|refine bs_ ?_ GE164.out)|exact HB.out)) hb);clear BK164;clear HB;have BK164:=n0_;have HB:=n1_;clear n0_ n1_;(try clear hb);(try clear hb2);(try clear hk);(try clear hi))|((with_reducible refine gate_callee (f:=23) rfl ?_);refine goesL_ (some 49) rfl rfl Tryd.func23 (by kernel_rfl) rfl #[.int .u64 t166] rfl (by (try simp only [List.map_toArray,List.map_cons,List.map_nil]);first|done|rfl|(simp only [List.length_drop,List.length_take];rfl)) ?_;(with_reducible refine (dominoref05_v.calls kj10 t166 t183 _ A21.out).mono ?_);rintro e w28 ⟨rfl,hb⟩;refine ⟨_,rfl,?_⟩;have n0_:=am_ (blk_below (g:=gb164) (o:=.cells #[.int .u64 a0_0,.int .u64 a0_1,.int .u64 a0_2,.int .u64 a0_3,.int .u64 a0_4,.int .u64 a0_5,.int .u64 a0_6,.int .u64 a0_7,.int .u64 a0_8,.int .u64 a0_9,.int .u64 a0_10,.string a0_11] 26 (0,0)) (by (with_reducible repeat (first|refine kn_ ?_ _|refine kd_ ?_|refine ka_ ?_ _));exact BK164.out) hb);have n1_:=am_ (below_step (by repeat (first|(with_reducible first|exact HB.out|apply ba_|apply pn_|apply pd_|refine bs_ ?_ GE164.out)|exact HB.out)) hb);clear BK164;clear HB;have BK164:=n0_;have HB:=n1_;clear n0_ n1_;(try clear hb);(try clear hb2);(try clear hk);(try clear hi)))
            go_meet
            case rel => exact ⟨_,(((x5_1 ++ t182) ++ t184) ++ t183),(by first|rfl|(simp;done)|(simp [*];done)),H',⟨by have:=HK1.out;have:=HJ10.out;first|omega|exact Nat.le_refl _⟩,⟨by (with_reducible repeat (first|refine kn_ ?_ _|refine kd_ ?_|refine ka_ ?_ _));exact BK164.out⟩,⟨by repeat (first|(with_reducible first|exact HB.out|apply ba_|apply pn_|apply pd_|refine bs_ ?_ GE164.out)|exact HB.out)⟩⟩
           ·rw [if_neg c24] at H
            exact absurd H (by simp)
          ·rw [if_neg c23] at H
           exact absurd H (by simp)
         ·rw [if_neg c20] at H
          exact absurd H (by simp)
        ·replace c18:=Bool.eq_false_iff.mpr c18
         subst c18
         have H1 : (dominoref05_Put.j2 kj10 x5_1 x6_1 a0_0 a0_1 a0_2 a0_3 a0_4 a0_5 a0_6 a0_7 a0_8 a0_9 a0_10 a0_11) = some (r1,r2):=by rw [if_neg (show ¬ (false = true) by decide)] at H;exact H
         clear H
         have H:=H1
         clear H1
         have H':=am_ H
         clear H
         go_wp2
         go_meet
         case rel => exact ⟨_,(x5_1),(by first|rfl|(simp;done)|(simp [*];done)),H',⟨by have:=HK1.out;have:=HJ10.out;first|omega|exact Nat.le_refl _⟩,⟨by (with_reducible repeat (first|refine kn_ ?_ _|refine kd_ ?_|refine ka_ ?_ _));exact BK164.out⟩,⟨by repeat (first|(with_reducible first|exact HB.out|apply ba_|apply pn_|apply pd_|refine bs_ ?_ GE164.out)|exact HB.out)⟩⟩
       case rest =>
        clear HC17
        try clear c1;try clear c2
        try clear p2;try clear c3
        try clear c3b0;try clear c3b1
        try clear c7;try clear c7b0
        try clear c10;try clear c14
        try clear c16;try clear c18
        try clear c20;try clear c20b0
        try clear c20b1;try clear c20b2
        try clear c22;try clear c23
        try clear c23b0;try clear c23b1
        try clear c23b2;try clear c24
        try clear c24b0;try clear c24b1
        try clear c24b2;try clear hcz12_0
        try clear hcz12_1;try clear hcz12_10
        try clear hcz12_11;try clear hcz12_2
        try clear hcz12_3;try clear hcz12_4
        try clear hcz12_5;try clear hcz12_6
        try clear hcz12_7;try clear hcz12_8
        try clear hcz12_9;try clear hcz5_0
        try clear hcz5_1;try clear hcz5_10
        try clear hcz5_11;try clear hcz5_2
        try clear hcz5_3;try clear hcz5_4
        try clear hcz5_5;try clear hcz5_6
        try clear hcz5_7;try clear hcz5_8
        try clear hcz5_9;try clear hfz12_0
        try clear hfz12_1;try clear hfz12_10
        try clear hfz12_11;try clear hfz12_2
        try clear hfz12_3;try clear hfz12_4
        try clear hfz12_5;try clear hfz12_6
        try clear hfz12_7;try clear hfz12_8
        try clear hfz12_9;try clear hfz5_0
        try clear hfz5_1;try clear hfz5_10
        try clear hfz5_11;try clear hfz5_2
        try clear hfz5_3;try clear hfz5_4
        try clear hfz5_5;try clear hfz5_6
        try clear hfz5_7;try clear hfz5_8
        try clear hfz5_9;try clear p2
        obtain ⟨kq,x5_16,rfl,HA,HJ16,BK164,HB⟩:=hcut
        cases kq with
        | zero => exact absurd HA.out (by simp [dominoref05_Put.j2])
        | succ kj16 =>
         have H:=HA.out
         clear HA
         simp only [dominoref05_Put.j2] at H
         have HC29:=am_ H
         clear H
         go_upto_region 12 with (fail)
         go_cut [57] (fun v57 wc => ∃ (kq : Nat) (x57_28 : Bool),v57 = .bool x57_28 ∧ Aside0 (dominoref05_Put.j3 kq x5_16 x6_1 x57_28 a0_0 a0_1 a0_2 a0_3 a0_4 a0_5 a0_6 a0_7 a0_8 a0_9 a0_10 a0_11 = some (r1,r2)) ∧ Aside0 (kq ≤ kj16) ∧ Aside0 (wc.heap[gb164]? = some (.cells #[.int .u64 a0_0,.int .u64 a0_1,.int .u64 a0_2,.int .u64 a0_3,.int .u64 a0_4,.int .u64 a0_5,.int .u64 a0_6,.int .u64 a0_7,.int .u64 a0_8,.int .u64 a0_9,.int .u64 a0_10,.string a0_11] 26 (0,0))) ∧ Aside0 (Below w.heap.size w wc))
         case first =>
          have H:=HC29.out
          clear HC29
          by_cases c30 : x6_1 = 2
          ·rw [if_pos c30] at H
           have c30b0 : (x6_1 == 2) = true:=beq_iff_eq.mpr c30
           have c30b1 : (x6_1 != 2) = false:=bne_eq_false_iff_eq.mpr c30
           clear c30
           (first|rw [c30b0]|(simp only [i64_w,i32_w];rw [c30b0])|skip)
           have H':=am_ H
           clear H
           have hcz31_0 : wc.cell? ⟨gb164,0,none⟩ = some (.int .u64 a0_0):=(kc_ BK164.out 0).trans rfl
           have hcz31_1 : wc.cell? ⟨gb164,1,none⟩ = some (.int .u64 a0_1):=(kc_ BK164.out 1).trans rfl
           have hcz31_2 : wc.cell? ⟨gb164,2,none⟩ = some (.int .u64 a0_2):=(kc_ BK164.out 2).trans rfl
           have hcz31_3 : wc.cell? ⟨gb164,3,none⟩ = some (.int .u64 a0_3):=(kc_ BK164.out 3).trans rfl
           have hcz31_4 : wc.cell? ⟨gb164,4,none⟩ = some (.int .u64 a0_4):=(kc_ BK164.out 4).trans rfl
           have hcz31_5 : wc.cell? ⟨gb164,5,none⟩ = some (.int .u64 a0_5):=(kc_ BK164.out 5).trans rfl
           have hcz31_6 : wc.cell? ⟨gb164,6,none⟩ = some (.int .u64 a0_6):=(kc_ BK164.out 6).trans rfl
           have hcz31_7 : wc.cell? ⟨gb164,7,none⟩ = some (.int .u64 a0_7):=(kc_ BK164.out 7).trans rfl
           have hcz31_8 : wc.cell? ⟨gb164,8,none⟩ = some (.int .u64 a0_8):=(kc_ BK164.out 8).trans rfl
           have hcz31_9 : wc.cell? ⟨gb164,9,none⟩ = some (.int .u64 a0_9):=(kc_ BK164.out 9).trans rfl
           have hcz31_10 : wc.cell? ⟨gb164,10,none⟩ = some (.int .u64 a0_10):=(kc_ BK164.out 10).trans rfl
           have hcz31_11 : wc.cell? ⟨gb164,11,none⟩ = some (.string a0_11):=(kc_ BK164.out 11).trans rfl
           have hfz31_0:=blk_frozen BK164.out 0
           have hfz31_1:=blk_frozen BK164.out 1
           have hfz31_2:=blk_frozen BK164.out 2
           have hfz31_3:=blk_frozen BK164.out 3
           have hfz31_4:=blk_frozen BK164.out 4
           have hfz31_5:=blk_frozen BK164.out 5
           have hfz31_6:=blk_frozen BK164.out 6
           have hfz31_7:=blk_frozen BK164.out 7
           have hfz31_8:=blk_frozen BK164.out 8
           have hfz31_9:=blk_frozen BK164.out 9
           have hfz31_10:=blk_frozen BK164.out 10
           have hfz31_11:=blk_frozen BK164.out 11
           go_wp2
           go_meet
           case rel => exact ⟨_,((a0_11.toList != ([] : List UInt8))),(by first|rfl|(simp;done)|(simp;cases a0_11.toList <;> rfl)|(simp [*];done)),H',⟨by have:=HK1.out;have:=HJ10.out;have:=HJ16.out;first|omega|exact Nat.le_refl _⟩,⟨by (with_reducible repeat (first|refine kn_ ?_ _|refine kd_ ?_|refine ka_ ?_ _));exact BK164.out⟩,⟨by repeat (first|(with_reducible first|exact HB.out|apply ba_|apply pn_|apply pd_|refine bs_ ?_ GE164.out)|exact HB.out)⟩⟩
          ·rw [if_neg c30] at H
           have c30b0 : (x6_1 == 2) = false:=beq_eq_false_iff_ne.mpr c30
           have c30b1 : (x6_1 != 2) = true:=bne_iff_ne.mpr c30
           (first|rw [c30b0]|(simp only [i64_w,i32_w];rw [c30b0])|skip)
           have H':=am_ H
           clear H
           go_wp2
           go_meet
           case rel => exact ⟨_,(false),(by first|rfl|(simp;done)|(simp [*];done)),H',⟨by have:=HK1.out;have:=HJ10.out;have:=HJ16.out;first|omega|exact Nat.le_refl _⟩,⟨by (with_reducible repeat (first|refine kn_ ?_ _|refine kd_ ?_|refine ka_ ?_ _));exact BK164.out⟩,⟨by repeat (first|(with_reducible first|exact HB.out|apply ba_|apply pn_|apply pd_|refine bs_ ?_ GE164.out)|exact HB.out)⟩⟩
         case rest =>
          clear HC29
          try clear c1;try clear c2
          try clear p2;try clear c3
          try clear c3b0;try clear c3b1
          try clear c7;try clear c7b0
          try clear c10;try clear c14
          try clear c16;try clear c18
          try clear c20;try clear c20b0
          try clear c20b1;try clear c20b2
          try clear c22;try clear c23
          try clear c23b0;try clear c23b1
          try clear c23b2;try clear c24
          try clear c24b0;try clear c24b1
          try clear c24b2;try clear c30
          try clear c30b0;try clear c30b1
          try clear hcz12_0;try clear hcz12_1
          try clear hcz12_10;try clear hcz12_11
          try clear hcz12_2;try clear hcz12_3
          try clear hcz12_4;try clear hcz12_5
          try clear hcz12_6;try clear hcz12_7
          try clear hcz12_8;try clear hcz12_9
          try clear hcz31_0;try clear hcz31_1
          try clear hcz31_10;try clear hcz31_11
          try clear hcz31_2;try clear hcz31_3
          try clear hcz31_4;try clear hcz31_5
          try clear hcz31_6;try clear hcz31_7
          try clear hcz31_8;try clear hcz31_9
          try clear hcz5_0;try clear hcz5_1
          try clear hcz5_10;try clear hcz5_11
          try clear hcz5_2;try clear hcz5_3
          try clear hcz5_4;try clear hcz5_5
          try clear hcz5_6;try clear hcz5_7
          try clear hcz5_8;try clear hcz5_9
          try clear hfz12_0;try clear hfz12_1
          try clear hfz12_10;try clear hfz12_11
          try clear hfz12_2;try clear hfz12_3
          try clear hfz12_4;try clear hfz12_5
          try clear hfz12_6;try clear hfz12_7
          try clear hfz12_8;try clear hfz12_9
          try clear hfz31_0;try clear hfz31_1
          try clear hfz31_10;try clear hfz31_11
          try clear hfz31_2;try clear hfz31_3
          try clear hfz31_4;try clear hfz31_5
          try clear hfz31_6;try clear hfz31_7
          try clear hfz31_8;try clear hfz31_9
          try clear hfz5_0;try clear hfz5_1
          try clear hfz5_10;try clear hfz5_11
          try clear hfz5_2;try clear hfz5_3
          try clear hfz5_4;try clear hfz5_5
          try clear hfz5_6;try clear hfz5_7
          try clear hfz5_8;try clear hfz5_9;try clear p2
          obtain ⟨kq,x57_28,rfl,HA,HJ28,BK164,HB⟩:=hcut
          cases kq with
          | zero => exact absurd HA.out (by simp [dominoref05_Put.j3])
          | succ kj28 =>
           have H:=HA.out
           clear HA
           simp only [dominoref05_Put.j3] at H
           by_cases c32 : x57_28 = true
           ·subst c32
            have H1 : ((dominoref05_v.f kj28 2).bind fun t185 => (if x5_16.size + t185.size ≤ 9223372036854775807 then ((dominoref05_v.f kj28 16).bind fun t186 => (if (x5_16 ++ t185).size + t186.size ≤ 9223372036854775807 then (if ((x5_16 ++ t185) ++ t186).size + a0_11.size ≤ 9223372036854775807 then (dominoref05_Put.l0 kj28 (((x5_16 ++ t185) ++ t186) ++ a0_11) (IntKind.u64.wrap (x6_1 + 1)) a0_0 a0_1 a0_2 a0_3 a0_4 a0_5 a0_6 a0_7 a0_8 a0_9 a0_10 a0_11) else (none)) else (none))) else (none))) = some (r1,r2):=by rw [if_pos rfl] at H;exact H
            clear H
            have H:=H1
            clear H1
            replace H:=Option.bind_eq_some_iff.mp H
            obtain ⟨t185,A330,H⟩:=H
            replace H : (if x5_16.size + t185.size ≤ 9223372036854775807 then ((dominoref05_v.f kj28 16).bind fun t186 => (if (x5_16 ++ t185).size + t186.size ≤ 9223372036854775807 then (if ((x5_16 ++ t185) ++ t186).size + a0_11.size ≤ 9223372036854775807 then (dominoref05_Put.l0 kj28 (((x5_16 ++ t185) ++ t186) ++ a0_11) (IntKind.u64.wrap (x6_1 + 1)) a0_0 a0_1 a0_2 a0_3 a0_4 a0_5 a0_6 a0_7 a0_8 a0_9 a0_10 a0_11) else (none)) else (none))) else (none)) = some (r1,r2):=H
            have A33:=am_ A330
            clear A330
            by_cases c34 : x5_16.size + t185.size ≤ 9223372036854775807
            ·rw [if_pos c34] at H
             have c34b0:=eq_true c34
             have c34b1 : decide (x5_16.size + t185.size ≤ 9223372036854775807) = true:=decide_eq_true c34
             try have c34b2 : (9223372036854775807 < x5_16.size + t185.size) = False:=eq_false (Nat.not_lt.2 c34)
             replace H:=Option.bind_eq_some_iff.mp H
             obtain ⟨t186,A350,H⟩:=H
             replace H : (if (x5_16 ++ t185).size + t186.size ≤ 9223372036854775807 then (if ((x5_16 ++ t185) ++ t186).size + a0_11.size ≤ 9223372036854775807 then (dominoref05_Put.l0 kj28 (((x5_16 ++ t185) ++ t186) ++ a0_11) (IntKind.u64.wrap (x6_1 + 1)) a0_0 a0_1 a0_2 a0_3 a0_4 a0_5 a0_6 a0_7 a0_8 a0_9 a0_10 a0_11) else (none)) else (none)) = some (r1,r2):=H
             have A35:=am_ A350
             clear A350
             by_cases c36 : (x5_16 ++ t185).size + t186.size ≤ 9223372036854775807
             ·rw [if_pos c36] at H
              have c36b0:=eq_true c36
              have c36b1 : decide ((x5_16 ++ t185).size + t186.size ≤ 9223372036854775807) = true:=decide_eq_true c36
              try have c36b2 : (9223372036854775807 < (x5_16 ++ t185).size + t186.size) = False:=eq_false (Nat.not_lt.2 c36)
              (try (have c36b3:=c36;simp [ByteArray.size_append] at c36b3;have c36b4:=eq_false (Nat.not_lt.2 c36b3);have c36b5:=eq_true c36b3;clear c36b3))
              by_cases c37 : ((x5_16 ++ t185) ++ t186).size + a0_11.size ≤ 9223372036854775807
              ·rw [if_pos c37] at H
               have c37b0:=eq_true c37
               have c37b1 : decide (((x5_16 ++ t185) ++ t186).size + a0_11.size ≤ 9223372036854775807) = true:=decide_eq_true c37
               try have c37b2 : (9223372036854775807 < ((x5_16 ++ t185) ++ t186).size + a0_11.size) = False:=eq_false (Nat.not_lt.2 c37)
               (try (have c37b3:=c37;simp [ByteArray.size_append] at c37b3;have c37b4:=eq_false (Nat.not_lt.2 c37b3);have c37b5:=eq_true c37b3;clear c37b3))
               have H':=am_ H
               clear H
               try go_wp2
               have n0_:=am_ (kd_ BK164.out)
               have n1_:=am_ (pd_ HB.out)
               clear BK164
               clear HB
               have BK164:=n0_
               have HB:=n1_
               clear n0_ n1_
               refine start_ (n:=9) (S:=fun w' => w'.cell? ⟨gb164,0,none⟩ = some (.int .u64 a0_0) ∧ w'.cell? ⟨gb164,1,none⟩ = some (.int .u64 a0_1) ∧ w'.cell? ⟨gb164,2,none⟩ = some (.int .u64 a0_2) ∧ w'.cell? ⟨gb164,3,none⟩ = some (.int .u64 a0_3) ∧ w'.cell? ⟨gb164,4,none⟩ = some (.int .u64 a0_4) ∧ w'.cell? ⟨gb164,5,none⟩ = some (.int .u64 a0_5) ∧ w'.cell? ⟨gb164,6,none⟩ = some (.int .u64 a0_6) ∧ w'.cell? ⟨gb164,7,none⟩ = some (.int .u64 a0_7) ∧ w'.cell? ⟨gb164,8,none⟩ = some (.int .u64 a0_8) ∧ w'.cell? ⟨gb164,9,none⟩ = some (.int .u64 a0_9) ∧ w'.cell? ⟨gb164,10,none⟩ = some (.int .u64 a0_10) ∧ w'.cell? ⟨gb164,11,none⟩ = some (.string a0_11)) (ds:=[]) #[F_,F_,F_,F_,F_,F_,F_,F_,F_] (by kernel_rfl) rfl rfl ⟨(kc_ BK164.out 0).trans rfl,(kc_ BK164.out 1).trans rfl,(kc_ BK164.out 2).trans rfl,(kc_ BK164.out 3).trans rfl,(kc_ BK164.out 4).trans rfl,(kc_ BK164.out 5).trans rfl,(kc_ BK164.out 6).trans rfl,(kc_ BK164.out 7).trans rfl,(kc_ BK164.out 8).trans rfl,(kc_ BK164.out 9).trans rfl,(kc_ BK164.out 10).trans rfl,(kc_ BK164.out 11).trans rfl⟩ (fun hHeld => ?_);refine with_tabW dominoref05_Put.tab13 dominoref05_Put.bits13 (fun HT_ HW_ => ?_)
               generalize wc.drew = w38 at BK164 HB hHeld ⊢
               refine pure_ (i:=0) (N:=some 58) (v:=?_) (a':=?_) #[T_,F_,F_,F_,F_,F_,F_,F_,F_] rfl rfl (any_of HT_.out (by kernel_rfl)) (fun _ _ _ h => h) (Or.inl ⟨by rfl,?_⟩) ?_ ?_
               rotate_left;(intro w';go_simp;with_reducible rfl);rotate_left;(simp only [Act.put,ps_,i64_w,i32_w];rfl)
               refine pure_ (i:=5) (N:=some 63) (v:=?_) (a':=?_) #[T_,F_,F_,F_,F_,T_,F_,F_,F_] rfl rfl (any_of HT_.out (by kernel_rfl)) (fun _ _ _ h => h) (Or.inl ⟨by rfl,?_⟩) ?_ ?_
               rotate_left;(intro w';go_simp;with_reducible rfl);rotate_left;(simp only [Act.put,ps_,i64_w,i32_w];rfl)
               refine take_ (i:=6) (N:=some 64) (v:=?_) (a':=?_) #[T_,F_,F_,F_,F_,T_,T_,F_,F_] rfl rfl (take_ofW HT_.out HW_.out (by kernel_rfl)) (fun _ _ _ h => h) (Or.inl ⟨by rfl,?_⟩) hHeld ?_ ?_
               rotate_left
               ·rintro w' ⟨s0,s1,s2,s3,s4,s5,s6,s7,s8,s9,s10,s11⟩
                go_simp
                with_reducible rfl
               rotate_left
               ·simp only [Act.put,ps_,i64_w,i32_w]
                rfl
               refine one_ (i:=1) (N:=some 59) #[T_,T_,F_,F_,F_,T_,T_,F_,F_] rfl rfl (one_of HT_.out (by kernel_rfl)) (by decide) (fun K hK => ?_)
               refine goes_ Tryd.func23 (by kernel_rfl) rfl #[.int .u64 2] (by rfl) rfl rfl (by (try simp only [List.map_toArray,List.map_cons,List.map_nil]);first|done|rfl|(simp only [List.length_drop,List.length_take];rfl)) ?_
               with_reducible refine (dominoref05_v.calls kj28 2 t185 _ A33.out).mono ?_
               rintro e w39 ⟨rfl,hb⟩
               refine ⟨_,rfl,?_⟩
               have n0_:=am_ (blk_below (g:=gb164) (o:=.cells #[.int .u64 a0_0,.int .u64 a0_1,.int .u64 a0_2,.int .u64 a0_3,.int .u64 a0_4,.int .u64 a0_5,.int .u64 a0_6,.int .u64 a0_7,.int .u64 a0_8,.int .u64 a0_9,.int .u64 a0_10,.string a0_11] 26 (0,0)) (by (with_reducible repeat (first|refine kn_ ?_ _|refine kd_ ?_|refine ka_ ?_ _));exact BK164.out) hb)
               have n1_:=am_ (below_step (by repeat (first|(with_reducible first|exact HB.out|apply ba_|apply pn_|apply pd_|refine bs_ ?_ GE164.out)|exact HB.out)) hb)
               clear BK164
               clear HB
               have BK164:=n0_
               have HB:=n1_
               clear n0_ n1_
               (try clear hb)
               (try clear hb2)
               (try clear hk)
               (try clear hi)
               refine hK.out _ _ ⟨(kc_ BK164.out 0).trans rfl,(kc_ BK164.out 1).trans rfl,(kc_ BK164.out 2).trans rfl,(kc_ BK164.out 3).trans rfl,(kc_ BK164.out 4).trans rfl,(kc_ BK164.out 5).trans rfl,(kc_ BK164.out 6).trans rfl,(kc_ BK164.out 7).trans rfl,(kc_ BK164.out 8).trans rfl,(kc_ BK164.out 9).trans rfl,(kc_ BK164.out 10).trans rfl,(kc_ BK164.out 11).trans rfl⟩ (fun hHeld => ?_)
               clear hK K
               refine norm_ (a':=?_) ?_ ?_
               rotate_left
               ·show Act.put _ (some 59) _ = _
                simp only [Act.put,ps_,i64_w,i32_w]
                rfl
               refine pure_ (i:=2) (N:=some 60) (v:=?_) (a':=?_) #[T_,T_,T_,F_,F_,T_,T_,F_,F_] rfl rfl (any_of HT_.out (by kernel_rfl)) (fun _ _ _ h => h) (Or.inl ⟨by rfl,?_⟩) ?_ ?_
               rotate_left;(intro w';go_simp;with_reducible rfl);rotate_left;(simp only [Act.put,ps_,i64_w,i32_w];rfl)
               refine one_ (i:=3) (N:=some 61) #[T_,T_,T_,T_,F_,T_,T_,F_,F_] rfl rfl (one_of HT_.out (by kernel_rfl)) (by decide) (fun K hK => ?_)
               refine goes_ Tryd.func23 (by kernel_rfl) rfl #[.int .u64 16] (by rfl) rfl rfl (by (try simp only [List.map_toArray,List.map_cons,List.map_nil]);first|done|rfl|(simp only [List.length_drop,List.length_take];rfl)) ?_
               with_reducible refine (dominoref05_v.calls kj28 16 t186 _ A35.out).mono ?_
               rintro e w40 ⟨rfl,hb⟩
               refine ⟨_,rfl,?_⟩
               have n0_:=am_ (blk_below (g:=gb164) (o:=.cells #[.int .u64 a0_0,.int .u64 a0_1,.int .u64 a0_2,.int .u64 a0_3,.int .u64 a0_4,.int .u64 a0_5,.int .u64 a0_6,.int .u64 a0_7,.int .u64 a0_8,.int .u64 a0_9,.int .u64 a0_10,.string a0_11] 26 (0,0)) (by (with_reducible repeat (first|refine kn_ ?_ _|refine kd_ ?_|refine ka_ ?_ _));exact BK164.out) hb)
               have n1_:=am_ (below_step (by repeat (first|(with_reducible first|exact HB.out|apply ba_|apply pn_|apply pd_|refine bs_ ?_ GE164.out)|exact HB.out)) hb)
               clear BK164
               clear HB
               have BK164:=n0_
               have HB:=n1_
               clear n0_ n1_
               (try clear hb)
               (try clear hb2)
               (try clear hk)
               (try clear hi)
               refine hK.out _ _ ⟨(kc_ BK164.out 0).trans rfl,(kc_ BK164.out 1).trans rfl,(kc_ BK164.out 2).trans rfl,(kc_ BK164.out 3).trans rfl,(kc_ BK164.out 4).trans rfl,(kc_ BK164.out 5).trans rfl,(kc_ BK164.out 6).trans rfl,(kc_ BK164.out 7).trans rfl,(kc_ BK164.out 8).trans rfl,(kc_ BK164.out 9).trans rfl,(kc_ BK164.out 10).trans rfl,(kc_ BK164.out 11).trans rfl⟩ (fun hHeld => ?_)
               clear hK K
               refine norm_ (a':=?_) ?_ ?_
               rotate_left
               ·show Act.put _ (some 61) _ = _
                simp only [Act.put,ps_,i64_w,i32_w]
                rfl
               refine pure_ (i:=4) (N:=some 62) (v:=?_) (a':=?_) #[T_,T_,T_,T_,T_,T_,T_,F_,F_] rfl rfl (any_of HT_.out (by kernel_rfl)) (fun _ _ _ h => h) (Or.inl ⟨by rfl,?_⟩) ?_ ?_
               rotate_left;(intro w';go_simp;with_reducible rfl);rotate_left;(simp only [Act.put,ps_,i64_w,i32_w];rfl)
               refine pure_ (i:=7) (N:=some 65) (v:=?_) (a':=?_) #[T_,T_,T_,T_,T_,T_,T_,T_,F_] rfl rfl (any_of HT_.out (by kernel_rfl)) (fun _ _ _ h => h) (Or.inl ⟨by rfl,?_⟩) ?_ ?_
               rotate_left;(intro w';go_simp;with_reducible rfl);rotate_left;(simp only [Act.put,ps_,i64_w,i32_w];rfl)
               refine pure_ (i:=8) (N:=some 5) (v:=?_) (a':=?_) #[T_,T_,T_,T_,T_,T_,T_,T_,T_] rfl rfl (any_of HT_.out (by kernel_rfl)) (fun _ _ _ h => h) (Or.inl ⟨by rfl,?_⟩) ?_ ?_
               rotate_left;(intro w';go_simp;with_reducible rfl);rotate_left;(simp only [Act.put,ps_,i64_w,i32_w];rfl)
               refine done_ (done_of HT_.out (by kernel_rfl)) ?_
               try go_wp2
               go_roundg kj28
               case measure => have:=HK1.out;have:=HJ10.out;have:=HJ16.out;have:=HJ28.out;omega
               case rel => exact ⟨(((x5_16 ++ t185) ++ t186) ++ a0_11),(IntKind.u64.wrap (x6_1 + 1)),(by first|rfl|(simp;done)|(simp [*];done)),(by first|rfl|(simp;done)|(simp [*];done)),H',⟨by have:=HK1.out;have:=HJ10.out;have:=HJ16.out;have:=HJ28.out;omega⟩,⟨by (with_reducible repeat (first|refine kn_ ?_ _|refine kd_ ?_|refine ka_ ?_ _));exact BK164.out⟩,⟨by repeat (first|(with_reducible first|exact HB.out|apply ba_|apply pn_|apply pd_|refine bs_ ?_ GE164.out)|exact HB.out)⟩⟩
              ·rw [if_neg c37] at H
               exact absurd H (by simp)
             ·rw [if_neg c36] at H
              exact absurd H (by simp)
            ·rw [if_neg c34] at H
             exact absurd H (by simp)
           ·replace c32:=Bool.eq_false_iff.mpr c32
            subst c32
            have H1 : (dominoref05_Put.l0 kj28 x5_16 (IntKind.u64.wrap (x6_1 + 1)) a0_0 a0_1 a0_2 a0_3 a0_4 a0_5 a0_6 a0_7 a0_8 a0_9 a0_10 a0_11) = some (r1,r2):=by rw [if_neg (show ¬ (false = true) by decide)] at H;exact H
            clear H
            have H:=H1
            clear H1
            have H':=am_ H
            clear H
            go_wp2
            go_roundg kj28
            case measure => have:=HK1.out;have:=HJ10.out;have:=HJ16.out;have:=HJ28.out;omega
            case rel => exact ⟨(x5_16),(IntKind.u64.wrap (x6_1 + 1)),(by first|rfl|(simp;done)|(simp [*];done)),(by first|rfl|(simp;done)|(simp [*];done)),H',⟨by have:=HK1.out;have:=HJ10.out;have:=HJ16.out;have:=HJ28.out;omega⟩,⟨by (with_reducible repeat (first|refine kn_ ?_ _|refine kd_ ?_|refine ka_ ?_ _));exact BK164.out⟩,⟨by repeat (first|(with_reducible first|exact HB.out|apply ba_|apply pn_|apply pd_|refine bs_ ?_ GE164.out)|exact HB.out)⟩⟩
    ·rw [if_neg c7] at H
     have c7b0 : decide (x6_1 ≤ 14) = false:=decide_eq_false c7
     clear c7
     simp only [Option.some.injEq,Prod.mk.injEq] at H
     obtain ⟨rfl,rfl⟩:=H
     go_wp2
     go_ret2
     exact ⟨by first|rfl|(simp [errW_none,errW_some] <;> rfl)|(simp [*,errW_none,errW_some] <;> rfl),by repeat (first|(with_reducible first|exact HB.out|apply ba_|apply pn_|apply pd_|refine bs_ ?_ GE164.out)|exact HB.out)⟩
 ·rw [if_neg c3] at H
  have c3b0 : (t165 == 0) = false:=beq_eq_false_iff_ne.mpr c3
  have c3b1 : (t165 != 0) = true:=bne_iff_ne.mpr c3
  simp only [Option.some.injEq,Prod.mk.injEq] at H
  obtain ⟨rfl,rfl⟩:=H
  go_enter Tryd.func10,Tryd.ntmps10
  go_wp2_with (first|((with_reducible refine gate_dst (N:=1) rfl ?_);refine box_event ?hg (N:=1) ?hd (cs:=#[.int .u64 a0_0,.int .u64 a0_1,.int .u64 a0_2,.int .u64 a0_3,.int .u64 a0_4,.int .u64 a0_5,.int .u64 a0_6,.int .u64 a0_7,.int .u64 a0_8,.int .u64 a0_9,.int .u64 a0_10,.string a0_11]) (t:=26) ?hr ?_;(case hd => rfl);(case hg => rfl);(case hr => first|(go_simp;done)|(go_simp;rfl));intro gb164 hg w41 hbox hb;have n0_:=am_ (below_step (by repeat (first|(with_reducible first|exact HB.out|apply ba_|apply pn_|apply pd_)|exact HB.out)) hb);have n1_:=am_ (hbox);have n2_:=am_ ((by rw [hg];exact (below_size (by repeat (first|(with_reducible first|exact HB.out|apply ba_|apply pn_|apply pd_)|exact HB.out))) : w.heap.size ≤ gb164));have n3_:=am_ ((by rw [hg];exact (below_size (by repeat (first|(with_reducible first|exact HB.out|apply ba_|apply pn_|apply pd_)|exact HB.out))) : w.heap.size ≤ gb164));clear HB;have HB:=n0_;have BK164:=n1_;have GW164:=n2_;have GE164:=n3_;clear n0_ n1_ n2_ n3_;clear hb hbox hg;have hcz42_0 : w41.cell? ⟨gb164,0,none⟩ = some (.int .u64 a0_0):=(kc_ BK164.out 0).trans rfl;have hcz42_1 : w41.cell? ⟨gb164,1,none⟩ = some (.int .u64 a0_1):=(kc_ BK164.out 1).trans rfl;have hcz42_2 : w41.cell? ⟨gb164,2,none⟩ = some (.int .u64 a0_2):=(kc_ BK164.out 2).trans rfl;have hcz42_3 : w41.cell? ⟨gb164,3,none⟩ = some (.int .u64 a0_3):=(kc_ BK164.out 3).trans rfl;have hcz42_4 : w41.cell? ⟨gb164,4,none⟩ = some (.int .u64 a0_4):=(kc_ BK164.out 4).trans rfl;have hcz42_5 : w41.cell? ⟨gb164,5,none⟩ = some (.int .u64 a0_5):=(kc_ BK164.out 5).trans rfl;have hcz42_6 : w41.cell? ⟨gb164,6,none⟩ = some (.int .u64 a0_6):=(kc_ BK164.out 6).trans rfl;have hcz42_7 : w41.cell? ⟨gb164,7,none⟩ = some (.int .u64 a0_7):=(kc_ BK164.out 7).trans rfl;have hcz42_8 : w41.cell? ⟨gb164,8,none⟩ = some (.int .u64 a0_8):=(kc_ BK164.out 8).trans rfl;have hcz42_9 : w41.cell? ⟨gb164,9,none⟩ = some (.int .u64 a0_9):=(kc_ BK164.out 9).trans rfl;have hcz42_10 : w41.cell? ⟨gb164,10,none⟩ = some (.int .u64 a0_10):=(kc_ BK164.out 10).trans rfl;have hcz42_11 : w41.cell? ⟨gb164,11,none⟩ = some (.string a0_11):=(kc_ BK164.out 11).trans rfl;have hfz42_0:=blk_frozen BK164.out 0;have hfz42_1:=blk_frozen BK164.out 1;have hfz42_2:=blk_frozen BK164.out 2;have hfz42_3:=blk_frozen BK164.out 3;have hfz42_4:=blk_frozen BK164.out 4;have hfz42_5:=blk_frozen BK164.out 5;have hfz42_6:=blk_frozen BK164.out 6;have hfz42_7:=blk_frozen BK164.out 7;have hfz42_8:=blk_frozen BK164.out 8;have hfz42_9:=blk_frozen BK164.out 9;have hfz42_10:=blk_frozen BK164.out 10;have hfz42_11:=blk_frozen BK164.out 11; skip)|((with_reducible refine gate_callee (f:=14) rfl ?_);refine goesL_ (some 12) rfl rfl Tryd.func14 (by kernel_rfl) rfl #[.agg #[.int .u64 a0_0,.int .u64 a0_1,.int .u64 a0_2,.int .u64 a0_3,.int .u64 a0_4,.int .u64 a0_5,.int .u64 a0_6,.int .u64 a0_7,.int .u64 a0_8,.int .u64 a0_9,.int .u64 a0_10,.string a0_11]] rfl (by (try simp only [List.map_toArray,List.map_cons,List.map_nil]);first|done|rfl|(simp only [List.length_drop,List.length_take];rfl)) ?_;(with_reducible refine (dominoref05_Check.calls k a0_0 a0_1 a0_2 a0_3 a0_4 a0_5 a0_6 a0_7 a0_8 a0_9 a0_10 a0_11 t165 _ A2.out).mono ?_);rintro e w43 ⟨rfl,hb⟩;refine ⟨_,rfl,?_⟩;have n0_:=am_ (blk_below (g:=gb164) (o:=.cells #[.int .u64 a0_0,.int .u64 a0_1,.int .u64 a0_2,.int .u64 a0_3,.int .u64 a0_4,.int .u64 a0_5,.int .u64 a0_6,.int .u64 a0_7,.int .u64 a0_8,.int .u64 a0_9,.int .u64 a0_10,.string a0_11] 26 (0,0)) (by (with_reducible repeat (first|refine kn_ ?_ _|refine kd_ ?_|refine ka_ ?_ _));exact BK164.out) hb);have n1_:=am_ (below_step (by repeat (first|(with_reducible first|exact HB.out|apply ba_|apply pn_|apply pd_|refine bs_ ?_ GE164.out)|exact HB.out)) hb);clear BK164;clear HB;have BK164:=n0_;have HB:=n1_;clear n0_ n1_;(try clear hb);(try clear hb2);(try clear hk);(try clear hi)))
  go_ret2
  exact ⟨by first|rfl|(simp [errW_none,errW_some] <;> rfl)|(simp [*,errW_none,errW_some] <;> rfl),by repeat (first|(with_reducible first|exact HB.out|apply ba_|apply pn_|apply pd_|refine bs_ ?_ GE164.out)|exact HB.out)⟩

end Go.Proofs.YthbnedjcaflofaaDoor.PPax
