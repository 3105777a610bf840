-- printed for this claim by a program of the claim (wip/tools/pp.py over the kit's print)
import Derived.Test.YtocagkmnefkniaaPSqcx0
namespace Go.Proofs.Ytocagkmnefkniaa.PSqc
open Go.RowKit Go.Proofs.YtocagkmnefkniaaW.PrintWords Go.Proofs.YtocagkmnefkniaaW.PrintLast Go.Proofs.YtocagkmnefkniaaW.PrintMore
attribute [local go_sem] max2_int min2_int max_two min_two max_three min_three max_four min_four   -- for this text's walks alone
set_option linter.unusedVariables false
set_option linter.unusedSimpArgs false

attribute [local go_sem] isSome_setCell_
/-! ### dominolaw15_bounded: function 8 -/
def dominolaw15_bounded.l0 : Nat → List (S35) → Int → Option (Bool)
 | 0,_,_ => none
 | k + 1,x0,x3 => if x3 < (x0.length : Int) then (if 0 ≤ x3 then (if (((rd_T35 x0 x3).f3).size : Int) > 100 then (some false) else (if ((rd_T35 x0 x3).f1) > 1048576 then (some false) else (if ((rd_T35 x0 x3).f2) > 4611686018427387903 then (some false) else (dominolaw15_bounded.l0 k x0 (wrap64 (x3 + 1)))))) else (none)) else (some (decide ((x0.length : Int) ≤ 60)))
def dominolaw15_bounded.f (k : Nat) (l0 : List (S35)) : Option (Bool):=dominolaw15_bounded.l0 k l0 0
theorem dominolaw15_bounded.mono_l : ∀ k,(∀ y0 y1,LeO (dominolaw15_bounded.l0 k y0 y1) (dominolaw15_bounded.l0 (k + 1) y0 y1))
 | 0 => fun _ _ r h => by simp [dominolaw15_bounded.l0] at h
 | k + 1 => by
  have ih0:=dominolaw15_bounded.mono_l k
  ·intro y0 y1
   unfold dominolaw15_bounded.l0
   repeat' first
   | (with_reducible exact ih0 _ _)
   | (with_reducible exact LeO.refl _)
   | (with_reducible exact LeO.none _)
   | (with_reducible refine LeO.ite ?_ ?_)
   | (with_reducible refine LeO.bind ?_ (fun _ => ?_))
   | exact ih0 _ _
   | exact LeO.none _
   | refine LeO.ite ?_ ?_
   | refine LeO.bind ?_ (fun _ => ?_)
theorem dominolaw15_bounded.mono : ∀ a0 k,LeO (dominolaw15_bounded.f k a0) (dominolaw15_bounded.f (k + 1) a0):=by
 intro a0 k
 have ih0:=dominolaw15_bounded.mono_l k
 unfold dominolaw15_bounded.f
 repeat' first
   | (with_reducible exact ih0 _ _)
   | (with_reducible exact LeO.refl _)
   | (with_reducible exact LeO.none _)
   | (with_reducible refine LeO.ite ?_ ?_)
   | (with_reducible refine LeO.bind ?_ (fun _ => ?_))
   | exact ih0 _ _
   | exact LeO.none _
   | refine LeO.ite ?_ ?_
   | refine LeO.bind ?_ (fun _ => ?_)
set_option maxHeartbeats 8000000 in
set_option maxRecDepth 100000 in
theorem dominolaw15_bounded.calls (k : Nat) (A0 : Option Addr) (c0 : Nat) (l0 : List (S35)) (r : Bool) (w : World) (hr0 : Kd.C k35 w A0 l0.length l0) (hc0 : l0.length ≤ c0) (h : dominolaw15_bounded.f k l0 = some r) :
  Calls Try.prog 8 #[.slice A0 l0.length c0] w fun e w' => e = .returned (.bool r) ∧ Drawn0 w w':=by
 have HR0:=am_ hr0
 have HC0:=am_ hc0
 clear hr0 hc0
 have H : (dominolaw15_bounded.l0 k l0 0) = some r:=h
 clear h
 have H':=am_ H
 clear H
 go_enter Try.func8,Try.ntmps8
 go_wp2
 go_loopg [3] k (fun kq v3 w' => ∃ (x3_1 : Int),v3 = .int .i64 x3_1 ∧ Aside0 (dominolaw15_bounded.l0 kq l0 x3_1 = some r) ∧ Aside0 (kq ≤ k) ∧ Drawn0 w w')
 case atStart => exact ⟨(0),(by first|rfl|(simp;done)|(simp [*];done)),H',⟨Nat.le_refl _⟩,by repeat (first|exact Drawn0.refl _|apply Drawn0.step)⟩
 case round =>
  clear H'
  obtain ⟨x3_1,rfl,HA,HK1,⟨m1,rfl⟩⟩:=hrel
  cases gk with
  | zero => exact absurd HA.out (by simp [dominolaw15_bounded.l0])
  | succ k1 =>
   have H:=HA.out
   clear HA
   simp only [dominolaw15_bounded.l0] at H
   by_cases c2 : x3_1 < (l0.length : Int)
   ·rw [if_pos c2] at H
    have c2b0 : decide (x3_1 < (l0.length : Int)) = true:=decide_eq_true c2
    clear c2
    by_cases c3 : 0 ≤ x3_1
    ·rw [if_pos c3] at H
     have c3b0 : decide (0 ≤ x3_1) = true:=decide_eq_true c3
     clear c3
     by_cases c4 : (((rd_T35 l0 x3_1).f3).size : Int) > 100
     ·rw [if_pos c4] at H
      have c4b0 : decide (100 < (((rd_T35 l0 x3_1).f3).size : Int)) = true:=decide_eq_true c4
      have c4b1 : decide (100 < ((rd_T35 l0 x3_1).f3).size) = true:=decide_eq_true (by omega)
      clear c4
      obtain rfl:=Option.some.inj H
      have p101 : 0 ≤ (x3_1 : Int):=of_decide_eq_true (by first|(with_reducible assumption)|assumption)
      have q101 : x3_1 < (l0.length : Int):=of_decide_eq_true (by first|(with_reducible assumption)|assumption)
      obtain ⟨ad101,e101,hx101_0,hx101_1,hx101_2,hx101_3,hx101_4⟩:=at_T35 HR0.out x3_1 p101 q101
      cases e101
      replace p101:=eq_true p101
      replace q101:=eq_true q101
      go_wp2
      go_ret
      exact ⟨by first|rfl|(simp;done)|(simp [*];done),by repeat (first|exact Drawn0.refl _|apply Drawn0.step)⟩
     ·rw [if_neg c4] at H
      have c4b0 : decide (100 < (((rd_T35 l0 x3_1).f3).size : Int)) = false:=decide_eq_false c4
      have c4b1 : decide (100 < ((rd_T35 l0 x3_1).f3).size) = false:=decide_eq_false (by omega)
      clear c4
      by_cases c5 : ((rd_T35 l0 x3_1).f1) > 1048576
      ·rw [if_pos c5] at H
       have c5b0 : decide (1048576 < ((rd_T35 l0 x3_1).f1)) = true:=decide_eq_true c5
       clear c5
       obtain rfl:=Option.some.inj H
       have p101 : 0 ≤ (x3_1 : Int):=of_decide_eq_true (by first|(with_reducible assumption)|assumption)
       have q101 : x3_1 < (l0.length : Int):=of_decide_eq_true (by first|(with_reducible assumption)|assumption)
       obtain ⟨ad101,e101,hx101_0,hx101_1,hx101_2,hx101_3,hx101_4⟩:=at_T35 HR0.out x3_1 p101 q101
       cases e101
       replace p101:=eq_true p101
       replace q101:=eq_true q101
       have p102 : 0 ≤ (x3_1 : Int):=of_decide_eq_true (by first|(with_reducible assumption)|assumption)
       have q102 : x3_1 < (l0.length : Int):=of_decide_eq_true (by first|(with_reducible assumption)|assumption)
       obtain ⟨ad102,e102,hx102_0,hx102_1,hx102_2,hx102_3,hx102_4⟩:=at_T35 HR0.out x3_1 p102 q102
       obtain rfl : ad101 = ad102:=(by injection e102)
       replace p102:=eq_true p102
       replace q102:=eq_true q102
       go_wp2
       go_ret
       exact ⟨by first|rfl|(simp;done)|(simp [*];done),by repeat (first|exact Drawn0.refl _|apply Drawn0.step)⟩
      ·rw [if_neg c5] at H
       have c5b0 : decide (1048576 < ((rd_T35 l0 x3_1).f1)) = false:=decide_eq_false c5
       clear c5
       by_cases c6 : ((rd_T35 l0 x3_1).f2) > 4611686018427387903
       ·rw [if_pos c6] at H
        have c6b0 : decide (4611686018427387903 < ((rd_T35 l0 x3_1).f2)) = true:=decide_eq_true c6
        clear c6
        obtain rfl:=Option.some.inj H
        have p101 : 0 ≤ (x3_1 : Int):=of_decide_eq_true (by first|(with_reducible assumption)|assumption)
        have q101 : x3_1 < (l0.length : Int):=of_decide_eq_true (by first|(with_reducible assumption)|assumption)
        obtain ⟨ad101,e101,hx101_0,hx101_1,hx101_2,hx101_3,hx101_4⟩:=at_T35 HR0.out x3_1 p101 q101
        cases e101
        replace p101:=eq_true p101
        replace q101:=eq_true q101
        have p102 : 0 ≤ (x3_1 : Int):=of_decide_eq_true (by first|(with_reducible assumption)|assumption)
        have q102 : x3_1 < (l0.length : Int):=of_decide_eq_true (by first|(with_reducible assumption)|assumption)
        obtain ⟨ad102,e102,hx102_0,hx102_1,hx102_2,hx102_3,hx102_4⟩:=at_T35 HR0.out x3_1 p102 q102
        obtain rfl : ad101 = ad102:=(by injection e102)
        replace p102:=eq_true p102
        replace q102:=eq_true q102
        have p103 : 0 ≤ (x3_1 : Int):=of_decide_eq_true (by first|(with_reducible assumption)|assumption)
        have q103 : x3_1 < (l0.length : Int):=of_decide_eq_true (by first|(with_reducible assumption)|assumption)
        obtain ⟨ad103,e103,hx103_0,hx103_1,hx103_2,hx103_3,hx103_4⟩:=at_T35 HR0.out x3_1 p103 q103
        obtain rfl : ad101 = ad103:=(by injection e103)
        replace p103:=eq_true p103
        replace q103:=eq_true q103
        go_wp2
        go_ret
        exact ⟨by first|rfl|(simp;done)|(simp [*];done),by repeat (first|exact Drawn0.refl _|apply Drawn0.step)⟩
       ·rw [if_neg c6] at H
        have c6b0 : decide (4611686018427387903 < ((rd_T35 l0 x3_1).f2)) = false:=decide_eq_false c6
        clear c6
        have H':=am_ H
        clear H
        have p101 : 0 ≤ (x3_1 : Int):=of_decide_eq_true (by first|(with_reducible assumption)|assumption)
        have q101 : x3_1 < (l0.length : Int):=of_decide_eq_true (by first|(with_reducible assumption)|assumption)
        obtain ⟨ad101,e101,hx101_0,hx101_1,hx101_2,hx101_3,hx101_4⟩:=at_T35 HR0.out x3_1 p101 q101
        cases e101
        replace p101:=eq_true p101
        replace q101:=eq_true q101
        have p102 : 0 ≤ (x3_1 : Int):=of_decide_eq_true (by first|(with_reducible assumption)|assumption)
        have q102 : x3_1 < (l0.length : Int):=of_decide_eq_true (by first|(with_reducible assumption)|assumption)
        obtain ⟨ad102,e102,hx102_0,hx102_1,hx102_2,hx102_3,hx102_4⟩:=at_T35 HR0.out x3_1 p102 q102
        obtain rfl : ad101 = ad102:=(by injection e102)
        replace p102:=eq_true p102
        replace q102:=eq_true q102
        have p103 : 0 ≤ (x3_1 : Int):=of_decide_eq_true (by first|(with_reducible assumption)|assumption)
        have q103 : x3_1 < (l0.length : Int):=of_decide_eq_true (by first|(with_reducible assumption)|assumption)
        obtain ⟨ad103,e103,hx103_0,hx103_1,hx103_2,hx103_3,hx103_4⟩:=at_T35 HR0.out x3_1 p103 q103
        obtain rfl : ad101 = ad103:=(by injection e103)
        replace p103:=eq_true p103
        replace q103:=eq_true q103
        go_wp2
        go_roundg k1
        case measure => have:=HK1.out;omega
        case rel => exact ⟨(wrap64 (x3_1 + 1)),(by first|rfl|(simp;done)|(simp [*];done)),H',⟨by have:=HK1.out;omega⟩,by repeat (first|exact Drawn0.refl _|apply Drawn0.step)⟩
    ·rw [if_neg c3] at H
     exact absurd H (by simp)
   ·rw [if_neg c2] at H
    have c2b0 : decide (x3_1 < (l0.length : Int)) = false:=decide_eq_false c2
    clear c2
    obtain rfl:=Option.some.inj H
    go_wp2
    go_ret
    exact ⟨by first|rfl|(simp;done)|(simp [*];done),by repeat (first|exact Drawn0.refl _|apply Drawn0.step)⟩

/-! ### sendq_State_end: function 29 -/
def sendq_State_end.f (a0_0 : Int) (a0_1 : Int) (a0_2 : ByteArray) (l0_3 : List (S67)) (l0_4 : List (S67)) (a0_5 : Bool) (a0_6 : Bool) (a0_7 : Bool) : Option (Int):=some (IntKind.u64.wrap (a0_0 + (IntKind.u64.wrap ((a0_2.size : Int)))))
set_option maxHeartbeats 8000000 in
set_option maxRecDepth 100000 in
theorem sendq_State_end.calls (a0_0 : Int) (a0_1 : Int) (a0_2 : ByteArray) (A0_3 : Option Addr) (c0_3 : Nat) (l0_3 : List (S67)) (A0_4 : Option Addr) (c0_4 : Nat) (l0_4 : List (S67)) (a0_5 : Bool) (a0_6 : Bool) (a0_7 : Bool) (r : Int) (w : World) (hr0_3 : Kd.C k67 w A0_3 l0_3.length l0_3) (hc0_3 : l0_3.length ≤ c0_3) (hr0_4 : Kd.C k67 w A0_4 l0_4.length l0_4) (hc0_4 : l0_4.length ≤ c0_4) (h : sendq_State_end.f a0_0 a0_1 a0_2 l0_3 l0_4 a0_5 a0_6 a0_7 = some r) :
  Calls Try.prog 29 #[.agg #[.int .u64 a0_0,.int .u64 a0_1,.string a0_2,.slice A0_3 l0_3.length c0_3,.slice A0_4 l0_4.length c0_4,.bool a0_5,.bool a0_6,.bool a0_7]] w fun e w' => e = .returned (.int .u64 r) ∧ Below w.heap.size w w':=by
 have hu29:=Try.underlying29
 have HR0_3:=am_ hr0_3
 have HC0_3:=am_ hc0_3
 clear hr0_3 hc0_3
 have HR0_4:=am_ hr0_4
 have HC0_4:=am_ hc0_4
 clear hr0_4 hc0_4
 have HB:=am_ (Below.refl w.heap.size w)
 have H : (some (IntKind.u64.wrap (a0_0 + (IntKind.u64.wrap ((a0_2.size : Int)))))) = some r:=h
 clear h
 obtain rfl:=Option.some.inj H
 go_enter Try.func29,Try.ntmps29
 go_wp2_with (first|((with_reducible refine gate_dst (N:=1) rfl ?_);refine box_event ?hg (N:=1) ?hd (cs:=#[.int .u64 a0_0,.int .u64 a0_1,.string a0_2,.slice A0_3 l0_3.length c0_3,.slice A0_4 l0_4.length c0_4,.bool a0_5,.bool a0_6,.bool a0_7]) (t:=29) ?hr ?_;(case hd => rfl);(case hg => rfl);(case hr => first|(go_simp;done)|(go_simp;rfl));intro gb104 hg w2 hbox hb;have n0_:=am_ (below_step (by repeat (first|(with_reducible first|exact HB.out|apply ba_|apply pn_|apply pd_)|exact HB.out)) hb);have n1_:=am_ (hbox);have n2_:=am_ ((by rw [hg];exact (below_size (by repeat (first|(with_reducible first|exact HB.out|apply ba_|apply pn_|apply pd_)|exact HB.out))) : w.heap.size ≤ gb104));have n3_:=am_ ((by rw [hg];exact (below_size (by repeat (first|(with_reducible first|exact HB.out|apply ba_|apply pn_|apply pd_)|exact HB.out))) : w.heap.size ≤ gb104));clear HB;have HB:=n0_;have BK104:=n1_;have GW104:=n2_;have GE104:=n3_;clear n0_ n1_ n2_ n3_;clear hb hbox hg;have hcz3_0 : w2.cell? ⟨gb104,0,none⟩ = some (.int .u64 a0_0):=(kc_ BK104.out 0).trans rfl;have hcz3_1 : w2.cell? ⟨gb104,1,none⟩ = some (.int .u64 a0_1):=(kc_ BK104.out 1).trans rfl;have hcz3_2 : w2.cell? ⟨gb104,2,none⟩ = some (.string a0_2):=(kc_ BK104.out 2).trans rfl;have hcz3_3 : w2.cell? ⟨gb104,3,none⟩ = some (.slice A0_3 l0_3.length c0_3):=(kc_ BK104.out 3).trans rfl;have hcz3_4 : w2.cell? ⟨gb104,4,none⟩ = some (.slice A0_4 l0_4.length c0_4):=(kc_ BK104.out 4).trans rfl;have hcz3_5 : w2.cell? ⟨gb104,5,none⟩ = some (.bool a0_5):=(kc_ BK104.out 5).trans rfl;have hcz3_6 : w2.cell? ⟨gb104,6,none⟩ = some (.bool a0_6):=(kc_ BK104.out 6).trans rfl;have hcz3_7 : w2.cell? ⟨gb104,7,none⟩ = some (.bool a0_7):=(kc_ BK104.out 7).trans rfl;have hfz3_0:=blk_frozen BK104.out 0;have hfz3_1:=blk_frozen BK104.out 1;have hfz3_2:=blk_frozen BK104.out 2;have hfz3_3:=blk_frozen BK104.out 3;have hfz3_4:=blk_frozen BK104.out 4;have hfz3_5:=blk_frozen BK104.out 5;have hfz3_6:=blk_frozen BK104.out 6;have hfz3_7:=blk_frozen BK104.out 7; skip))
 go_ret
 exact ⟨by first|rfl|(simp [errW_none,errW_some] <;> rfl)|(simp [*,errW_none,errW_some] <;> rfl),by repeat (first|(with_reducible first|exact HB.out|apply ba_|apply pn_|apply pd_|refine bs_ ?_ GE104.out)|exact HB.out)⟩

end Go.Proofs.Ytocagkmnefkniaa.PSqc
