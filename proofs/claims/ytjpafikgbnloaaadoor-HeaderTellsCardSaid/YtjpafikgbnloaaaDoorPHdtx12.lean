-- printed for this claim by a program of the claim (wip/tools/pp.py over the kit's print)
import Derived.Test.YtjpafikgbnloaaaDoorPHdtx0
import Derived.Test.YtjpafikgbnloaaaDoorPHdtx10
namespace Go.Proofs.YtjpafikgbnloaaaDoor.PHdt
open Go.RowKit Go.Proofs.YtjpafikgbnloaaaDoorW.PrintWords Go.Proofs.YtjpafikgbnloaaaDoorW.PrintLast Go.Proofs.YtjpafikgbnloaaaDoorW.PrintMore
attribute [local go_sem] max2_int min2_int max_two min_two max_three min_three max_four min_four   -- for this text's walks alone
set_option linter.unusedVariables false
set_option linter.unusedSimpArgs false

attribute [local go_sem] isSome_setCell_
/-! ### dominoref01_Back: function 36 -/
def dominoref01_Back.l0 : Nat → ByteArray → Int → Int → Option (Int)
 | 0,_,_,_ => none
 | k + 1,x0,x3,x4 => if x4 < (x0.size : Int) then (if 0 ≤ x4 then (dominoref01_Back.l0 k x0 (IntKind.u64.wrap ((IntKind.u64.wrap (x3 * 256)) + (IntKind.u64.wrap (bt x0 x4)))) (wrap64 (x4 + 1))) else (none)) else (some x3)
def dominoref01_Back.f (k : Nat) (a0 : ByteArray) : Option (Int):=dominoref01_Back.l0 k a0 0 0
theorem dominoref01_Back.mono_l : ∀ k,(∀ y0 y1 y2,LeO (dominoref01_Back.l0 k y0 y1 y2) (dominoref01_Back.l0 (k + 1) y0 y1 y2))
 | 0 => fun _ _ _ r h => by simp [dominoref01_Back.l0] at h
 | k + 1 => by
  have ih0:=dominoref01_Back.mono_l k
  ·intro y0 y1 y2
   unfold dominoref01_Back.l0
   repeat' first
   | (with_reducible exact ih0 _ _ _)
   | (with_reducible exact LeO.refl _)
   | (with_reducible exact LeO.none _)
   | (with_reducible refine LeO.ite ?_ ?_)
   | (with_reducible refine LeO.bind ?_ (fun _ => ?_))
   | exact ih0 _ _ _
   | exact LeO.none _
   | refine LeO.ite ?_ ?_
   | refine LeO.bind ?_ (fun _ => ?_)
theorem dominoref01_Back.mono : ∀ a0 k,LeO (dominoref01_Back.f k a0) (dominoref01_Back.f (k + 1) a0):=by
 intro a0 k
 have ih0:=dominoref01_Back.mono_l k
 unfold dominoref01_Back.f
 repeat' first
   | (with_reducible exact ih0 _ _ _)
   | (with_reducible exact LeO.refl _)
   | (with_reducible exact LeO.none _)
   | (with_reducible refine LeO.ite ?_ ?_)
   | (with_reducible refine LeO.bind ?_ (fun _ => ?_))
   | exact ih0 _ _ _
   | exact LeO.none _
   | refine LeO.ite ?_ ?_
   | refine LeO.bind ?_ (fun _ => ?_)
set_option maxHeartbeats 8000000 in
set_option maxRecDepth 100000 in
theorem dominoref01_Back.calls (k : Nat) (a0 : ByteArray) (r : Int) (w : World) (h : dominoref01_Back.f k a0 = some r) :
  Calls Tryd.prog 36 #[.string a0] w fun e w' => e = .returned (.int .u64 r) ∧ Drawn0 w w':=by
 have H : (dominoref01_Back.l0 k a0 0 0) = some r:=h
 clear h
 have H':=am_ H
 clear H
 go_enter Tryd.func36,Tryd.ntmps36
 go_wp2
 go_loopg [3,4] k (fun kq v3 v4 w' => ∃ (x3_1 : Int) (x4_1 : Int),v3 = .int .u64 x3_1 ∧ v4 = .int .i64 x4_1 ∧ Aside0 (dominoref01_Back.l0 kq a0 x3_1 x4_1 = some r) ∧ Aside0 (kq ≤ k) ∧ Drawn0 w w')
 case atStart => exact ⟨(0),(0),(by first|rfl|(simp;done)|(simp [*];done)),(by first|rfl|(simp;done)|(simp [*];done)),H',⟨Nat.le_refl _⟩,by repeat (first|exact Drawn0.refl _|apply Drawn0.step)⟩
 case round =>
  clear H'
  obtain ⟨x3_1,x4_1,rfl,rfl,HA,HK1,⟨m1,rfl⟩⟩:=hrel
  cases gk with
  | zero => exact absurd HA.out (by simp [dominoref01_Back.l0])
  | succ k1 =>
   have H:=HA.out
   clear HA
   simp only [dominoref01_Back.l0] at H
   by_cases c2 : x4_1 < (a0.size : Int)
   ·rw [if_pos c2] at H
    have c2b0 : decide (x4_1 < (a0.size : Int)) = true:=decide_eq_true c2
    clear c2
    by_cases c3 : 0 ≤ x4_1
    ·rw [if_pos c3] at H
     have c3b0 : decide (0 ≤ x4_1) = true:=decide_eq_true c3
     clear c3
     have H':=am_ H
     clear H
     have p4 : 0 ≤ (x4_1 : Int):=of_decide_eq_true (by first|(with_reducible assumption)|assumption)
     have q4 : x4_1 < (a0.size : Int):=of_decide_eq_true (by first|(with_reducible assumption)|assumption)
     have hx4:=bt_at a0 x4_1
     replace p4:=eq_true p4
     replace q4:=eq_true q4
     go_wp2
     go_roundg k1
     case measure => have:=HK1.out;omega
     case rel => exact ⟨(IntKind.u64.wrap ((IntKind.u64.wrap (x3_1 * 256)) + (IntKind.u64.wrap (bt a0 x4_1)))),(wrap64 (x4_1 + 1)),(by first|rfl|(simp;done)|(simp [*];done)),(by first|rfl|(simp;done)|(simp [*];done)),H',⟨by have:=HK1.out;omega⟩,by repeat (first|exact Drawn0.refl _|apply Drawn0.step)⟩
    ·rw [if_neg c3] at H
     exact absurd H (by simp)
   ·rw [if_neg c2] at H
    have c2b0 : decide (x4_1 < (a0.size : Int)) = false:=decide_eq_false c2
    clear c2
    obtain rfl:=Option.some.inj H
    go_wp2
    go_ret
    exact ⟨by first|rfl|(simp;done)|(simp [*];done),by repeat (first|exact Drawn0.refl _|apply Drawn0.step)⟩

/-! ### dominoref04_id: function 49 -/
def dominoref04_id.f (a0 : ByteArray) : Option (ByteArray × ByteArray × Bool):=if a0.toList = ([] : List UInt8) then (some ((⟨#[]⟩ : ByteArray),(⟨#[]⟩ : ByteArray),false)) else (if 0 < (a0.size : Int) then (if (wrap64 (bt a0 0)) > 20 then (some ((⟨#[]⟩ : ByteArray),(⟨#[]⟩ : ByteArray),false)) else (if (a0.size : Int) < (wrap64 (1 + (wrap64 (bt a0 0)))) then (some ((⟨#[]⟩ : ByteArray),(⟨#[]⟩ : ByteArray),false)) else (if 1 ≤ (wrap64 (1 + (wrap64 (bt a0 0)))) then (if (wrap64 (1 + (wrap64 (bt a0 0)))) ≤ (a0.size : Int) then (if 0 ≤ (wrap64 (1 + (wrap64 (bt a0 0)))) then (some (a0.extract 1 ((wrap64 (1 + (wrap64 (bt a0 0)))) : Int).toNat,a0.extract ((wrap64 (1 + (wrap64 (bt a0 0)))) : Int).toNat a0.size,true)) else (none)) else (none)) else (none)))) else (none))
set_option maxHeartbeats 8000000 in
set_option maxRecDepth 100000 in
theorem dominoref04_id.calls (a0 : ByteArray) (r1 : ByteArray) (r2 : ByteArray) (r3 : Bool) (w : World) (h : dominoref04_id.f a0 = some (r1,r2,r3)) :
  Calls Tryd.prog 49 #[.string a0] w fun e w' => e = .returned (.tuple #[.string r1,.string r2,.bool r3]) ∧ Drawn0 w w':=by
 have H : (if a0.toList = ([] : List UInt8) then (some ((⟨#[]⟩ : ByteArray),(⟨#[]⟩ : ByteArray),false)) else (if 0 < (a0.size : Int) then (if (wrap64 (bt a0 0)) > 20 then (some ((⟨#[]⟩ : ByteArray),(⟨#[]⟩ : ByteArray),false)) else (if (a0.size : Int) < (wrap64 (1 + (wrap64 (bt a0 0)))) then (some ((⟨#[]⟩ : ByteArray),(⟨#[]⟩ : ByteArray),false)) else (if 1 ≤ (wrap64 (1 + (wrap64 (bt a0 0)))) then (if (wrap64 (1 + (wrap64 (bt a0 0)))) ≤ (a0.size : Int) then (if 0 ≤ (wrap64 (1 + (wrap64 (bt a0 0)))) then (some (a0.extract 1 ((wrap64 (1 + (wrap64 (bt a0 0)))) : Int).toNat,a0.extract ((wrap64 (1 + (wrap64 (bt a0 0)))) : Int).toNat a0.size,true)) else (none)) else (none)) else (none)))) else (none))) = some (r1,r2,r3):=h
 clear h
 by_cases c2 : a0.toList = ([] : List UInt8)
 ·rw [if_pos c2] at H
  have c2b0 : (a0.toList == ([] : List UInt8)) = true:=beq_iff_eq.mpr c2
  have c2b1 : (a0.toList != ([] : List UInt8)) = false:=bne_eq_false_iff_eq.mpr c2
  clear c2
  simp only [Option.some.injEq,Prod.mk.injEq] at H
  obtain ⟨rfl,rfl,rfl⟩:=H
  go_enter Tryd.func49,Tryd.ntmps49
  go_wp2
  repeat (go_quiet (fail);try go_wp2)
  go_ret3
  exact ⟨by first|rfl|(simp;done)|(simp [*];done),by repeat (first|exact Drawn0.refl _|apply Drawn0.step)⟩
 ·rw [if_neg c2] at H
  have c2b0 : (a0.toList == ([] : List UInt8)) = false:=beq_eq_false_iff_ne.mpr c2
  have c2b1 : (a0.toList != ([] : List UInt8)) = true:=bne_iff_ne.mpr c2
  by_cases c3 : 0 < (a0.size : Int)
  ·rw [if_pos c3] at H
   have c3b0 : decide (0 < (a0.size : Int)) = true:=decide_eq_true c3
   have c3b1 : decide (0 < a0.size) = true:=decide_eq_true (by omega)
   clear c3
   by_cases c5 : (wrap64 (bt a0 0)) > 20
   ·rw [if_pos c5] at H
    have c5b0 : decide (20 < (wrap64 (bt a0 0))) = true:=decide_eq_true c5
    clear c5
    simp only [Option.some.injEq,Prod.mk.injEq] at H
    obtain ⟨rfl,rfl,rfl⟩:=H
    have p4 : 0 ≤ (0 : Int):=(by omega)
    have q4 : 0 < a0.size:=(by have : (0 : Int) < (a0.size : Int):=of_decide_eq_true (by first|(with_reducible assumption)|assumption);omega)
    have hx4 : ∀ h : 0 < a0.size,((a0[0]'h).toNat : Int) = bt a0 0:=bt_at a0 0
    clear p4
    have qi4 : (0 < (a0.size : Int)) = True:=eq_true (of_decide_eq_true (by first|(with_reducible assumption)|assumption))
    replace q4:=eq_true q4
    go_enter Tryd.func49,Tryd.ntmps49
    go_wp2
    repeat (go_quiet (fail);try go_wp2)
    go_ret3
    exact ⟨by first|rfl|(simp;done)|(simp [*];done),by repeat (first|exact Drawn0.refl _|apply Drawn0.step)⟩
   ·rw [if_neg c5] at H
    have c5b0 : decide (20 < (wrap64 (bt a0 0))) = false:=decide_eq_false c5
    clear c5
    by_cases c7 : (a0.size : Int) < (wrap64 (1 + (wrap64 (bt a0 0))))
    ·rw [if_pos c7] at H
     have c7b0 : decide ((a0.size : Int) < (wrap64 (1 + (wrap64 (bt a0 0))))) = true:=decide_eq_true c7
     clear c7
     simp only [Option.some.injEq,Prod.mk.injEq] at H
     obtain ⟨rfl,rfl,rfl⟩:=H
     have p4 : 0 ≤ (0 : Int):=(by omega)
     have q4 : 0 < a0.size:=(by have : (0 : Int) < (a0.size : Int):=of_decide_eq_true (by first|(with_reducible assumption)|assumption);omega)
     have hx4 : ∀ h : 0 < a0.size,((a0[0]'h).toNat : Int) = bt a0 0:=bt_at a0 0
     clear p4
     have qi4 : (0 < (a0.size : Int)) = True:=eq_true (of_decide_eq_true (by first|(with_reducible assumption)|assumption))
     replace q4:=eq_true q4
     have p6 : 0 ≤ (0 : Int):=(by omega)
     have q6 : 0 < a0.size:=(by have : (0 : Int) < (a0.size : Int):=of_decide_eq_true (by first|(with_reducible assumption)|assumption);omega)
     have hx6 : ∀ h : 0 < a0.size,((a0[0]'h).toNat : Int) = bt a0 0:=bt_at a0 0
     clear p6
     have qi6 : (0 < (a0.size : Int)) = True:=eq_true (of_decide_eq_true (by first|(with_reducible assumption)|assumption))
     replace q6:=eq_true q6
     go_enter Tryd.func49,Tryd.ntmps49
     go_wp2
     repeat (go_quiet (fail);try go_wp2)
     go_ret3
     exact ⟨by first|rfl|(simp;done)|(simp [*];done),by repeat (first|exact Drawn0.refl _|apply Drawn0.step)⟩
    ·rw [if_neg c7] at H
     have c7b0 : decide ((a0.size : Int) < (wrap64 (1 + (wrap64 (bt a0 0))))) = false:=decide_eq_false c7
     clear c7
     by_cases c9 : 1 ≤ (wrap64 (1 + (wrap64 (bt a0 0))))
     ·rw [if_pos c9] at H
      have c9b0:=eq_true c9
      have c9b1 : decide (1 ≤ (wrap64 (1 + (wrap64 (bt a0 0))))) = true:=decide_eq_true c9
      by_cases c10 : (wrap64 (1 + (wrap64 (bt a0 0)))) ≤ (a0.size : Int)
      ·rw [if_pos c10] at H
       have c10b0:=eq_true c10
       have c10b1 : decide ((wrap64 (1 + (wrap64 (bt a0 0)))) ≤ (a0.size : Int)) = true:=decide_eq_true c10
       obtain ⟨ji11,hji11⟩ : ∃ j_ : Int,(wrap64 (1 + (wrap64 (bt a0 0)))) = j_:=⟨_,rfl⟩
       replace H : (if 0 ≤ (ji11) then (some (a0.extract 1 ((ji11) : Int).toNat,a0.extract ((ji11) : Int).toNat a0.size,true)) else (none)) = some (r1,r2,r3):=by first|(rw [hji11] at H;exact H)|(simp only [hji11] at H ⊢;exact H)
       (try rw [hji11] at c7b0)
       (try rw [hji11] at c9b0)
       (try rw [hji11] at c9b1)
       (try rw [hji11] at c9)
       (try rw [hji11] at c10b0)
       (try rw [hji11] at c10b1)
       (try rw [hji11] at c10)
       have hji11w : (IntKind.i64.wrap (1 + (wrap64 (bt a0 0)))) = ji11:=(i64_w _).trans hji11
       by_cases c12 : 0 ≤ (ji11)
       ·rw [if_pos c12] at H
        have c12b0:=eq_true c12
        have c12b1 : decide (0 ≤ (ji11)) = true:=decide_eq_true c12
        clear c12
        have c13b0:=eq_true (of_decide_eq_true (by first|(with_reducible assumption)|assumption) : (ji11) ≤ (a0.size : Int))
        simp only [Option.some.injEq,Prod.mk.injEq] at H
        obtain ⟨rfl,rfl,rfl⟩:=H
        have p4 : 0 ≤ (0 : Int):=(by omega)
        have q4 : 0 < a0.size:=(by have : (0 : Int) < (a0.size : Int):=of_decide_eq_true (by first|(with_reducible assumption)|assumption);omega)
        have hx4 : ∀ h : 0 < a0.size,((a0[0]'h).toNat : Int) = bt a0 0:=bt_at a0 0
        clear p4
        have qi4 : (0 < (a0.size : Int)) = True:=eq_true (of_decide_eq_true (by first|(with_reducible assumption)|assumption))
        replace q4:=eq_true q4
        have p6 : 0 ≤ (0 : Int):=(by omega)
        have q6 : 0 < a0.size:=(by have : (0 : Int) < (a0.size : Int):=of_decide_eq_true (by first|(with_reducible assumption)|assumption);omega)
        have hx6 : ∀ h : 0 < a0.size,((a0[0]'h).toNat : Int) = bt a0 0:=bt_at a0 0
        clear p6
        have qi6 : (0 < (a0.size : Int)) = True:=eq_true (of_decide_eq_true (by first|(with_reducible assumption)|assumption))
        replace q6:=eq_true q6
        have p8 : 0 ≤ (0 : Int):=(by omega)
        have q8 : 0 < a0.size:=(by have : (0 : Int) < (a0.size : Int):=of_decide_eq_true (by first|(with_reducible assumption)|assumption);omega)
        have hx8 : ∀ h : 0 < a0.size,((a0[0]'h).toNat : Int) = bt a0 0:=bt_at a0 0
        clear p8
        have qi8 : (0 < (a0.size : Int)) = True:=eq_true (of_decide_eq_true (by first|(with_reducible assumption)|assumption))
        replace q8:=eq_true q8
        go_enter Tryd.func49,Tryd.ntmps49
        go_wp2
        repeat (go_quiet (fail);try go_wp2)
        go_ret3
        exact ⟨by first|rfl|(simp;done)|(simp only [← hji11] <;> (first|rfl|simp))|(simp [*];done),by repeat (first|exact Drawn0.refl _|apply Drawn0.step)⟩
       ·rw [if_neg c12] at H
        exact absurd H (by simp)
      ·rw [if_neg c10] at H
       exact absurd H (by simp)
     ·rw [if_neg c9] at H
      exact absurd H (by simp)
  ·rw [if_neg c3] at H
   exact absurd H (by simp)

/-! ### dominoref01_Get: function 50 -/
def dominoref01_Get.f (k : Nat) (a0 : ByteArray) : Option (Int × ByteArray × Int):=if a0.toList = ([] : List UInt8) then (some (0,(⟨#[]⟩ : ByteArray),10)) else (if 0 < (a0.size : Int) then ((dominoref01_power.f k ((Int.tdiv (bt a0 0) 64) % 256)).bind fun t249 => (if (a0.size : Int) < (wrap64 (t249)) then (some (0,(⟨#[]⟩ : ByteArray),10)) else (if 0 ≤ (wrap64 (t249)) then (if (wrap64 (t249)) ≤ (a0.size : Int) then ((dominoref01_Back.f k (a0.extract 0 ((wrap64 (t249)) : Int).toNat)).bind fun t250 => ((dominoref01_power.f k (wrap64 ((wrap64 (8 * (wrap64 (t249)))) - 2))).bind fun t251 => (if t251 = 0 then (none) else (some (Int.tmod t250 t251,a0.extract ((wrap64 (t249)) : Int).toNat a0.size,0))))) else (none)) else (none)))) else (none))
theorem dominoref01_Get.mono : ∀ a0 k,LeO (dominoref01_Get.f k a0) (dominoref01_Get.f (k + 1) a0):=by
 intro a0 k
 unfold dominoref01_Get.f
 repeat' first
   | (with_reducible exact dominoref01_Back.mono _ _)
   | (with_reducible exact dominoref01_power.mono _ _)
   | (with_reducible exact LeO.refl _)
   | (with_reducible exact LeO.none _)
   | (with_reducible refine LeO.ite ?_ ?_)
   | (with_reducible refine LeO.bind ?_ (fun _ => ?_))
   | exact dominoref01_Back.mono _ _
   | exact dominoref01_power.mono _ _
   | exact LeO.none _
   | refine LeO.ite ?_ ?_
   | refine LeO.bind ?_ (fun _ => ?_)
set_option maxHeartbeats 8000000 in
set_option maxRecDepth 100000 in
theorem dominoref01_Get.calls (k : Nat) (a0 : ByteArray) (r1 : Int) (r2 : ByteArray) (r3 : Int) (w : World) (h : dominoref01_Get.f k a0 = some (r1,r2,r3)) :
  Calls Tryd.prog 50 #[.string a0] w fun e w' => e = .returned (.tuple #[.int .u64 r1,.string r2,.int .i64 r3]) ∧ Drawn0 w w':=by
 have H : (if a0.toList = ([] : List UInt8) then (some (0,(⟨#[]⟩ : ByteArray),10)) else (if 0 < (a0.size : Int) then ((dominoref01_power.f k ((Int.tdiv (bt a0 0) 64) % 256)).bind fun t249 => (if (a0.size : Int) < (wrap64 (t249)) then (some (0,(⟨#[]⟩ : ByteArray),10)) else (if 0 ≤ (wrap64 (t249)) then (if (wrap64 (t249)) ≤ (a0.size : Int) then ((dominoref01_Back.f k (a0.extract 0 ((wrap64 (t249)) : Int).toNat)).bind fun t250 => ((dominoref01_power.f k (wrap64 ((wrap64 (8 * (wrap64 (t249)))) - 2))).bind fun t251 => (if t251 = 0 then (none) else (some (Int.tmod t250 t251,a0.extract ((wrap64 (t249)) : Int).toNat a0.size,0))))) else (none)) else (none)))) else (none))) = some (r1,r2,r3):=h
 clear h
 by_cases c2 : a0.toList = ([] : List UInt8)
 ·rw [if_pos c2] at H
  have c2b0 : (a0.toList == ([] : List UInt8)) = true:=beq_iff_eq.mpr c2
  have c2b1 : (a0.toList != ([] : List UInt8)) = false:=bne_eq_false_iff_eq.mpr c2
  clear c2
  simp only [Option.some.injEq,Prod.mk.injEq] at H
  obtain ⟨rfl,rfl,rfl⟩:=H
  go_enter Tryd.func50,Tryd.ntmps50
  go_wp2
  repeat (go_quiet (fail);try go_wp2)
  go_ret3
  exact ⟨by first|rfl|(simp;done)|(simp [*];done),by repeat (first|exact Drawn0.refl _|apply Drawn0.step)⟩
 ·rw [if_neg c2] at H
  have c2b0 : (a0.toList == ([] : List UInt8)) = false:=beq_eq_false_iff_ne.mpr c2
  have c2b1 : (a0.toList != ([] : List UInt8)) = true:=bne_iff_ne.mpr c2
  by_cases c3 : 0 < (a0.size : Int)
  ·rw [if_pos c3] at H
   have c3b0 : decide (0 < (a0.size : Int)) = true:=decide_eq_true c3
   have c3b1 : decide (0 < a0.size) = true:=decide_eq_true (by omega)
   clear c3
   replace H:=Option.bind_eq_some_iff.mp H
   obtain ⟨t249,A50,H⟩:=H
   replace H : (if (a0.size : Int) < (wrap64 (t249)) then (some (0,(⟨#[]⟩ : ByteArray),10)) else (if 0 ≤ (wrap64 (t249)) then (if (wrap64 (t249)) ≤ (a0.size : Int) then ((dominoref01_Back.f k (a0.extract 0 ((wrap64 (t249)) : Int).toNat)).bind fun t250 => ((dominoref01_power.f k (wrap64 ((wrap64 (8 * (wrap64 (t249)))) - 2))).bind fun t251 => (if t251 = 0 then (none) else (some (Int.tmod t250 t251,a0.extract ((wrap64 (t249)) : Int).toNat a0.size,0))))) else (none)) else (none))) = some (r1,r2,r3):=H
   have A5:=am_ A50
   clear A50
   by_cases c6 : (a0.size : Int) < (wrap64 (t249))
   ·rw [if_pos c6] at H
    have c6b0 : decide ((a0.size : Int) < (wrap64 (t249))) = true:=decide_eq_true c6
    clear c6
    simp only [Option.some.injEq,Prod.mk.injEq] at H
    obtain ⟨rfl,rfl,rfl⟩:=H
    have p4 : 0 ≤ (0 : Int):=(by omega)
    have q4 : 0 < a0.size:=(by have : (0 : Int) < (a0.size : Int):=of_decide_eq_true (by first|(with_reducible assumption)|assumption);omega)
    have hx4 : ∀ h : 0 < a0.size,((a0[0]'h).toNat : Int) = bt a0 0:=bt_at a0 0
    clear p4
    have qi4 : (0 < (a0.size : Int)) = True:=eq_true (of_decide_eq_true (by first|(with_reducible assumption)|assumption))
    replace q4:=eq_true q4
    go_enter Tryd.func50,Tryd.ntmps50
    go_wp2_with (first|(go_at_call 45;(with_reducible refine (dominoref01_power.calls k ((Int.tdiv (bt a0 0) 64) % 256) t249 _ A5.out).mono ?_);rintro e w' ⟨rfl,⟨nd,rfl⟩⟩;(try first|exact ⟨rfl,_,World.drewN_drewN _ _ _⟩|exact ⟨rfl,_,Eq.trans (World.drewN_drewN _ _ _) (congrArg (World.drewN _) (Nat.add_assoc _ _ _))⟩)))
    repeat (go_quiet (first|(go_at_call 45;(with_reducible refine (dominoref01_power.calls k ((Int.tdiv (bt a0 0) 64) % 256) t249 _ A5.out).mono ?_);rintro e w' ⟨rfl,⟨nd,rfl⟩⟩;(try first|exact ⟨rfl,_,World.drewN_drewN _ _ _⟩|exact ⟨rfl,_,Eq.trans (World.drewN_drewN _ _ _) (congrArg (World.drewN _) (Nat.add_assoc _ _ _))⟩)));try go_wp2_with (first|(go_at_call 45;(with_reducible refine (dominoref01_power.calls k ((Int.tdiv (bt a0 0) 64) % 256) t249 _ A5.out).mono ?_);rintro e w' ⟨rfl,⟨nd,rfl⟩⟩;(try first|exact ⟨rfl,_,World.drewN_drewN _ _ _⟩|exact ⟨rfl,_,Eq.trans (World.drewN_drewN _ _ _) (congrArg (World.drewN _) (Nat.add_assoc _ _ _))⟩))))
    go_ret3
    exact ⟨by first|rfl|(simp;done)|(simp [*];done),by repeat (first|exact Drawn0.refl _|apply Drawn0.step)⟩
   ·rw [if_neg c6] at H
    have c6b0 : decide ((a0.size : Int) < (wrap64 (t249))) = false:=decide_eq_false c6
    clear c6
    obtain ⟨ji7,hji7⟩ : ∃ j_ : Int,(wrap64 (t249)) = j_:=⟨_,rfl⟩
    replace H : (if 0 ≤ (ji7) then (if (ji7) ≤ (a0.size : Int) then ((dominoref01_Back.f k (a0.extract 0 ((ji7) : Int).toNat)).bind fun t250 => ((dominoref01_power.f k (wrap64 ((wrap64 (8 * (ji7))) - 2))).bind fun t251 => (if t251 = 0 then (none) else (some (Int.tmod t250 t251,a0.extract ((ji7) : Int).toNat a0.size,0))))) else (none)) else (none)) = some (r1,r2,r3):=by first|(rw [hji7] at H;exact H)|(simp only [hji7] at H ⊢;exact H)
    (try rw [hji7] at c6b0)
    (try rw [hji7] at A5)
    have hji7w : (IntKind.i64.wrap (t249)) = ji7:=(i64_w _).trans hji7
    by_cases c8 : 0 ≤ (ji7)
    ·rw [if_pos c8] at H
     have c8b0:=eq_true c8
     have c8b1 : decide (0 ≤ (ji7)) = true:=decide_eq_true c8
     clear c8
     by_cases c9 : (ji7) ≤ (a0.size : Int)
     ·rw [if_pos c9] at H
      have c9b0:=eq_true c9
      have c9b1 : decide ((ji7) ≤ (a0.size : Int)) = true:=decide_eq_true c9
      clear c9
      replace H:=Option.bind_eq_some_iff.mp H
      obtain ⟨t250,A100,H⟩:=H
      replace H : ((dominoref01_power.f k (wrap64 ((wrap64 (8 * (ji7))) - 2))).bind fun t251 => (if t251 = 0 then (none) else (some (Int.tmod t250 t251,a0.extract ((ji7) : Int).toNat a0.size,0)))) = some (r1,r2,r3):=H
      have A10:=am_ A100
      clear A100
      replace H:=Option.bind_eq_some_iff.mp H
      obtain ⟨t251,A110,H⟩:=H
      replace H : (if t251 = 0 then (none) else (some (Int.tmod t250 t251,a0.extract ((ji7) : Int).toNat a0.size,0))) = some (r1,r2,r3):=H
      have A11:=am_ A110
      clear A110
      by_cases c12 : t251 = 0
      ·rw [if_pos c12] at H
       exact absurd H (by simp)
      ·rw [if_neg c12] at H
       have c12b0 : (t251 == 0) = false:=beq_eq_false_iff_ne.mpr c12
       have c12b1 : (t251 != 0) = true:=bne_iff_ne.mpr c12
       have c13b0:=eq_true (of_decide_eq_true (by first|(with_reducible assumption)|assumption) : 0 ≤ (ji7))
       have c14b0:=eq_true (of_decide_eq_true (by first|(with_reducible assumption)|assumption) : (ji7) ≤ (a0.size : Int))
       simp only [Option.some.injEq,Prod.mk.injEq] at H
       obtain ⟨rfl,rfl,rfl⟩:=H
       have p4 : 0 ≤ (0 : Int):=(by omega)
       have q4 : 0 < a0.size:=(by have : (0 : Int) < (a0.size : Int):=of_decide_eq_true (by first|(with_reducible assumption)|assumption);omega)
       have hx4 : ∀ h : 0 < a0.size,((a0[0]'h).toNat : Int) = bt a0 0:=bt_at a0 0
       clear p4
       have qi4 : (0 < (a0.size : Int)) = True:=eq_true (of_decide_eq_true (by first|(with_reducible assumption)|assumption))
       replace q4:=eq_true q4
       go_enter Tryd.func50,Tryd.ntmps50
       go_wp2_with (first|(go_at_call 45;(with_reducible refine (dominoref01_power.calls k ((Int.tdiv (bt a0 0) 64) % 256) t249 _ A5.out).mono ?_);rintro e w' ⟨rfl,⟨nd,rfl⟩⟩;(try first|exact ⟨rfl,_,World.drewN_drewN _ _ _⟩|exact ⟨rfl,_,Eq.trans (World.drewN_drewN _ _ _) (congrArg (World.drewN _) (Nat.add_assoc _ _ _))⟩))|(go_at_call 36;(with_reducible refine (dominoref01_Back.calls k (a0.extract 0 ((ji7) : Int).toNat) t250 _ A10.out).mono ?_);rintro e w' ⟨rfl,⟨nd,rfl⟩⟩;(try first|exact ⟨rfl,_,World.drewN_drewN _ _ _⟩|exact ⟨rfl,_,Eq.trans (World.drewN_drewN _ _ _) (congrArg (World.drewN _) (Nat.add_assoc _ _ _))⟩))|(go_at_call 45;(with_reducible refine (dominoref01_power.calls k (wrap64 ((wrap64 (8 * (ji7))) - 2)) t251 _ A11.out).mono ?_);rintro e w' ⟨rfl,⟨nd,rfl⟩⟩;(try first|exact ⟨rfl,_,World.drewN_drewN _ _ _⟩|exact ⟨rfl,_,Eq.trans (World.drewN_drewN _ _ _) (congrArg (World.drewN _) (Nat.add_assoc _ _ _))⟩)))
       repeat (go_quiet (first|(go_at_call 45;(with_reducible refine (dominoref01_power.calls k ((Int.tdiv (bt a0 0) 64) % 256) t249 _ A5.out).mono ?_);rintro e w' ⟨rfl,⟨nd,rfl⟩⟩;(try first|exact ⟨rfl,_,World.drewN_drewN _ _ _⟩|exact ⟨rfl,_,Eq.trans (World.drewN_drewN _ _ _) (congrArg (World.drewN _) (Nat.add_assoc _ _ _))⟩))|(go_at_call 36;(with_reducible refine (dominoref01_Back.calls k (a0.extract 0 ((ji7) : Int).toNat) t250 _ A10.out).mono ?_);rintro e w' ⟨rfl,⟨nd,rfl⟩⟩;(try first|exact ⟨rfl,_,World.drewN_drewN _ _ _⟩|exact ⟨rfl,_,Eq.trans (World.drewN_drewN _ _ _) (congrArg (World.drewN _) (Nat.add_assoc _ _ _))⟩))|(go_at_call 45;(with_reducible refine (dominoref01_power.calls k (wrap64 ((wrap64 (8 * (ji7))) - 2)) t251 _ A11.out).mono ?_);rintro e w' ⟨rfl,⟨nd,rfl⟩⟩;(try first|exact ⟨rfl,_,World.drewN_drewN _ _ _⟩|exact ⟨rfl,_,Eq.trans (World.drewN_drewN _ _ _) (congrArg (World.drewN _) (Nat.add_assoc _ _ _))⟩)));try go_wp2_with (first|(go_at_call 45;(with_reducible refine (dominoref01_power.calls k ((Int.tdiv (bt a0 0) 64) % 256) t249 _ A5.out).mono ?_);rintro e w' ⟨rfl,⟨nd,rfl⟩⟩;(try first|exact ⟨rfl,_,World.drewN_drewN _ _ _⟩|exact ⟨rfl,_,Eq.trans (World.drewN_drewN _ _ _) (congrArg (World.drewN _) (Nat.add_assoc _ _ _))⟩))|(go_at_call 36;(with_reducible refine (dominoref01_Back.calls k (a0.extract 0 ((ji7) : Int).toNat) t250 _ A10.out).mono ?_);rintro e w' ⟨rfl,⟨nd,rfl⟩⟩;(try first|exact ⟨rfl,_,World.drewN_drewN _ _ _⟩|exact ⟨rfl,_,Eq.trans (World.drewN_drewN _ _ _) (congrArg (World.drewN _) (Nat.add_assoc _ _ _))⟩))|(go_at_call 45;(with_reducible refine (dominoref01_power.calls k (wrap64 ((wrap64 (8 * (ji7))) - 2)) t251 _ A11.out).mono ?_);rintro e w' ⟨rfl,⟨nd,rfl⟩⟩;(try first|exact ⟨rfl,_,World.drewN_drewN _ _ _⟩|exact ⟨rfl,_,Eq.trans (World.drewN_drewN _ _ _) (congrArg (World.drewN _) (Nat.add_assoc _ _ _))⟩))))
       go_ret3
       exact ⟨by first|rfl|(simp;done)|(simp only [← hji7] <;> (first|rfl|simp))|(simp [*];done),by repeat (first|exact Drawn0.refl _|apply Drawn0.step)⟩
     ·rw [if_neg c9] at H
      exact absurd H (by simp)
    ·rw [if_neg c8] at H
     exact absurd H (by simp)
  ·rw [if_neg c3] at H
   exact absurd H (by simp)

end Go.Proofs.YtjpafikgbnloaaaDoor.PHdt
