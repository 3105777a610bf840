-- printed for this claim by a program of the claim (wip/tools/pp.py over the kit's print)
import Derived.Test.YtjpafikgbnloaaaDoorPHdtx0
namespace Go.Proofs.YtjpafikgbnloaaaDoor.PHdt
open Go.RowKit Go.Proofs.YtjpafikgbnloaaaDoorW.PrintWords Go.Proofs.YtjpafikgbnloaaaDoorW.PrintLast Go.Proofs.YtjpafikgbnloaaaDoorW.PrintMore
attribute [local go_sem] max2_int min2_int max_two min_two max_three min_three max_four min_four   -- for this text's walks alone
set_option linter.unusedVariables false
set_option linter.unusedSimpArgs false

attribute [local go_sem] isSome_setCell_
/-! ### dominoref04_window: function 37 -/
def dominoref04_window.l0 : Nat → Int → Int → Int → Option (Int)
 | 0,_,_,_ => none
 | k + 1,x0,x3,x4 => if x4 < x0 then (dominoref04_window.l0 k x0 (IntKind.u64.wrap (x3 * 256)) (wrap64 (x4 + 1))) else (some x3)
def dominoref04_window.f (k : Nat) (a0 : Int) : Option (Int):=dominoref04_window.l0 k a0 1 0
theorem dominoref04_window.mono_l : ∀ k,(∀ y0 y1 y2,LeO (dominoref04_window.l0 k y0 y1 y2) (dominoref04_window.l0 (k + 1) y0 y1 y2))
 | 0 => fun _ _ _ r h => by simp [dominoref04_window.l0] at h
 | k + 1 => by
  have ih0:=dominoref04_window.mono_l k
  ·intro y0 y1 y2
   unfold dominoref04_window.l0
   repeat' first
   | (with_reducible exact ih0 _ _ _)
   | (with_reducible exact LeO.refl _)
   | (with_reducible exact LeO.none _)
   | (with_reducible refine LeO.ite ?_ ?_)
   | (with_reducible refine LeO.bind ?_ (fun _ => ?_))
   | exact ih0 _ _ _
   | exact LeO.none _
   | refine LeO.ite ?_ ?_
   | refine LeO.bind ?_ (fun _ => ?_)
theorem dominoref04_window.mono : ∀ a0 k,LeO (dominoref04_window.f k a0) (dominoref04_window.f (k + 1) a0):=by
 intro a0 k
 have ih0:=dominoref04_window.mono_l k
 unfold dominoref04_window.f
 repeat' first
   | (with_reducible exact ih0 _ _ _)
   | (with_reducible exact LeO.refl _)
   | (with_reducible exact LeO.none _)
   | (with_reducible refine LeO.ite ?_ ?_)
   | (with_reducible refine LeO.bind ?_ (fun _ => ?_))
   | exact ih0 _ _ _
   | exact LeO.none _
   | refine LeO.ite ?_ ?_
   | refine LeO.bind ?_ (fun _ => ?_)
set_option maxHeartbeats 8000000 in
set_option maxRecDepth 100000 in
theorem dominoref04_window.calls (k : Nat) (a0 : Int) (r : Int) (w : World) (h : dominoref04_window.f k a0 = some r) :
  Calls Tryd.prog 37 #[.int .i64 a0] w fun e w' => e = .returned (.int .u64 r) ∧ Drawn0 w w':=by
 have H : (dominoref04_window.l0 k a0 1 0) = some r:=h
 clear h
 have H':=am_ H
 clear H
 go_enter Tryd.func37,Tryd.ntmps37
 go_wp2
 go_loopg [3,4] k (fun kq v3 v4 w' => ∃ (x3_1 : Int) (x4_1 : Int),v3 = .int .u64 x3_1 ∧ v4 = .int .i64 x4_1 ∧ Aside0 (dominoref04_window.l0 kq a0 x3_1 x4_1 = some r) ∧ Aside0 (kq ≤ k) ∧ Drawn0 w w')
 case atStart => exact ⟨(1),(0),(by first|rfl|(simp;done)|(simp [*];done)),(by first|rfl|(simp;done)|(simp [*];done)),H',⟨Nat.le_refl _⟩,by repeat (first|exact Drawn0.refl _|apply Drawn0.step)⟩
 case round =>
  clear H'
  obtain ⟨x3_1,x4_1,rfl,rfl,HA,HK1,⟨m1,rfl⟩⟩:=hrel
  cases gk with
  | zero => exact absurd HA.out (by simp [dominoref04_window.l0])
  | succ k1 =>
   have H:=HA.out
   clear HA
   simp only [dominoref04_window.l0] at H
   by_cases c2 : x4_1 < a0
   ·rw [if_pos c2] at H
    have c2b0 : decide (x4_1 < a0) = true:=decide_eq_true c2
    clear c2
    have H':=am_ H
    clear H
    go_wp2
    go_roundg k1
    case measure => have:=HK1.out;omega
    case rel => exact ⟨(IntKind.u64.wrap (x3_1 * 256)),(wrap64 (x4_1 + 1)),(by first|rfl|(simp;done)|(simp [*];done)),(by first|rfl|(simp;done)|(simp [*];done)),H',⟨by have:=HK1.out;omega⟩,by repeat (first|exact Drawn0.refl _|apply Drawn0.step)⟩
   ·rw [if_neg c2] at H
    have c2b0 : decide (x4_1 < a0) = false:=decide_eq_false c2
    clear c2
    obtain rfl:=Option.some.inj H
    go_wp2
    go_ret
    exact ⟨by first|rfl|(simp;done)|(simp [*];done),by repeat (first|exact Drawn0.refl _|apply Drawn0.step)⟩

/-! ### dominoref04_May: function 19 -/
def dominoref04_May.j0 : Nat → Bool → Bool → Bool → Bool → Int → Int → ByteArray → ByteArray → ByteArray → Int → Int → Int → Option (Bool)
 | 0,_,_,_,_,_,_,_,_,_,_,_,_ => none
 | k + 1,x18,x200000,x200001,x200002,x200003,x200004,x200005,x200006,x200007,x200008,x200009,x200010 => if x18 = true then (some false) else (if x200000 = true then (if x200001 = true then (some false) else (if x200002 = true then (some false) else (if x200003 ≥ 0 then (if x200003 ≤ 2 then (if (x200005.size : Int) ≤ 20 then (if (x200006.size : Int) ≤ 20 then (if (x200007.size : Int) ≤ 1000 then (if x200007.toList = ([] : List UInt8) then (some (decide (x200008 ≤ 4611686018427387903))) else (if x200003 = 0 then (some (decide (x200008 ≤ 4611686018427387903))) else (some false))) else (some false)) else (some false)) else (some false)) else (some false)) else (some false)))) else (if (x200005.size : Int) = 8 then (if x200003 = 0 then (if x200004 = 0 then (if x200006.toList = ([] : List UInt8) then (if x200007.toList = ([] : List UInt8) then (some (x200008 == 0)) else (some false)) else (some false)) else (some false)) else (some false)) else (some false)))
def dominoref04_May.f (k : Nat) (a0_0 : Bool) (a0_1 : Bool) (a0_2 : Bool) (a0_3 : Int) (a0_4 : Int) (a0_5 : ByteArray) (a0_6 : ByteArray) (a0_7 : ByteArray) (a0_8 : Int) (a0_9 : Int) (a0_10 : Int) : Option (Bool):=if a0_9 < 1 then (dominoref04_May.j0 k true a0_0 a0_1 a0_2 a0_3 a0_4 a0_5 a0_6 a0_7 a0_8 a0_9 a0_10) else (if a0_9 > 4 then (dominoref04_May.j0 k true a0_0 a0_1 a0_2 a0_3 a0_4 a0_5 a0_6 a0_7 a0_8 a0_9 a0_10) else ((dominoref04_window.f k a0_9).bind fun t200 => (dominoref04_May.j0 k (decide (a0_10 ≥ t200)) a0_0 a0_1 a0_2 a0_3 a0_4 a0_5 a0_6 a0_7 a0_8 a0_9 a0_10)))
theorem dominoref04_May.mono_l : ∀ k,(∀ y0 y1 y2 y3 y4 y5 y6 y7 y8 y9 y10 y11,LeO (dominoref04_May.j0 k y0 y1 y2 y3 y4 y5 y6 y7 y8 y9 y10 y11) (dominoref04_May.j0 (k + 1) y0 y1 y2 y3 y4 y5 y6 y7 y8 y9 y10 y11))
 | 0 => fun _ _ _ _ _ _ _ _ _ _ _ _ r h => by simp [dominoref04_May.j0] at h
 | k + 1 => by
  have ih0:=dominoref04_May.mono_l k
  ·intro y0 y1 y2 y3 y4 y5 y6 y7 y8 y9 y10 y11
   unfold dominoref04_May.j0
   repeat' first
   | (with_reducible exact ih0 _ _ _ _ _ _ _ _ _ _ _ _)
   | (with_reducible exact dominoref04_window.mono _ _)
   | (with_reducible exact LeO.refl _)
   | (with_reducible exact LeO.none _)
   | (with_reducible refine LeO.ite ?_ ?_)
   | (with_reducible refine LeO.bind ?_ (fun _ => ?_))
   | exact ih0 _ _ _ _ _ _ _ _ _ _ _ _
   | exact dominoref04_window.mono _ _
   | exact LeO.none _
   | refine LeO.ite ?_ ?_
   | refine LeO.bind ?_ (fun _ => ?_)
theorem dominoref04_May.mono : ∀ a0 a1 a2 a3 a4 a5 a6 a7 a8 a9 a10 k,LeO (dominoref04_May.f k a0 a1 a2 a3 a4 a5 a6 a7 a8 a9 a10) (dominoref04_May.f (k + 1) a0 a1 a2 a3 a4 a5 a6 a7 a8 a9 a10):=by
 intro a0 a1 a2 a3 a4 a5 a6 a7 a8 a9 a10 k
 have ih0:=dominoref04_May.mono_l k
 unfold dominoref04_May.f
 repeat' first
   | (with_reducible exact ih0 _ _ _ _ _ _ _ _ _ _ _ _)
   | (with_reducible exact dominoref04_window.mono _ _)
   | (with_reducible exact LeO.refl _)
   | (with_reducible exact LeO.none _)
   | (with_reducible refine LeO.ite ?_ ?_)
   | (with_reducible refine LeO.bind ?_ (fun _ => ?_))
   | exact ih0 _ _ _ _ _ _ _ _ _ _ _ _
   | exact dominoref04_window.mono _ _
   | exact LeO.none _
   | refine LeO.ite ?_ ?_
   | refine LeO.bind ?_ (fun _ => ?_)
set_option maxHeartbeats 8000000 in
set_option maxRecDepth 100000 in
theorem dominoref04_May.calls (k : Nat) (a0_0 : Bool) (a0_1 : Bool) (a0_2 : Bool) (a0_3 : Int) (a0_4 : Int) (a0_5 : ByteArray) (a0_6 : ByteArray) (a0_7 : ByteArray) (a0_8 : Int) (a0_9 : Int) (a0_10 : Int) (r : Bool) (w : World) (h : dominoref04_May.f k a0_0 a0_1 a0_2 a0_3 a0_4 a0_5 a0_6 a0_7 a0_8 a0_9 a0_10 = some r) :
  Calls Tryd.prog 19 #[.agg #[.bool a0_0,.bool a0_1,.bool a0_2,.int .i64 a0_3,.int .u32 a0_4,.string a0_5,.string a0_6,.string a0_7,.int .u64 a0_8,.int .i64 a0_9,.int .u64 a0_10]] w fun e w' => e = .returned (.bool r) ∧ Below w.heap.size w w':=by
 have hu28:=Tryd.underlying28
 have HB:=am_ (Below.refl w.heap.size w)
 have H : (if a0_9 < 1 then (dominoref04_May.j0 k true a0_0 a0_1 a0_2 a0_3 a0_4 a0_5 a0_6 a0_7 a0_8 a0_9 a0_10) else (if a0_9 > 4 then (dominoref04_May.j0 k true a0_0 a0_1 a0_2 a0_3 a0_4 a0_5 a0_6 a0_7 a0_8 a0_9 a0_10) else ((dominoref04_window.f k a0_9).bind fun t200 => (dominoref04_May.j0 k (decide (a0_10 ≥ t200)) a0_0 a0_1 a0_2 a0_3 a0_4 a0_5 a0_6 a0_7 a0_8 a0_9 a0_10)))) = some r:=h
 clear h
 have HC2:=am_ H
 clear H
 go_enter Tryd.func19,Tryd.ntmps19
 go_upto_region 1 with (first|((with_reducible refine gate_dst (N:=1) rfl ?_);(try (refine gate_guard (by rfl) ?_;dsimp only));refine box_event ?hg (N:=1) ?hd (cs:=#[.bool a0_0,.bool a0_1,.bool a0_2,.int .i64 a0_3,.int .u32 a0_4,.string a0_5,.string a0_6,.string a0_7,.int .u64 a0_8,.int .i64 a0_9,.int .u64 a0_10]) (t:=28) ?hr ?_;(case hd => rfl);(case hg => rfl);(case hr => first|(go_simp;done)|(go_simp;rfl));intro gb199 hg w3 hbox hb;have n0_:=am_ (below_step (by repeat (first|(with_reducible first|exact HB.out|apply ba_|apply pn_|apply pd_)|exact HB.out)) hb);have n1_:=am_ (hbox);have n2_:=am_ ((by rw [hg];exact (below_size (by repeat (first|(with_reducible first|exact HB.out|apply ba_|apply pn_|apply pd_)|exact HB.out))) : w.heap.size ≤ gb199));have n3_:=am_ ((by rw [hg];exact (below_size (by repeat (first|(with_reducible first|exact HB.out|apply ba_|apply pn_|apply pd_)|exact HB.out))) : w.heap.size ≤ gb199));clear HB;have HB:=n0_;have BK199:=n1_;have GW199:=n2_;have GE199:=n3_;clear n0_ n1_ n2_ n3_;clear hb hbox hg))
 repeat (go_quiet (first|((with_reducible refine gate_dst (N:=1) rfl ?_);(try (refine gate_guard (by rfl) ?_;dsimp only));refine box_event ?hg (N:=1) ?hd (cs:=#[.bool a0_0,.bool a0_1,.bool a0_2,.int .i64 a0_3,.int .u32 a0_4,.string a0_5,.string a0_6,.string a0_7,.int .u64 a0_8,.int .i64 a0_9,.int .u64 a0_10]) (t:=28) ?hr ?_;(case hd => rfl);(case hg => rfl);(case hr => first|(go_simp;done)|(go_simp;rfl));intro gb199 hg w3 hbox hb;have n0_:=am_ (below_step (by repeat (first|(with_reducible first|exact HB.out|apply ba_|apply pn_|apply pd_)|exact HB.out)) hb);have n1_:=am_ (hbox);have n2_:=am_ ((by rw [hg];exact (below_size (by repeat (first|(with_reducible first|exact HB.out|apply ba_|apply pn_|apply pd_)|exact HB.out))) : w.heap.size ≤ gb199));have n3_:=am_ ((by rw [hg];exact (below_size (by repeat (first|(with_reducible first|exact HB.out|apply ba_|apply pn_|apply pd_)|exact HB.out))) : w.heap.size ≤ gb199));clear HB;have HB:=n0_;have BK199:=n1_;have GW199:=n2_;have GE199:=n3_;clear n0_ n1_ n2_ n3_;clear hb hbox hg));go_upto_region 1 with (first|((with_reducible refine gate_dst (N:=1) rfl ?_);(try (refine gate_guard (by rfl) ?_;dsimp only));refine box_event ?hg (N:=1) ?hd (cs:=#[.bool a0_0,.bool a0_1,.bool a0_2,.int .i64 a0_3,.int .u32 a0_4,.string a0_5,.string a0_6,.string a0_7,.int .u64 a0_8,.int .i64 a0_9,.int .u64 a0_10]) (t:=28) ?hr ?_;(case hd => rfl);(case hg => rfl);(case hr => first|(go_simp;done)|(go_simp;rfl));intro gb199 hg w3 hbox hb;have n0_:=am_ (below_step (by repeat (first|(with_reducible first|exact HB.out|apply ba_|apply pn_|apply pd_)|exact HB.out)) hb);have n1_:=am_ (hbox);have n2_:=am_ ((by rw [hg];exact (below_size (by repeat (first|(with_reducible first|exact HB.out|apply ba_|apply pn_|apply pd_)|exact HB.out))) : w.heap.size ≤ gb199));have n3_:=am_ ((by rw [hg];exact (below_size (by repeat (first|(with_reducible first|exact HB.out|apply ba_|apply pn_|apply pd_)|exact HB.out))) : w.heap.size ≤ gb199));clear HB;have HB:=n0_;have BK199:=n1_;have GW199:=n2_;have GE199:=n3_;clear n0_ n1_ n2_ n3_;clear hb hbox hg)))
 (try simp only [Act.put,ps_])
 go_cut [18] (fun v18 wc => ∃ (kq : Nat) (x18_1 : Bool),v18 = .bool x18_1 ∧ Aside0 (dominoref04_May.j0 kq x18_1 a0_0 a0_1 a0_2 a0_3 a0_4 a0_5 a0_6 a0_7 a0_8 a0_9 a0_10 = some r) ∧ Aside0 (kq ≤ k) ∧ Aside0 (wc.heap[gb199]? = some (.cells #[.bool a0_0,.bool a0_1,.bool a0_2,.int .i64 a0_3,.int .u32 a0_4,.string a0_5,.string a0_6,.string a0_7,.int .u64 a0_8,.int .i64 a0_9,.int .u64 a0_10] 28 (0,0))) ∧ Aside0 (Below w.heap.size w wc))
 case first =>
  have H:=HC2.out
  clear HC2
  by_cases c4 : a0_9 < 1
  ·rw [if_pos c4] at H
   have c4b0 : decide (a0_9 < 1) = true:=decide_eq_true c4
   clear c4
   (first|rw [c4b0]|(simp only [i64_w,i32_w];rw [c4b0])|skip)
   have H':=am_ H
   clear H
   obtain ⟨hcz5_0,hcz5_1,hcz5_2,hcz5_3,hcz5_4,hcz5_5,hcz5_6,hcz5_7,hcz5_8,hcz5_9,hcz5_10,hfz5_0,hfz5_1,hfz5_2,hfz5_3,hfz5_4,hfz5_5,hfz5_6,hfz5_7,hfz5_8,hfz5_9,hfz5_10⟩:=cs11f_ BK199.out
   go_wp2
   repeat (go_quiet (fail);try go_wp2)
   go_meet
   case rel => exact ⟨_,(true),(by first|rfl|(simp;done)|(simp [*];done)),H',⟨by first|omega|exact Nat.le_refl _⟩,⟨by (with_reducible repeat (first|refine kn_ ?_ _|refine kd_ ?_|refine ka_ ?_ _));exact BK199.out⟩,⟨by repeat (first|(with_reducible first|exact HB.out|apply ba_|apply pn_|apply pd_|refine bs_ ?_ GE199.out)|exact HB.out)⟩⟩
  ·rw [if_neg c4] at H
   have c4b0 : decide (a0_9 < 1) = false:=decide_eq_false c4
   clear c4
   (first|rw [c4b0]|(simp only [i64_w,i32_w];rw [c4b0])|skip)
   by_cases c6 : a0_9 > 4
   ·rw [if_pos c6] at H
    have c6b0 : decide (4 < a0_9) = true:=decide_eq_true c6
    clear c6
    have H':=am_ H
    clear H
    obtain ⟨hcz7_0,hcz7_1,hcz7_2,hcz7_3,hcz7_4,hcz7_5,hcz7_6,hcz7_7,hcz7_8,hcz7_9,hcz7_10,hfz7_0,hfz7_1,hfz7_2,hfz7_3,hfz7_4,hfz7_5,hfz7_6,hfz7_7,hfz7_8,hfz7_9,hfz7_10⟩:=cs11f_ BK199.out
    go_wp2
    repeat (go_quiet (fail);try go_wp2)
    go_meet
    case rel => exact ⟨_,(true),(by first|rfl|(simp;done)|(simp [*];done)),H',⟨by first|omega|exact Nat.le_refl _⟩,⟨by (with_reducible repeat (first|refine kn_ ?_ _|refine kd_ ?_|refine ka_ ?_ _));exact BK199.out⟩,⟨by repeat (first|(with_reducible first|exact HB.out|apply ba_|apply pn_|apply pd_|refine bs_ ?_ GE199.out)|exact HB.out)⟩⟩
   ·rw [if_neg c6] at H
    have c6b0 : decide (4 < a0_9) = false:=decide_eq_false c6
    clear c6
    replace H:=Option.bind_eq_some_iff.mp H
    obtain ⟨t200,A80,H⟩:=H
    replace H : (dominoref04_May.j0 k (decide (a0_10 ≥ t200)) a0_0 a0_1 a0_2 a0_3 a0_4 a0_5 a0_6 a0_7 a0_8 a0_9 a0_10) = some r:=H
    have A8:=am_ A80
    clear A80
    have H':=am_ H
    clear H
    obtain ⟨hcz9_0,hcz9_1,hcz9_2,hcz9_3,hcz9_4,hcz9_5,hcz9_6,hcz9_7,hcz9_8,hcz9_9,hcz9_10,hfz9_0,hfz9_1,hfz9_2,hfz9_3,hfz9_4,hfz9_5,hfz9_6,hfz9_7,hfz9_8,hfz9_9,hfz9_10⟩:=cs11f_ BK199.out
    go_wp2_with (first|(go_at_call 37;(with_reducible refine (dominoref04_window.calls k a0_9 t200 _ A8.out).mono ?_);rintro e w' ⟨rfl,⟨nd,rfl⟩⟩;(try first|exact ⟨rfl,_,World.drewN_drewN _ _ _⟩|exact ⟨rfl,_,Eq.trans (World.drewN_drewN _ _ _) (congrArg (World.drewN _) (Nat.add_assoc _ _ _))⟩)))
    repeat (go_quiet (first|(go_at_call 37;(with_reducible refine (dominoref04_window.calls k a0_9 t200 _ A8.out).mono ?_);rintro e w' ⟨rfl,⟨nd,rfl⟩⟩;(try first|exact ⟨rfl,_,World.drewN_drewN _ _ _⟩|exact ⟨rfl,_,Eq.trans (World.drewN_drewN _ _ _) (congrArg (World.drewN _) (Nat.add_assoc _ _ _))⟩)));try go_wp2_with (first|(go_at_call 37;(with_reducible refine (dominoref04_window.calls k a0_9 t200 _ A8.out).mono ?_);rintro e w' ⟨rfl,⟨nd,rfl⟩⟩;(try first|exact ⟨rfl,_,World.drewN_drewN _ _ _⟩|exact ⟨rfl,_,Eq.trans (World.drewN_drewN _ _ _) (congrArg (World.drewN _) (Nat.add_assoc _ _ _))⟩))))
    go_meet
    case rel => exact ⟨_,(decide (a0_10 ≥ t200)),(by first|rfl|(simp;done)|(simp [*];done)),H',⟨by first|omega|exact Nat.le_refl _⟩,⟨by (with_reducible repeat (first|refine kn_ ?_ _|refine kd_ ?_|refine ka_ ?_ _));exact BK199.out⟩,⟨by repeat (first|(with_reducible first|exact HB.out|apply ba_|apply pn_|apply pd_|refine bs_ ?_ GE199.out)|exact HB.out)⟩⟩
 case rest =>
  clear HC2
  try clear c1;try clear p2
  try clear c4;try clear c4b0
  try clear c6;try clear c6b0
  try clear hcz5_0;try clear hcz5_1
  try clear hcz5_10;try clear hcz5_2
  try clear hcz5_3;try clear hcz5_4
  try clear hcz5_5;try clear hcz5_6
  try clear hcz5_7;try clear hcz5_8
  try clear hcz5_9;try clear hcz7_0
  try clear hcz7_1;try clear hcz7_10
  try clear hcz7_2;try clear hcz7_3
  try clear hcz7_4;try clear hcz7_5
  try clear hcz7_6;try clear hcz7_7
  try clear hcz7_8;try clear hcz7_9
  try clear hcz9_0;try clear hcz9_1
  try clear hcz9_10;try clear hcz9_2
  try clear hcz9_3;try clear hcz9_4
  try clear hcz9_5;try clear hcz9_6
  try clear hcz9_7;try clear hcz9_8
  try clear hcz9_9;try clear hfz5_0
  try clear hfz5_1;try clear hfz5_10
  try clear hfz5_2;try clear hfz5_3
  try clear hfz5_4;try clear hfz5_5
  try clear hfz5_6;try clear hfz5_7
  try clear hfz5_8;try clear hfz5_9
  try clear hfz7_0;try clear hfz7_1
  try clear hfz7_10;try clear hfz7_2
  try clear hfz7_3;try clear hfz7_4
  try clear hfz7_5;try clear hfz7_6
  try clear hfz7_7;try clear hfz7_8
  try clear hfz7_9;try clear hfz9_0
  try clear hfz9_1;try clear hfz9_10
  try clear hfz9_2;try clear hfz9_3
  try clear hfz9_4;try clear hfz9_5
  try clear hfz9_6;try clear hfz9_7
  try clear hfz9_8;try clear hfz9_9
  obtain ⟨kq,x18_1,rfl,HA,HJ1,BK199,HB⟩:=hcut
  cases kq with
  | zero => exact absurd HA.out (by simp [dominoref04_May.j0])
  | succ kj1 =>
   have H:=HA.out
   clear HA
   simp only [dominoref04_May.j0] at H
   by_cases c10 : x18_1 = true
   ·subst c10
    have H1 : (some false) = some r:=by rw [if_pos rfl] at H;exact H
    clear H
    have H:=H1
    clear H1
    obtain rfl:=Option.some.inj H
    go_wp2
    repeat (go_quiet (fail);try go_wp2)
    go_ret
    exact ⟨by first|rfl|(simp [errW_none,errW_some] <;> rfl)|(simp [*,errW_none,errW_some] <;> rfl),by repeat (first|(with_reducible first|exact HB.out|apply ba_|apply pn_|apply pd_|refine bs_ ?_ GE199.out)|exact HB.out)⟩
   ·replace c10:=Bool.eq_false_iff.mpr c10
    subst c10
    have H1 : (if a0_0 = true then (if a0_1 = true then (some false) else (if a0_2 = true then (some false) else (if a0_3 ≥ 0 then (if a0_3 ≤ 2 then (if (a0_5.size : Int) ≤ 20 then (if (a0_6.size : Int) ≤ 20 then (if (a0_7.size : Int) ≤ 1000 then (if a0_7.toList = ([] : List UInt8) then (some (decide (a0_8 ≤ 4611686018427387903))) else (if a0_3 = 0 then (some (decide (a0_8 ≤ 4611686018427387903))) else (some false))) else (some false)) else (some false)) else (some false)) else (some false)) else (some false)))) else (if (a0_5.size : Int) = 8 then (if a0_3 = 0 then (if a0_4 = 0 then (if a0_6.toList = ([] : List UInt8) then (if a0_7.toList = ([] : List UInt8) then (some (a0_8 == 0)) else (some false)) else (some false)) else (some false)) else (some false)) else (some false))) = some r:=by rw [if_neg (show ¬ (false = true) by decide)] at H;exact H
    clear H
    have H:=H1
    clear H1
    by_cases c11 : a0_0 = true
    ·subst c11
     have H1 : (if a0_1 = true then (some false) else (if a0_2 = true then (some false) else (if a0_3 ≥ 0 then (if a0_3 ≤ 2 then (if (a0_5.size : Int) ≤ 20 then (if (a0_6.size : Int) ≤ 20 then (if (a0_7.size : Int) ≤ 1000 then (if a0_7.toList = ([] : List UInt8) then (some (decide (a0_8 ≤ 4611686018427387903))) else (if a0_3 = 0 then (some (decide (a0_8 ≤ 4611686018427387903))) else (some false))) else (some false)) else (some false)) else (some false)) else (some false)) else (some false)))) = some r:=by rw [if_pos rfl] at H;exact H
     clear H
     have H:=H1
     clear H1
     by_cases c12 : a0_1 = true
     ·subst c12
      have H1 : (some false) = some r:=by rw [if_pos rfl] at H;exact H
      clear H
      have H:=H1
      clear H1
      obtain rfl:=Option.some.inj H
      obtain ⟨hcz13_0,hcz13_1,hcz13_2,hcz13_3,hcz13_4,hcz13_5,hcz13_6,hcz13_7,hcz13_8,hcz13_9,hcz13_10,hfz13_0,hfz13_1,hfz13_2,hfz13_3,hfz13_4,hfz13_5,hfz13_6,hfz13_7,hfz13_8,hfz13_9,hfz13_10⟩:=cs11f_ BK199.out
      go_wp2
      repeat (go_quiet (fail);try go_wp2)
      go_ret
      exact ⟨by first|rfl|(simp [errW_none,errW_some] <;> rfl)|(simp [*,errW_none,errW_some] <;> rfl),by repeat (first|(with_reducible first|exact HB.out|apply ba_|apply pn_|apply pd_|refine bs_ ?_ GE199.out)|exact HB.out)⟩
     ·replace c12:=Bool.eq_false_iff.mpr c12
      subst c12
      have H1 : (if a0_2 = true then (some false) else (if a0_3 ≥ 0 then (if a0_3 ≤ 2 then (if (a0_5.size : Int) ≤ 20 then (if (a0_6.size : Int) ≤ 20 then (if (a0_7.size : Int) ≤ 1000 then (if a0_7.toList = ([] : List UInt8) then (some (decide (a0_8 ≤ 4611686018427387903))) else (if a0_3 = 0 then (some (decide (a0_8 ≤ 4611686018427387903))) else (some false))) else (some false)) else (some false)) else (some false)) else (some false)) else (some false))) = some r:=by rw [if_neg (show ¬ (false = true) by decide)] at H;exact H
      clear H
      have H:=H1
      clear H1
      by_cases c14 : a0_2 = true
      ·subst c14
       have H1 : (some false) = some r:=by rw [if_pos rfl] at H;exact H
       clear H
       have H:=H1
       clear H1
       obtain rfl:=Option.some.inj H
       obtain ⟨hcz15_0,hcz15_1,hcz15_2,hcz15_3,hcz15_4,hcz15_5,hcz15_6,hcz15_7,hcz15_8,hcz15_9,hcz15_10,hfz15_0,hfz15_1,hfz15_2,hfz15_3,hfz15_4,hfz15_5,hfz15_6,hfz15_7,hfz15_8,hfz15_9,hfz15_10⟩:=cs11f_ BK199.out
       go_wp2
       repeat (go_quiet (fail);try go_wp2)
       go_ret
       exact ⟨by first|rfl|(simp [errW_none,errW_some] <;> rfl)|(simp [*,errW_none,errW_some] <;> rfl),by repeat (first|(with_reducible first|exact HB.out|apply ba_|apply pn_|apply pd_|refine bs_ ?_ GE199.out)|exact HB.out)⟩
      ·replace c14:=Bool.eq_false_iff.mpr c14
       subst c14
       have H1 : (if a0_3 ≥ 0 then (if a0_3 ≤ 2 then (if (a0_5.size : Int) ≤ 20 then (if (a0_6.size : Int) ≤ 20 then (if (a0_7.size : Int) ≤ 1000 then (if a0_7.toList = ([] : List UInt8) then (some (decide (a0_8 ≤ 4611686018427387903))) else (if a0_3 = 0 then (some (decide (a0_8 ≤ 4611686018427387903))) else (some false))) else (some false)) else (some false)) else (some false)) else (some false)) else (some false)) = some r:=by rw [if_neg (show ¬ (false = true) by decide)] at H;exact H
       clear H
       have H:=H1
       clear H1
       by_cases c16 : a0_3 ≥ 0
       ·rw [if_pos c16] at H
        have c16b0 : decide (0 ≤ a0_3) = true:=decide_eq_true c16
        clear c16
        by_cases c17 : a0_3 ≤ 2
        ·rw [if_pos c17] at H
         have c17b0 : decide (a0_3 ≤ 2) = true:=decide_eq_true c17
         clear c17
         by_cases c18 : (a0_5.size : Int) ≤ 20
         ·rw [if_pos c18] at H
          have c18b0 : decide ((a0_5.size : Int) ≤ 20) = true:=decide_eq_true c18
          have c18b1 : decide (a0_5.size ≤ 20) = true:=decide_eq_true (by omega)
          clear c18
          by_cases c19 : (a0_6.size : Int) ≤ 20
          ·rw [if_pos c19] at H
           have c19b0 : decide ((a0_6.size : Int) ≤ 20) = true:=decide_eq_true c19
           have c19b1 : decide (a0_6.size ≤ 20) = true:=decide_eq_true (by omega)
           clear c19
           by_cases c20 : (a0_7.size : Int) ≤ 1000
           ·rw [if_pos c20] at H
            have c20b0 : decide ((a0_7.size : Int) ≤ 1000) = true:=decide_eq_true c20
            have c20b1 : decide (a0_7.size ≤ 1000) = true:=decide_eq_true (by omega)
            clear c20
            by_cases c21 : a0_7.toList = ([] : List UInt8)
            ·rw [if_pos c21] at H
             have c21b0 : (a0_7.toList == ([] : List UInt8)) = true:=beq_iff_eq.mpr c21
             have c21b1 : (a0_7.toList != ([] : List UInt8)) = false:=bne_eq_false_iff_eq.mpr c21
             clear c21
             obtain rfl:=Option.some.inj H
             obtain ⟨hcz22_0,hcz22_1,hcz22_2,hcz22_3,hcz22_4,hcz22_5,hcz22_6,hcz22_7,hcz22_8,hcz22_9,hcz22_10,hfz22_0,hfz22_1,hfz22_2,hfz22_3,hfz22_4,hfz22_5,hfz22_6,hfz22_7,hfz22_8,hfz22_9,hfz22_10⟩:=cs11f_ BK199.out
             go_wp2
             repeat (go_quiet (fail);try go_wp2)
             go_ret
             exact ⟨by first|rfl|(simp [errW_none,errW_some] <;> rfl)|(simp [*,errW_none,errW_some] <;> rfl),by repeat (first|(with_reducible first|exact HB.out|apply ba_|apply pn_|apply pd_|refine bs_ ?_ GE199.out)|exact HB.out)⟩
            ·rw [if_neg c21] at H
             have c21b0 : (a0_7.toList == ([] : List UInt8)) = false:=beq_eq_false_iff_ne.mpr c21
             have c21b1 : (a0_7.toList != ([] : List UInt8)) = true:=bne_iff_ne.mpr c21
             by_cases c23 : a0_3 = 0
             ·rw [if_pos c23] at H
              have c23b0 : (a0_3 == 0) = true:=beq_iff_eq.mpr c23
              have c23b1 : (a0_3 != 0) = false:=bne_eq_false_iff_eq.mpr c23
              clear c23
              obtain rfl:=Option.some.inj H
              obtain ⟨hcz24_0,hcz24_1,hcz24_2,hcz24_3,hcz24_4,hcz24_5,hcz24_6,hcz24_7,hcz24_8,hcz24_9,hcz24_10,hfz24_0,hfz24_1,hfz24_2,hfz24_3,hfz24_4,hfz24_5,hfz24_6,hfz24_7,hfz24_8,hfz24_9,hfz24_10⟩:=cs11f_ BK199.out
              go_wp2
              repeat (go_quiet (fail);try go_wp2)
              go_ret
              exact ⟨by first|rfl|(simp [errW_none,errW_some] <;> rfl)|(simp [*,errW_none,errW_some] <;> rfl),by repeat (first|(with_reducible first|exact HB.out|apply ba_|apply pn_|apply pd_|refine bs_ ?_ GE199.out)|exact HB.out)⟩
             ·rw [if_neg c23] at H
              have c23b0 : (a0_3 == 0) = false:=beq_eq_false_iff_ne.mpr c23
              have c23b1 : (a0_3 != 0) = true:=bne_iff_ne.mpr c23
              obtain rfl:=Option.some.inj H
              obtain ⟨hcz25_0,hcz25_1,hcz25_2,hcz25_3,hcz25_4,hcz25_5,hcz25_6,hcz25_7,hcz25_8,hcz25_9,hcz25_10,hfz25_0,hfz25_1,hfz25_2,hfz25_3,hfz25_4,hfz25_5,hfz25_6,hfz25_7,hfz25_8,hfz25_9,hfz25_10⟩:=cs11f_ BK199.out
              go_wp2
              repeat (go_quiet (fail);try go_wp2)
              go_ret
              exact ⟨by first|rfl|(simp [errW_none,errW_some] <;> rfl)|(simp [*,errW_none,errW_some] <;> rfl),by repeat (first|(with_reducible first|exact HB.out|apply ba_|apply pn_|apply pd_|refine bs_ ?_ GE199.out)|exact HB.out)⟩
           ·rw [if_neg c20] at H
            have c20b0 : decide ((a0_7.size : Int) ≤ 1000) = false:=decide_eq_false c20
            have c20b1 : decide (a0_7.size ≤ 1000) = false:=decide_eq_false (by omega)
            clear c20
            obtain rfl:=Option.some.inj H
            obtain ⟨hcz26_0,hcz26_1,hcz26_2,hcz26_3,hcz26_4,hcz26_5,hcz26_6,hcz26_7,hcz26_8,hcz26_9,hcz26_10,hfz26_0,hfz26_1,hfz26_2,hfz26_3,hfz26_4,hfz26_5,hfz26_6,hfz26_7,hfz26_8,hfz26_9,hfz26_10⟩:=cs11f_ BK199.out
            go_wp2
            repeat (go_quiet (fail);try go_wp2)
            go_ret
            exact ⟨by first|rfl|(simp [errW_none,errW_some] <;> rfl)|(simp [*,errW_none,errW_some] <;> rfl),by repeat (first|(with_reducible first|exact HB.out|apply ba_|apply pn_|apply pd_|refine bs_ ?_ GE199.out)|exact HB.out)⟩
          ·rw [if_neg c19] at H
           have c19b0 : decide ((a0_6.size : Int) ≤ 20) = false:=decide_eq_false c19
           have c19b1 : decide (a0_6.size ≤ 20) = false:=decide_eq_false (by omega)
           clear c19
           obtain rfl:=Option.some.inj H
           obtain ⟨hcz27_0,hcz27_1,hcz27_2,hcz27_3,hcz27_4,hcz27_5,hcz27_6,hcz27_7,hcz27_8,hcz27_9,hcz27_10,hfz27_0,hfz27_1,hfz27_2,hfz27_3,hfz27_4,hfz27_5,hfz27_6,hfz27_7,hfz27_8,hfz27_9,hfz27_10⟩:=cs11f_ BK199.out
           go_wp2
           repeat (go_quiet (fail);try go_wp2)
           go_ret
           exact ⟨by first|rfl|(simp [errW_none,errW_some] <;> rfl)|(simp [*,errW_none,errW_some] <;> rfl),by repeat (first|(with_reducible first|exact HB.out|apply ba_|apply pn_|apply pd_|refine bs_ ?_ GE199.out)|exact HB.out)⟩
         ·rw [if_neg c18] at H
          have c18b0 : decide ((a0_5.size : Int) ≤ 20) = false:=decide_eq_false c18
          have c18b1 : decide (a0_5.size ≤ 20) = false:=decide_eq_false (by omega)
          clear c18
          obtain rfl:=Option.some.inj H
          obtain ⟨hcz28_0,hcz28_1,hcz28_2,hcz28_3,hcz28_4,hcz28_5,hcz28_6,hcz28_7,hcz28_8,hcz28_9,hcz28_10,hfz28_0,hfz28_1,hfz28_2,hfz28_3,hfz28_4,hfz28_5,hfz28_6,hfz28_7,hfz28_8,hfz28_9,hfz28_10⟩:=cs11f_ BK199.out
          go_wp2
          repeat (go_quiet (fail);try go_wp2)
          go_ret
          exact ⟨by first|rfl|(simp [errW_none,errW_some] <;> rfl)|(simp [*,errW_none,errW_some] <;> rfl),by repeat (first|(with_reducible first|exact HB.out|apply ba_|apply pn_|apply pd_|refine bs_ ?_ GE199.out)|exact HB.out)⟩
        ·rw [if_neg c17] at H
         have c17b0 : decide (a0_3 ≤ 2) = false:=decide_eq_false c17
         clear c17
         obtain rfl:=Option.some.inj H
         obtain ⟨hcz29_0,hcz29_1,hcz29_2,hcz29_3,hcz29_4,hcz29_5,hcz29_6,hcz29_7,hcz29_8,hcz29_9,hcz29_10,hfz29_0,hfz29_1,hfz29_2,hfz29_3,hfz29_4,hfz29_5,hfz29_6,hfz29_7,hfz29_8,hfz29_9,hfz29_10⟩:=cs11f_ BK199.out
         go_wp2
         repeat (go_quiet (fail);try go_wp2)
         go_ret
         exact ⟨by first|rfl|(simp [errW_none,errW_some] <;> rfl)|(simp [*,errW_none,errW_some] <;> rfl),by repeat (first|(with_reducible first|exact HB.out|apply ba_|apply pn_|apply pd_|refine bs_ ?_ GE199.out)|exact HB.out)⟩
       ·rw [if_neg c16] at H
        have c16b0 : decide (0 ≤ a0_3) = false:=decide_eq_false c16
        clear c16
        obtain rfl:=Option.some.inj H
        obtain ⟨hcz30_0,hcz30_1,hcz30_2,hcz30_3,hcz30_4,hcz30_5,hcz30_6,hcz30_7,hcz30_8,hcz30_9,hcz30_10,hfz30_0,hfz30_1,hfz30_2,hfz30_3,hfz30_4,hfz30_5,hfz30_6,hfz30_7,hfz30_8,hfz30_9,hfz30_10⟩:=cs11f_ BK199.out
        go_wp2
        repeat (go_quiet (fail);try go_wp2)
        go_ret
        exact ⟨by first|rfl|(simp [errW_none,errW_some] <;> rfl)|(simp [*,errW_none,errW_some] <;> rfl),by repeat (first|(with_reducible first|exact HB.out|apply ba_|apply pn_|apply pd_|refine bs_ ?_ GE199.out)|exact HB.out)⟩
    ·replace c11:=Bool.eq_false_iff.mpr c11
     subst c11
     have H1 : (if (a0_5.size : Int) = 8 then (if a0_3 = 0 then (if a0_4 = 0 then (if a0_6.toList = ([] : List UInt8) then (if a0_7.toList = ([] : List UInt8) then (some (a0_8 == 0)) else (some false)) else (some false)) else (some false)) else (some false)) else (some false)) = some r:=by rw [if_neg (show ¬ (false = true) by decide)] at H;exact H
     clear H
     have H:=H1
     clear H1
     by_cases c31 : (a0_5.size : Int) = 8
     ·rw [if_pos c31] at H
      have c31b0 : ((a0_5.size : Int) == 8) = true:=beq_iff_eq.mpr c31
      have c31b1 : ((a0_5.size : Int) != 8) = false:=bne_eq_false_iff_eq.mpr c31
      clear c31
      by_cases c32 : a0_3 = 0
      ·rw [if_pos c32] at H
       have c32b0 : (a0_3 == 0) = true:=beq_iff_eq.mpr c32
       have c32b1 : (a0_3 != 0) = false:=bne_eq_false_iff_eq.mpr c32
       clear c32
       by_cases c33 : a0_4 = 0
       ·rw [if_pos c33] at H
        have c33b0 : (a0_4 == 0) = true:=beq_iff_eq.mpr c33
        have c33b1 : (a0_4 != 0) = false:=bne_eq_false_iff_eq.mpr c33
        clear c33
        by_cases c34 : a0_6.toList = ([] : List UInt8)
        ·rw [if_pos c34] at H
         have c34b0 : (a0_6.toList == ([] : List UInt8)) = true:=beq_iff_eq.mpr c34
         have c34b1 : (a0_6.toList != ([] : List UInt8)) = false:=bne_eq_false_iff_eq.mpr c34
         clear c34
         by_cases c35 : a0_7.toList = ([] : List UInt8)
         ·rw [if_pos c35] at H
          have c35b0 : (a0_7.toList == ([] : List UInt8)) = true:=beq_iff_eq.mpr c35
          have c35b1 : (a0_7.toList != ([] : List UInt8)) = false:=bne_eq_false_iff_eq.mpr c35
          clear c35
          obtain rfl:=Option.some.inj H
          obtain ⟨hcz36_0,hcz36_1,hcz36_2,hcz36_3,hcz36_4,hcz36_5,hcz36_6,hcz36_7,hcz36_8,hcz36_9,hcz36_10,hfz36_0,hfz36_1,hfz36_2,hfz36_3,hfz36_4,hfz36_5,hfz36_6,hfz36_7,hfz36_8,hfz36_9,hfz36_10⟩:=cs11f_ BK199.out
          go_wp2
          repeat (go_quiet (fail);try go_wp2)
          go_ret
          exact ⟨by first|rfl|(simp [errW_none,errW_some] <;> rfl)|(simp [*,errW_none,errW_some] <;> rfl),by repeat (first|(with_reducible first|exact HB.out|apply ba_|apply pn_|apply pd_|refine bs_ ?_ GE199.out)|exact HB.out)⟩
         ·rw [if_neg c35] at H
          have c35b0 : (a0_7.toList == ([] : List UInt8)) = false:=beq_eq_false_iff_ne.mpr c35
          have c35b1 : (a0_7.toList != ([] : List UInt8)) = true:=bne_iff_ne.mpr c35
          obtain rfl:=Option.some.inj H
          obtain ⟨hcz37_0,hcz37_1,hcz37_2,hcz37_3,hcz37_4,hcz37_5,hcz37_6,hcz37_7,hcz37_8,hcz37_9,hcz37_10,hfz37_0,hfz37_1,hfz37_2,hfz37_3,hfz37_4,hfz37_5,hfz37_6,hfz37_7,hfz37_8,hfz37_9,hfz37_10⟩:=cs11f_ BK199.out
          go_wp2
          repeat (go_quiet (fail);try go_wp2)
          go_ret
          exact ⟨by first|rfl|(simp [errW_none,errW_some] <;> rfl)|(simp [*,errW_none,errW_some] <;> rfl),by repeat (first|(with_reducible first|exact HB.out|apply ba_|apply pn_|apply pd_|refine bs_ ?_ GE199.out)|exact HB.out)⟩
        ·rw [if_neg c34] at H
         have c34b0 : (a0_6.toList == ([] : List UInt8)) = false:=beq_eq_false_iff_ne.mpr c34
         have c34b1 : (a0_6.toList != ([] : List UInt8)) = true:=bne_iff_ne.mpr c34
         obtain rfl:=Option.some.inj H
         obtain ⟨hcz38_0,hcz38_1,hcz38_2,hcz38_3,hcz38_4,hcz38_5,hcz38_6,hcz38_7,hcz38_8,hcz38_9,hcz38_10,hfz38_0,hfz38_1,hfz38_2,hfz38_3,hfz38_4,hfz38_5,hfz38_6,hfz38_7,hfz38_8,hfz38_9,hfz38_10⟩:=cs11f_ BK199.out
         go_wp2
         repeat (go_quiet (fail);try go_wp2)
         go_ret
         exact ⟨by first|rfl|(simp [errW_none,errW_some] <;> rfl)|(simp [*,errW_none,errW_some] <;> rfl),by repeat (first|(with_reducible first|exact HB.out|apply ba_|apply pn_|apply pd_|refine bs_ ?_ GE199.out)|exact HB.out)⟩
       ·rw [if_neg c33] at H
        have c33b0 : (a0_4 == 0) = false:=beq_eq_false_iff_ne.mpr c33
        have c33b1 : (a0_4 != 0) = true:=bne_iff_ne.mpr c33
        obtain rfl:=Option.some.inj H
        obtain ⟨hcz39_0,hcz39_1,hcz39_2,hcz39_3,hcz39_4,hcz39_5,hcz39_6,hcz39_7,hcz39_8,hcz39_9,hcz39_10,hfz39_0,hfz39_1,hfz39_2,hfz39_3,hfz39_4,hfz39_5,hfz39_6,hfz39_7,hfz39_8,hfz39_9,hfz39_10⟩:=cs11f_ BK199.out
        go_wp2
        repeat (go_quiet (fail);try go_wp2)
        go_ret
        exact ⟨by first|rfl|(simp [errW_none,errW_some] <;> rfl)|(simp [*,errW_none,errW_some] <;> rfl),by repeat (first|(with_reducible first|exact HB.out|apply ba_|apply pn_|apply pd_|refine bs_ ?_ GE199.out)|exact HB.out)⟩
      ·rw [if_neg c32] at H
       have c32b0 : (a0_3 == 0) = false:=beq_eq_false_iff_ne.mpr c32
       have c32b1 : (a0_3 != 0) = true:=bne_iff_ne.mpr c32
       obtain rfl:=Option.some.inj H
       obtain ⟨hcz40_0,hcz40_1,hcz40_2,hcz40_3,hcz40_4,hcz40_5,hcz40_6,hcz40_7,hcz40_8,hcz40_9,hcz40_10,hfz40_0,hfz40_1,hfz40_2,hfz40_3,hfz40_4,hfz40_5,hfz40_6,hfz40_7,hfz40_8,hfz40_9,hfz40_10⟩:=cs11f_ BK199.out
       go_wp2
       repeat (go_quiet (fail);try go_wp2)
       go_ret
       exact ⟨by first|rfl|(simp [errW_none,errW_some] <;> rfl)|(simp [*,errW_none,errW_some] <;> rfl),by repeat (first|(with_reducible first|exact HB.out|apply ba_|apply pn_|apply pd_|refine bs_ ?_ GE199.out)|exact HB.out)⟩
     ·rw [if_neg c31] at H
      have c31b0 : ((a0_5.size : Int) == 8) = false:=beq_eq_false_iff_ne.mpr c31
      have c31b1 : ((a0_5.size : Int) != 8) = true:=bne_iff_ne.mpr c31
      obtain rfl:=Option.some.inj H
      obtain ⟨hcz41_0,hcz41_1,hcz41_2,hcz41_3,hcz41_4,hcz41_5,hcz41_6,hcz41_7,hcz41_8,hcz41_9,hcz41_10,hfz41_0,hfz41_1,hfz41_2,hfz41_3,hfz41_4,hfz41_5,hfz41_6,hfz41_7,hfz41_8,hfz41_9,hfz41_10⟩:=cs11f_ BK199.out
      go_wp2
      repeat (go_quiet (fail);try go_wp2)
      go_ret
      exact ⟨by first|rfl|(simp [errW_none,errW_some] <;> rfl)|(simp [*,errW_none,errW_some] <;> rfl),by repeat (first|(with_reducible first|exact HB.out|apply ba_|apply pn_|apply pd_|refine bs_ ?_ GE199.out)|exact HB.out)⟩

end Go.Proofs.YtjpafikgbnloaaaDoor.PHdt
