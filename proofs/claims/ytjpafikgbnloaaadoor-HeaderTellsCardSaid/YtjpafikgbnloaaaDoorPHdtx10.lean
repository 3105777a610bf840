-- printed for this claim by a program of the claim (wip/tools/pp.py over the kit's print)
import Derived.Test.YtjpafikgbnloaaaDoorPHdtx0
namespace Go.Proofs.YtjpafikgbnloaaaDoor.PHdt
open Go.RowKit Go.Proofs.YtjpafikgbnloaaaDoorW.PrintWords Go.Proofs.YtjpafikgbnloaaaDoorW.PrintLast Go.Proofs.YtjpafikgbnloaaaDoorW.PrintMore
attribute [local go_sem] max2_int min2_int max_two min_two max_three min_three max_four min_four   -- for this text's walks alone
set_option linter.unusedVariables false
set_option linter.unusedSimpArgs false

attribute [local go_sem] isSome_setCell_
/-! ### dominoref01_power: function 45 -/
def dominoref01_power.l0 : Nat → Int → Int → Int → Option (Int)
 | 0,_,_,_ => none
 | k + 1,x0,x3,x4 => if x4 < x0 then (dominoref01_power.l0 k x0 (IntKind.u64.wrap (x3 * 2)) (wrap64 (x4 + 1))) else (some x3)
def dominoref01_power.f (k : Nat) (a0 : Int) : Option (Int):=dominoref01_power.l0 k a0 1 0
theorem dominoref01_power.mono_l : ∀ k,(∀ y0 y1 y2,LeO (dominoref01_power.l0 k y0 y1 y2) (dominoref01_power.l0 (k + 1) y0 y1 y2))
 | 0 => fun _ _ _ r h => by simp [dominoref01_power.l0] at h
 | k + 1 => by
  have ih0:=dominoref01_power.mono_l k
  ·intro y0 y1 y2
   unfold dominoref01_power.l0
   repeat' first
   | (with_reducible exact ih0 _ _ _)
   | (with_reducible exact LeO.refl _)
   | (with_reducible exact LeO.none _)
   | (with_reducible refine LeO.ite ?_ ?_)
   | (with_reducible refine LeO.bind ?_ (fun _ => ?_))
   | exact ih0 _ _ _
   | exact LeO.none _
   | refine LeO.ite ?_ ?_
   | refine LeO.bind ?_ (fun _ => ?_)
theorem dominoref01_power.mono : ∀ a0 k,LeO (dominoref01_power.f k a0) (dominoref01_power.f (k + 1) a0):=by
 intro a0 k
 have ih0:=dominoref01_power.mono_l k
 unfold dominoref01_power.f
 repeat' first
   | (with_reducible exact ih0 _ _ _)
   | (with_reducible exact LeO.refl _)
   | (with_reducible exact LeO.none _)
   | (with_reducible refine LeO.ite ?_ ?_)
   | (with_reducible refine LeO.bind ?_ (fun _ => ?_))
   | exact ih0 _ _ _
   | exact LeO.none _
   | refine LeO.ite ?_ ?_
   | refine LeO.bind ?_ (fun _ => ?_)
set_option maxHeartbeats 8000000 in
set_option maxRecDepth 100000 in
theorem dominoref01_power.calls (k : Nat) (a0 : Int) (r : Int) (w : World) (h : dominoref01_power.f k a0 = some r) :
  Calls Tryd.prog 45 #[.int .i64 a0] w fun e w' => e = .returned (.int .u64 r) ∧ Drawn0 w w':=by
 have H : (dominoref01_power.l0 k a0 1 0) = some r:=h
 clear h
 have H':=am_ H
 clear H
 go_enter Tryd.func45,Tryd.ntmps45
 go_wp2
 go_loopg [3,4] k (fun kq v3 v4 w' => ∃ (x3_1 : Int) (x4_1 : Int),v3 = .int .u64 x3_1 ∧ v4 = .int .i64 x4_1 ∧ Aside0 (dominoref01_power.l0 kq a0 x3_1 x4_1 = some r) ∧ Aside0 (kq ≤ k) ∧ Drawn0 w w')
 case atStart => exact ⟨(1),(0),(by first|rfl|(simp;done)|(simp [*];done)),(by first|rfl|(simp;done)|(simp [*];done)),H',⟨Nat.le_refl _⟩,by repeat (first|exact Drawn0.refl _|apply Drawn0.step)⟩
 case round =>
  clear H'
  obtain ⟨x3_1,x4_1,rfl,rfl,HA,HK1,⟨m1,rfl⟩⟩:=hrel
  cases gk with
  | zero => exact absurd HA.out (by simp [dominoref01_power.l0])
  | succ k1 =>
   have H:=HA.out
   clear HA
   simp only [dominoref01_power.l0] at H
   by_cases c2 : x4_1 < a0
   ·rw [if_pos c2] at H
    have c2b0 : decide (x4_1 < a0) = true:=decide_eq_true c2
    clear c2
    have H':=am_ H
    clear H
    go_wp2
    go_roundg k1
    case measure => have:=HK1.out;omega
    case rel => exact ⟨(IntKind.u64.wrap (x3_1 * 2)),(wrap64 (x4_1 + 1)),(by first|rfl|(simp;done)|(simp [*];done)),(by first|rfl|(simp;done)|(simp [*];done)),H',⟨by have:=HK1.out;omega⟩,by repeat (first|exact Drawn0.refl _|apply Drawn0.step)⟩
   ·rw [if_neg c2] at H
    have c2b0 : decide (x4_1 < a0) = false:=decide_eq_false c2
    clear c2
    obtain rfl:=Option.some.inj H
    go_wp2
    go_ret
    exact ⟨by first|rfl|(simp;done)|(simp [*];done),by repeat (first|exact Drawn0.refl _|apply Drawn0.step)⟩

/-! ### dominoref01_Fixed: function 29 -/
def dominoref01_Fixed.l0 : Nat → Int → List Int → Int → Option (ByteArray)
 | 0,_,_,_ => none
 | k + 1,x0,x5,x6 => if x6 ≥ 0 then ((dominoref01_power.f k (wrap64 (8 * x6))).bind fun t204 => (if t204 = 0 then (none) else (if x5.length < 140737488355328 then (dominoref01_Fixed.l0 k x0 (x5 ++ [(Int.tmod (IntKind.u64.wrap (Int.tdiv x0 t204)) 256) % 256]) (wrap64 (x6 - 1))) else (none)))) else (some (strOfNums x5))
def dominoref01_Fixed.f (k : Nat) (a0 : Int) (a1 : Int) : Option (ByteArray):=dominoref01_Fixed.l0 k a0 (([] : List Int)) ((mx (mn a1 8) 0) - 1)
theorem dominoref01_Fixed.mono_l : ∀ k,(∀ y0 y1 y2,LeO (dominoref01_Fixed.l0 k y0 y1 y2) (dominoref01_Fixed.l0 (k + 1) y0 y1 y2))
 | 0 => fun _ _ _ r h => by simp [dominoref01_Fixed.l0] at h
 | k + 1 => by
  have ih0:=dominoref01_Fixed.mono_l k
  ·intro y0 y1 y2
   unfold dominoref01_Fixed.l0
   repeat' first
   | (with_reducible exact ih0 _ _ _)
   | (with_reducible exact dominoref01_power.mono _ _)
   | (with_reducible exact LeO.refl _)
   | (with_reducible exact LeO.none _)
   | (with_reducible refine LeO.ite ?_ ?_)
   | (with_reducible refine LeO.bind ?_ (fun _ => ?_))
   | exact ih0 _ _ _
   | exact dominoref01_power.mono _ _
   | exact LeO.none _
   | refine LeO.ite ?_ ?_
   | refine LeO.bind ?_ (fun _ => ?_)
theorem dominoref01_Fixed.mono : ∀ a0 a1 k,LeO (dominoref01_Fixed.f k a0 a1) (dominoref01_Fixed.f (k + 1) a0 a1):=by
 intro a0 a1 k
 have ih0:=dominoref01_Fixed.mono_l k
 unfold dominoref01_Fixed.f
 repeat' first
   | (with_reducible exact ih0 _ _ _)
   | (with_reducible exact dominoref01_power.mono _ _)
   | (with_reducible exact LeO.refl _)
   | (with_reducible exact LeO.none _)
   | (with_reducible refine LeO.ite ?_ ?_)
   | (with_reducible refine LeO.bind ?_ (fun _ => ?_))
   | exact ih0 _ _ _
   | exact dominoref01_power.mono _ _
   | exact LeO.none _
   | refine LeO.ite ?_ ?_
   | refine LeO.bind ?_ (fun _ => ?_)
set_option maxHeartbeats 8000000 in
set_option maxRecDepth 100000 in
theorem dominoref01_Fixed.calls (k : Nat) (a0 : Int) (a1 : Int) (r : ByteArray) (w : World) (h : dominoref01_Fixed.f k a0 a1 = some r) :
  Calls Tryd.prog 29 #[.int .u64 a0,.int .i64 a1] w fun e w' => e = .returned (.string r) ∧ Below w.heap.size w w':=by
 have HB:=am_ (Below.refl w.heap.size w)
 have H : (dominoref01_Fixed.l0 k a0 (([] : List Int)) ((mx (mn a1 8) 0) - 1)) = some r:=h
 clear h
 obtain ⟨y201,hy201⟩ : ∃ y_ : List Int,y_ = (([] : List Int)):=⟨_,rfl⟩
 replace H : (dominoref01_Fixed.l0 k a0 y201 ((mx (mn a1 8) 0) - 1)) = some r:=by first|(rw [hy201];with_reducible exact H)|(have H2_:=(Option.bind_some _ _).symm.trans H;rw [hy201];with_reducible exact H2_)|(have H2_:=(Option.bind_some _ _).symm.trans H;with_reducible exact H2_)|with_reducible exact H|(rw [hy201];exact H)|exact H
 have Ny201:=am_ hy201
 clear hy201
 obtain ⟨ji3,hji3⟩ : ∃ j_ : Int,(mn a1 8) = j_:=⟨_,rfl⟩
 replace H : (dominoref01_Fixed.l0 k a0 y201 ((mx (ji3) 0) - 1)) = some r:=by first|(rw [hji3] at H;exact H)|(simp only [hji3] at H ⊢;exact H)
 (try (have hji3h : ji3 ≤ 8:=by (rw [← hji3];unfold mn;(repeat' split) <;> omega)))
 (try (have hji3g : ji3 ≤ 64:=by omega))
 have hji3_ : (if 8 < a1 then 8 else a1) = ji3:=hji3
 obtain ⟨ji4,hji4⟩ : ∃ j_ : Int,(mx (ji3) 0) = j_:=⟨_,rfl⟩
 replace H : (dominoref01_Fixed.l0 k a0 y201 ((ji4) - 1)) = some r:=by first|(rw [hji4] at H;exact H)|(simp only [hji4] at H ⊢;exact H)
 have hji4_ : (if (ji3) < 0 then 0 else (ji3)) = ji4:=hji4
 have H':=am_ H
 clear H
 go_enter Tryd.func29,Tryd.ntmps29
 go_wp2_with (first|((with_reducible refine gate_dst (N:=7) rfl ?_);refine Kd.R_lit (Kd.int .u8) _ 5 ?hg (N:=7) ?hd (xs:=([] : List Int)) (inner:=[]) (ok:=fun _ => True) (okp:=fun _ => True) ?hr ?hp (fun _ hk => hk) trivial (Below.refl _ _) (Nat.le_refl _) (by simp) ?_;(case hd => rfl);(case hg => rfl);(case hr => first|(go_simp;done)|(go_simp;rfl));(case hp => exact (Reps.none _ _));intro v202 w5 ho6 hb hg_ hnew_;clear hg_ hnew_;(first|rw [← Ny201.out] at ho6|(simp only [Int.reduceToNat] at ho6;rw [← Ny201.out] at ho6));have n0_:=am_ (Kd.R_lower ho6 (below_size (by repeat (first|(with_reducible first|exact HB.out|apply ba_|apply pn_|apply pd_)|exact HB.out))));have n1_:=am_ (below_step (by repeat (first|(with_reducible first|exact HB.out|apply ba_|apply pn_|apply pd_)|exact HB.out)) hb);clear HB;have HO203:=n0_;have HB:=n1_;clear n0_ n1_;clear hb ho6))
 go_loopg [5,6] k (fun kq v5 v6 w' => ∃ (x5_1 : List Int) (x6_1 : Int),v6 = .int .i64 x6_1 ∧ Aside0 (dominoref01_Fixed.l0 kq a0 x5_1 x6_1 = some r) ∧ Aside0 (kq ≤ k) ∧ Aside0 (Kd.R (Kd.int .u8) 5 w' w.heap.size (fun _ => True) v5 x5_1) ∧ Aside0 (Below w.heap.size w w'))
 case atStart => exact ⟨(y201),((ji4) - 1),(by first|rfl|(simp;done)|(simp only [← hji4] <;> (first|rfl|simp))|(simp [*];done)),H',⟨Nat.le_refl _⟩,⟨by (with_reducible repeat (first|apply ra_|apply rn_|apply rd_));exact HO203.out⟩,⟨by repeat (first|(with_reducible first|exact HB.out|apply ba_|apply pn_|apply pd_)|exact HB.out)⟩⟩
 case round =>
  clear H'
  try clear c2;try clear p2
  obtain ⟨x5_1,x6_1,rfl,HA,HK1,HO_5,HB⟩:=hrel
  cases gk with
  | zero => exact absurd HA.out (by simp [dominoref01_Fixed.l0])
  | succ k1 =>
   have H:=HA.out
   clear HA
   simp only [dominoref01_Fixed.l0] at H
   by_cases c7 : x6_1 ≥ 0
   ·rw [if_pos c7] at H
    have c7b0 : decide (0 ≤ x6_1) = true:=decide_eq_true c7
    clear c7
    replace H:=Option.bind_eq_some_iff.mp H
    obtain ⟨t204,A80,H⟩:=H
    replace H : (if t204 = 0 then (none) else (if x5_1.length < 140737488355328 then (dominoref01_Fixed.l0 k1 a0 (x5_1 ++ [(Int.tmod (IntKind.u64.wrap (Int.tdiv a0 t204)) 256) % 256]) (wrap64 (x6_1 - 1))) else (none))) = some r:=H
    have A8:=am_ A80
    clear A80
    by_cases c9 : t204 = 0
    ·rw [if_pos c9] at H
     exact absurd H (by simp)
    ·rw [if_neg c9] at H
     have c9b0 : (t204 == 0) = false:=beq_eq_false_iff_ne.mpr c9
     have c9b1 : (t204 != 0) = true:=bne_iff_ne.mpr c9
     by_cases c10 : x5_1.length < 140737488355328
     ·rw [if_pos c10] at H
      have LMc10:=am_ c10
      clear c10
      obtain ⟨y205,hy205⟩ : ∃ y_ : List Int,y_ = (x5_1 ++ [(Int.tmod (IntKind.u64.wrap (Int.tdiv a0 t204)) 256) % 256]):=⟨_,rfl⟩
      replace H : (dominoref01_Fixed.l0 k1 a0 y205 (wrap64 (x6_1 - 1))) = some r:=by first|(rw [hy205];with_reducible exact H)|(have H2_:=(Option.bind_some _ _).symm.trans H;rw [hy205];with_reducible exact H2_)|(have H2_:=(Option.bind_some _ _).symm.trans H;with_reducible exact H2_)|with_reducible exact H|(rw [hy205];exact H)|exact H
      have Ny205:=am_ hy205
      clear hy205
      have H':=am_ H
      clear H
      go_wp2_with (first|((with_reducible refine gate_callee (f:=45) rfl ?_);refine goesL_ (some 20) rfl rfl Tryd.func45 (by kernel_rfl) rfl #[.int .i64 (wrap64 (8 * x6_1))] rfl (by (try simp only [List.map_toArray,List.map_cons,List.map_nil]);first|done|rfl|(simp only [List.length_drop,List.length_take];rfl)) ?_;(with_reducible refine (dominoref01_power.calls k1 (wrap64 (8 * x6_1)) t204 _ A8.out).mono ?_);rintro e w' ⟨rfl,⟨nd,rfl⟩⟩;refine ⟨_,rfl,?_⟩)|((with_reducible refine gate_builtin (b:=.append) (xs:=#[.tmp 16,.tmp 24]) rfl ?_);at_builtin;refine Kd.R_append (Kd.int .u8) (w0:=w) w.heap.size rfl (.tmp 16) (.tmp 24) 44 5 (.int .u8 0) 1 rfl Tryd.underlying44 info5 rfl (by decide) (by omega) u5 x5_1 ((Int.tmod (IntKind.u64.wrap (Int.tdiv a0 t204)) 256) % 256) [.int .u8 ((Int.tmod (IntKind.u64.wrap (Int.tdiv a0 t204)) 256) % 256)] (fun _ => True) (fun _ => False) rfl rfl ?aP (fun _ hk => hk.elim) ?aF ?aO ?aB ?aS ?aL ?_;(case aP => exact rfl);(case aB => exact (by repeat (first|(with_reducible first|exact HB.out|apply ba_|apply pn_|apply pd_)|exact HB.out)));(case aF => exact (fun _ _ => trivial));(case aO => exact (by (with_reducible repeat (first|apply ra_|apply rn_|apply rd_));exact HO_5.out));(case aS => exact (below_size (by repeat (first|(with_reducible first|exact HB.out|apply ba_|apply pn_|apply pd_)|exact HB.out))));(case aL => have:=LMc10.out;omega);intro v206 w11 ho hb hg hat;rw [← Ny205.out] at ho;have n0_:=am_ (hb);have n1_:=am_ (ho);clear HB;clear HO_5;have HB:=n0_;have HO207:=n1_;clear n0_ n1_;clear ho hb hg hat))
      go_roundg k1
      case measure => have:=HK1.out;omega
      case rel => exact ⟨(y205),(wrap64 (x6_1 - 1)),(by first|rfl|(simp;done)|(simp [*];done)),H',⟨by have:=HK1.out;omega⟩,⟨by (with_reducible repeat (first|apply ra_|apply rn_|apply rd_));exact HO207.out⟩,⟨by repeat (first|(with_reducible first|exact HB.out|apply ba_|apply pn_|apply pd_)|exact HB.out)⟩⟩
     ·rw [if_neg c10] at H
      exact absurd H (by simp)
   ·rw [if_neg c7] at H
    have c7b0 : decide (0 ≤ x6_1) = false:=decide_eq_false c7
    clear c7
    obtain rfl:=Option.some.inj H
    have hcv12:=own_string (P:=Tryd.prog) Tryd.underlying44 Tryd.underlying5 Tryd.underlying9 (Kd.own_of_R HO_5.out)
    go_wp2
    go_ret
    exact ⟨by first|rfl|(simp [errW_none,errW_some] <;> rfl)|(simp only [← hji3,← hji4];first|rfl|(simp [errW_none,errW_some] <;> rfl))|(simp [*,errW_none,errW_some] <;> rfl),by repeat (first|(with_reducible first|exact HB.out|apply ba_|apply pn_|apply pd_)|exact HB.out)⟩

/-! ### dominoref04_short: function 30 -/
def dominoref04_short.f (a0 : ByteArray) : Option (ByteArray):=(some (([((a0.size : Int)) % 256] : List Int) : List Int)).bind fun y208 => (if (strOfNums y208).size + a0.size ≤ 9223372036854775807 then (some ((strOfNums y208) ++ a0)) else (none))
set_option maxHeartbeats 8000000 in
set_option maxRecDepth 100000 in
theorem dominoref04_short.calls (a0 : ByteArray) (r : ByteArray) (w : World) (h : dominoref04_short.f a0 = some r) :
  Calls Tryd.prog 30 #[.string a0] w fun e w' => e = .returned (.string r) ∧ Below w.heap.size w w':=by
 have HB:=am_ (Below.refl w.heap.size w)
 have H : ((some (([((a0.size : Int)) % 256] : List Int) : List Int)).bind fun y208 => (if (strOfNums y208).size + a0.size ≤ 9223372036854775807 then (some ((strOfNums y208) ++ a0)) else (none))) = some r:=h
 clear h
 obtain ⟨y208,hy208⟩ : ∃ y_ : List Int,y_ = (([((a0.size : Int)) % 256] : List Int)):=⟨_,rfl⟩
 replace H : (if (strOfNums y208).size + a0.size ≤ 9223372036854775807 then (some ((strOfNums y208) ++ a0)) else (none)) = some r:=by first|(rw [hy208];with_reducible exact H)|(have H2_:=(Option.bind_some _ _).symm.trans H;rw [hy208];with_reducible exact H2_)|(have H2_:=(Option.bind_some _ _).symm.trans H;with_reducible exact H2_)|with_reducible exact H|(rw [hy208];exact H)|exact H
 have Ny208:=am_ hy208
 clear hy208
 by_cases c2 : (strOfNums y208).size + a0.size ≤ 9223372036854775807
 ·rw [if_pos c2] at H
  have c2b0:=eq_true c2
  have c2b1 : decide ((strOfNums y208).size + a0.size ≤ 9223372036854775807) = true:=decide_eq_true c2
  try have c2b2 : (9223372036854775807 < (strOfNums y208).size + a0.size) = False:=eq_false (Nat.not_lt.2 c2)
  obtain rfl:=Option.some.inj H
  go_enter Tryd.func30,Tryd.ntmps30
  go_wp2_with (first|((with_reducible refine gate_dst (N:=6) rfl ?_);refine Kd.R_lit (Kd.int .u8) _ 5 ?hg (N:=6) ?hd (xs:=([((a0.size : Int)) % 256] : List Int)) (inner:=[.int .u8 (((a0.size : Int)) % 256)]) (ok:=fun _ => True) (okp:=fun _ => True) ?hr ?hp (fun _ hk => hk) trivial (Below.refl _ _) (Nat.le_refl _) (by simp) ?_;(case hd => rfl);(case hg => rfl);(case hr => first|(go_simp;done)|(go_simp;rfl));(case hp => exact (Reps.one (show Kd.M (Kd.int .u8) _ _ _ (((a0.size : Int)) % 256) [.int .u8 (((a0.size : Int)) % 256)] from rfl) (Reps.none _ _)));intro v209 w3 ho4 hb hg_ hnew_;clear hg_ hnew_;(first|rw [← Ny208.out] at ho4|(simp only [Int.reduceToNat] at ho4;rw [← Ny208.out] at ho4));have n0_:=am_ (Kd.R_lower ho4 (below_size (by repeat (first|(with_reducible first|exact HB.out|apply ba_|apply pn_|apply pd_)|exact HB.out))));have n1_:=am_ (below_step (by repeat (first|(with_reducible first|exact HB.out|apply ba_|apply pn_|apply pd_)|exact HB.out)) hb);clear HB;have HO210:=n0_;have HB:=n1_;clear n0_ n1_;clear hb ho4;have hcv5:=own_string (P:=Tryd.prog) Tryd.underlying44 Tryd.underlying5 Tryd.underlying9 (Kd.own_of_R HO210.out)))
  go_ret
  exact ⟨by first|rfl|(simp [errW_none,errW_some] <;> rfl)|(simp [*,errW_none,errW_some] <;> rfl),by repeat (first|(with_reducible first|exact HB.out|apply ba_|apply pn_|apply pd_)|exact HB.out)⟩
 ·rw [if_neg c2] at H
  exact absurd H (by simp)

/-! ### dominoref01_Size: function 55 -/
def dominoref01_Size.f (k : Nat) (a0 : Int) : Option (Int):=(dominoref01_power.f k 6).bind fun t211 => (if a0 < t211 then (some 1) else ((dominoref01_power.f k 14).bind fun t212 => (if a0 < t212 then (some 2) else ((dominoref01_power.f k 30).bind fun t213 => (if a0 < t213 then (some 4) else ((dominoref01_power.f k 62).bind fun t214 => (if a0 < t214 then (some 8) else (some 0))))))))
theorem dominoref01_Size.mono : ∀ a0 k,LeO (dominoref01_Size.f k a0) (dominoref01_Size.f (k + 1) a0):=by
 intro a0 k
 unfold dominoref01_Size.f
 repeat' first
   | (with_reducible exact dominoref01_power.mono _ _)
   | (with_reducible exact LeO.refl _)
   | (with_reducible exact LeO.none _)
   | (with_reducible refine LeO.ite ?_ ?_)
   | (with_reducible refine LeO.bind ?_ (fun _ => ?_))
   | exact dominoref01_power.mono _ _
   | exact LeO.none _
   | refine LeO.ite ?_ ?_
   | refine LeO.bind ?_ (fun _ => ?_)
set_option maxHeartbeats 8000000 in
set_option maxRecDepth 100000 in
theorem dominoref01_Size.calls (k : Nat) (a0 : Int) (r : Int) (w : World) (h : dominoref01_Size.f k a0 = some r) :
  Calls Tryd.prog 55 #[.int .u64 a0] w fun e w' => e = .returned (.int .i64 r) ∧ Drawn0 w w':=by
 have H : ((dominoref01_power.f k 6).bind fun t211 => (if a0 < t211 then (some 1) else ((dominoref01_power.f k 14).bind fun t212 => (if a0 < t212 then (some 2) else ((dominoref01_power.f k 30).bind fun t213 => (if a0 < t213 then (some 4) else ((dominoref01_power.f k 62).bind fun t214 => (if a0 < t214 then (some 8) else (some 0))))))))) = some r:=h
 clear h
 replace H:=Option.bind_eq_some_iff.mp H
 obtain ⟨t211,A20,H⟩:=H
 replace H : (if a0 < t211 then (some 1) else ((dominoref01_power.f k 14).bind fun t212 => (if a0 < t212 then (some 2) else ((dominoref01_power.f k 30).bind fun t213 => (if a0 < t213 then (some 4) else ((dominoref01_power.f k 62).bind fun t214 => (if a0 < t214 then (some 8) else (some 0)))))))) = some r:=H
 have A2:=am_ A20
 clear A20
 by_cases c3 : a0 < t211
 ·rw [if_pos c3] at H
  have c3b0 : decide (a0 < t211) = true:=decide_eq_true c3
  clear c3
  obtain rfl:=Option.some.inj H
  go_enter Tryd.func55,Tryd.ntmps55
  go_wp2_with (first|((with_reducible refine gate_callee (f:=45) rfl ?_);refine goesL_ (some 5) rfl rfl Tryd.func45 (by kernel_rfl) rfl #[.int .i64 6] rfl (by (try simp only [List.map_toArray,List.map_cons,List.map_nil]);first|done|rfl|(simp only [List.length_drop,List.length_take];rfl)) ?_;(with_reducible refine (dominoref01_power.calls k 6 t211 _ A2.out).mono ?_);rintro e w' ⟨rfl,⟨nd,rfl⟩⟩;refine ⟨_,rfl,?_⟩))
  go_ret
  exact ⟨by first|rfl|(simp;done)|(simp [*];done),by repeat (first|exact Drawn0.refl _|apply Drawn0.step)⟩
 ·rw [if_neg c3] at H
  have c3b0 : decide (a0 < t211) = false:=decide_eq_false c3
  clear c3
  replace H:=Option.bind_eq_some_iff.mp H
  obtain ⟨t212,A40,H⟩:=H
  replace H : (if a0 < t212 then (some 2) else ((dominoref01_power.f k 30).bind fun t213 => (if a0 < t213 then (some 4) else ((dominoref01_power.f k 62).bind fun t214 => (if a0 < t214 then (some 8) else (some 0)))))) = some r:=H
  have A4:=am_ A40
  clear A40
  by_cases c5 : a0 < t212
  ·rw [if_pos c5] at H
   have c5b0 : decide (a0 < t212) = true:=decide_eq_true c5
   clear c5
   obtain rfl:=Option.some.inj H
   go_enter Tryd.func55,Tryd.ntmps55
   go_wp2_with (first|((with_reducible refine gate_callee (f:=45) rfl ?_);refine goesL_ (some 5) rfl rfl Tryd.func45 (by kernel_rfl) rfl #[.int .i64 6] rfl (by (try simp only [List.map_toArray,List.map_cons,List.map_nil]);first|done|rfl|(simp only [List.length_drop,List.length_take];rfl)) ?_;(with_reducible refine (dominoref01_power.calls k 6 t211 _ A2.out).mono ?_);rintro e w' ⟨rfl,⟨nd,rfl⟩⟩;refine ⟨_,rfl,?_⟩)|((with_reducible refine gate_callee (f:=45) rfl ?_);refine goesL_ (some 9) rfl rfl Tryd.func45 (by kernel_rfl) rfl #[.int .i64 14] rfl (by (try simp only [List.map_toArray,List.map_cons,List.map_nil]);first|done|rfl|(simp only [List.length_drop,List.length_take];rfl)) ?_;(with_reducible refine (dominoref01_power.calls k 14 t212 _ A4.out).mono ?_);rintro e w' ⟨rfl,⟨nd,rfl⟩⟩;refine ⟨_,rfl,?_⟩))
   go_ret
   exact ⟨by first|rfl|(simp;done)|(simp [*];done),by repeat (first|exact Drawn0.refl _|apply Drawn0.step)⟩
  ·rw [if_neg c5] at H
   have c5b0 : decide (a0 < t212) = false:=decide_eq_false c5
   clear c5
   replace H:=Option.bind_eq_some_iff.mp H
   obtain ⟨t213,A60,H⟩:=H
   replace H : (if a0 < t213 then (some 4) else ((dominoref01_power.f k 62).bind fun t214 => (if a0 < t214 then (some 8) else (some 0)))) = some r:=H
   have A6:=am_ A60
   clear A60
   by_cases c7 : a0 < t213
   ·rw [if_pos c7] at H
    have c7b0 : decide (a0 < t213) = true:=decide_eq_true c7
    clear c7
    obtain rfl:=Option.some.inj H
    go_enter Tryd.func55,Tryd.ntmps55
    go_wp2_with (first|((with_reducible refine gate_callee (f:=45) rfl ?_);refine goesL_ (some 5) rfl rfl Tryd.func45 (by kernel_rfl) rfl #[.int .i64 6] rfl (by (try simp only [List.map_toArray,List.map_cons,List.map_nil]);first|done|rfl|(simp only [List.length_drop,List.length_take];rfl)) ?_;(with_reducible refine (dominoref01_power.calls k 6 t211 _ A2.out).mono ?_);rintro e w' ⟨rfl,⟨nd,rfl⟩⟩;refine ⟨_,rfl,?_⟩)|((with_reducible refine gate_callee (f:=45) rfl ?_);refine goesL_ (some 9) rfl rfl Tryd.func45 (by kernel_rfl) rfl #[.int .i64 14] rfl (by (try simp only [List.map_toArray,List.map_cons,List.map_nil]);first|done|rfl|(simp only [List.length_drop,List.length_take];rfl)) ?_;(with_reducible refine (dominoref01_power.calls k 14 t212 _ A4.out).mono ?_);rintro e w' ⟨rfl,⟨nd,rfl⟩⟩;refine ⟨_,rfl,?_⟩)|((with_reducible refine gate_callee (f:=45) rfl ?_);refine goesL_ (some 13) rfl rfl Tryd.func45 (by kernel_rfl) rfl #[.int .i64 30] rfl (by (try simp only [List.map_toArray,List.map_cons,List.map_nil]);first|done|rfl|(simp only [List.length_drop,List.length_take];rfl)) ?_;(with_reducible refine (dominoref01_power.calls k 30 t213 _ A6.out).mono ?_);rintro e w' ⟨rfl,⟨nd,rfl⟩⟩;refine ⟨_,rfl,?_⟩))
    go_ret
    exact ⟨by first|rfl|(simp;done)|(simp [*];done),by repeat (first|exact Drawn0.refl _|apply Drawn0.step)⟩
   ·rw [if_neg c7] at H
    have c7b0 : decide (a0 < t213) = false:=decide_eq_false c7
    clear c7
    replace H:=Option.bind_eq_some_iff.mp H
    obtain ⟨t214,A80,H⟩:=H
    replace H : (if a0 < t214 then (some 8) else (some 0)) = some r:=H
    have A8:=am_ A80
    clear A80
    by_cases c9 : a0 < t214
    ·rw [if_pos c9] at H
     have c9b0 : decide (a0 < t214) = true:=decide_eq_true c9
     clear c9
     obtain rfl:=Option.some.inj H
     go_enter Tryd.func55,Tryd.ntmps55
     go_wp2_with (first|((with_reducible refine gate_callee (f:=45) rfl ?_);refine goesL_ (some 5) rfl rfl Tryd.func45 (by kernel_rfl) rfl #[.int .i64 6] rfl (by (try simp only [List.map_toArray,List.map_cons,List.map_nil]);first|done|rfl|(simp only [List.length_drop,List.length_take];rfl)) ?_;(with_reducible refine (dominoref01_power.calls k 6 t211 _ A2.out).mono ?_);rintro e w' ⟨rfl,⟨nd,rfl⟩⟩;refine ⟨_,rfl,?_⟩)|((with_reducible refine gate_callee (f:=45) rfl ?_);refine goesL_ (some 9) rfl rfl Tryd.func45 (by kernel_rfl) rfl #[.int .i64 14] rfl (by (try simp only [List.map_toArray,List.map_cons,List.map_nil]);first|done|rfl|(simp only [List.length_drop,List.length_take];rfl)) ?_;(with_reducible refine (dominoref01_power.calls k 14 t212 _ A4.out).mono ?_);rintro e w' ⟨rfl,⟨nd,rfl⟩⟩;refine ⟨_,rfl,?_⟩)|((with_reducible refine gate_callee (f:=45) rfl ?_);refine goesL_ (some 13) rfl rfl Tryd.func45 (by kernel_rfl) rfl #[.int .i64 30] rfl (by (try simp only [List.map_toArray,List.map_cons,List.map_nil]);first|done|rfl|(simp only [List.length_drop,List.length_take];rfl)) ?_;(with_reducible refine (dominoref01_power.calls k 30 t213 _ A6.out).mono ?_);rintro e w' ⟨rfl,⟨nd,rfl⟩⟩;refine ⟨_,rfl,?_⟩)|((with_reducible refine gate_callee (f:=45) rfl ?_);refine goesL_ (some 17) rfl rfl Tryd.func45 (by kernel_rfl) rfl #[.int .i64 62] rfl (by (try simp only [List.map_toArray,List.map_cons,List.map_nil]);first|done|rfl|(simp only [List.length_drop,List.length_take];rfl)) ?_;(with_reducible refine (dominoref01_power.calls k 62 t214 _ A8.out).mono ?_);rintro e w' ⟨rfl,⟨nd,rfl⟩⟩;refine ⟨_,rfl,?_⟩))
     go_ret
     exact ⟨by first|rfl|(simp;done)|(simp [*];done),by repeat (first|exact Drawn0.refl _|apply Drawn0.step)⟩
    ·rw [if_neg c9] at H
     have c9b0 : decide (a0 < t214) = false:=decide_eq_false c9
     clear c9
     obtain rfl:=Option.some.inj H
     go_enter Tryd.func55,Tryd.ntmps55
     go_wp2_with (first|((with_reducible refine gate_callee (f:=45) rfl ?_);refine goesL_ (some 5) rfl rfl Tryd.func45 (by kernel_rfl) rfl #[.int .i64 6] rfl (by (try simp only [List.map_toArray,List.map_cons,List.map_nil]);first|done|rfl|(simp only [List.length_drop,List.length_take];rfl)) ?_;(with_reducible refine (dominoref01_power.calls k 6 t211 _ A2.out).mono ?_);rintro e w' ⟨rfl,⟨nd,rfl⟩⟩;refine ⟨_,rfl,?_⟩)|((with_reducible refine gate_callee (f:=45) rfl ?_);refine goesL_ (some 9) rfl rfl Tryd.func45 (by kernel_rfl) rfl #[.int .i64 14] rfl (by (try simp only [List.map_toArray,List.map_cons,List.map_nil]);first|done|rfl|(simp only [List.length_drop,List.length_take];rfl)) ?_;(with_reducible refine (dominoref01_power.calls k 14 t212 _ A4.out).mono ?_);rintro e w' ⟨rfl,⟨nd,rfl⟩⟩;refine ⟨_,rfl,?_⟩)|((with_reducible refine gate_callee (f:=45) rfl ?_);refine goesL_ (some 13) rfl rfl Tryd.func45 (by kernel_rfl) rfl #[.int .i64 30] rfl (by (try simp only [List.map_toArray,List.map_cons,List.map_nil]);first|done|rfl|(simp only [List.length_drop,List.length_take];rfl)) ?_;(with_reducible refine (dominoref01_power.calls k 30 t213 _ A6.out).mono ?_);rintro e w' ⟨rfl,⟨nd,rfl⟩⟩;refine ⟨_,rfl,?_⟩)|((with_reducible refine gate_callee (f:=45) rfl ?_);refine goesL_ (some 17) rfl rfl Tryd.func45 (by kernel_rfl) rfl #[.int .i64 62] rfl (by (try simp only [List.map_toArray,List.map_cons,List.map_nil]);first|done|rfl|(simp only [List.length_drop,List.length_take];rfl)) ?_;(with_reducible refine (dominoref01_power.calls k 62 t214 _ A8.out).mono ?_);rintro e w' ⟨rfl,⟨nd,rfl⟩⟩;refine ⟨_,rfl,?_⟩))
     go_ret
     exact ⟨by first|rfl|(simp;done)|(simp [*];done),by repeat (first|exact Drawn0.refl _|apply Drawn0.step)⟩

/-! ### dominoref01_Put: function 46 -/
def dominoref01_Put.f (k : Nat) (a0 : Int) : Option (ByteArray × Int):=(dominoref01_Size.f k a0).bind fun t215 => (if t215 = 1 then ((dominoref01_Fixed.f k a0 1).bind fun t216 => (some (t216,0))) else (if t215 = 2 then ((dominoref01_power.f k 14).bind fun t217 => ((dominoref01_Fixed.f k (IntKind.u64.wrap (a0 + t217)) 2).bind fun t218 => (some (t218,0)))) else (if t215 = 4 then ((dominoref01_power.f k 30).bind fun t219 => ((dominoref01_Fixed.f k (IntKind.u64.wrap (a0 + (IntKind.u64.wrap (2 * t219)))) 4).bind fun t220 => (some (t220,0)))) else (if t215 = 8 then ((dominoref01_power.f k 62).bind fun t221 => ((dominoref01_Fixed.f k (IntKind.u64.wrap (a0 + (IntKind.u64.wrap (3 * t221)))) 8).bind fun t222 => (some (t222,0)))) else (some ((⟨#[]⟩ : ByteArray),1))))))
theorem dominoref01_Put.mono : ∀ a0 k,LeO (dominoref01_Put.f k a0) (dominoref01_Put.f (k + 1) a0):=by
 intro a0 k
 unfold dominoref01_Put.f
 repeat' first
   | (with_reducible exact dominoref01_Fixed.mono _ _ _)
   | (with_reducible exact dominoref01_Size.mono _ _)
   | (with_reducible exact dominoref01_power.mono _ _)
   | (with_reducible exact LeO.refl _)
   | (with_reducible exact LeO.none _)
   | (with_reducible refine LeO.ite ?_ ?_)
   | (with_reducible refine LeO.bind ?_ (fun _ => ?_))
   | exact dominoref01_Fixed.mono _ _ _
   | exact dominoref01_Size.mono _ _
   | exact dominoref01_power.mono _ _
   | exact LeO.none _
   | refine LeO.ite ?_ ?_
   | refine LeO.bind ?_ (fun _ => ?_)
set_option maxHeartbeats 8000000 in
set_option maxRecDepth 100000 in
theorem dominoref01_Put.calls (k : Nat) (a0 : Int) (r1 : ByteArray) (r2 : Int) (w : World) (h : dominoref01_Put.f k a0 = some (r1,r2)) :
  Calls Tryd.prog 46 #[.int .u64 a0] w fun e w' => e = .returned (.tuple #[.string r1,.int .i64 r2]) ∧ Below w.heap.size w w':=by
 have HB:=am_ (Below.refl w.heap.size w)
 have H : ((dominoref01_Size.f k a0).bind fun t215 => (if t215 = 1 then ((dominoref01_Fixed.f k a0 1).bind fun t216 => (some (t216,0))) else (if t215 = 2 then ((dominoref01_power.f k 14).bind fun t217 => ((dominoref01_Fixed.f k (IntKind.u64.wrap (a0 + t217)) 2).bind fun t218 => (some (t218,0)))) else (if t215 = 4 then ((dominoref01_power.f k 30).bind fun t219 => ((dominoref01_Fixed.f k (IntKind.u64.wrap (a0 + (IntKind.u64.wrap (2 * t219)))) 4).bind fun t220 => (some (t220,0)))) else (if t215 = 8 then ((dominoref01_power.f k 62).bind fun t221 => ((dominoref01_Fixed.f k (IntKind.u64.wrap (a0 + (IntKind.u64.wrap (3 * t221)))) 8).bind fun t222 => (some (t222,0)))) else (some ((⟨#[]⟩ : ByteArray),1))))))) = some (r1,r2):=h
 clear h
 replace H:=Option.bind_eq_some_iff.mp H
 obtain ⟨t215,A20,H⟩:=H
 replace H : (if t215 = 1 then ((dominoref01_Fixed.f k a0 1).bind fun t216 => (some (t216,0))) else (if t215 = 2 then ((dominoref01_power.f k 14).bind fun t217 => ((dominoref01_Fixed.f k (IntKind.u64.wrap (a0 + t217)) 2).bind fun t218 => (some (t218,0)))) else (if t215 = 4 then ((dominoref01_power.f k 30).bind fun t219 => ((dominoref01_Fixed.f k (IntKind.u64.wrap (a0 + (IntKind.u64.wrap (2 * t219)))) 4).bind fun t220 => (some (t220,0)))) else (if t215 = 8 then ((dominoref01_power.f k 62).bind fun t221 => ((dominoref01_Fixed.f k (IntKind.u64.wrap (a0 + (IntKind.u64.wrap (3 * t221)))) 8).bind fun t222 => (some (t222,0)))) else (some ((⟨#[]⟩ : ByteArray),1)))))) = some (r1,r2):=H
 have A2:=am_ A20
 clear A20
 by_cases c3 : t215 = 1
 ·rw [if_pos c3] at H
  have c3b0 : (t215 == 1) = true:=beq_iff_eq.mpr c3
  have c3b1 : (t215 != 1) = false:=bne_eq_false_iff_eq.mpr c3
  clear c3
  replace H:=Option.bind_eq_some_iff.mp H
  obtain ⟨t216,A40,H⟩:=H
  replace H : (some (t216,0)) = some (r1,r2):=H
  have A4:=am_ A40
  clear A40
  simp only [Option.some.injEq,Prod.mk.injEq] at H
  obtain ⟨rfl,rfl⟩:=H
  go_enter Tryd.func46,Tryd.ntmps46
  go_wp2_with (first|((with_reducible refine gate_callee (f:=55) rfl ?_);refine goesL_ (some 5) rfl rfl Tryd.func55 (by kernel_rfl) rfl #[.int .u64 a0] rfl (by (try simp only [List.map_toArray,List.map_cons,List.map_nil]);first|done|rfl|(simp only [List.length_drop,List.length_take];rfl)) ?_;(with_reducible refine (dominoref01_Size.calls k a0 t215 _ A2.out).mono ?_);rintro e w' ⟨rfl,⟨nd,rfl⟩⟩;refine ⟨_,rfl,?_⟩)|((with_reducible refine gate_callee (f:=29) rfl ?_);refine goesL_ (some 9) rfl rfl Tryd.func29 (by kernel_rfl) rfl #[.int .u64 a0,.int .i64 1] rfl (by (try simp only [List.map_toArray,List.map_cons,List.map_nil]);first|done|rfl|(simp only [List.length_drop,List.length_take];rfl)) ?_;(with_reducible refine (dominoref01_Fixed.calls k a0 1 t216 _ A4.out).mono ?_);rintro e w5 ⟨rfl,hb⟩;refine ⟨_,rfl,?_⟩;have n0_:=am_ (below_step (by repeat (first|(with_reducible first|exact HB.out|apply ba_|apply pn_|apply pd_)|exact HB.out)) hb);clear HB;have HB:=n0_;clear n0_;(try clear hb);(try clear hb2);(try clear hk);(try clear hi)))
  go_ret2
  exact ⟨by first|rfl|(simp [errW_none,errW_some] <;> rfl)|(simp [*,errW_none,errW_some] <;> rfl),by repeat (first|(with_reducible first|exact HB.out|apply ba_|apply pn_|apply pd_)|exact HB.out)⟩
 ·rw [if_neg c3] at H
  have c3b0 : (t215 == 1) = false:=beq_eq_false_iff_ne.mpr c3
  have c3b1 : (t215 != 1) = true:=bne_iff_ne.mpr c3
  by_cases c6 : t215 = 2
  ·rw [if_pos c6] at H
   have c6b0 : (t215 == 2) = true:=beq_iff_eq.mpr c6
   have c6b1 : (t215 != 2) = false:=bne_eq_false_iff_eq.mpr c6
   clear c6
   replace H:=Option.bind_eq_some_iff.mp H
   obtain ⟨t217,A70,H⟩:=H
   replace H : ((dominoref01_Fixed.f k (IntKind.u64.wrap (a0 + t217)) 2).bind fun t218 => (some (t218,0))) = some (r1,r2):=H
   have A7:=am_ A70
   clear A70
   replace H:=Option.bind_eq_some_iff.mp H
   obtain ⟨t218,A80,H⟩:=H
   replace H : (some (t218,0)) = some (r1,r2):=H
   have A8:=am_ A80
   clear A80
   simp only [Option.some.injEq,Prod.mk.injEq] at H
   obtain ⟨rfl,rfl⟩:=H
   go_enter Tryd.func46,Tryd.ntmps46
   go_wp2_with (first|((with_reducible refine gate_callee (f:=55) rfl ?_);refine goesL_ (some 5) rfl rfl Tryd.func55 (by kernel_rfl) rfl #[.int .u64 a0] rfl (by (try simp only [List.map_toArray,List.map_cons,List.map_nil]);first|done|rfl|(simp only [List.length_drop,List.length_take];rfl)) ?_;(with_reducible refine (dominoref01_Size.calls k a0 t215 _ A2.out).mono ?_);rintro e w' ⟨rfl,⟨nd,rfl⟩⟩;refine ⟨_,rfl,?_⟩)|((with_reducible refine gate_callee (f:=45) rfl ?_);refine goesL_ (some 13) rfl rfl Tryd.func45 (by kernel_rfl) rfl #[.int .i64 14] rfl (by (try simp only [List.map_toArray,List.map_cons,List.map_nil]);first|done|rfl|(simp only [List.length_drop,List.length_take];rfl)) ?_;(with_reducible refine (dominoref01_power.calls k 14 t217 _ A7.out).mono ?_);rintro e w' ⟨rfl,⟨nd,rfl⟩⟩;refine ⟨_,rfl,?_⟩)|((with_reducible refine gate_callee (f:=29) rfl ?_);refine goesL_ (some 15) rfl rfl Tryd.func29 (by kernel_rfl) rfl #[.int .u64 (IntKind.u64.wrap (a0 + t217)),.int .i64 2] rfl (by (try simp only [List.map_toArray,List.map_cons,List.map_nil]);first|done|rfl|(simp only [List.length_drop,List.length_take];rfl)) ?_;(with_reducible refine (dominoref01_Fixed.calls k (IntKind.u64.wrap (a0 + t217)) 2 t218 _ A8.out).mono ?_);rintro e w9 ⟨rfl,hb⟩;refine ⟨_,rfl,?_⟩;have n0_:=am_ (below_step (by repeat (first|(with_reducible first|exact HB.out|apply ba_|apply pn_|apply pd_)|exact HB.out)) hb);clear HB;have HB:=n0_;clear n0_;(try clear hb);(try clear hb2);(try clear hk);(try clear hi)))
   go_ret2
   exact ⟨by first|rfl|(simp [errW_none,errW_some] <;> rfl)|(simp [*,errW_none,errW_some] <;> rfl),by repeat (first|(with_reducible first|exact HB.out|apply ba_|apply pn_|apply pd_)|exact HB.out)⟩
  ·rw [if_neg c6] at H
   have c6b0 : (t215 == 2) = false:=beq_eq_false_iff_ne.mpr c6
   have c6b1 : (t215 != 2) = true:=bne_iff_ne.mpr c6
   by_cases c10 : t215 = 4
   ·rw [if_pos c10] at H
    have c10b0 : (t215 == 4) = true:=beq_iff_eq.mpr c10
    have c10b1 : (t215 != 4) = false:=bne_eq_false_iff_eq.mpr c10
    clear c10
    replace H:=Option.bind_eq_some_iff.mp H
    obtain ⟨t219,A110,H⟩:=H
    replace H : ((dominoref01_Fixed.f k (IntKind.u64.wrap (a0 + (IntKind.u64.wrap (2 * t219)))) 4).bind fun t220 => (some (t220,0))) = some (r1,r2):=H
    have A11:=am_ A110
    clear A110
    replace H:=Option.bind_eq_some_iff.mp H
    obtain ⟨t220,A120,H⟩:=H
    replace H : (some (t220,0)) = some (r1,r2):=H
    have A12:=am_ A120
    clear A120
    simp only [Option.some.injEq,Prod.mk.injEq] at H
    obtain ⟨rfl,rfl⟩:=H
    go_enter Tryd.func46,Tryd.ntmps46
    go_wp2_with (first|((with_reducible refine gate_callee (f:=55) rfl ?_);refine goesL_ (some 5) rfl rfl Tryd.func55 (by kernel_rfl) rfl #[.int .u64 a0] rfl (by (try simp only [List.map_toArray,List.map_cons,List.map_nil]);first|done|rfl|(simp only [List.length_drop,List.length_take];rfl)) ?_;(with_reducible refine (dominoref01_Size.calls k a0 t215 _ A2.out).mono ?_);rintro e w' ⟨rfl,⟨nd,rfl⟩⟩;refine ⟨_,rfl,?_⟩)|((with_reducible refine gate_callee (f:=45) rfl ?_);refine goesL_ (some 19) rfl rfl Tryd.func45 (by kernel_rfl) rfl #[.int .i64 30] rfl (by (try simp only [List.map_toArray,List.map_cons,List.map_nil]);first|done|rfl|(simp only [List.length_drop,List.length_take];rfl)) ?_;(with_reducible refine (dominoref01_power.calls k 30 t219 _ A11.out).mono ?_);rintro e w' ⟨rfl,⟨nd,rfl⟩⟩;refine ⟨_,rfl,?_⟩)|((with_reducible refine gate_callee (f:=29) rfl ?_);refine goesL_ (some 22) rfl rfl Tryd.func29 (by kernel_rfl) rfl #[.int .u64 (IntKind.u64.wrap (a0 + (IntKind.u64.wrap (2 * t219)))),.int .i64 4] rfl (by (try simp only [List.map_toArray,List.map_cons,List.map_nil]);first|done|rfl|(simp only [List.length_drop,List.length_take];rfl)) ?_;(with_reducible refine (dominoref01_Fixed.calls k (IntKind.u64.wrap (a0 + (IntKind.u64.wrap (2 * t219)))) 4 t220 _ A12.out).mono ?_);rintro e w13 ⟨rfl,hb⟩;refine ⟨_,rfl,?_⟩;have n0_:=am_ (below_step (by repeat (first|(with_reducible first|exact HB.out|apply ba_|apply pn_|apply pd_)|exact HB.out)) hb);clear HB;have HB:=n0_;clear n0_;(try clear hb);(try clear hb2);(try clear hk);(try clear hi)))
    go_ret2
    exact ⟨by first|rfl|(simp [errW_none,errW_some] <;> rfl)|(simp [*,errW_none,errW_some] <;> rfl),by repeat (first|(with_reducible first|exact HB.out|apply ba_|apply pn_|apply pd_)|exact HB.out)⟩
   ·rw [if_neg c10] at H
    have c10b0 : (t215 == 4) = false:=beq_eq_false_iff_ne.mpr c10
    have c10b1 : (t215 != 4) = true:=bne_iff_ne.mpr c10
    by_cases c14 : t215 = 8
    ·rw [if_pos c14] at H
     have c14b0 : (t215 == 8) = true:=beq_iff_eq.mpr c14
     have c14b1 : (t215 != 8) = false:=bne_eq_false_iff_eq.mpr c14
     clear c14
     replace H:=Option.bind_eq_some_iff.mp H
     obtain ⟨t221,A150,H⟩:=H
     replace H : ((dominoref01_Fixed.f k (IntKind.u64.wrap (a0 + (IntKind.u64.wrap (3 * t221)))) 8).bind fun t222 => (some (t222,0))) = some (r1,r2):=H
     have A15:=am_ A150
     clear A150
     replace H:=Option.bind_eq_some_iff.mp H
     obtain ⟨t222,A160,H⟩:=H
     replace H : (some (t222,0)) = some (r1,r2):=H
     have A16:=am_ A160
     clear A160
     simp only [Option.some.injEq,Prod.mk.injEq] at H
     obtain ⟨rfl,rfl⟩:=H
     go_enter Tryd.func46,Tryd.ntmps46
     go_wp2_with (first|((with_reducible refine gate_callee (f:=55) rfl ?_);refine goesL_ (some 5) rfl rfl Tryd.func55 (by kernel_rfl) rfl #[.int .u64 a0] rfl (by (try simp only [List.map_toArray,List.map_cons,List.map_nil]);first|done|rfl|(simp only [List.length_drop,List.length_take];rfl)) ?_;(with_reducible refine (dominoref01_Size.calls k a0 t215 _ A2.out).mono ?_);rintro e w' ⟨rfl,⟨nd,rfl⟩⟩;refine ⟨_,rfl,?_⟩)|((with_reducible refine gate_callee (f:=45) rfl ?_);refine goesL_ (some 26) rfl rfl Tryd.func45 (by kernel_rfl) rfl #[.int .i64 62] rfl (by (try simp only [List.map_toArray,List.map_cons,List.map_nil]);first|done|rfl|(simp only [List.length_drop,List.length_take];rfl)) ?_;(with_reducible refine (dominoref01_power.calls k 62 t221 _ A15.out).mono ?_);rintro e w' ⟨rfl,⟨nd,rfl⟩⟩;refine ⟨_,rfl,?_⟩)|((with_reducible refine gate_callee (f:=29) rfl ?_);refine goesL_ (some 29) rfl rfl Tryd.func29 (by kernel_rfl) rfl #[.int .u64 (IntKind.u64.wrap (a0 + (IntKind.u64.wrap (3 * t221)))),.int .i64 8] rfl (by (try simp only [List.map_toArray,List.map_cons,List.map_nil]);first|done|rfl|(simp only [List.length_drop,List.length_take];rfl)) ?_;(with_reducible refine (dominoref01_Fixed.calls k (IntKind.u64.wrap (a0 + (IntKind.u64.wrap (3 * t221)))) 8 t222 _ A16.out).mono ?_);rintro e w17 ⟨rfl,hb⟩;refine ⟨_,rfl,?_⟩;have n0_:=am_ (below_step (by repeat (first|(with_reducible first|exact HB.out|apply ba_|apply pn_|apply pd_)|exact HB.out)) hb);clear HB;have HB:=n0_;clear n0_;(try clear hb);(try clear hb2);(try clear hk);(try clear hi)))
     go_ret2
     exact ⟨by first|rfl|(simp [errW_none,errW_some] <;> rfl)|(simp [*,errW_none,errW_some] <;> rfl),by repeat (first|(with_reducible first|exact HB.out|apply ba_|apply pn_|apply pd_)|exact HB.out)⟩
    ·rw [if_neg c14] at H
     have c14b0 : (t215 == 8) = false:=beq_eq_false_iff_ne.mpr c14
     have c14b1 : (t215 != 8) = true:=bne_iff_ne.mpr c14
     simp only [Option.some.injEq,Prod.mk.injEq] at H
     obtain ⟨rfl,rfl⟩:=H
     go_enter Tryd.func46,Tryd.ntmps46
     go_wp2_with (first|((with_reducible refine gate_callee (f:=55) rfl ?_);refine goesL_ (some 5) rfl rfl Tryd.func55 (by kernel_rfl) rfl #[.int .u64 a0] rfl (by (try simp only [List.map_toArray,List.map_cons,List.map_nil]);first|done|rfl|(simp only [List.length_drop,List.length_take];rfl)) ?_;(with_reducible refine (dominoref01_Size.calls k a0 t215 _ A2.out).mono ?_);rintro e w' ⟨rfl,⟨nd,rfl⟩⟩;refine ⟨_,rfl,?_⟩))
     go_ret2
     exact ⟨by first|rfl|(simp [errW_none,errW_some] <;> rfl)|(simp [*,errW_none,errW_some] <;> rfl),by repeat (first|(with_reducible first|exact HB.out|apply ba_|apply pn_|apply pd_)|exact HB.out)⟩

/-! ### dominoref04_v: function 31 -/
def dominoref04_v.f (k : Nat) (a0 : Int) : Option (ByteArray):=(dominoref01_Put.f k a0).bind fun bt223 => (some bt223.1)
theorem dominoref04_v.mono : ∀ a0 k,LeO (dominoref04_v.f k a0) (dominoref04_v.f (k + 1) a0):=by
 intro a0 k
 unfold dominoref04_v.f
 repeat' first
   | (with_reducible exact dominoref01_Put.mono _ _)
   | (with_reducible exact LeO.refl _)
   | (with_reducible exact LeO.none _)
   | (with_reducible refine LeO.ite ?_ ?_)
   | (with_reducible refine LeO.bind ?_ (fun _ => ?_))
   | exact dominoref01_Put.mono _ _
   | exact LeO.none _
   | refine LeO.ite ?_ ?_
   | refine LeO.bind ?_ (fun _ => ?_)
set_option maxHeartbeats 8000000 in
set_option maxRecDepth 100000 in
theorem dominoref04_v.calls (k : Nat) (a0 : Int) (r : ByteArray) (w : World) (h : dominoref04_v.f k a0 = some r) :
  Calls Tryd.prog 31 #[.int .u64 a0] w fun e w' => e = .returned (.string r) ∧ Below w.heap.size w w':=by
 have HB:=am_ (Below.refl w.heap.size w)
 have H : ((dominoref01_Put.f k a0).bind fun bt223 => (some bt223.1)) = some r:=h
 clear h
 replace H:=Option.bind_eq_some_iff.mp H
 obtain ⟨⟨t223,t224⟩,A20,H⟩:=H
 replace H : (some t223) = some r:=H
 have A2:=am_ A20
 clear A20
 obtain rfl:=Option.some.inj H
 go_enter Tryd.func31,Tryd.ntmps31
 go_wp2_with (first|((with_reducible refine gate_callee (f:=46) rfl ?_);refine goesL_ (some 7) rfl rfl Tryd.func46 (by kernel_rfl) rfl #[.int .u64 a0] rfl (by (try simp only [List.map_toArray,List.map_cons,List.map_nil]);first|done|rfl|(simp only [List.length_drop,List.length_take];rfl)) ?_;(with_reducible refine (dominoref01_Put.calls k a0 t223 t224 _ A2.out).mono ?_);rintro e w3 ⟨rfl,hb⟩;refine ⟨_,rfl,?_⟩;have n0_:=am_ (below_step (by repeat (first|(with_reducible first|exact HB.out|apply ba_|apply pn_|apply pd_)|exact HB.out)) hb);clear HB;have HB:=n0_;clear n0_;(try clear hb);(try clear hb2);(try clear hk);(try clear hi)))
 go_ret
 exact ⟨by first|rfl|(simp [errW_none,errW_some] <;> rfl)|(simp [*,errW_none,errW_some] <;> rfl),by repeat (first|(with_reducible first|exact HB.out|apply ba_|apply pn_|apply pd_)|exact HB.out)⟩

end Go.Proofs.YtjpafikgbnloaaaDoor.PHdt
