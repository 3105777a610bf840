-- printed for this claim by a program of the claim (wip/tools/pp.py over the kit's print)
import Derived.Test.YtjpafikgbnloaaaDoorPHdtx0
import Derived.Test.YtjpafikgbnloaaaDoorPHdtx2
import Derived.Test.YtjpafikgbnloaaaDoorPHdtx3
namespace Go.Proofs.YtjpafikgbnloaaaDoor.PHdt
open Go.RowKit Go.Proofs.YtjpafikgbnloaaaDoorW.PrintWords Go.Proofs.YtjpafikgbnloaaaDoorW.PrintLast Go.Proofs.YtjpafikgbnloaaaDoorW.PrintMore
attribute [local go_sem] max2_int min2_int max_two min_two max_three min_three max_four min_four   -- for this text's walks alone
set_option linter.unusedVariables false
set_option linter.unusedSimpArgs false

attribute [local go_sem] isSome_setCell_
/-! ### header_Put: function 12 -/
def header_Put.j0 : Nat → ByteArray → Int → ByteArray → Bool → Bool → Bool → Int → Int → ByteArray → ByteArray → ByteArray → Int → Int → Int → Option (ByteArray × Int)
 | 0,_,_,_,_,_,_,_,_,_,_,_,_,_,_ => none
 | k + 1,x4,x5,x6,x118000,x118001,x118002,x118003,x118004,x118005,x118006,x118007,x118008,x118009,x118010 => (varint_Fixed.f (IntKind.u64.wrap (x118004)) 4).bind fun t127 => ((header_counted.f k x118005).bind fun t128 => ((header_counted.f k x118006).bind fun t129 => ((header_number.f x118008).bind fun t130 => ((header_joined.f k (Go.bits .or .u8 (Go.bits .or .u8 x5 128) ((((x118003) % 256) * 16) % 256)) (([t127,t128,t129,x6,t130,x4] : List ByteArray))).bind fun t134 => (some (t134,0))))))
def header_Put.f (k : Nat) (a0_0 : Bool) (a0_1 : Bool) (a0_2 : Bool) (a0_3 : Int) (a0_4 : Int) (a0_5 : ByteArray) (a0_6 : ByteArray) (a0_7 : ByteArray) (a0_8 : Int) (a0_9 : Int) (a0_10 : Int) : Option (ByteArray × Int):=(header_May.f k a0_0 a0_1 a0_2 a0_3 a0_4 a0_5 a0_6 a0_7 a0_8 a0_9 a0_10).bind fun t118 => (if t118 = true then ((varint_Fixed.f a0_10 a0_9).bind fun t119 => (if a0_0 = true then (if a0_3 = 0 then ((header_number.f (IntKind.u64.wrap ((a0_7.size : Int)))).bind fun t126 => (if t126.size + a0_7.size ≤ 9223372036854775807 then (header_Put.j0 k t119 (Go.bits .or .u8 64 ((wrap64 (a0_9 - 1)) % 256)) (t126 ++ a0_7) a0_0 a0_1 a0_2 a0_3 a0_4 a0_5 a0_6 a0_7 a0_8 a0_9 a0_10) else (none))) else (header_Put.j0 k t119 (Go.bits .or .u8 64 ((wrap64 (a0_9 - 1)) % 256)) (⟨#[]⟩ : ByteArray) a0_0 a0_1 a0_2 a0_3 a0_4 a0_5 a0_6 a0_7 a0_8 a0_9 a0_10)) else ((header_flag.f a0_1 32).bind fun t120 => ((header_flag.f a0_2 4).bind fun t121 => ((header_joined.f k (Go.bits .or .u8 (Go.bits .or .u8 (Go.bits .or .u8 64 ((wrap64 (a0_9 - 1)) % 256)) t120) t121) (([a0_5,t119] : List ByteArray))).bind fun t125 => (some (t125,0))))))) else (some ((⟨#[]⟩ : ByteArray),1)))
theorem header_Put.mono_l : ∀ k,(∀ y0 y1 y2 y3 y4 y5 y6 y7 y8 y9 y10 y11 y12 y13,LeO (header_Put.j0 k y0 y1 y2 y3 y4 y5 y6 y7 y8 y9 y10 y11 y12 y13) (header_Put.j0 (k + 1) y0 y1 y2 y3 y4 y5 y6 y7 y8 y9 y10 y11 y12 y13))
 | 0 => fun _ _ _ _ _ _ _ _ _ _ _ _ _ _ r h => by simp [header_Put.j0] at h
 | k + 1 => by
  have ih0:=header_Put.mono_l k
  ·intro y0 y1 y2 y3 y4 y5 y6 y7 y8 y9 y10 y11 y12 y13
   unfold header_Put.j0
   repeat' first
   | (with_reducible exact ih0 _ _ _ _ _ _ _ _ _ _ _ _ _ _)
   | (with_reducible exact header_May.mono _ _ _ _ _ _ _ _ _ _ _ _)
   | (with_reducible exact header_counted.mono _ _)
   | (with_reducible exact header_joined.mono _ _ _)
   | (with_reducible exact LeO.refl _)
   | (with_reducible exact LeO.none _)
   | (with_reducible refine LeO.ite ?_ ?_)
   | (with_reducible refine LeO.bind ?_ (fun _ => ?_))
   | exact ih0 _ _ _ _ _ _ _ _ _ _ _ _ _ _
   | exact header_May.mono _ _ _ _ _ _ _ _ _ _ _ _
   | exact header_counted.mono _ _
   | exact header_joined.mono _ _ _
   | exact LeO.none _
   | refine LeO.ite ?_ ?_
   | refine LeO.bind ?_ (fun _ => ?_)
theorem header_Put.mono : ∀ a0 a1 a2 a3 a4 a5 a6 a7 a8 a9 a10 k,LeO (header_Put.f k a0 a1 a2 a3 a4 a5 a6 a7 a8 a9 a10) (header_Put.f (k + 1) a0 a1 a2 a3 a4 a5 a6 a7 a8 a9 a10):=by
 intro a0 a1 a2 a3 a4 a5 a6 a7 a8 a9 a10 k
 have ih0:=header_Put.mono_l k
 unfold header_Put.f
 repeat' first
   | (with_reducible exact ih0 _ _ _ _ _ _ _ _ _ _ _ _ _ _)
   | (with_reducible exact header_May.mono _ _ _ _ _ _ _ _ _ _ _ _)
   | (with_reducible exact header_counted.mono _ _)
   | (with_reducible exact header_joined.mono _ _ _)
   | (with_reducible exact LeO.refl _)
   | (with_reducible exact LeO.none _)
   | (with_reducible refine LeO.ite ?_ ?_)
   | (with_reducible refine LeO.bind ?_ (fun _ => ?_))
   | exact ih0 _ _ _ _ _ _ _ _ _ _ _ _ _ _
   | exact header_May.mono _ _ _ _ _ _ _ _ _ _ _ _
   | exact header_counted.mono _ _
   | exact header_joined.mono _ _ _
   | exact LeO.none _
   | refine LeO.ite ?_ ?_
   | refine LeO.bind ?_ (fun _ => ?_)
def header_Put.T6 : Bool × List (List Nat × List Nat):=(true,[([],[]),([],[]),([1],[1]),([2],[2]),([0,3],[0,3]),([],[]),([5],[5]),([6,3],[6]),([4,7],[4,7]),([],[]),([9],[9]),([],[]),([10,11],[10,11]),([8,12,7],[8,12]),([13,13,0,1,2,3,4,5,6,7,8,9,10,11,12,13],[13]),([14,0,1,2,3,4,5,6,7,8,9,10,11,12,13,14],[])])
def header_Put.B6 : List Nat:=[0,0,2,6,15,0,32,110,255,0,512,0,3584,8191,16383,32767]
theorem header_Put.tab6 : rtab .any (opsOf Tryd.f12 6) = header_Put.T6:=by kernel_rfl
theorem header_Put.bits6 : waitsOk header_Put.T6.2 header_Put.B6 = true:=by kernel_rfl
def header_Put.T9 : Bool × List (List Nat × List Nat):=(true,[([],[]),([0],[0]),([1],[1]),([2],[2]),([3],[3]),([],[]),([5],[5]),([4,6],[4,6]),([7,4,0,1,2,3,4,5,6,7],[7])])
def header_Put.B9 : List Nat:=[0,1,3,7,15,0,32,127,255]
theorem header_Put.tab9 : rtab .any (opsOf Tryd.f12 9) = header_Put.T9:=by kernel_rfl
theorem header_Put.bits9 : waitsOk header_Put.T9.2 header_Put.B9 = true:=by kernel_rfl
def header_Put.T10 : Bool × List (List Nat × List Nat):=(true,[([],[]),([0],[0]),([],[]),([2],[2]),([3],[3]),([4],[4]),([1,5],[1,5]),([],[]),([7],[7]),([8],[8]),([9],[9]),([],[]),([11],[11]),([12,10],[12]),([],[]),([14],[14]),([15,13],[15]),([],[]),([],[]),([18],[18]),([19,16],[19]),([],[]),([10,13,16,17,20,21],[10,13,16,17,20,21]),([6,22,20],[6,22]),([23,23,0,1,2,3,4,5,6,7,8,9,10,11,12,13,14,15,16,17,18,19,20,21,22,23],[23]),([24,0,1,2,3,4,5,6,7,8,9,10,11,12,13,14,15,16,17,18,19,20,21,22,23,24],[])])
def header_Put.B10 : List Nat:=[0,1,0,4,12,28,63,0,128,384,896,0,2048,8064,0,16384,65408,0,0,262144,917376,0,4194176,8388607,16777215,33554431]
theorem header_Put.tab10 : rtab .any (opsOf Tryd.f12 10) = header_Put.T10:=by kernel_rfl
theorem header_Put.bits10 : waitsOk header_Put.T10.2 header_Put.B10 = true:=by kernel_rfl
set_option maxHeartbeats 8000000 in
set_option maxRecDepth 100000 in
theorem header_Put.calls (k : Nat) (a0_0 : Bool) (a0_1 : Bool) (a0_2 : Bool) (a0_3 : Int) (a0_4 : Int) (a0_5 : ByteArray) (a0_6 : ByteArray) (a0_7 : ByteArray) (a0_8 : Int) (a0_9 : Int) (a0_10 : Int) (r1 : ByteArray) (r2 : Int) (w : World) (ht : Tab w) (h : header_Put.f k a0_0 a0_1 a0_2 a0_3 a0_4 a0_5 a0_6 a0_7 a0_8 a0_9 a0_10 = some (r1,r2)) :
  Calls Tryd.prog 12 #[.agg #[.bool a0_0,.bool a0_1,.bool a0_2,.int .i64 a0_3,.int .u32 a0_4,.string a0_5,.string a0_6,.string a0_7,.int .u64 a0_8,.int .i64 a0_9,.int .u64 a0_10]] w fun e w' => e = .returned (.tuple #[.string r1,.int .i64 r2]) ∧ Below w.heap.size w w':=by
 have HTab:=am_ ht
 clear ht
 have hu25:=Tryd.underlying25
 have HB:=am_ (Below.refl w.heap.size w)
 have H : ((header_May.f k a0_0 a0_1 a0_2 a0_3 a0_4 a0_5 a0_6 a0_7 a0_8 a0_9 a0_10).bind fun t118 => (if t118 = true then ((varint_Fixed.f a0_10 a0_9).bind fun t119 => (if a0_0 = true then (if a0_3 = 0 then ((header_number.f (IntKind.u64.wrap ((a0_7.size : Int)))).bind fun t126 => (if t126.size + a0_7.size ≤ 9223372036854775807 then (header_Put.j0 k t119 (Go.bits .or .u8 64 ((wrap64 (a0_9 - 1)) % 256)) (t126 ++ a0_7) a0_0 a0_1 a0_2 a0_3 a0_4 a0_5 a0_6 a0_7 a0_8 a0_9 a0_10) else (none))) else (header_Put.j0 k t119 (Go.bits .or .u8 64 ((wrap64 (a0_9 - 1)) % 256)) (⟨#[]⟩ : ByteArray) a0_0 a0_1 a0_2 a0_3 a0_4 a0_5 a0_6 a0_7 a0_8 a0_9 a0_10)) else ((header_flag.f a0_1 32).bind fun t120 => ((header_flag.f a0_2 4).bind fun t121 => ((header_joined.f k (Go.bits .or .u8 (Go.bits .or .u8 (Go.bits .or .u8 64 ((wrap64 (a0_9 - 1)) % 256)) t120) t121) (([a0_5,t119] : List ByteArray))).bind fun t125 => (some (t125,0))))))) else (some ((⟨#[]⟩ : ByteArray),1)))) = some (r1,r2):=h
 clear h
 replace H:=Option.bind_eq_some_iff.mp H
 obtain ⟨t118,A20,H⟩:=H
 replace H : (if t118 = true then ((varint_Fixed.f a0_10 a0_9).bind fun t119 => (if a0_0 = true then (if a0_3 = 0 then ((header_number.f (IntKind.u64.wrap ((a0_7.size : Int)))).bind fun t126 => (if t126.size + a0_7.size ≤ 9223372036854775807 then (header_Put.j0 k t119 (Go.bits .or .u8 64 ((wrap64 (a0_9 - 1)) % 256)) (t126 ++ a0_7) a0_0 a0_1 a0_2 a0_3 a0_4 a0_5 a0_6 a0_7 a0_8 a0_9 a0_10) else (none))) else (header_Put.j0 k t119 (Go.bits .or .u8 64 ((wrap64 (a0_9 - 1)) % 256)) (⟨#[]⟩ : ByteArray) a0_0 a0_1 a0_2 a0_3 a0_4 a0_5 a0_6 a0_7 a0_8 a0_9 a0_10)) else ((header_flag.f a0_1 32).bind fun t120 => ((header_flag.f a0_2 4).bind fun t121 => ((header_joined.f k (Go.bits .or .u8 (Go.bits .or .u8 (Go.bits .or .u8 64 ((wrap64 (a0_9 - 1)) % 256)) t120) t121) (([a0_5,t119] : List ByteArray))).bind fun t125 => (some (t125,0))))))) else (some ((⟨#[]⟩ : ByteArray),1))) = some (r1,r2):=H
 have A2:=am_ A20
 clear A20
 by_cases c3 : t118 = true
 ·subst c3
  have H1 : ((varint_Fixed.f a0_10 a0_9).bind fun t119 => (if a0_0 = true then (if a0_3 = 0 then ((header_number.f (IntKind.u64.wrap ((a0_7.size : Int)))).bind fun t126 => (if t126.size + a0_7.size ≤ 9223372036854775807 then (header_Put.j0 k t119 (Go.bits .or .u8 64 ((wrap64 (a0_9 - 1)) % 256)) (t126 ++ a0_7) a0_0 a0_1 a0_2 a0_3 a0_4 a0_5 a0_6 a0_7 a0_8 a0_9 a0_10) else (none))) else (header_Put.j0 k t119 (Go.bits .or .u8 64 ((wrap64 (a0_9 - 1)) % 256)) (⟨#[]⟩ : ByteArray) a0_0 a0_1 a0_2 a0_3 a0_4 a0_5 a0_6 a0_7 a0_8 a0_9 a0_10)) else ((header_flag.f a0_1 32).bind fun t120 => ((header_flag.f a0_2 4).bind fun t121 => ((header_joined.f k (Go.bits .or .u8 (Go.bits .or .u8 (Go.bits .or .u8 64 ((wrap64 (a0_9 - 1)) % 256)) t120) t121) (([a0_5,t119] : List ByteArray))).bind fun t125 => (some (t125,0))))))) = some (r1,r2):=by rw [if_pos rfl] at H;exact H
  clear H
  have H:=H1
  clear H1
  replace H:=Option.bind_eq_some_iff.mp H
  obtain ⟨t119,A40,H⟩:=H
  replace H : (if a0_0 = true then (if a0_3 = 0 then ((header_number.f (IntKind.u64.wrap ((a0_7.size : Int)))).bind fun t126 => (if t126.size + a0_7.size ≤ 9223372036854775807 then (header_Put.j0 k t119 (Go.bits .or .u8 64 ((wrap64 (a0_9 - 1)) % 256)) (t126 ++ a0_7) a0_0 a0_1 a0_2 a0_3 a0_4 a0_5 a0_6 a0_7 a0_8 a0_9 a0_10) else (none))) else (header_Put.j0 k t119 (Go.bits .or .u8 64 ((wrap64 (a0_9 - 1)) % 256)) (⟨#[]⟩ : ByteArray) a0_0 a0_1 a0_2 a0_3 a0_4 a0_5 a0_6 a0_7 a0_8 a0_9 a0_10)) else ((header_flag.f a0_1 32).bind fun t120 => ((header_flag.f a0_2 4).bind fun t121 => ((header_joined.f k (Go.bits .or .u8 (Go.bits .or .u8 (Go.bits .or .u8 64 ((wrap64 (a0_9 - 1)) % 256)) t120) t121) (([a0_5,t119] : List ByteArray))).bind fun t125 => (some (t125,0)))))) = some (r1,r2):=H
  have A4:=am_ A40
  clear A40
  by_cases c5 : a0_0 = true
  ·subst c5
   have H1 : (if a0_3 = 0 then ((header_number.f (IntKind.u64.wrap ((a0_7.size : Int)))).bind fun t126 => (if t126.size + a0_7.size ≤ 9223372036854775807 then (header_Put.j0 k t119 (Go.bits .or .u8 64 ((wrap64 (a0_9 - 1)) % 256)) (t126 ++ a0_7) true a0_1 a0_2 a0_3 a0_4 a0_5 a0_6 a0_7 a0_8 a0_9 a0_10) else (none))) else (header_Put.j0 k t119 (Go.bits .or .u8 64 ((wrap64 (a0_9 - 1)) % 256)) (⟨#[]⟩ : ByteArray) true a0_1 a0_2 a0_3 a0_4 a0_5 a0_6 a0_7 a0_8 a0_9 a0_10)) = some (r1,r2):=by rw [if_pos rfl] at H;exact H
   clear H
   have H:=H1
   clear H1
   have HC6:=am_ H
   clear H
   go_enter Tryd.func12,Tryd.ntmps12
   go_upto_if 39 with (first|((with_reducible refine gate_dst (N:=1) rfl ?_);refine box_event ?hg (N:=1) ?hd (cs:=#[.bool true,.bool a0_1,.bool a0_2,.int .i64 a0_3,.int .u32 a0_4,.string a0_5,.string a0_6,.string a0_7,.int .u64 a0_8,.int .i64 a0_9,.int .u64 a0_10]) (t:=25) ?hr ?_;(case hd => rfl);(case hg => rfl);(case hr => first|(go_simp;done)|(go_simp;rfl));intro gb117 hg w7 hbox hb;have n0_:=am_ (below_step (by repeat (first|(with_reducible first|exact HB.out|apply ba_|apply pn_|apply pd_)|exact HB.out)) hb);have n1_:=am_ (hbox);have n2_:=am_ ((by rw [hg];exact (below_size (by repeat (first|(with_reducible first|exact HB.out|apply ba_|apply pn_|apply pd_)|exact HB.out))) : w.heap.size ≤ gb117));have n3_:=am_ ((by rw [hg];exact (below_size (by repeat (first|(with_reducible first|exact HB.out|apply ba_|apply pn_|apply pd_)|exact HB.out))) : w.heap.size ≤ gb117));clear HB;have HB:=n0_;have BK117:=n1_;have GW117:=n2_;have GE117:=n3_;clear n0_ n1_ n2_ n3_;clear hb hbox hg;obtain ⟨hcz8_0,hcz8_1,hcz8_2,hcz8_3,hcz8_4,hcz8_5,hcz8_6,hcz8_7,hcz8_8,hcz8_9,hcz8_10,hfz8_0,hfz8_1,hfz8_2,hfz8_3,hfz8_4,hfz8_5,hfz8_6,hfz8_7,hfz8_8,hfz8_9,hfz8_10⟩:=cs11f_ BK117.out;skip)|((with_reducible refine gate_callee (f:=18) rfl ?_);refine goesL_ (some 8) rfl rfl Tryd.func18 (by kernel_rfl) rfl #[.agg #[.bool true,.bool a0_1,.bool a0_2,.int .i64 a0_3,.int .u32 a0_4,.string a0_5,.string a0_6,.string a0_7,.int .u64 a0_8,.int .i64 a0_9,.int .u64 a0_10]] rfl (by (try simp only [List.map_toArray,List.map_cons,List.map_nil]);first|done|rfl|(simp only [List.length_drop,List.length_take];rfl)) ?_;(with_reducible refine (header_May.calls k true a0_1 a0_2 a0_3 a0_4 a0_5 a0_6 a0_7 a0_8 a0_9 a0_10 true _ A2.out).mono ?_);rintro e w9 ⟨rfl,hb⟩;refine ⟨_,rfl,?_⟩;have n0_:=am_ (blk_below (g:=gb117) (o:=.cells #[.bool true,.bool a0_1,.bool a0_2,.int .i64 a0_3,.int .u32 a0_4,.string a0_5,.string a0_6,.string a0_7,.int .u64 a0_8,.int .i64 a0_9,.int .u64 a0_10] 25 (0,0)) (by (with_reducible repeat (first|refine kn_ ?_ _|refine kd_ ?_|refine ka_ ?_ _));exact BK117.out) hb);have n1_:=am_ (below_step (by repeat (first|(with_reducible first|exact HB.out|apply ba_|apply pn_|apply pd_|refine bs_ ?_ GE117.out)|exact HB.out)) hb);clear BK117;clear HB;have BK117:=n0_;have HB:=n1_;clear n0_ n1_;(try clear hb);(try clear hb2);(try clear hk);(try clear hi);obtain ⟨hcz10_0,hcz10_1,hcz10_2,hcz10_3,hcz10_4,hcz10_5,hcz10_6,hcz10_7,hcz10_8,hcz10_9,hcz10_10,hfz10_0,hfz10_1,hfz10_2,hfz10_3,hfz10_4,hfz10_5,hfz10_6,hfz10_7,hfz10_8,hfz10_9,hfz10_10⟩:=cs11f_ BK117.out;skip)|((with_reducible refine gate_callee (f:=24) rfl ?_);refine goesL_ (some 14) rfl rfl Tryd.func24 (by kernel_rfl) rfl #[.int .u64 a0_10,.int .i64 a0_9] rfl (by (try simp only [List.map_toArray,List.map_cons,List.map_nil]);first|done|rfl|(simp only [List.length_drop,List.length_take];rfl)) ?_;(with_reducible refine (varint_Fixed.calls a0_10 a0_9 t119 _ A4.out).mono ?_);rintro e w11 ⟨rfl,hb⟩;refine ⟨_,rfl,?_⟩;have n0_:=am_ (blk_below (g:=gb117) (o:=.cells #[.bool true,.bool a0_1,.bool a0_2,.int .i64 a0_3,.int .u32 a0_4,.string a0_5,.string a0_6,.string a0_7,.int .u64 a0_8,.int .i64 a0_9,.int .u64 a0_10] 25 (0,0)) (by (with_reducible repeat (first|refine kn_ ?_ _|refine kd_ ?_|refine ka_ ?_ _));exact BK117.out) hb);have n1_:=am_ (below_step (by repeat (first|(with_reducible first|exact HB.out|apply ba_|apply pn_|apply pd_|refine bs_ ?_ GE117.out)|exact HB.out)) hb);clear BK117;clear HB;have BK117:=n0_;have HB:=n1_;clear n0_ n1_;(try clear hb);(try clear hb2);(try clear hk);(try clear hi);obtain ⟨hcz12_0,hcz12_1,hcz12_2,hcz12_3,hcz12_4,hcz12_5,hcz12_6,hcz12_7,hcz12_8,hcz12_9,hcz12_10,hfz12_0,hfz12_1,hfz12_2,hfz12_3,hfz12_4,hfz12_5,hfz12_6,hfz12_7,hfz12_8,hfz12_9,hfz12_10⟩:=cs11f_ BK117.out;skip))
   (try simp only [Act.put,ps_])
   go_cut [6] (fun v6 wc => ∃ (kq : Nat) (x6_5 : ByteArray),v6 = .string x6_5 ∧ Aside0 (header_Put.j0 kq t119 (Go.bits .or .u8 64 ((wrap64 (a0_9 - 1)) % 256)) x6_5 true a0_1 a0_2 a0_3 a0_4 a0_5 a0_6 a0_7 a0_8 a0_9 a0_10 = some (r1,r2)) ∧ Aside0 (kq ≤ k) ∧ Aside0 (wc.heap[gb117]? = some (.cells #[.bool true,.bool a0_1,.bool a0_2,.int .i64 a0_3,.int .u32 a0_4,.string a0_5,.string a0_6,.string a0_7,.int .u64 a0_8,.int .i64 a0_9,.int .u64 a0_10] 25 (0,0))) ∧ Aside0 (Below w.heap.size w wc))
   case first =>
    have H:=HC6.out
    clear HC6
    by_cases c13 : a0_3 = 0
    ·rw [if_pos c13] at H
     have c13b0 : (a0_3 == 0) = true:=beq_iff_eq.mpr c13
     have c13b1 : (a0_3 != 0) = false:=bne_eq_false_iff_eq.mpr c13
     clear c13
     (first|rw [c13b0]|(simp only [i64_w,i32_w];rw [c13b0])|skip)
     replace H:=Option.bind_eq_some_iff.mp H
     obtain ⟨t126,A140,H⟩:=H
     replace H : (if t126.size + a0_7.size ≤ 9223372036854775807 then (header_Put.j0 k t119 (Go.bits .or .u8 64 ((wrap64 (a0_9 - 1)) % 256)) (t126 ++ a0_7) true a0_1 a0_2 a0_3 a0_4 a0_5 a0_6 a0_7 a0_8 a0_9 a0_10) else (none)) = some (r1,r2):=H
     have A14:=am_ A140
     clear A140
     by_cases c15 : t126.size + a0_7.size ≤ 9223372036854775807
     ·rw [if_pos c15] at H
      have c15b0:=eq_true c15
      have c15b1 : decide (t126.size + a0_7.size ≤ 9223372036854775807) = true:=decide_eq_true c15
      try have c15b2 : (9223372036854775807 < t126.size + a0_7.size) = False:=eq_false (Nat.not_lt.2 c15)
      have H':=am_ H
      clear H
      try go_wp2
      have n0_:=am_ (kd_ BK117.out)
      have n1_:=am_ (pd_ HB.out)
      clear BK117
      clear HB
      have BK117:=n0_
      have HB:=n1_
      clear n0_ n1_
      refine start_ (n:=9) (S:=fun w' => w'.cell? ⟨gb117,0,none⟩ = some (.bool true) ∧ w'.cell? ⟨gb117,1,none⟩ = some (.bool a0_1) ∧ w'.cell? ⟨gb117,2,none⟩ = some (.bool a0_2) ∧ w'.cell? ⟨gb117,3,none⟩ = some (.int .i64 a0_3) ∧ w'.cell? ⟨gb117,4,none⟩ = some (.int .u32 a0_4) ∧ w'.cell? ⟨gb117,5,none⟩ = some (.string a0_5) ∧ w'.cell? ⟨gb117,6,none⟩ = some (.string a0_6) ∧ w'.cell? ⟨gb117,7,none⟩ = some (.string a0_7) ∧ w'.cell? ⟨gb117,8,none⟩ = some (.int .u64 a0_8) ∧ w'.cell? ⟨gb117,9,none⟩ = some (.int .i64 a0_9) ∧ w'.cell? ⟨gb117,10,none⟩ = some (.int .u64 a0_10)) (ds:=[]) #[F_,F_,F_,F_,F_,F_,F_,F_,F_] (by kernel_rfl) rfl rfl ⟨(kc_ BK117.out 0).trans rfl,(kc_ BK117.out 1).trans rfl,(kc_ BK117.out 2).trans rfl,(kc_ BK117.out 3).trans rfl,(kc_ BK117.out 4).trans rfl,(kc_ BK117.out 5).trans rfl,(kc_ BK117.out 6).trans rfl,(kc_ BK117.out 7).trans rfl,(kc_ BK117.out 8).trans rfl,(kc_ BK117.out 9).trans rfl,(kc_ BK117.out 10).trans rfl⟩ (fun hHeld => ?_);refine with_tabW header_Put.tab9 header_Put.bits9 (fun HT_ HW_ => ?_)
      generalize w11.drew = w16 at BK117 HB hHeld ⊢
      refine pure_ (i:=0) (N:=some 40) (v:=?_) (a':=?_) #[T_,F_,F_,F_,F_,F_,F_,F_,F_] rfl rfl (any_of HT_.out (by kernel_rfl)) (fun _ _ _ h => h) (Or.inl ⟨by rfl,?_⟩) ?_ ?_
      rotate_left;(intro w';go_simp;with_reducible rfl);rotate_left;(simp only [Act.put,ps_,i64_w,i32_w];rfl)
      refine pure_ (i:=5) (N:=some 45) (v:=?_) (a':=?_) #[T_,F_,F_,F_,F_,T_,F_,F_,F_] rfl rfl (any_of HT_.out (by kernel_rfl)) (fun _ _ _ h => h) (Or.inl ⟨by rfl,?_⟩) ?_ ?_
      rotate_left;(intro w';go_simp;with_reducible rfl);rotate_left;(simp only [Act.put,ps_,i64_w,i32_w];rfl)
      refine take_ (i:=1) (N:=some 41) (v:=?_) (a':=?_) #[T_,T_,F_,F_,F_,T_,F_,F_,F_] rfl rfl (take_ofW HT_.out HW_.out (by kernel_rfl)) (fun _ _ _ h => h) (Or.inl ⟨by rfl,?_⟩) hHeld ?_ ?_
      rotate_left
      ·rintro w' ⟨s0,s1,s2,s3,s4,s5,s6,s7,s8,s9,s10⟩
       go_simp
       with_reducible rfl
      rotate_left
      ·simp only [Act.put,ps_,i64_w,i32_w]
       rfl
      refine pure_ (i:=2) (N:=some 42) (v:=?_) (a':=?_) #[T_,T_,T_,F_,F_,T_,F_,F_,F_] rfl rfl (any_of HT_.out (by kernel_rfl)) (fun _ _ _ h => h) (Or.inl ⟨by rfl,?_⟩) ?_ ?_
      rotate_left;(intro w';go_simp;with_reducible rfl);rotate_left;(simp only [Act.put,ps_,i64_w,i32_w];rfl)
      refine pure_ (i:=3) (N:=some 43) (v:=?_) (a':=?_) #[T_,T_,T_,T_,F_,T_,F_,F_,F_] rfl rfl (any_of HT_.out (by kernel_rfl)) (fun _ _ _ h => h) (Or.inl ⟨by rfl,?_⟩) ?_ ?_
      rotate_left;(intro w';go_simp;with_reducible rfl);rotate_left;(simp only [Act.put,ps_,i64_w,i32_w];rfl)
      refine take_ (i:=6) (N:=some 46) (v:=?_) (a':=?_) #[T_,T_,T_,T_,F_,T_,T_,F_,F_] rfl rfl (take_ofW HT_.out HW_.out (by kernel_rfl)) (fun _ _ _ h => h) (Or.inl ⟨by rfl,?_⟩) hHeld ?_ ?_
      rotate_left
      ·rintro w' ⟨s0,s1,s2,s3,s4,s5,s6,s7,s8,s9,s10⟩
       go_simp
       with_reducible rfl
      rotate_left
      ·simp only [Act.put,ps_,i64_w,i32_w]
       rfl
      refine one_ (i:=4) (N:=some 44) #[T_,T_,T_,T_,T_,T_,T_,F_,F_] rfl rfl (one_of HT_.out (by kernel_rfl)) (by decide) (fun K hK => ?_)
      refine goes_ Tryd.func27 (by kernel_rfl) rfl #[.int .u64 (IntKind.u64.wrap ((a0_7.size : Int)))] (by rfl) rfl rfl (by (try simp only [List.map_toArray,List.map_cons,List.map_nil]);first|done|rfl|(simp only [List.length_drop,List.length_take];rfl)) ?_
      with_reducible refine (header_number.calls (IntKind.u64.wrap ((a0_7.size : Int))) t126 _ (by first|exact HTab.out|exact tab_below HTab.out HB.out|exact (tab_below HTab.out (by repeat (first|(with_reducible first|exact HB.out|apply ba_|apply pn_|apply pd_|refine bs_ ?_ GE117.out)|exact HB.out)))|exact tab_below HTab.out (by repeat (first|exact HB.out|exact Below.refl _ _|apply ba_|apply pn_|apply pd_|refine bs_ ?_ GE117.out))) A14.out).mono ?_
      rintro e w17 ⟨rfl,hb⟩
      refine ⟨_,rfl,?_⟩
      have n0_:=am_ (blk_below (g:=gb117) (o:=.cells #[.bool true,.bool a0_1,.bool a0_2,.int .i64 a0_3,.int .u32 a0_4,.string a0_5,.string a0_6,.string a0_7,.int .u64 a0_8,.int .i64 a0_9,.int .u64 a0_10] 25 (0,0)) (by (with_reducible repeat (first|refine kn_ ?_ _|refine kd_ ?_|refine ka_ ?_ _));exact BK117.out) hb)
      have n1_:=am_ (below_step (by repeat (first|(with_reducible first|exact HB.out|apply ba_|apply pn_|apply pd_|refine bs_ ?_ GE117.out)|exact HB.out)) hb)
      clear BK117
      clear HB
      have BK117:=n0_
      have HB:=n1_
      clear n0_ n1_
      (try clear hb)
      (try clear hb2)
      (try clear hk)
      (try clear hi)
      refine hK.out _ _ ⟨(kc_ BK117.out 0).trans rfl,(kc_ BK117.out 1).trans rfl,(kc_ BK117.out 2).trans rfl,(kc_ BK117.out 3).trans rfl,(kc_ BK117.out 4).trans rfl,(kc_ BK117.out 5).trans rfl,(kc_ BK117.out 6).trans rfl,(kc_ BK117.out 7).trans rfl,(kc_ BK117.out 8).trans rfl,(kc_ BK117.out 9).trans rfl,(kc_ BK117.out 10).trans rfl⟩ (fun hHeld => ?_)
      clear hK K
      refine norm_ (a':=?_) ?_ ?_
      rotate_left
      ·show Act.put _ (some 44) _ = _
       simp only [Act.put,ps_,i64_w,i32_w]
       rfl
      refine pure_ (i:=7) (N:=some 47) (v:=?_) (a':=?_) #[T_,T_,T_,T_,T_,T_,T_,T_,F_] rfl rfl (any_of HT_.out (by kernel_rfl)) (fun _ _ _ h => h) (Or.inl ⟨by rfl,?_⟩) ?_ ?_
      rotate_left;(intro w';go_simp;with_reducible rfl);rotate_left;(simp only [Act.put,ps_,i64_w,i32_w];rfl)
      refine pure_ (i:=8) (N:=some 6) (v:=?_) (a':=?_) #[T_,T_,T_,T_,T_,T_,T_,T_,T_] rfl rfl (any_of HT_.out (by kernel_rfl)) (fun _ _ _ h => h) (Or.inl ⟨by rfl,?_⟩) ?_ ?_
      rotate_left;(intro w';go_simp;with_reducible rfl);rotate_left;(simp only [Act.put,ps_,i64_w,i32_w];rfl)
      refine done_ (done_of HT_.out (by kernel_rfl)) ?_
      try go_wp2
      go_meet
      case rel => exact ⟨_,(t126 ++ a0_7),(by first|rfl|(simp;done)|(simp [*];done)),H',⟨by first|omega|exact Nat.le_refl _⟩,⟨by (with_reducible repeat (first|refine kn_ ?_ _|refine kd_ ?_|refine ka_ ?_ _));exact BK117.out⟩,⟨by repeat (first|(with_reducible first|exact HB.out|apply ba_|apply pn_|apply pd_|refine bs_ ?_ GE117.out)|exact HB.out)⟩⟩
     ·rw [if_neg c15] at H
      exact absurd H (by simp)
    ·rw [if_neg c13] at H
     have c13b0 : (a0_3 == 0) = false:=beq_eq_false_iff_ne.mpr c13
     have c13b1 : (a0_3 != 0) = true:=bne_iff_ne.mpr c13
     (first|rw [c13b0]|(simp only [i64_w,i32_w];rw [c13b0])|skip)
     have H':=am_ H
     clear H
     go_wp2
     go_meet
     case rel => exact ⟨_,((⟨#[]⟩ : ByteArray)),(by first|rfl|(simp;done)|(simp [*];done)),H',⟨by first|omega|exact Nat.le_refl _⟩,⟨by (with_reducible repeat (first|refine kn_ ?_ _|refine kd_ ?_|refine ka_ ?_ _));exact BK117.out⟩,⟨by repeat (first|(with_reducible first|exact HB.out|apply ba_|apply pn_|apply pd_|refine bs_ ?_ GE117.out)|exact HB.out)⟩⟩
   case rest =>
    clear HC6
    try clear c1;try clear c2
    try clear p2;try clear c3
    try clear c5;try clear p6
    try clear c12;try clear c13
    try clear c13b0;try clear c13b1
    try clear c15;try clear c15b0
    try clear c15b1;try clear c15b2
    try clear hcz10_0;try clear hcz10_1
    try clear hcz10_10;try clear hcz10_2
    try clear hcz10_3;try clear hcz10_4
    try clear hcz10_5;try clear hcz10_6
    try clear hcz10_7;try clear hcz10_8
    try clear hcz10_9;try clear hcz12_0
    try clear hcz12_1;try clear hcz12_10
    try clear hcz12_2;try clear hcz12_3
    try clear hcz12_4;try clear hcz12_5
    try clear hcz12_6;try clear hcz12_7
    try clear hcz12_8;try clear hcz12_9
    try clear hcz8_0;try clear hcz8_1
    try clear hcz8_10;try clear hcz8_2
    try clear hcz8_3;try clear hcz8_4
    try clear hcz8_5;try clear hcz8_6
    try clear hcz8_7;try clear hcz8_8
    try clear hcz8_9;try clear hfz10_0
    try clear hfz10_1;try clear hfz10_10
    try clear hfz10_2;try clear hfz10_3
    try clear hfz10_4;try clear hfz10_5
    try clear hfz10_6;try clear hfz10_7
    try clear hfz10_8;try clear hfz10_9
    try clear hfz12_0;try clear hfz12_1
    try clear hfz12_10;try clear hfz12_2
    try clear hfz12_3;try clear hfz12_4
    try clear hfz12_5;try clear hfz12_6
    try clear hfz12_7;try clear hfz12_8
    try clear hfz12_9;try clear hfz8_0
    try clear hfz8_1;try clear hfz8_10
    try clear hfz8_2;try clear hfz8_3
    try clear hfz8_4;try clear hfz8_5
    try clear hfz8_6;try clear hfz8_7
    try clear hfz8_8;try clear hfz8_9
    obtain ⟨kq,x6_5,rfl,HA,HJ5,BK117,HB⟩:=hcut
    cases kq with
    | zero => exact absurd HA.out (by simp [header_Put.j0])
    | succ kj5 =>
     have H:=HA.out
     clear HA
     simp only [header_Put.j0] at H
     replace H:=Option.bind_eq_some_iff.mp H
     obtain ⟨t127,A180,H⟩:=H
     replace H : ((header_counted.f kj5 a0_5).bind fun t128 => ((header_counted.f kj5 a0_6).bind fun t129 => ((header_number.f a0_8).bind fun t130 => ((header_joined.f kj5 (Go.bits .or .u8 (Go.bits .or .u8 (Go.bits .or .u8 64 ((wrap64 (a0_9 - 1)) % 256)) 128) ((((a0_3) % 256) * 16) % 256)) (([t127,t128,t129,x6_5,t130,t119] : List ByteArray))).bind fun t134 => (some (t134,0)))))) = some (r1,r2):=H
     have A18:=am_ A180
     clear A180
     replace H:=Option.bind_eq_some_iff.mp H
     obtain ⟨t128,A190,H⟩:=H
     replace H : ((header_counted.f kj5 a0_6).bind fun t129 => ((header_number.f a0_8).bind fun t130 => ((header_joined.f kj5 (Go.bits .or .u8 (Go.bits .or .u8 (Go.bits .or .u8 64 ((wrap64 (a0_9 - 1)) % 256)) 128) ((((a0_3) % 256) * 16) % 256)) (([t127,t128,t129,x6_5,t130,t119] : List ByteArray))).bind fun t134 => (some (t134,0))))) = some (r1,r2):=H
     have A19:=am_ A190
     clear A190
     replace H:=Option.bind_eq_some_iff.mp H
     obtain ⟨t129,A200,H⟩:=H
     replace H : ((header_number.f a0_8).bind fun t130 => ((header_joined.f kj5 (Go.bits .or .u8 (Go.bits .or .u8 (Go.bits .or .u8 64 ((wrap64 (a0_9 - 1)) % 256)) 128) ((((a0_3) % 256) * 16) % 256)) (([t127,t128,t129,x6_5,t130,t119] : List ByteArray))).bind fun t134 => (some (t134,0)))) = some (r1,r2):=H
     have A20:=am_ A200
     clear A200
     replace H:=Option.bind_eq_some_iff.mp H
     obtain ⟨t130,A210,H⟩:=H
     replace H : ((header_joined.f kj5 (Go.bits .or .u8 (Go.bits .or .u8 (Go.bits .or .u8 64 ((wrap64 (a0_9 - 1)) % 256)) 128) ((((a0_3) % 256) * 16) % 256)) (([t127,t128,t129,x6_5,t130,t119] : List ByteArray))).bind fun t134 => (some (t134,0))) = some (r1,r2):=H
     have A21:=am_ A210
     clear A210
     obtain ⟨y131,hy131⟩ : ∃ y_ : List ByteArray,y_ = (([t127,t128,t129,x6_5,t130,t119] : List ByteArray)):=⟨_,rfl⟩
     replace H : ((header_joined.f kj5 (Go.bits .or .u8 (Go.bits .or .u8 (Go.bits .or .u8 64 ((wrap64 (a0_9 - 1)) % 256)) 128) ((((a0_3) % 256) * 16) % 256)) y131).bind fun t134 => (some (t134,0))) = some (r1,r2):=by first|(rw [hy131];with_reducible exact H)|(have H2_:=(Option.bind_some _ _).symm.trans H;rw [hy131];with_reducible exact H2_)|(have H2_:=(Option.bind_some _ _).symm.trans H;with_reducible exact H2_)|with_reducible exact H|(rw [hy131];exact H)|exact H
     have Ny131:=am_ hy131
     clear hy131
     replace H:=Option.bind_eq_some_iff.mp H
     obtain ⟨t134,A220,H⟩:=H
     replace H : (some (t134,0)) = some (r1,r2):=H
     have A22:=am_ A220
     clear A220
     simp only [Option.some.injEq,Prod.mk.injEq] at H
     obtain ⟨rfl,rfl⟩:=H
     try go_wp2
     have n0_:=am_ (kd_ BK117.out)
     have n1_:=am_ (pd_ HB.out)
     clear BK117
     clear HB
     have BK117:=n0_
     have HB:=n1_
     clear n0_ n1_
     refine start_ (n:=26) (S:=fun w' => w'.cell? ⟨gb117,0,none⟩ = some (.bool true) ∧ w'.cell? ⟨gb117,1,none⟩ = some (.bool a0_1) ∧ w'.cell? ⟨gb117,2,none⟩ = some (.bool a0_2) ∧ w'.cell? ⟨gb117,3,none⟩ = some (.int .i64 a0_3) ∧ w'.cell? ⟨gb117,4,none⟩ = some (.int .u32 a0_4) ∧ w'.cell? ⟨gb117,5,none⟩ = some (.string a0_5) ∧ w'.cell? ⟨gb117,6,none⟩ = some (.string a0_6) ∧ w'.cell? ⟨gb117,7,none⟩ = some (.string a0_7) ∧ w'.cell? ⟨gb117,8,none⟩ = some (.int .u64 a0_8) ∧ w'.cell? ⟨gb117,9,none⟩ = some (.int .i64 a0_9) ∧ w'.cell? ⟨gb117,10,none⟩ = some (.int .u64 a0_10)) (ds:=[]) #[F_,F_,F_,F_,F_,F_,F_,F_,F_,F_,F_,F_,F_,F_,F_,F_,F_,F_,F_,F_,F_,F_,F_,F_,F_,F_] (by kernel_rfl) rfl rfl ⟨(kc_ BK117.out 0).trans rfl,(kc_ BK117.out 1).trans rfl,(kc_ BK117.out 2).trans rfl,(kc_ BK117.out 3).trans rfl,(kc_ BK117.out 4).trans rfl,(kc_ BK117.out 5).trans rfl,(kc_ BK117.out 6).trans rfl,(kc_ BK117.out 7).trans rfl,(kc_ BK117.out 8).trans rfl,(kc_ BK117.out 9).trans rfl,(kc_ BK117.out 10).trans rfl⟩ (fun hHeld => ?_);refine with_tabW header_Put.tab10 header_Put.bits10 (fun HT_ HW_ => ?_)
     generalize wc.drew = w23 at BK117 HB hHeld ⊢
     refine pure_ (i:=0) (N:=some 48) (v:=?_) (a':=?_) #[T_,F_,F_,F_,F_,F_,F_,F_,F_,F_,F_,F_,F_,F_,F_,F_,F_,F_,F_,F_,F_,F_,F_,F_,F_,F_] rfl rfl (any_of HT_.out (by kernel_rfl)) (fun _ _ _ h => h) (Or.inl ⟨by rfl,?_⟩) ?_ ?_
     rotate_left;(intro w';go_simp;with_reducible rfl);rotate_left;(simp only [Act.put,ps_,i64_w,i32_w];rfl)
     refine pure_ (i:=1) (N:=some 49) (v:=?_) (a':=?_) #[T_,T_,F_,F_,F_,F_,F_,F_,F_,F_,F_,F_,F_,F_,F_,F_,F_,F_,F_,F_,F_,F_,F_,F_,F_,F_] rfl rfl (any_of HT_.out (by kernel_rfl)) (fun _ _ _ h => h) (Or.inl ⟨by rfl,?_⟩) ?_ ?_
     rotate_left;(intro w';go_simp;with_reducible rfl);rotate_left;(simp only [Act.put,ps_,i64_w,i32_w];rfl)
     refine pure_ (i:=2) (N:=some 50) (v:=?_) (a':=?_) #[T_,T_,T_,F_,F_,F_,F_,F_,F_,F_,F_,F_,F_,F_,F_,F_,F_,F_,F_,F_,F_,F_,F_,F_,F_,F_] rfl rfl (any_of HT_.out (by kernel_rfl)) (fun _ _ _ h => h) (Or.inl ⟨by rfl,?_⟩) ?_ ?_
     rotate_left;(intro w';go_simp;with_reducible rfl);rotate_left;(simp only [Act.put,ps_,i64_w,i32_w];rfl)
     refine pure_ (i:=7) (N:=some 55) (v:=?_) (a':=?_) #[T_,T_,T_,F_,F_,F_,F_,T_,F_,F_,F_,F_,F_,F_,F_,F_,F_,F_,F_,F_,F_,F_,F_,F_,F_,F_] rfl rfl (any_of HT_.out (by kernel_rfl)) (fun _ _ _ h => h) (Or.inl ⟨by rfl,?_⟩) ?_ ?_
     rotate_left;(intro w';go_simp;with_reducible rfl);rotate_left;(simp only [Act.put,ps_,i64_w,i32_w];rfl)
     refine pure_ (i:=11) (N:=some 59) (v:=?_) (a':=?_) #[T_,T_,T_,F_,F_,F_,F_,T_,F_,F_,F_,T_,F_,F_,F_,F_,F_,F_,F_,F_,F_,F_,F_,F_,F_,F_] rfl rfl (any_of HT_.out (by kernel_rfl)) (fun _ _ _ h => h) (Or.inl ⟨by rfl,?_⟩) ?_ ?_
     rotate_left;(intro w';go_simp;with_reducible rfl);rotate_left;(simp only [Act.put,ps_,i64_w,i32_w];rfl)
     refine pure_ (i:=14) (N:=some 62) (v:=?_) (a':=?_) #[T_,T_,T_,F_,F_,F_,F_,T_,F_,F_,F_,T_,F_,F_,T_,F_,F_,F_,F_,F_,F_,F_,F_,F_,F_,F_] rfl rfl (any_of HT_.out (by kernel_rfl)) (fun _ _ _ h => h) (Or.inl ⟨by rfl,?_⟩) ?_ ?_
     rotate_left;(intro w';go_simp;with_reducible rfl);rotate_left;(simp only [Act.put,ps_,i64_w,i32_w];rfl)
     refine pure_ (i:=17) (N:=some 65) (v:=?_) (a':=?_) #[T_,T_,T_,F_,F_,F_,F_,T_,F_,F_,F_,T_,F_,F_,T_,F_,F_,T_,F_,F_,F_,F_,F_,F_,F_,F_] rfl rfl (any_of HT_.out (by kernel_rfl)) (fun _ _ _ h => h) (Or.inl ⟨by rfl,?_⟩) ?_ ?_
     rotate_left;(intro w';go_simp;with_reducible rfl);rotate_left;(simp only [Act.put,ps_,i64_w,i32_w];rfl)
     refine pure_ (i:=18) (N:=some 66) (v:=?_) (a':=?_) #[T_,T_,T_,F_,F_,F_,F_,T_,F_,F_,F_,T_,F_,F_,T_,F_,F_,T_,T_,F_,F_,F_,F_,F_,F_,F_] rfl rfl (any_of HT_.out (by kernel_rfl)) (fun _ _ _ h => h) (Or.inl ⟨by rfl,?_⟩) ?_ ?_
     rotate_left;(intro w';go_simp;with_reducible rfl);rotate_left;(simp only [Act.put,ps_,i64_w,i32_w];rfl)
     refine pure_ (i:=21) (N:=some 69) (v:=?_) (a':=?_) #[T_,T_,T_,F_,F_,F_,F_,T_,F_,F_,F_,T_,F_,F_,T_,F_,F_,T_,T_,F_,F_,T_,F_,F_,F_,F_] rfl rfl (any_of HT_.out (by kernel_rfl)) (fun _ _ _ h => h) (Or.inl ⟨by rfl,?_⟩) ?_ ?_
     rotate_left;(intro w';go_simp;with_reducible rfl);rotate_left;(simp only [Act.put,ps_,i64_w,i32_w];rfl)
     refine take_ (i:=3) (N:=some 51) (v:=?_) (a':=?_) #[T_,T_,T_,T_,F_,F_,F_,T_,F_,F_,F_,T_,F_,F_,T_,F_,F_,T_,T_,F_,F_,T_,F_,F_,F_,F_] rfl rfl (take_ofW HT_.out HW_.out (by kernel_rfl)) (fun _ _ _ h => h) (Or.inl ⟨by rfl,?_⟩) hHeld ?_ ?_
     rotate_left
     ·rintro w' ⟨s0,s1,s2,s3,s4,s5,s6,s7,s8,s9,s10⟩
      go_simp
      with_reducible rfl
     rotate_left
     ·simp only [Act.put,ps_,i64_w,i32_w]
      rfl
     refine pure_ (i:=4) (N:=some 52) (v:=?_) (a':=?_) #[T_,T_,T_,T_,T_,F_,F_,T_,F_,F_,F_,T_,F_,F_,T_,F_,F_,T_,T_,F_,F_,T_,F_,F_,F_,F_] rfl rfl (any_of HT_.out (by kernel_rfl)) (fun _ _ _ h => h) (Or.inl ⟨by rfl,?_⟩) ?_ ?_
     rotate_left;(intro w';go_simp;with_reducible rfl);rotate_left;(simp only [Act.put,ps_,i64_w,i32_w];rfl)
     refine pure_ (i:=5) (N:=some 53) (v:=?_) (a':=?_) #[T_,T_,T_,T_,T_,T_,F_,T_,F_,F_,F_,T_,F_,F_,T_,F_,F_,T_,T_,F_,F_,T_,F_,F_,F_,F_] rfl rfl (any_of HT_.out (by kernel_rfl)) (fun _ _ _ h => h) (Or.inl ⟨by rfl,?_⟩) ?_ ?_
     rotate_left;(intro w';go_simp;with_reducible rfl);rotate_left;(simp only [Act.put,ps_,i64_w,i32_w];rfl)
     refine pure_ (i:=6) (N:=some 54) (v:=?_) (a':=?_) #[T_,T_,T_,T_,T_,T_,T_,T_,F_,F_,F_,T_,F_,F_,T_,F_,F_,T_,T_,F_,F_,T_,F_,F_,F_,F_] rfl rfl (any_of HT_.out (by kernel_rfl)) (fun _ _ _ h => h) (Or.inl ⟨by rfl,?_⟩) ?_ ?_
     rotate_left;(intro w';go_simp;with_reducible rfl);rotate_left;(simp only [Act.put,ps_,i64_w,i32_w];rfl)
     refine take_ (i:=8) (N:=some 56) (v:=?_) (a':=?_) #[T_,T_,T_,T_,T_,T_,T_,T_,T_,F_,F_,T_,F_,F_,T_,F_,F_,T_,T_,F_,F_,T_,F_,F_,F_,F_] rfl rfl (take_ofW HT_.out HW_.out (by kernel_rfl)) (fun _ _ _ h => h) (Or.inl ⟨by rfl,?_⟩) hHeld ?_ ?_
     rotate_left
     ·rintro w' ⟨s0,s1,s2,s3,s4,s5,s6,s7,s8,s9,s10⟩
      go_simp
      with_reducible rfl
     rotate_left
     ·simp only [Act.put,ps_,i64_w,i32_w]
      rfl
     refine pure_ (i:=9) (N:=some 57) (v:=?_) (a':=?_) #[T_,T_,T_,T_,T_,T_,T_,T_,T_,T_,F_,T_,F_,F_,T_,F_,F_,T_,T_,F_,F_,T_,F_,F_,F_,F_] rfl rfl (any_of HT_.out (by kernel_rfl)) (fun _ _ _ h => h) (Or.inl ⟨by rfl,?_⟩) ?_ ?_
     rotate_left;(intro w';go_simp;with_reducible rfl);rotate_left;(simp only [Act.put,ps_,i64_w,i32_w];rfl)
     refine take_ (i:=12) (N:=some 60) (v:=?_) (a':=?_) #[T_,T_,T_,T_,T_,T_,T_,T_,T_,T_,F_,T_,T_,F_,T_,F_,F_,T_,T_,F_,F_,T_,F_,F_,F_,F_] rfl rfl (take_ofW HT_.out HW_.out (by kernel_rfl)) (fun _ _ _ h => h) (Or.inl ⟨by rfl,?_⟩) hHeld ?_ ?_
     rotate_left
     ·rintro w' ⟨s0,s1,s2,s3,s4,s5,s6,s7,s8,s9,s10⟩
      go_simp
      with_reducible rfl
     rotate_left
     ·simp only [Act.put,ps_,i64_w,i32_w]
      rfl
     refine take_ (i:=15) (N:=some 63) (v:=?_) (a':=?_) #[T_,T_,T_,T_,T_,T_,T_,T_,T_,T_,F_,T_,T_,F_,T_,T_,F_,T_,T_,F_,F_,T_,F_,F_,F_,F_] rfl rfl (take_ofW HT_.out HW_.out (by kernel_rfl)) (fun _ _ _ h => h) (Or.inl ⟨by rfl,?_⟩) hHeld ?_ ?_
     rotate_left
     ·rintro w' ⟨s0,s1,s2,s3,s4,s5,s6,s7,s8,s9,s10⟩
      go_simp
      with_reducible rfl
     rotate_left
     ·simp only [Act.put,ps_,i64_w,i32_w]
      rfl
     refine take_ (i:=19) (N:=some 67) (v:=?_) (a':=?_) #[T_,T_,T_,T_,T_,T_,T_,T_,T_,T_,F_,T_,T_,F_,T_,T_,F_,T_,T_,T_,F_,T_,F_,F_,F_,F_] rfl rfl (take_ofW HT_.out HW_.out (by kernel_rfl)) (fun _ _ _ h => h) (Or.inl ⟨by rfl,?_⟩) hHeld ?_ ?_
     rotate_left
     ·rintro w' ⟨s0,s1,s2,s3,s4,s5,s6,s7,s8,s9,s10⟩
      go_simp
      with_reducible rfl
     rotate_left
     ·simp only [Act.put,ps_,i64_w,i32_w]
      rfl
     refine one_ (i:=10) (N:=some 58) #[T_,T_,T_,T_,T_,T_,T_,T_,T_,T_,T_,T_,T_,F_,T_,T_,F_,T_,T_,T_,F_,T_,F_,F_,F_,F_] rfl rfl (one_of HT_.out (by kernel_rfl)) (by decide) (fun K hK => ?_)
     refine goes_ Tryd.func24 (by kernel_rfl) rfl #[.int .u64 (IntKind.u64.wrap (a0_4)),.int .i64 4] (by rfl) rfl rfl (by (try simp only [List.map_toArray,List.map_cons,List.map_nil]);first|done|rfl|(simp only [List.length_drop,List.length_take];rfl)) ?_
     with_reducible refine (varint_Fixed.calls (IntKind.u64.wrap (a0_4)) 4 t127 _ A18.out).mono ?_
     rintro e w24 ⟨rfl,hb⟩
     refine ⟨_,rfl,?_⟩
     have n0_:=am_ (blk_below (g:=gb117) (o:=.cells #[.bool true,.bool a0_1,.bool a0_2,.int .i64 a0_3,.int .u32 a0_4,.string a0_5,.string a0_6,.string a0_7,.int .u64 a0_8,.int .i64 a0_9,.int .u64 a0_10] 25 (0,0)) (by (with_reducible repeat (first|refine kn_ ?_ _|refine kd_ ?_|refine ka_ ?_ _));exact BK117.out) hb)
     have n1_:=am_ (below_step (by repeat (first|(with_reducible first|exact HB.out|apply ba_|apply pn_|apply pd_|refine bs_ ?_ GE117.out)|exact HB.out)) hb)
     clear BK117
     clear HB
     have BK117:=n0_
     have HB:=n1_
     clear n0_ n1_
     (try clear hb)
     (try clear hb2)
     (try clear hk)
     (try clear hi)
     refine hK.out _ _ ⟨(kc_ BK117.out 0).trans rfl,(kc_ BK117.out 1).trans rfl,(kc_ BK117.out 2).trans rfl,(kc_ BK117.out 3).trans rfl,(kc_ BK117.out 4).trans rfl,(kc_ BK117.out 5).trans rfl,(kc_ BK117.out 6).trans rfl,(kc_ BK117.out 7).trans rfl,(kc_ BK117.out 8).trans rfl,(kc_ BK117.out 9).trans rfl,(kc_ BK117.out 10).trans rfl⟩ (fun hHeld => ?_)
     clear hK K
     refine norm_ (a':=?_) ?_ ?_
     rotate_left
     ·show Act.put _ (some 58) _ = _
      simp only [Act.put,ps_,i64_w,i32_w]
      rfl
     refine one_ (i:=13) (N:=some 61) #[T_,T_,T_,T_,T_,T_,T_,T_,T_,T_,T_,T_,T_,T_,T_,T_,F_,T_,T_,T_,F_,T_,F_,F_,F_,F_] rfl rfl (one_of HT_.out (by kernel_rfl)) (by decide) (fun K hK => ?_)
     refine goes_ Tryd.func28 (by kernel_rfl) rfl #[.string a0_5] (by rfl) rfl rfl (by (try simp only [List.map_toArray,List.map_cons,List.map_nil]);first|done|rfl|(simp only [List.length_drop,List.length_take];rfl)) ?_
     with_reducible refine (header_counted.calls kj5 a0_5 t128 _ A19.out).mono ?_
     rintro e w25 ⟨rfl,hb⟩
     refine ⟨_,rfl,?_⟩
     have n0_:=am_ (blk_below (g:=gb117) (o:=.cells #[.bool true,.bool a0_1,.bool a0_2,.int .i64 a0_3,.int .u32 a0_4,.string a0_5,.string a0_6,.string a0_7,.int .u64 a0_8,.int .i64 a0_9,.int .u64 a0_10] 25 (0,0)) (by (with_reducible repeat (first|refine kn_ ?_ _|refine kd_ ?_|refine ka_ ?_ _));exact BK117.out) hb)
     have n1_:=am_ (below_step (by repeat (first|(with_reducible first|exact HB.out|apply ba_|apply pn_|apply pd_|refine bs_ ?_ GE117.out)|exact HB.out)) hb)
     clear BK117
     clear HB
     have BK117:=n0_
     have HB:=n1_
     clear n0_ n1_
     (try clear hb)
     (try clear hb2)
     (try clear hk)
     (try clear hi)
     refine hK.out _ _ ⟨(kc_ BK117.out 0).trans rfl,(kc_ BK117.out 1).trans rfl,(kc_ BK117.out 2).trans rfl,(kc_ BK117.out 3).trans rfl,(kc_ BK117.out 4).trans rfl,(kc_ BK117.out 5).trans rfl,(kc_ BK117.out 6).trans rfl,(kc_ BK117.out 7).trans rfl,(kc_ BK117.out 8).trans rfl,(kc_ BK117.out 9).trans rfl,(kc_ BK117.out 10).trans rfl⟩ (fun hHeld => ?_)
     clear hK K
     refine norm_ (a':=?_) ?_ ?_
     rotate_left
     ·show Act.put _ (some 61) _ = _
      simp only [Act.put,ps_,i64_w,i32_w]
      rfl
     refine one_ (i:=16) (N:=some 64) #[T_,T_,T_,T_,T_,T_,T_,T_,T_,T_,T_,T_,T_,T_,T_,T_,T_,T_,T_,T_,F_,T_,F_,F_,F_,F_] rfl rfl (one_of HT_.out (by kernel_rfl)) (by decide) (fun K hK => ?_)
     refine goes_ Tryd.func28 (by kernel_rfl) rfl #[.string a0_6] (by rfl) rfl rfl (by (try simp only [List.map_toArray,List.map_cons,List.map_nil]);first|done|rfl|(simp only [List.length_drop,List.length_take];rfl)) ?_
     with_reducible refine (header_counted.calls kj5 a0_6 t129 _ A20.out).mono ?_
     rintro e w26 ⟨rfl,hb⟩
     refine ⟨_,rfl,?_⟩
     have n0_:=am_ (blk_below (g:=gb117) (o:=.cells #[.bool true,.bool a0_1,.bool a0_2,.int .i64 a0_3,.int .u32 a0_4,.string a0_5,.string a0_6,.string a0_7,.int .u64 a0_8,.int .i64 a0_9,.int .u64 a0_10] 25 (0,0)) (by (with_reducible repeat (first|refine kn_ ?_ _|refine kd_ ?_|refine ka_ ?_ _));exact BK117.out) hb)
     have n1_:=am_ (below_step (by repeat (first|(with_reducible first|exact HB.out|apply ba_|apply pn_|apply pd_|refine bs_ ?_ GE117.out)|exact HB.out)) hb)
     clear BK117
     clear HB
     have BK117:=n0_
     have HB:=n1_
     clear n0_ n1_
     (try clear hb)
     (try clear hb2)
     (try clear hk)
     (try clear hi)
     refine hK.out _ _ ⟨(kc_ BK117.out 0).trans rfl,(kc_ BK117.out 1).trans rfl,(kc_ BK117.out 2).trans rfl,(kc_ BK117.out 3).trans rfl,(kc_ BK117.out 4).trans rfl,(kc_ BK117.out 5).trans rfl,(kc_ BK117.out 6).trans rfl,(kc_ BK117.out 7).trans rfl,(kc_ BK117.out 8).trans rfl,(kc_ BK117.out 9).trans rfl,(kc_ BK117.out 10).trans rfl⟩ (fun hHeld => ?_)
     clear hK K
     refine norm_ (a':=?_) ?_ ?_
     rotate_left
     ·show Act.put _ (some 64) _ = _
      simp only [Act.put,ps_,i64_w,i32_w]
      rfl
     refine one_ (i:=20) (N:=some 68) #[T_,T_,T_,T_,T_,T_,T_,T_,T_,T_,T_,T_,T_,T_,T_,T_,T_,T_,T_,T_,T_,T_,F_,F_,F_,F_] rfl rfl (one_of HT_.out (by kernel_rfl)) (by decide) (fun K hK => ?_)
     refine goes_ Tryd.func27 (by kernel_rfl) rfl #[.int .u64 a0_8] (by rfl) rfl rfl (by (try simp only [List.map_toArray,List.map_cons,List.map_nil]);first|done|rfl|(simp only [List.length_drop,List.length_take];rfl)) ?_
     with_reducible refine (header_number.calls a0_8 t130 _ (by first|exact HTab.out|exact tab_below HTab.out HB.out|exact (tab_below HTab.out (by repeat (first|(with_reducible first|exact HB.out|apply ba_|apply pn_|apply pd_|refine bs_ ?_ GE117.out)|exact HB.out)))|exact tab_below HTab.out (by repeat (first|exact HB.out|exact Below.refl _ _|apply ba_|apply pn_|apply pd_|refine bs_ ?_ GE117.out))) A21.out).mono ?_
     rintro e w27 ⟨rfl,hb⟩
     refine ⟨_,rfl,?_⟩
     have n0_:=am_ (blk_below (g:=gb117) (o:=.cells #[.bool true,.bool a0_1,.bool a0_2,.int .i64 a0_3,.int .u32 a0_4,.string a0_5,.string a0_6,.string a0_7,.int .u64 a0_8,.int .i64 a0_9,.int .u64 a0_10] 25 (0,0)) (by (with_reducible repeat (first|refine kn_ ?_ _|refine kd_ ?_|refine ka_ ?_ _));exact BK117.out) hb)
     have n1_:=am_ (below_step (by repeat (first|(with_reducible first|exact HB.out|apply ba_|apply pn_|apply pd_|refine bs_ ?_ GE117.out)|exact HB.out)) hb)
     clear BK117
     clear HB
     have BK117:=n0_
     have HB:=n1_
     clear n0_ n1_
     (try clear hb)
     (try clear hb2)
     (try clear hk)
     (try clear hi)
     refine hK.out _ _ ⟨(kc_ BK117.out 0).trans rfl,(kc_ BK117.out 1).trans rfl,(kc_ BK117.out 2).trans rfl,(kc_ BK117.out 3).trans rfl,(kc_ BK117.out 4).trans rfl,(kc_ BK117.out 5).trans rfl,(kc_ BK117.out 6).trans rfl,(kc_ BK117.out 7).trans rfl,(kc_ BK117.out 8).trans rfl,(kc_ BK117.out 9).trans rfl,(kc_ BK117.out 10).trans rfl⟩ (fun hHeld => ?_)
     clear hK K
     refine norm_ (a':=?_) ?_ ?_
     rotate_left
     ·show Act.put _ (some 68) _ = _
      simp only [Act.put,ps_,i64_w,i32_w]
      rfl
     refine one_ (i:=22) (N:=some 70) #[T_,T_,T_,T_,T_,T_,T_,T_,T_,T_,T_,T_,T_,T_,T_,T_,T_,T_,T_,T_,T_,T_,T_,F_,F_,F_] rfl rfl (one_of HT_.out (by kernel_rfl)) (by decide) (fun K hK => ?_)
     refine Kd.R_lit_step Kd.string _ 9 ?hg (N:=70) ?hd (xs:=([t127,t128,t129,x6_5,t130,t119] : List ByteArray)) (inner:=[.string t127,.string t128,.string t129,.string x6_5,.string t130,.string t119]) (ok:=fun _ => True) (okp:=fun _ => True) ?hr ?hp (fun _ hk => hk) trivial (Below.refl _ _) (Nat.le_refl _) (by simp) ?_;(case hd => rfl);(case hg => rfl);(case hr => first|(go_simp;done)|(go_simp;rfl));(case hp => exact (Reps.one (show Kd.M Kd.string _ _ _ t127 [.string t127] from rfl) (Reps.one (show Kd.M Kd.string _ _ _ t128 [.string t128] from rfl) (Reps.one (show Kd.M Kd.string _ _ _ t129 [.string t129] from rfl) (Reps.one (show Kd.M Kd.string _ _ _ x6_5 [.string x6_5] from rfl) (Reps.one (show Kd.M Kd.string _ _ _ t130 [.string t130] from rfl) (Reps.one (show Kd.M Kd.string _ _ _ t119 [.string t119] from rfl) (Reps.none _ _))))))))
     intro v132 w28 ho29 hb hg_ hnew_
     clear hg_ hnew_
     (first|rw [← Ny131.out] at ho29|(simp only [Int.reduceToNat] at ho29;rw [← Ny131.out] at ho29))
     have n0_:=am_ (Kd.R_lower ho29 (below_size (by repeat (first|(with_reducible first|exact HB.out|apply ba_|apply pn_|apply pd_|refine bs_ ?_ GE117.out)|exact HB.out))))
     have n1_:=am_ (blk_below (g:=gb117) (o:=.cells #[.bool true,.bool a0_1,.bool a0_2,.int .i64 a0_3,.int .u32 a0_4,.string a0_5,.string a0_6,.string a0_7,.int .u64 a0_8,.int .i64 a0_9,.int .u64 a0_10] 25 (0,0)) (by (with_reducible repeat (first|refine kn_ ?_ _|refine kd_ ?_|refine ka_ ?_ _));exact BK117.out) hb)
     have n2_:=am_ (below_step (by repeat (first|(with_reducible first|exact HB.out|apply ba_|apply pn_|apply pd_|refine bs_ ?_ GE117.out)|exact HB.out)) hb)
     clear BK117
     clear HB
     have HO133:=n0_
     have BK117:=n1_
     have HB:=n2_
     clear n0_ n1_ n2_
     clear hb ho29
     obtain ⟨Ao30,co30,eo30⟩:=Kd.R_slice HO133.out
     (first|subst eo30|(injection eo30 with f1_ f2_ f3_;have f4_:=f1_.symm;have f5_:=f3_.symm;clear f1_ f2_ f3_;subst f4_;subst f5_))
     refine hK.out _ _ ⟨(kc_ BK117.out 0).trans rfl,(kc_ BK117.out 1).trans rfl,(kc_ BK117.out 2).trans rfl,(kc_ BK117.out 3).trans rfl,(kc_ BK117.out 4).trans rfl,(kc_ BK117.out 5).trans rfl,(kc_ BK117.out 6).trans rfl,(kc_ BK117.out 7).trans rfl,(kc_ BK117.out 8).trans rfl,(kc_ BK117.out 9).trans rfl,(kc_ BK117.out 10).trans rfl⟩ (fun hHeld => ?_)
     clear hK K
     refine norm_ (a':=?_) ?_ ?_
     rotate_left
     ·show Act.put _ (some 70) _ = _
      simp only [Act.put,ps_,i64_w,i32_w]
      rfl
     refine one_ (i:=23) (N:=some 71) #[T_,T_,T_,T_,T_,T_,T_,T_,T_,T_,T_,T_,T_,T_,T_,T_,T_,T_,T_,T_,T_,T_,T_,T_,F_,F_] rfl rfl (one_of HT_.out (by kernel_rfl)) (by decide) (fun K hK => ?_)
     refine goes_ Tryd.func25 (by kernel_rfl) rfl #[.int .u8 (Go.bits .or .u8 (Go.bits .or .u8 (Go.bits .or .u8 64 ((wrap64 (a0_9 - 1)) % 256)) 128) ((((a0_3) % 256) * 16) % 256)),.slice Ao30 y131.length co30] (by rfl) rfl rfl (by (try simp only [List.map_toArray,List.map_cons,List.map_nil]);first|done|rfl|(simp only [List.length_drop,List.length_take];rfl)) ?_
     with_reducible refine (header_joined.calls kj5 (Go.bits .or .u8 (Go.bits .or .u8 (Go.bits .or .u8 64 ((wrap64 (a0_9 - 1)) % 256)) 128) ((((a0_3) % 256) * 16) % 256)) _ _ y131 t134 _ ?side1 ?side2 A22.out).mono ?_
     (case side1 => repeat (first|exact (Kd.R_reads' HO133.out).2.2|(with_reducible refine Kd.C_alloc ?_ _)|(with_reducible refine Kd.C_drewN ?_ _)|(with_reducible refine Kd.C_drew ?_)))
     (case side2 => exact (Kd.R_reads' HO133.out).2.1)
     rintro e w31 ⟨rfl,hb⟩
     refine ⟨_,rfl,?_⟩
     have n0_:=am_ (Kd.R_below (by (with_reducible repeat (first|apply ra_|apply rn_|apply rd_));exact HO133.out) hb)
     have n1_:=am_ (blk_below (g:=gb117) (o:=.cells #[.bool true,.bool a0_1,.bool a0_2,.int .i64 a0_3,.int .u32 a0_4,.string a0_5,.string a0_6,.string a0_7,.int .u64 a0_8,.int .i64 a0_9,.int .u64 a0_10] 25 (0,0)) (by (with_reducible repeat (first|refine kn_ ?_ _|refine kd_ ?_|refine ka_ ?_ _));exact BK117.out) hb)
     have n2_:=am_ (below_step (by repeat (first|(with_reducible first|exact HB.out|apply ba_|apply pn_|apply pd_|refine bs_ ?_ GE117.out)|exact HB.out)) hb)
     clear HO133
     clear BK117
     clear HB
     have HO133:=n0_
     have BK117:=n1_
     have HB:=n2_
     clear n0_ n1_ n2_
     (try clear hb)
     (try clear hb2)
     (try clear hk)
     (try clear hi)
     refine hK.out _ _ ⟨(kc_ BK117.out 0).trans rfl,(kc_ BK117.out 1).trans rfl,(kc_ BK117.out 2).trans rfl,(kc_ BK117.out 3).trans rfl,(kc_ BK117.out 4).trans rfl,(kc_ BK117.out 5).trans rfl,(kc_ BK117.out 6).trans rfl,(kc_ BK117.out 7).trans rfl,(kc_ BK117.out 8).trans rfl,(kc_ BK117.out 9).trans rfl,(kc_ BK117.out 10).trans rfl⟩ (fun hHeld => ?_)
     clear hK K
     refine norm_ (a':=?_) ?_ ?_
     rotate_left
     ·show Act.put _ (some 71) _ = _
      simp only [Act.put,ps_,i64_w,i32_w]
      rfl
     refine pure_ (i:=24) (N:=some 2) (v:=?_) (a':=?_) #[T_,T_,T_,T_,T_,T_,T_,T_,T_,T_,T_,T_,T_,T_,T_,T_,T_,T_,T_,T_,T_,T_,T_,T_,T_,F_] rfl rfl (any_of HT_.out (by kernel_rfl)) (fun _ _ _ h => h) (Or.inl ⟨by rfl,?_⟩) ?_ ?_
     rotate_left;(intro w';go_simp;with_reducible rfl);rotate_left;(simp only [Act.put,ps_,i64_w,i32_w];rfl)
     refine pure_ (i:=25) (N:=some 3) (v:=?_) (a':=?_) #[T_,T_,T_,T_,T_,T_,T_,T_,T_,T_,T_,T_,T_,T_,T_,T_,T_,T_,T_,T_,T_,T_,T_,T_,T_,T_] rfl rfl (any_of HT_.out (by kernel_rfl)) (fun _ _ _ h => h) (Or.inl ⟨by rfl,?_⟩) ?_ ?_
     rotate_left;(intro w';go_simp;with_reducible rfl);rotate_left;(simp only [Act.put,ps_,i64_w,i32_w];rfl)
     refine done_ (done_of HT_.out (by kernel_rfl)) ?_
     try go_wp2
     go_ret2
     exact ⟨by first|rfl|(simp [errW_none,errW_some] <;> rfl)|(simp [*,errW_none,errW_some] <;> rfl),by repeat (first|(with_reducible first|exact HB.out|apply ba_|apply pn_|apply pd_|refine bs_ ?_ GE117.out)|exact HB.out)⟩
  ·replace c5:=Bool.eq_false_iff.mpr c5
   subst c5
   have H1 : ((header_flag.f a0_1 32).bind fun t120 => ((header_flag.f a0_2 4).bind fun t121 => ((header_joined.f k (Go.bits .or .u8 (Go.bits .or .u8 (Go.bits .or .u8 64 ((wrap64 (a0_9 - 1)) % 256)) t120) t121) (([a0_5,t119] : List ByteArray))).bind fun t125 => (some (t125,0))))) = some (r1,r2):=by rw [if_neg (show ¬ (false = true) by decide)] at H;exact H
   clear H
   have H:=H1
   clear H1
   replace H:=Option.bind_eq_some_iff.mp H
   obtain ⟨t120,A320,H⟩:=H
   replace H : ((header_flag.f a0_2 4).bind fun t121 => ((header_joined.f k (Go.bits .or .u8 (Go.bits .or .u8 (Go.bits .or .u8 64 ((wrap64 (a0_9 - 1)) % 256)) t120) t121) (([a0_5,t119] : List ByteArray))).bind fun t125 => (some (t125,0)))) = some (r1,r2):=H
   have A32:=am_ A320
   clear A320
   replace H:=Option.bind_eq_some_iff.mp H
   obtain ⟨t121,A330,H⟩:=H
   replace H : ((header_joined.f k (Go.bits .or .u8 (Go.bits .or .u8 (Go.bits .or .u8 64 ((wrap64 (a0_9 - 1)) % 256)) t120) t121) (([a0_5,t119] : List ByteArray))).bind fun t125 => (some (t125,0))) = some (r1,r2):=H
   have A33:=am_ A330
   clear A330
   obtain ⟨y122,hy122⟩ : ∃ y_ : List ByteArray,y_ = (([a0_5,t119] : List ByteArray)):=⟨_,rfl⟩
   replace H : ((header_joined.f k (Go.bits .or .u8 (Go.bits .or .u8 (Go.bits .or .u8 64 ((wrap64 (a0_9 - 1)) % 256)) t120) t121) y122).bind fun t125 => (some (t125,0))) = some (r1,r2):=by first|(rw [hy122];with_reducible exact H)|(have H2_:=(Option.bind_some _ _).symm.trans H;rw [hy122];with_reducible exact H2_)|(have H2_:=(Option.bind_some _ _).symm.trans H;with_reducible exact H2_)|with_reducible exact H|(rw [hy122];exact H)|exact H
   have Ny122:=am_ hy122
   clear hy122
   replace H:=Option.bind_eq_some_iff.mp H
   obtain ⟨t125,A340,H⟩:=H
   replace H : (some (t125,0)) = some (r1,r2):=H
   have A34:=am_ A340
   clear A340
   simp only [Option.some.injEq,Prod.mk.injEq] at H
   obtain ⟨rfl,rfl⟩:=H
   go_enter Tryd.func12,Tryd.ntmps12
   try go_wp2_with (first|((with_reducible refine gate_dst (N:=1) rfl ?_);refine box_event ?hg (N:=1) ?hd (cs:=#[.bool false,.bool a0_1,.bool a0_2,.int .i64 a0_3,.int .u32 a0_4,.string a0_5,.string a0_6,.string a0_7,.int .u64 a0_8,.int .i64 a0_9,.int .u64 a0_10]) (t:=25) ?hr ?_;(case hd => rfl);(case hg => rfl);(case hr => first|(go_simp;done)|(go_simp;rfl));intro gb117 hg w35 hbox hb;have n0_:=am_ (below_step (by repeat (first|(with_reducible first|exact HB.out|apply ba_|apply pn_|apply pd_)|exact HB.out)) hb);have n1_:=am_ (hbox);have n2_:=am_ ((by rw [hg];exact (below_size (by repeat (first|(with_reducible first|exact HB.out|apply ba_|apply pn_|apply pd_)|exact HB.out))) : w.heap.size ≤ gb117));have n3_:=am_ ((by rw [hg];exact (below_size (by repeat (first|(with_reducible first|exact HB.out|apply ba_|apply pn_|apply pd_)|exact HB.out))) : w.heap.size ≤ gb117));clear HB;have HB:=n0_;have BK117:=n1_;have GW117:=n2_;have GE117:=n3_;clear n0_ n1_ n2_ n3_;clear hb hbox hg;obtain ⟨hcz36_0,hcz36_1,hcz36_2,hcz36_3,hcz36_4,hcz36_5,hcz36_6,hcz36_7,hcz36_8,hcz36_9,hcz36_10,hfz36_0,hfz36_1,hfz36_2,hfz36_3,hfz36_4,hfz36_5,hfz36_6,hfz36_7,hfz36_8,hfz36_9,hfz36_10⟩:=cs11f_ BK117.out;skip)|((with_reducible refine gate_callee (f:=18) rfl ?_);refine goesL_ (some 8) rfl rfl Tryd.func18 (by kernel_rfl) rfl #[.agg #[.bool false,.bool a0_1,.bool a0_2,.int .i64 a0_3,.int .u32 a0_4,.string a0_5,.string a0_6,.string a0_7,.int .u64 a0_8,.int .i64 a0_9,.int .u64 a0_10]] rfl (by (try simp only [List.map_toArray,List.map_cons,List.map_nil]);first|done|rfl|(simp only [List.length_drop,List.length_take];rfl)) ?_;(with_reducible refine (header_May.calls k false a0_1 a0_2 a0_3 a0_4 a0_5 a0_6 a0_7 a0_8 a0_9 a0_10 true _ A2.out).mono ?_);rintro e w37 ⟨rfl,hb⟩;refine ⟨_,rfl,?_⟩;have n0_:=am_ (blk_below (g:=gb117) (o:=.cells #[.bool false,.bool a0_1,.bool a0_2,.int .i64 a0_3,.int .u32 a0_4,.string a0_5,.string a0_6,.string a0_7,.int .u64 a0_8,.int .i64 a0_9,.int .u64 a0_10] 25 (0,0)) (by (with_reducible repeat (first|refine kn_ ?_ _|refine kd_ ?_|refine ka_ ?_ _));exact BK117.out) hb);have n1_:=am_ (below_step (by repeat (first|(with_reducible first|exact HB.out|apply ba_|apply pn_|apply pd_|refine bs_ ?_ GE117.out)|exact HB.out)) hb);clear BK117;clear HB;have BK117:=n0_;have HB:=n1_;clear n0_ n1_;(try clear hb);(try clear hb2);(try clear hk);(try clear hi);obtain ⟨hcz38_0,hcz38_1,hcz38_2,hcz38_3,hcz38_4,hcz38_5,hcz38_6,hcz38_7,hcz38_8,hcz38_9,hcz38_10,hfz38_0,hfz38_1,hfz38_2,hfz38_3,hfz38_4,hfz38_5,hfz38_6,hfz38_7,hfz38_8,hfz38_9,hfz38_10⟩:=cs11f_ BK117.out;skip)|((with_reducible refine gate_callee (f:=24) rfl ?_);refine goesL_ (some 14) rfl rfl Tryd.func24 (by kernel_rfl) rfl #[.int .u64 a0_10,.int .i64 a0_9] rfl (by (try simp only [List.map_toArray,List.map_cons,List.map_nil]);first|done|rfl|(simp only [List.length_drop,List.length_take];rfl)) ?_;(with_reducible refine (varint_Fixed.calls a0_10 a0_9 t119 _ A4.out).mono ?_);rintro e w39 ⟨rfl,hb⟩;refine ⟨_,rfl,?_⟩;have n0_:=am_ (blk_below (g:=gb117) (o:=.cells #[.bool false,.bool a0_1,.bool a0_2,.int .i64 a0_3,.int .u32 a0_4,.string a0_5,.string a0_6,.string a0_7,.int .u64 a0_8,.int .i64 a0_9,.int .u64 a0_10] 25 (0,0)) (by (with_reducible repeat (first|refine kn_ ?_ _|refine kd_ ?_|refine ka_ ?_ _));exact BK117.out) hb);have n1_:=am_ (below_step (by repeat (first|(with_reducible first|exact HB.out|apply ba_|apply pn_|apply pd_|refine bs_ ?_ GE117.out)|exact HB.out)) hb);clear BK117;clear HB;have BK117:=n0_;have HB:=n1_;clear n0_ n1_;(try clear hb);(try clear hb2);(try clear hk);(try clear hi);obtain ⟨hcz40_0,hcz40_1,hcz40_2,hcz40_3,hcz40_4,hcz40_5,hcz40_6,hcz40_7,hcz40_8,hcz40_9,hcz40_10,hfz40_0,hfz40_1,hfz40_2,hfz40_3,hfz40_4,hfz40_5,hfz40_6,hfz40_7,hfz40_8,hfz40_9,hfz40_10⟩:=cs11f_ BK117.out;skip))
   have n0_:=am_ (kd_ BK117.out)
   have n1_:=am_ (pd_ HB.out)
   clear BK117
   clear HB
   have BK117:=n0_
   have HB:=n1_
   clear n0_ n1_
   refine start_ (n:=16) (S:=fun w' => w'.cell? ⟨gb117,0,none⟩ = some (.bool false) ∧ w'.cell? ⟨gb117,1,none⟩ = some (.bool a0_1) ∧ w'.cell? ⟨gb117,2,none⟩ = some (.bool a0_2) ∧ w'.cell? ⟨gb117,3,none⟩ = some (.int .i64 a0_3) ∧ w'.cell? ⟨gb117,4,none⟩ = some (.int .u32 a0_4) ∧ w'.cell? ⟨gb117,5,none⟩ = some (.string a0_5) ∧ w'.cell? ⟨gb117,6,none⟩ = some (.string a0_6) ∧ w'.cell? ⟨gb117,7,none⟩ = some (.string a0_7) ∧ w'.cell? ⟨gb117,8,none⟩ = some (.int .u64 a0_8) ∧ w'.cell? ⟨gb117,9,none⟩ = some (.int .i64 a0_9) ∧ w'.cell? ⟨gb117,10,none⟩ = some (.int .u64 a0_10)) (ds:=[]) #[F_,F_,F_,F_,F_,F_,F_,F_,F_,F_,F_,F_,F_,F_,F_,F_] (by kernel_rfl) rfl rfl ⟨(kc_ BK117.out 0).trans rfl,(kc_ BK117.out 1).trans rfl,(kc_ BK117.out 2).trans rfl,(kc_ BK117.out 3).trans rfl,(kc_ BK117.out 4).trans rfl,(kc_ BK117.out 5).trans rfl,(kc_ BK117.out 6).trans rfl,(kc_ BK117.out 7).trans rfl,(kc_ BK117.out 8).trans rfl,(kc_ BK117.out 9).trans rfl,(kc_ BK117.out 10).trans rfl⟩ (fun hHeld => ?_);refine with_tabW header_Put.tab6 header_Put.bits6 (fun HT_ HW_ => ?_)
   generalize w39.drew = w41 at BK117 HB hHeld ⊢
   refine pure_ (i:=0) (N:=some 23) (v:=?_) (a':=?_) #[T_,F_,F_,F_,F_,F_,F_,F_,F_,F_,F_,F_,F_,F_,F_,F_] rfl rfl (any_of HT_.out (by kernel_rfl)) (fun _ _ _ h => h) (Or.inl ⟨by rfl,?_⟩) ?_ ?_
   rotate_left;(intro w';go_simp;with_reducible rfl);rotate_left;(simp only [Act.put,ps_,i64_w,i32_w];rfl)
   refine pure_ (i:=1) (N:=some 24) (v:=?_) (a':=?_) #[T_,T_,F_,F_,F_,F_,F_,F_,F_,F_,F_,F_,F_,F_,F_,F_] rfl rfl (any_of HT_.out (by kernel_rfl)) (fun _ _ _ h => h) (Or.inl ⟨by rfl,?_⟩) ?_ ?_
   rotate_left;(intro w';go_simp;with_reducible rfl);rotate_left;(simp only [Act.put,ps_,i64_w,i32_w];rfl)
   refine pure_ (i:=5) (N:=some 28) (v:=?_) (a':=?_) #[T_,T_,F_,F_,F_,T_,F_,F_,F_,F_,F_,F_,F_,F_,F_,F_] rfl rfl (any_of HT_.out (by kernel_rfl)) (fun _ _ _ h => h) (Or.inl ⟨by rfl,?_⟩) ?_ ?_
   rotate_left;(intro w';go_simp;with_reducible rfl);rotate_left;(simp only [Act.put,ps_,i64_w,i32_w];rfl)
   refine pure_ (i:=9) (N:=some 32) (v:=?_) (a':=?_) #[T_,T_,F_,F_,F_,T_,F_,F_,F_,T_,F_,F_,F_,F_,F_,F_] rfl rfl (any_of HT_.out (by kernel_rfl)) (fun _ _ _ h => h) (Or.inl ⟨by rfl,?_⟩) ?_ ?_
   rotate_left;(intro w';go_simp;with_reducible rfl);rotate_left;(simp only [Act.put,ps_,i64_w,i32_w];rfl)
   refine pure_ (i:=11) (N:=some 34) (v:=?_) (a':=?_) #[T_,T_,F_,F_,F_,T_,F_,F_,F_,T_,F_,T_,F_,F_,F_,F_] rfl rfl (any_of HT_.out (by kernel_rfl)) (fun _ _ _ h => h) (Or.inl ⟨by rfl,?_⟩) ?_ ?_
   rotate_left;(intro w';go_simp;with_reducible rfl);rotate_left;(simp only [Act.put,ps_,i64_w,i32_w];rfl)
   refine take_ (i:=2) (N:=some 25) (v:=?_) (a':=?_) #[T_,T_,T_,F_,F_,T_,F_,F_,F_,T_,F_,T_,F_,F_,F_,F_] rfl rfl (take_ofW HT_.out HW_.out (by kernel_rfl)) (fun _ _ _ h => h) (Or.inl ⟨by rfl,?_⟩) hHeld ?_ ?_
   rotate_left
   ·rintro w' ⟨s0,s1,s2,s3,s4,s5,s6,s7,s8,s9,s10⟩
    go_simp
    with_reducible rfl
   rotate_left
   ·simp only [Act.put,ps_,i64_w,i32_w]
    rfl
   refine take_ (i:=6) (N:=some 29) (v:=?_) (a':=?_) #[T_,T_,T_,F_,F_,T_,T_,F_,F_,T_,F_,T_,F_,F_,F_,F_] rfl rfl (take_ofW HT_.out HW_.out (by kernel_rfl)) (fun _ _ _ h => h) (Or.inl ⟨by rfl,?_⟩) hHeld ?_ ?_
   rotate_left
   ·rintro w' ⟨s0,s1,s2,s3,s4,s5,s6,s7,s8,s9,s10⟩
    go_simp
    with_reducible rfl
   rotate_left
   ·simp only [Act.put,ps_,i64_w,i32_w]
    rfl
   refine take_ (i:=10) (N:=some 33) (v:=?_) (a':=?_) #[T_,T_,T_,F_,F_,T_,T_,F_,F_,T_,T_,T_,F_,F_,F_,F_] rfl rfl (take_ofW HT_.out HW_.out (by kernel_rfl)) (fun _ _ _ h => h) (Or.inl ⟨by rfl,?_⟩) hHeld ?_ ?_
   rotate_left
   ·rintro w' ⟨s0,s1,s2,s3,s4,s5,s6,s7,s8,s9,s10⟩
    go_simp
    with_reducible rfl
   rotate_left
   ·simp only [Act.put,ps_,i64_w,i32_w]
    rfl
   refine join_ (σ:=Value) 3 #[T_,T_,T_,T_,T_,T_,T_,T_,T_,T_,T_,T_,T_,F_,F_,F_] (fun s_ => [(26,.int .u8 t120),(30,.int .u8 t121),(35,s_),(27,.int .u8 (Go.bits .or .u8 (Go.bits .or .u8 64 ((wrap64 (a0_9 - 1)) % 256)) t120)),(31,.int .u8 (Go.bits .or .u8 (Go.bits .or .u8 (Go.bits .or .u8 64 ((wrap64 (a0_9 - 1)) % 256)) t120) t121))]) (fun s_ w' => (w'.cell? ⟨gb117,0,none⟩ = some (.bool false) ∧ w'.cell? ⟨gb117,1,none⟩ = some (.bool a0_1) ∧ w'.cell? ⟨gb117,2,none⟩ = some (.bool a0_2) ∧ w'.cell? ⟨gb117,3,none⟩ = some (.int .i64 a0_3) ∧ w'.cell? ⟨gb117,4,none⟩ = some (.int .u32 a0_4) ∧ w'.cell? ⟨gb117,5,none⟩ = some (.string a0_5) ∧ w'.cell? ⟨gb117,6,none⟩ = some (.string a0_6) ∧ w'.cell? ⟨gb117,7,none⟩ = some (.string a0_7) ∧ w'.cell? ⟨gb117,8,none⟩ = some (.int .u64 a0_8) ∧ w'.cell? ⟨gb117,9,none⟩ = some (.int .i64 a0_9) ∧ w'.cell? ⟨gb117,10,none⟩ = some (.int .u64 a0_10)) ∧ (Kd.R Kd.string 9 w' w.heap.size (fun _ => True) s_ y122) ∧ (w'.heap[gb117]? = some (.cells #[.bool false,.bool a0_1,.bool a0_2,.int .i64 a0_3,.int .u32 a0_4,.string a0_5,.string a0_6,.string a0_7,.int .u64 a0_8,.int .i64 a0_9,.int .u64 a0_10] 25 (0,0))) ∧ (Below w.heap.size w w')) ?_ ?_
   rotate_left
   ·intro hCont
    refine two_ (i:=3) (j:=12) (Ni:=some 26) (Nj:=some 35) #[T_,T_,T_,T_,F_,T_,T_,F_,F_,T_,T_,T_,F_,F_,F_,F_] #[T_,T_,T_,F_,F_,T_,T_,F_,F_,T_,T_,T_,T_,F_,F_,F_] rfl rfl rfl rfl (two_of HT_.out (by kernel_rfl)) (by decide) (by decide) (fun K hK => ?_) (fun K hK => ?_)
    ·skip
     refine goes_ Tryd.func26 (by kernel_rfl) rfl #[.bool a0_1,.int .u8 32] (by rfl) rfl rfl (by (try simp only [List.map_toArray,List.map_cons,List.map_nil]);first|done|rfl|(simp only [List.length_drop,List.length_take];rfl)) ?_
     with_reducible refine (header_flag.calls a0_1 32 t120 _ A32.out).mono ?_
     rintro e w' ⟨rfl,⟨nd,rfl⟩⟩
     refine ⟨_,rfl,?_⟩
     refine hK.out _ _ ⟨(kc_ BK117.out 0).trans rfl,(kc_ BK117.out 1).trans rfl,(kc_ BK117.out 2).trans rfl,(kc_ BK117.out 3).trans rfl,(kc_ BK117.out 4).trans rfl,(kc_ BK117.out 5).trans rfl,(kc_ BK117.out 6).trans rfl,(kc_ BK117.out 7).trans rfl,(kc_ BK117.out 8).trans rfl,(kc_ BK117.out 9).trans rfl,(kc_ BK117.out 10).trans rfl⟩ (fun hHeld => ?_)
     clear hK K
     refine norm_ (a':=?_) ?_ ?_
     rotate_left
     ·show Act.put _ (some 26) _ = _
      simp only [Act.put,ps_,i64_w,i32_w]
      rfl
     refine pure_ (i:=4) (N:=some 27) (v:=?_) (a':=?_) #[T_,T_,T_,T_,T_,T_,T_,F_,F_,T_,T_,T_,F_,F_,F_,F_] rfl rfl (any_of HT_.out (by kernel_rfl)) (fun _ _ _ h => h) (Or.inl ⟨by rfl,?_⟩) ?_ ?_
     rotate_left;(intro w';go_simp;with_reducible rfl);rotate_left;(simp only [Act.put,ps_,i64_w,i32_w];rfl)
     refine two_ (i:=7) (j:=12) (Ni:=some 30) (Nj:=some 35) #[T_,T_,T_,T_,T_,T_,T_,T_,F_,T_,T_,T_,F_,F_,F_,F_] #[T_,T_,T_,T_,T_,T_,T_,F_,F_,T_,T_,T_,T_,F_,F_,F_] rfl rfl rfl rfl (two_of HT_.out (by kernel_rfl)) (by decide) (by decide) (fun K hK => ?_) (fun K hK => ?_)
     ·skip
      refine goes_ Tryd.func26 (by kernel_rfl) rfl #[.bool a0_2,.int .u8 4] (by rfl) rfl rfl (by (try simp only [List.map_toArray,List.map_cons,List.map_nil]);first|done|rfl|(simp only [List.length_drop,List.length_take];rfl)) ?_
      with_reducible refine (header_flag.calls a0_2 4 t121 _ A33.out).mono ?_
      rintro e w' ⟨rfl,⟨nd,rfl⟩⟩
      refine ⟨_,rfl,?_⟩
      refine hK.out _ _ ⟨(kc_ BK117.out 0).trans rfl,(kc_ BK117.out 1).trans rfl,(kc_ BK117.out 2).trans rfl,(kc_ BK117.out 3).trans rfl,(kc_ BK117.out 4).trans rfl,(kc_ BK117.out 5).trans rfl,(kc_ BK117.out 6).trans rfl,(kc_ BK117.out 7).trans rfl,(kc_ BK117.out 8).trans rfl,(kc_ BK117.out 9).trans rfl,(kc_ BK117.out 10).trans rfl⟩ (fun hHeld => ?_)
      clear hK K
      refine norm_ (a':=?_) ?_ ?_
      rotate_left
      ·show Act.put _ (some 30) _ = _
       simp only [Act.put,ps_,i64_w,i32_w]
       rfl
      refine pure_ (i:=8) (N:=some 31) (v:=?_) (a':=?_) #[T_,T_,T_,T_,T_,T_,T_,T_,T_,T_,T_,T_,F_,F_,F_,F_] rfl rfl (any_of HT_.out (by kernel_rfl)) (fun _ _ _ h => h) (Or.inl ⟨by rfl,?_⟩) ?_ ?_
      rotate_left;(intro w';go_simp;with_reducible rfl);rotate_left;(simp only [Act.put,ps_,i64_w,i32_w];rfl)
      refine one_ (i:=12) (N:=some 35) #[T_,T_,T_,T_,T_,T_,T_,T_,T_,T_,T_,T_,T_,F_,F_,F_] rfl rfl (one_of HT_.out (by kernel_rfl)) (by decide) (fun K hK => ?_)
      refine Kd.R_lit_step Kd.string _ 9 ?hg (N:=35) ?hd (xs:=([a0_5,t119] : List ByteArray)) (inner:=[.string a0_5,.string t119]) (ok:=fun _ => True) (okp:=fun _ => True) ?hr ?hp (fun _ hk => hk) trivial (Below.refl _ _) (Nat.le_refl _) (by simp) ?_;(case hd => rfl);(case hg => rfl);(case hr => first|(go_simp;done)|(go_simp;rfl));(case hp => exact (Reps.one (show Kd.M Kd.string _ _ _ a0_5 [.string a0_5] from rfl) (Reps.one (show Kd.M Kd.string _ _ _ t119 [.string t119] from rfl) (Reps.none _ _))))
      intro v123 w42 ho43 hb hg_ hnew_
      clear hg_ hnew_
      (first|rw [← Ny122.out] at ho43|(simp only [Int.reduceToNat] at ho43;rw [← Ny122.out] at ho43))
      have n0_:=am_ (Kd.R_lower ho43 (below_size (by repeat (first|(with_reducible first|exact HB.out|apply ba_|apply pn_|apply pd_|refine bs_ ?_ GE117.out)|exact HB.out))))
      have n1_:=am_ (blk_below (g:=gb117) (o:=.cells #[.bool false,.bool a0_1,.bool a0_2,.int .i64 a0_3,.int .u32 a0_4,.string a0_5,.string a0_6,.string a0_7,.int .u64 a0_8,.int .i64 a0_9,.int .u64 a0_10] 25 (0,0)) (by (with_reducible repeat (first|refine kn_ ?_ _|refine kd_ ?_|refine ka_ ?_ _));exact BK117.out) hb)
      have n2_:=am_ (below_step (by repeat (first|(with_reducible first|exact HB.out|apply ba_|apply pn_|apply pd_|refine bs_ ?_ GE117.out)|exact HB.out)) hb)
      clear BK117
      clear HB
      have HO124:=n0_
      have BK117:=n1_
      have HB:=n2_
      clear n0_ n1_ n2_
      clear hb ho43
      refine hK.out _ _ ⟨(kc_ BK117.out 0).trans rfl,(kc_ BK117.out 1).trans rfl,(kc_ BK117.out 2).trans rfl,(kc_ BK117.out 3).trans rfl,(kc_ BK117.out 4).trans rfl,(kc_ BK117.out 5).trans rfl,(kc_ BK117.out 6).trans rfl,(kc_ BK117.out 7).trans rfl,(kc_ BK117.out 8).trans rfl,(kc_ BK117.out 9).trans rfl,(kc_ BK117.out 10).trans rfl⟩ (fun hHeld => ?_)
      clear hK K
      refine norm_ (a':=?_) ?_ ?_
      rotate_left
      ·show Act.put _ (some 35) _ = _
       simp only [Act.put,ps_,i64_w,i32_w]
       rfl
      exact norm_ (by simp only [putAll,Act.put,ps_]) (hCont (v123) _ ⟨hHeld,(by (with_reducible repeat (first|apply ra_|apply rn_|apply rd_));exact HO124.out),(by (with_reducible repeat (first|refine kn_ ?_ _|refine kd_ ?_|refine ka_ ?_ _));exact BK117.out),(by repeat (first|(with_reducible first|exact HB.out|apply ba_|apply pn_|apply pd_|refine bs_ ?_ GE117.out)|exact HB.out))⟩)
     ·skip
      refine Kd.R_lit_step Kd.string _ 9 ?hg (N:=35) ?hd (xs:=([a0_5,t119] : List ByteArray)) (inner:=[.string a0_5,.string t119]) (ok:=fun _ => True) (okp:=fun _ => True) ?hr ?hp (fun _ hk => hk) trivial (Below.refl _ _) (Nat.le_refl _) (by simp) ?_;(case hd => rfl);(case hg => rfl);(case hr => first|(go_simp;done)|(go_simp;rfl));(case hp => exact (Reps.one (show Kd.M Kd.string _ _ _ a0_5 [.string a0_5] from rfl) (Reps.one (show Kd.M Kd.string _ _ _ t119 [.string t119] from rfl) (Reps.none _ _))))
      intro v123 w42 ho43 hb hg_ hnew_
      clear hg_ hnew_
      (first|rw [← Ny122.out] at ho43|(simp only [Int.reduceToNat] at ho43;rw [← Ny122.out] at ho43))
      have n0_:=am_ (Kd.R_lower ho43 (below_size (by repeat (first|(with_reducible first|exact HB.out|apply ba_|apply pn_|apply pd_|refine bs_ ?_ GE117.out)|exact HB.out))))
      have n1_:=am_ (blk_below (g:=gb117) (o:=.cells #[.bool false,.bool a0_1,.bool a0_2,.int .i64 a0_3,.int .u32 a0_4,.string a0_5,.string a0_6,.string a0_7,.int .u64 a0_8,.int .i64 a0_9,.int .u64 a0_10] 25 (0,0)) (by (with_reducible repeat (first|refine kn_ ?_ _|refine kd_ ?_|refine ka_ ?_ _));exact BK117.out) hb)
      have n2_:=am_ (below_step (by repeat (first|(with_reducible first|exact HB.out|apply ba_|apply pn_|apply pd_|refine bs_ ?_ GE117.out)|exact HB.out)) hb)
      clear BK117
      clear HB
      have HO124:=n0_
      have BK117:=n1_
      have HB:=n2_
      clear n0_ n1_ n2_
      clear hb ho43
      refine hK.out _ _ ⟨(kc_ BK117.out 0).trans rfl,(kc_ BK117.out 1).trans rfl,(kc_ BK117.out 2).trans rfl,(kc_ BK117.out 3).trans rfl,(kc_ BK117.out 4).trans rfl,(kc_ BK117.out 5).trans rfl,(kc_ BK117.out 6).trans rfl,(kc_ BK117.out 7).trans rfl,(kc_ BK117.out 8).trans rfl,(kc_ BK117.out 9).trans rfl,(kc_ BK117.out 10).trans rfl⟩ (fun hHeld => ?_)
      clear hK K
      refine norm_ (a':=?_) ?_ ?_
      rotate_left
      ·show Act.put _ (some 35) _ = _
       simp only [Act.put,ps_,i64_w,i32_w]
       rfl
      refine one_ (i:=7) (N:=some 30) #[T_,T_,T_,T_,T_,T_,T_,T_,F_,T_,T_,T_,T_,F_,F_,F_] rfl rfl (one_of HT_.out (by kernel_rfl)) (by decide) (fun K hK => ?_)
      refine goes_ Tryd.func26 (by kernel_rfl) rfl #[.bool a0_2,.int .u8 4] (by rfl) rfl rfl (by (try simp only [List.map_toArray,List.map_cons,List.map_nil]);first|done|rfl|(simp only [List.length_drop,List.length_take];rfl)) ?_
      with_reducible refine (header_flag.calls a0_2 4 t121 _ A33.out).mono ?_
      rintro e w' ⟨rfl,⟨nd,rfl⟩⟩
      refine ⟨_,rfl,?_⟩
      refine hK.out _ _ ⟨(kc_ BK117.out 0).trans rfl,(kc_ BK117.out 1).trans rfl,(kc_ BK117.out 2).trans rfl,(kc_ BK117.out 3).trans rfl,(kc_ BK117.out 4).trans rfl,(kc_ BK117.out 5).trans rfl,(kc_ BK117.out 6).trans rfl,(kc_ BK117.out 7).trans rfl,(kc_ BK117.out 8).trans rfl,(kc_ BK117.out 9).trans rfl,(kc_ BK117.out 10).trans rfl⟩ (fun hHeld => ?_)
      clear hK K
      refine norm_ (a':=?_) ?_ ?_
      rotate_left
      ·show Act.put _ (some 30) _ = _
       simp only [Act.put,ps_,i64_w,i32_w]
       rfl
      refine pure_ (i:=8) (N:=some 31) (v:=?_) (a':=?_) #[T_,T_,T_,T_,T_,T_,T_,T_,T_,T_,T_,T_,T_,F_,F_,F_] rfl rfl (any_of HT_.out (by kernel_rfl)) (fun _ _ _ h => h) (Or.inl ⟨by rfl,?_⟩) ?_ ?_
      rotate_left;(intro w';go_simp;with_reducible rfl);rotate_left;(simp only [Act.put,ps_,i64_w,i32_w];rfl)
      exact norm_ (by simp only [putAll,Act.put,ps_]) (hCont (v123) _ ⟨hHeld,(by (with_reducible repeat (first|apply ra_|apply rn_|apply rd_));exact HO124.out),(by (with_reducible repeat (first|refine kn_ ?_ _|refine kd_ ?_|refine ka_ ?_ _));exact BK117.out),(by repeat (first|(with_reducible first|exact HB.out|apply ba_|apply pn_|apply pd_|refine bs_ ?_ GE117.out)|exact HB.out))⟩)
    ·skip
     refine Kd.R_lit_step Kd.string _ 9 ?hg (N:=35) ?hd (xs:=([a0_5,t119] : List ByteArray)) (inner:=[.string a0_5,.string t119]) (ok:=fun _ => True) (okp:=fun _ => True) ?hr ?hp (fun _ hk => hk) trivial (Below.refl _ _) (Nat.le_refl _) (by simp) ?_;(case hd => rfl);(case hg => rfl);(case hr => first|(go_simp;done)|(go_simp;rfl));(case hp => exact (Reps.one (show Kd.M Kd.string _ _ _ a0_5 [.string a0_5] from rfl) (Reps.one (show Kd.M Kd.string _ _ _ t119 [.string t119] from rfl) (Reps.none _ _))))
     intro v123 w42 ho43 hb hg_ hnew_
     clear hg_ hnew_
     (first|rw [← Ny122.out] at ho43|(simp only [Int.reduceToNat] at ho43;rw [← Ny122.out] at ho43))
     have n0_:=am_ (Kd.R_lower ho43 (below_size (by repeat (first|(with_reducible first|exact HB.out|apply ba_|apply pn_|apply pd_|refine bs_ ?_ GE117.out)|exact HB.out))))
     have n1_:=am_ (blk_below (g:=gb117) (o:=.cells #[.bool false,.bool a0_1,.bool a0_2,.int .i64 a0_3,.int .u32 a0_4,.string a0_5,.string a0_6,.string a0_7,.int .u64 a0_8,.int .i64 a0_9,.int .u64 a0_10] 25 (0,0)) (by (with_reducible repeat (first|refine kn_ ?_ _|refine kd_ ?_|refine ka_ ?_ _));exact BK117.out) hb)
     have n2_:=am_ (below_step (by repeat (first|(with_reducible first|exact HB.out|apply ba_|apply pn_|apply pd_|refine bs_ ?_ GE117.out)|exact HB.out)) hb)
     clear BK117
     clear HB
     have HO124:=n0_
     have BK117:=n1_
     have HB:=n2_
     clear n0_ n1_ n2_
     clear hb ho43
     refine hK.out _ _ ⟨(kc_ BK117.out 0).trans rfl,(kc_ BK117.out 1).trans rfl,(kc_ BK117.out 2).trans rfl,(kc_ BK117.out 3).trans rfl,(kc_ BK117.out 4).trans rfl,(kc_ BK117.out 5).trans rfl,(kc_ BK117.out 6).trans rfl,(kc_ BK117.out 7).trans rfl,(kc_ BK117.out 8).trans rfl,(kc_ BK117.out 9).trans rfl,(kc_ BK117.out 10).trans rfl⟩ (fun hHeld => ?_)
     clear hK K
     refine norm_ (a':=?_) ?_ ?_
     rotate_left
     ·show Act.put _ (some 35) _ = _
      simp only [Act.put,ps_,i64_w,i32_w]
      rfl
     refine one_ (i:=3) (N:=some 26) #[T_,T_,T_,T_,F_,T_,T_,F_,F_,T_,T_,T_,T_,F_,F_,F_] rfl rfl (one_of HT_.out (by kernel_rfl)) (by decide) (fun K hK => ?_)
     refine goes_ Tryd.func26 (by kernel_rfl) rfl #[.bool a0_1,.int .u8 32] (by rfl) rfl rfl (by (try simp only [List.map_toArray,List.map_cons,List.map_nil]);first|done|rfl|(simp only [List.length_drop,List.length_take];rfl)) ?_
     with_reducible refine (header_flag.calls a0_1 32 t120 _ A32.out).mono ?_
     rintro e w' ⟨rfl,⟨nd,rfl⟩⟩
     refine ⟨_,rfl,?_⟩
     refine hK.out _ _ ⟨(kc_ BK117.out 0).trans rfl,(kc_ BK117.out 1).trans rfl,(kc_ BK117.out 2).trans rfl,(kc_ BK117.out 3).trans rfl,(kc_ BK117.out 4).trans rfl,(kc_ BK117.out 5).trans rfl,(kc_ BK117.out 6).trans rfl,(kc_ BK117.out 7).trans rfl,(kc_ BK117.out 8).trans rfl,(kc_ BK117.out 9).trans rfl,(kc_ BK117.out 10).trans rfl⟩ (fun hHeld => ?_)
     clear hK K
     refine norm_ (a':=?_) ?_ ?_
     rotate_left
     ·show Act.put _ (some 26) _ = _
      simp only [Act.put,ps_,i64_w,i32_w]
      rfl
     refine pure_ (i:=4) (N:=some 27) (v:=?_) (a':=?_) #[T_,T_,T_,T_,T_,T_,T_,F_,F_,T_,T_,T_,T_,F_,F_,F_] rfl rfl (any_of HT_.out (by kernel_rfl)) (fun _ _ _ h => h) (Or.inl ⟨by rfl,?_⟩) ?_ ?_
     rotate_left;(intro w';go_simp;with_reducible rfl);rotate_left;(simp only [Act.put,ps_,i64_w,i32_w];rfl)
     refine one_ (i:=7) (N:=some 30) #[T_,T_,T_,T_,T_,T_,T_,T_,F_,T_,T_,T_,T_,F_,F_,F_] rfl rfl (one_of HT_.out (by kernel_rfl)) (by decide) (fun K hK => ?_)
     refine goes_ Tryd.func26 (by kernel_rfl) rfl #[.bool a0_2,.int .u8 4] (by rfl) rfl rfl (by (try simp only [List.map_toArray,List.map_cons,List.map_nil]);first|done|rfl|(simp only [List.length_drop,List.length_take];rfl)) ?_
     with_reducible refine (header_flag.calls a0_2 4 t121 _ A33.out).mono ?_
     rintro e w' ⟨rfl,⟨nd,rfl⟩⟩
     refine ⟨_,rfl,?_⟩
     refine hK.out _ _ ⟨(kc_ BK117.out 0).trans rfl,(kc_ BK117.out 1).trans rfl,(kc_ BK117.out 2).trans rfl,(kc_ BK117.out 3).trans rfl,(kc_ BK117.out 4).trans rfl,(kc_ BK117.out 5).trans rfl,(kc_ BK117.out 6).trans rfl,(kc_ BK117.out 7).trans rfl,(kc_ BK117.out 8).trans rfl,(kc_ BK117.out 9).trans rfl,(kc_ BK117.out 10).trans rfl⟩ (fun hHeld => ?_)
     clear hK K
     refine norm_ (a':=?_) ?_ ?_
     rotate_left
     ·show Act.put _ (some 30) _ = _
      simp only [Act.put,ps_,i64_w,i32_w]
      rfl
     refine pure_ (i:=8) (N:=some 31) (v:=?_) (a':=?_) #[T_,T_,T_,T_,T_,T_,T_,T_,T_,T_,T_,T_,T_,F_,F_,F_] rfl rfl (any_of HT_.out (by kernel_rfl)) (fun _ _ _ h => h) (Or.inl ⟨by rfl,?_⟩) ?_ ?_
     rotate_left;(intro w';go_simp;with_reducible rfl);rotate_left;(simp only [Act.put,ps_,i64_w,i32_w];rfl)
     exact norm_ (by simp only [putAll,Act.put,ps_]) (hCont (v123) _ ⟨hHeld,(by (with_reducible repeat (first|apply ra_|apply rn_|apply rd_));exact HO124.out),(by (with_reducible repeat (first|refine kn_ ?_ _|refine kd_ ?_|refine ka_ ?_ _));exact BK117.out),(by repeat (first|(with_reducible first|exact HB.out|apply ba_|apply pn_|apply pd_|refine bs_ ?_ GE117.out)|exact HB.out))⟩)
   rintro v123 w44 ⟨hS_,h0_,h1_,h2_⟩
   have n0_ : Aside0 (Kd.R Kd.string 9 w44 w.heap.size (fun _ => True) v123 y122):=⟨h0_⟩
   have n1_ : Aside0 (w44.heap[gb117]? = some (.cells #[.bool false,.bool a0_1,.bool a0_2,.int .i64 a0_3,.int .u32 a0_4,.string a0_5,.string a0_6,.string a0_7,.int .u64 a0_8,.int .i64 a0_9,.int .u64 a0_10] 25 (0,0))):=⟨h1_⟩
   have n2_ : Aside0 (Below w.heap.size w w44):=⟨h2_⟩
   clear BK117
   clear HB
   clear h0_ h1_ h2_
   have HO124:=n0_
   have BK117:=n1_
   have HB:=n2_
   clear n0_ n1_ n2_
   have hHeld : w44.cell? ⟨gb117,0,none⟩ = some (.bool false) ∧ w44.cell? ⟨gb117,1,none⟩ = some (.bool a0_1) ∧ w44.cell? ⟨gb117,2,none⟩ = some (.bool a0_2) ∧ w44.cell? ⟨gb117,3,none⟩ = some (.int .i64 a0_3) ∧ w44.cell? ⟨gb117,4,none⟩ = some (.int .u32 a0_4) ∧ w44.cell? ⟨gb117,5,none⟩ = some (.string a0_5) ∧ w44.cell? ⟨gb117,6,none⟩ = some (.string a0_6) ∧ w44.cell? ⟨gb117,7,none⟩ = some (.string a0_7) ∧ w44.cell? ⟨gb117,8,none⟩ = some (.int .u64 a0_8) ∧ w44.cell? ⟨gb117,9,none⟩ = some (.int .i64 a0_9) ∧ w44.cell? ⟨gb117,10,none⟩ = some (.int .u64 a0_10):=hS_
   obtain ⟨Ao45,co45,eo45⟩:=Kd.R_slice HO124.out
   (first|subst eo45|(injection eo45 with f1_ f2_ f3_;have f4_:=f1_.symm;have f5_:=f3_.symm;clear f1_ f2_ f3_;subst f4_;subst f5_))
   refine norm_ (a':=?_) ?_ ?_
   rotate_left
   ·simp only [putAll,Act.put,ps_]
    rfl
   refine one_ (i:=13) (N:=some 36) #[T_,T_,T_,T_,T_,T_,T_,T_,T_,T_,T_,T_,T_,T_,F_,F_] rfl rfl (one_of HT_.out (by kernel_rfl)) (by decide) (fun K hK => ?_)
   refine goes_ Tryd.func25 (by kernel_rfl) rfl #[.int .u8 (Go.bits .or .u8 (Go.bits .or .u8 (Go.bits .or .u8 64 ((wrap64 (a0_9 - 1)) % 256)) t120) t121),.slice Ao45 y122.length co45] (by rfl) rfl rfl (by (try simp only [List.map_toArray,List.map_cons,List.map_nil]);first|done|rfl|(simp only [List.length_drop,List.length_take];rfl)) ?_
   with_reducible refine (header_joined.calls k (Go.bits .or .u8 (Go.bits .or .u8 (Go.bits .or .u8 64 ((wrap64 (a0_9 - 1)) % 256)) t120) t121) _ _ y122 t125 _ ?side1 ?side2 A34.out).mono ?_
   (case side1 => repeat (first|exact (Kd.R_reads' HO124.out).2.2|(with_reducible refine Kd.C_alloc ?_ _)|(with_reducible refine Kd.C_drewN ?_ _)|(with_reducible refine Kd.C_drew ?_)))
   (case side2 => exact (Kd.R_reads' HO124.out).2.1)
   rintro e w46 ⟨rfl,hb⟩
   refine ⟨_,rfl,?_⟩
   have n0_:=am_ (Kd.R_below (by (with_reducible repeat (first|apply ra_|apply rn_|apply rd_));exact HO124.out) hb)
   have n1_:=am_ (blk_below (g:=gb117) (o:=.cells #[.bool false,.bool a0_1,.bool a0_2,.int .i64 a0_3,.int .u32 a0_4,.string a0_5,.string a0_6,.string a0_7,.int .u64 a0_8,.int .i64 a0_9,.int .u64 a0_10] 25 (0,0)) (by (with_reducible repeat (first|refine kn_ ?_ _|refine kd_ ?_|refine ka_ ?_ _));exact BK117.out) hb)
   have n2_:=am_ (below_step (by repeat (first|(with_reducible first|exact HB.out|apply ba_|apply pn_|apply pd_|refine bs_ ?_ GE117.out)|exact HB.out)) hb)
   clear HO124
   clear BK117
   clear HB
   have HO124:=n0_
   have BK117:=n1_
   have HB:=n2_
   clear n0_ n1_ n2_
   (try clear hb)
   (try clear hb2)
   (try clear hk)
   (try clear hi)
   refine hK.out _ _ ⟨(kc_ BK117.out 0).trans rfl,(kc_ BK117.out 1).trans rfl,(kc_ BK117.out 2).trans rfl,(kc_ BK117.out 3).trans rfl,(kc_ BK117.out 4).trans rfl,(kc_ BK117.out 5).trans rfl,(kc_ BK117.out 6).trans rfl,(kc_ BK117.out 7).trans rfl,(kc_ BK117.out 8).trans rfl,(kc_ BK117.out 9).trans rfl,(kc_ BK117.out 10).trans rfl⟩ (fun hHeld => ?_)
   clear hK K
   refine norm_ (a':=?_) ?_ ?_
   rotate_left
   ·show Act.put _ (some 36) _ = _
    simp only [Act.put,ps_,i64_w,i32_w]
    rfl
   refine pure_ (i:=14) (N:=some 2) (v:=?_) (a':=?_) #[T_,T_,T_,T_,T_,T_,T_,T_,T_,T_,T_,T_,T_,T_,T_,F_] rfl rfl (any_of HT_.out (by kernel_rfl)) (fun _ _ _ h => h) (Or.inl ⟨by rfl,?_⟩) ?_ ?_
   rotate_left;(intro w';go_simp;with_reducible rfl);rotate_left;(simp only [Act.put,ps_,i64_w,i32_w];rfl)
   refine pure_ (i:=15) (N:=some 3) (v:=?_) (a':=?_) #[T_,T_,T_,T_,T_,T_,T_,T_,T_,T_,T_,T_,T_,T_,T_,T_] rfl rfl (any_of HT_.out (by kernel_rfl)) (fun _ _ _ h => h) (Or.inl ⟨by rfl,?_⟩) ?_ ?_
   rotate_left;(intro w';go_simp;with_reducible rfl);rotate_left;(simp only [Act.put,ps_,i64_w,i32_w];rfl)
   refine done_ (done_of HT_.out (by kernel_rfl)) ?_
   try go_wp2
   go_ret2
   exact ⟨by first|rfl|(simp [errW_none,errW_some] <;> rfl)|(simp [*,errW_none,errW_some] <;> rfl),by repeat (first|(with_reducible first|exact HB.out|apply ba_|apply pn_|apply pd_|refine bs_ ?_ GE117.out)|exact HB.out)⟩
 ·replace c3:=Bool.eq_false_iff.mpr c3
  subst c3
  have H1 : (some ((⟨#[]⟩ : ByteArray),1)) = some (r1,r2):=by rw [if_neg (show ¬ (false = true) by decide)] at H;exact H
  clear H
  have H:=H1
  clear H1
  simp only [Option.some.injEq,Prod.mk.injEq] at H
  obtain ⟨rfl,rfl⟩:=H
  go_enter Tryd.func12,Tryd.ntmps12
  go_wp2_with (first|((with_reducible refine gate_dst (N:=1) rfl ?_);refine box_event ?hg (N:=1) ?hd (cs:=#[.bool a0_0,.bool a0_1,.bool a0_2,.int .i64 a0_3,.int .u32 a0_4,.string a0_5,.string a0_6,.string a0_7,.int .u64 a0_8,.int .i64 a0_9,.int .u64 a0_10]) (t:=25) ?hr ?_;(case hd => rfl);(case hg => rfl);(case hr => first|(go_simp;done)|(go_simp;rfl));intro gb117 hg w47 hbox hb;have n0_:=am_ (below_step (by repeat (first|(with_reducible first|exact HB.out|apply ba_|apply pn_|apply pd_)|exact HB.out)) hb);have n1_:=am_ (hbox);have n2_:=am_ ((by rw [hg];exact (below_size (by repeat (first|(with_reducible first|exact HB.out|apply ba_|apply pn_|apply pd_)|exact HB.out))) : w.heap.size ≤ gb117));have n3_:=am_ ((by rw [hg];exact (below_size (by repeat (first|(with_reducible first|exact HB.out|apply ba_|apply pn_|apply pd_)|exact HB.out))) : w.heap.size ≤ gb117));clear HB;have HB:=n0_;have BK117:=n1_;have GW117:=n2_;have GE117:=n3_;clear n0_ n1_ n2_ n3_;clear hb hbox hg;obtain ⟨hcz48_0,hcz48_1,hcz48_2,hcz48_3,hcz48_4,hcz48_5,hcz48_6,hcz48_7,hcz48_8,hcz48_9,hcz48_10,hfz48_0,hfz48_1,hfz48_2,hfz48_3,hfz48_4,hfz48_5,hfz48_6,hfz48_7,hfz48_8,hfz48_9,hfz48_10⟩:=cs11f_ BK117.out;skip)|((with_reducible refine gate_callee (f:=18) rfl ?_);refine goesL_ (some 8) rfl rfl Tryd.func18 (by kernel_rfl) rfl #[.agg #[.bool a0_0,.bool a0_1,.bool a0_2,.int .i64 a0_3,.int .u32 a0_4,.string a0_5,.string a0_6,.string a0_7,.int .u64 a0_8,.int .i64 a0_9,.int .u64 a0_10]] rfl (by (try simp only [List.map_toArray,List.map_cons,List.map_nil]);first|done|rfl|(simp only [List.length_drop,List.length_take];rfl)) ?_;(with_reducible refine (header_May.calls k a0_0 a0_1 a0_2 a0_3 a0_4 a0_5 a0_6 a0_7 a0_8 a0_9 a0_10 false _ A2.out).mono ?_);rintro e w49 ⟨rfl,hb⟩;refine ⟨_,rfl,?_⟩;have n0_:=am_ (blk_below (g:=gb117) (o:=.cells #[.bool a0_0,.bool a0_1,.bool a0_2,.int .i64 a0_3,.int .u32 a0_4,.string a0_5,.string a0_6,.string a0_7,.int .u64 a0_8,.int .i64 a0_9,.int .u64 a0_10] 25 (0,0)) (by (with_reducible repeat (first|refine kn_ ?_ _|refine kd_ ?_|refine ka_ ?_ _));exact BK117.out) hb);have n1_:=am_ (below_step (by repeat (first|(with_reducible first|exact HB.out|apply ba_|apply pn_|apply pd_|refine bs_ ?_ GE117.out)|exact HB.out)) hb);clear BK117;clear HB;have BK117:=n0_;have HB:=n1_;clear n0_ n1_;(try clear hb);(try clear hb2);(try clear hk);(try clear hi)))
  go_ret2
  exact ⟨by first|rfl|(simp [errW_none,errW_some] <;> rfl)|(simp [*,errW_none,errW_some] <;> rfl),by repeat (first|(with_reducible first|exact HB.out|apply ba_|apply pn_|apply pd_|refine bs_ ?_ GE117.out)|exact HB.out)⟩

end Go.Proofs.YtjpafikgbnloaaaDoor.PHdt
