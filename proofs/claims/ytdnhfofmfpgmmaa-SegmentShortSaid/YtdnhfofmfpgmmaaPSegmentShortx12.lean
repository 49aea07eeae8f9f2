/- This file proves, function by function, what the Go functions that one law uses compute; most of it was printed by a program (wip/tools of this session, over the kit's print). -/
import Derived.Test.YtdnhfofmfpgmmaaPSegmentShortx0
import Derived.Test.YtdnhfofmfpgmmaaPSegmentShortx2
import Derived.Test.YtdnhfofmfpgmmaaPSegmentShortx6
import Derived.Test.YtdnhfofmfpgmmaaPSegmentShortx7
import Derived.Test.YtdnhfofmfpgmmaaPSegmentShortx11
namespace Go.Proofs.Ytdnhfofmfpgmmaa.PSegmentShort
open Go.RowKit Go.Proofs.YtdnhfofmfpgmmaaW.PrintWords Go.Proofs.YtdnhfofmfpgmmaaW.PrintLast Go.Proofs.YtdnhfofmfpgmmaaW.PrintMore
attribute [local go_sem] max2_int min2_int max_two min_two max_three min_three max_four min_four   -- for this text's walks alone
set_option linter.unusedVariables false
set_option linter.unusedSimpArgs false

/-! ### shapesearchlaw10_SegmentShort: function 3 -/
def shapesearchlaw10_SegmentShort.f (k : Nat) (l0 : List Int) : Option (Bool):=(shapesearchkeep_New.f l0).bind fun bt315=>((shapesearchlaw10_made.f k bt315.1 bt315.2).bind fun bt318=>((shapesearchref10_Measure.f bt318.1).bind fun bt322=>((segment_Encode.f k bt318.1).bind fun bt328=>((shapesearchref03_PutInt.f k (([0] : List Int)) bt322.2.1).bind fun t335=>((shapesearchref03_PutInt.f k t335 bt322.2.2.1).bind fun t338=>((shapesearchref03_PutInt.f k t338 (wrap64 (bt322.2.2.2.1 - bt322.2.2.1))).bind fun t341=>((shapesearchref03_PutInt.f k t341 bt322.2.2.2.2).bind fun t344=>((shapesearchref03_Width.f k (([wrap64 (bt322.2.2.2.1 - bt322.2.2.1)] : List Int))).bind fun t350=>(if bt328.2 = 0 then (if (bt328.1.length : Int) ≤ (wrap64 ((wrap64 ((t344.length : Int) + 4)) + (wrap64 (Int.tdiv (wrap64 ((wrap64 ((bt318.1.length : Int) * t350)) + 7)) 8)))) then (if bt322.2.2.1 = bt322.2.2.2.1 then (if (bt328.1.length : Int) = (wrap64 ((t344.length : Int) + 4)) then ((shapesearchlaw10_awake.f k).bind fun t351=>(some t351)) else (some false)) else ((shapesearchlaw10_awake.f k).bind fun t352=>(some t352))) else (some false)) else (some false))))))))))
theorem shapesearchlaw10_SegmentShort.mono : ∀ a0 k,LeO (shapesearchlaw10_SegmentShort.f k a0) (shapesearchlaw10_SegmentShort.f (k + 1) a0):=by
 intro a0 k
 unfold shapesearchlaw10_SegmentShort.f
 repeat' first|(with_reducible first|apply segment_Encode.mono|apply shapesearchlaw10_awake.mono|apply shapesearchlaw10_made.mono|apply shapesearchref03_PutInt.mono|apply shapesearchref03_Width.mono|exact lz|refine LeO.ite ?_ ?_|refine LeO.bind ?_ fun _=>?_)
def shapesearchlaw10_SegmentShort.T4 : Bool × List (List Nat × List Nat):=(true,[([],[]),([],[]),([1],[1]),([0,2],[0,2]),([],[]),([4],[4]),([3,5,3],[3,5]),([],[]),([7],[7]),([],[]),([9],[9]),([8,10],[8,10]),([6,11,6],[6,11]),([],[]),([13],[13]),([12,14,12],[12,14]),([15],[15]),([16],[16]),([17,15,0,1,2,3,4,5,6,7,8,9,10,11,12,13,14,15,16,17],[17])])
def shapesearchlaw10_SegmentShort.B4 : List Nat:=[0,0,2,7,0,16,63,0,128,0,512,1920,4095,0,8192,32767,65535,131071,262143]
theorem shapesearchlaw10_SegmentShort.tab4 : rtab .any (opsOf Try.f3 4) = shapesearchlaw10_SegmentShort.T4:=by kernel_rfl
theorem shapesearchlaw10_SegmentShort.bits4 : waitsOk shapesearchlaw10_SegmentShort.T4.2 shapesearchlaw10_SegmentShort.B4 = true:=by kernel_rfl
set_option maxHeartbeats 8000000 in
set_option maxRecDepth 100000 in
theorem shapesearchlaw10_SegmentShort.calls (k : Nat) (A0 : Option Addr) (c0 : Nat) (l0 : List Int) (r : Bool) (w : World) (hr0 : Kd.C (Kd.int .i64) w A0 l0.length l0) (hc0 : l0.length ≤ c0) (h : shapesearchlaw10_SegmentShort.f k l0 = some r) (hT_ : r = true) :
  Calls Try.prog 3 #[.slice A0 l0.length c0] w fun e w'=>e = .returned (.bool r)∧Below w.heap.size w w':=by
 have HTR_:=A_ hT_
 clear hT_
 have hu27:=Try.underlying27
 have HR0:=A_ hr0
 have HC0:=A_ hc0
 clear hr0 hc0
 have HB:=A_ (Below.refl w.heap.size w)
 have H : ((shapesearchkeep_New.f l0).bind fun bt315=>((shapesearchlaw10_made.f k bt315.1 bt315.2).bind fun bt318=>((shapesearchref10_Measure.f bt318.1).bind fun bt322=>((segment_Encode.f k bt318.1).bind fun bt328=>((shapesearchref03_PutInt.f k (([0] : List Int)) bt322.2.1).bind fun t335=>((shapesearchref03_PutInt.f k t335 bt322.2.2.1).bind fun t338=>((shapesearchref03_PutInt.f k t338 (wrap64 (bt322.2.2.2.1 - bt322.2.2.1))).bind fun t341=>((shapesearchref03_PutInt.f k t341 bt322.2.2.2.2).bind fun t344=>((shapesearchref03_Width.f k (([wrap64 (bt322.2.2.2.1 - bt322.2.2.1)] : List Int))).bind fun t350=>(if bt328.2 = 0 then (if (bt328.1.length : Int) ≤ (wrap64 ((wrap64 ((t344.length : Int) + 4)) + (wrap64 (Int.tdiv (wrap64 ((wrap64 ((bt318.1.length : Int) * t350)) + 7)) 8)))) then (if bt322.2.2.1 = bt322.2.2.2.1 then (if (bt328.1.length : Int) = (wrap64 ((t344.length : Int) + 4)) then ((shapesearchlaw10_awake.f k).bind fun t351=>(some t351)) else (some false)) else ((shapesearchlaw10_awake.f k).bind fun t352=>(some t352))) else (some false)) else (some false))))))))))) = some r:=h
 clear h
 replace H:=Option.bind_eq_some_iff.mp H
 obtain ⟨⟨t315,t316⟩,A20,H⟩:=H
 replace H : ((shapesearchlaw10_made.f k t315 t316).bind fun bt318=>((shapesearchref10_Measure.f bt318.1).bind fun bt322=>((segment_Encode.f k bt318.1).bind fun bt328=>((shapesearchref03_PutInt.f k (([0] : List Int)) bt322.2.1).bind fun t335=>((shapesearchref03_PutInt.f k t335 bt322.2.2.1).bind fun t338=>((shapesearchref03_PutInt.f k t338 (wrap64 (bt322.2.2.2.1 - bt322.2.2.1))).bind fun t341=>((shapesearchref03_PutInt.f k t341 bt322.2.2.2.2).bind fun t344=>((shapesearchref03_Width.f k (([wrap64 (bt322.2.2.2.1 - bt322.2.2.1)] : List Int))).bind fun t350=>(if bt328.2 = 0 then (if (bt328.1.length : Int) ≤ (wrap64 ((wrap64 ((t344.length : Int) + 4)) + (wrap64 (Int.tdiv (wrap64 ((wrap64 ((bt318.1.length : Int) * t350)) + 7)) 8)))) then (if bt322.2.2.1 = bt322.2.2.2.1 then (if (bt328.1.length : Int) = (wrap64 ((t344.length : Int) + 4)) then ((shapesearchlaw10_awake.f k).bind fun t351=>(some t351)) else (some false)) else ((shapesearchlaw10_awake.f k).bind fun t352=>(some t352))) else (some false)) else (some false)))))))))) = some r:=H
 have A2:=A_ A20
 clear A20
 replace H:=Option.bind_eq_some_iff.mp H
 obtain ⟨⟨t318,t321⟩,A30,H⟩:=H
 replace H : ((shapesearchref10_Measure.f t318).bind fun bt322=>((segment_Encode.f k t318).bind fun bt328=>((shapesearchref03_PutInt.f k (([0] : List Int)) bt322.2.1).bind fun t335=>((shapesearchref03_PutInt.f k t335 bt322.2.2.1).bind fun t338=>((shapesearchref03_PutInt.f k t338 (wrap64 (bt322.2.2.2.1 - bt322.2.2.1))).bind fun t341=>((shapesearchref03_PutInt.f k t341 bt322.2.2.2.2).bind fun t344=>((shapesearchref03_Width.f k (([wrap64 (bt322.2.2.2.1 - bt322.2.2.1)] : List Int))).bind fun t350=>(if bt328.2 = 0 then (if (bt328.1.length : Int) ≤ (wrap64 ((wrap64 ((t344.length : Int) + 4)) + (wrap64 (Int.tdiv (wrap64 ((wrap64 ((t318.length : Int) * t350)) + 7)) 8)))) then (if bt322.2.2.1 = bt322.2.2.2.1 then (if (bt328.1.length : Int) = (wrap64 ((t344.length : Int) + 4)) then ((shapesearchlaw10_awake.f k).bind fun t351=>(some t351)) else (some false)) else ((shapesearchlaw10_awake.f k).bind fun t352=>(some t352))) else (some false)) else (some false))))))))) = some r:=H
 have A3:=A_ A30
 clear A30
 replace H:=Option.bind_eq_some_iff.mp H
 obtain ⟨⟨t322,t323,t324,t325,t326⟩,A40,H⟩:=H
 replace H : ((segment_Encode.f k t318).bind fun bt328=>((shapesearchref03_PutInt.f k (([0] : List Int)) t323).bind fun t335=>((shapesearchref03_PutInt.f k t335 t324).bind fun t338=>((shapesearchref03_PutInt.f k t338 (wrap64 (t325 - t324))).bind fun t341=>((shapesearchref03_PutInt.f k t341 t326).bind fun t344=>((shapesearchref03_Width.f k (([wrap64 (t325 - t324)] : List Int))).bind fun t350=>(if bt328.2 = 0 then (if (bt328.1.length : Int) ≤ (wrap64 ((wrap64 ((t344.length : Int) + 4)) + (wrap64 (Int.tdiv (wrap64 ((wrap64 ((t318.length : Int) * t350)) + 7)) 8)))) then (if t324 = t325 then (if (bt328.1.length : Int) = (wrap64 ((t344.length : Int) + 4)) then ((shapesearchlaw10_awake.f k).bind fun t351=>(some t351)) else (some false)) else ((shapesearchlaw10_awake.f k).bind fun t352=>(some t352))) else (some false)) else (some false)))))))) = some r:=H
 have A4:=A_ A40
 clear A40
 replace H:=Option.bind_eq_some_iff.mp H
 obtain ⟨⟨t328,t329⟩,A50,H⟩:=H
 replace H : ((shapesearchref03_PutInt.f k (([0] : List Int)) t323).bind fun t335=>((shapesearchref03_PutInt.f k t335 t324).bind fun t338=>((shapesearchref03_PutInt.f k t338 (wrap64 (t325 - t324))).bind fun t341=>((shapesearchref03_PutInt.f k t341 t326).bind fun t344=>((shapesearchref03_Width.f k (([wrap64 (t325 - t324)] : List Int))).bind fun t350=>(if t329 = 0 then (if (t328.length : Int) ≤ (wrap64 ((wrap64 ((t344.length : Int) + 4)) + (wrap64 (Int.tdiv (wrap64 ((wrap64 ((t318.length : Int) * t350)) + 7)) 8)))) then (if t324 = t325 then (if (t328.length : Int) = (wrap64 ((t344.length : Int) + 4)) then ((shapesearchlaw10_awake.f k).bind fun t351=>(some t351)) else (some false)) else ((shapesearchlaw10_awake.f k).bind fun t352=>(some t352))) else (some false)) else (some false))))))) = some r:=H
 have A5:=A_ A50
 clear A50
 obtain ⟨y332,hy332⟩ : ∃ y_ : List Int,y_ = (([0] : List Int)):=⟨_,rfl⟩
 replace H : ((shapesearchref03_PutInt.f k y332 t323).bind fun t335=>((shapesearchref03_PutInt.f k t335 t324).bind fun t338=>((shapesearchref03_PutInt.f k t338 (wrap64 (t325 - t324))).bind fun t341=>((shapesearchref03_PutInt.f k t341 t326).bind fun t344=>((shapesearchref03_Width.f k (([wrap64 (t325 - t324)] : List Int))).bind fun t350=>(if t329 = 0 then (if (t328.length : Int) ≤ (wrap64 ((wrap64 ((t344.length : Int) + 4)) + (wrap64 (Int.tdiv (wrap64 ((wrap64 ((t318.length : Int) * t350)) + 7)) 8)))) then (if t324 = t325 then (if (t328.length : Int) = (wrap64 ((t344.length : Int) + 4)) then ((shapesearchlaw10_awake.f k).bind fun t351=>(some t351)) else (some false)) else ((shapesearchlaw10_awake.f k).bind fun t352=>(some t352))) else (some false)) else (some false))))))) = some r:=by first|(rw [hy332];with_reducible exact H)|(have H2_:=(Option.bind_some _ _).symm.trans H;rw [hy332];with_reducible exact H2_)|(have H2_:=(Option.bind_some _ _).symm.trans H;with_reducible exact H2_)|with_reducible exact H|(rw [hy332];exact H)|exact H
 have Ny332:=A_ hy332
 clear hy332
 replace H:=Option.bind_eq_some_iff.mp H
 obtain ⟨t335,A60,H⟩:=H
 replace H : ((shapesearchref03_PutInt.f k t335 t324).bind fun t338=>((shapesearchref03_PutInt.f k t338 (wrap64 (t325 - t324))).bind fun t341=>((shapesearchref03_PutInt.f k t341 t326).bind fun t344=>((shapesearchref03_Width.f k (([wrap64 (t325 - t324)] : List Int))).bind fun t350=>(if t329 = 0 then (if (t328.length : Int) ≤ (wrap64 ((wrap64 ((t344.length : Int) + 4)) + (wrap64 (Int.tdiv (wrap64 ((wrap64 ((t318.length : Int) * t350)) + 7)) 8)))) then (if t324 = t325 then (if (t328.length : Int) = (wrap64 ((t344.length : Int) + 4)) then ((shapesearchlaw10_awake.f k).bind fun t351=>(some t351)) else (some false)) else ((shapesearchlaw10_awake.f k).bind fun t352=>(some t352))) else (some false)) else (some false)))))) = some r:=H
 have A6:=A_ A60
 clear A60
 replace H:=Option.bind_eq_some_iff.mp H
 obtain ⟨t338,A70,H⟩:=H
 replace H : ((shapesearchref03_PutInt.f k t338 (wrap64 (t325 - t324))).bind fun t341=>((shapesearchref03_PutInt.f k t341 t326).bind fun t344=>((shapesearchref03_Width.f k (([wrap64 (t325 - t324)] : List Int))).bind fun t350=>(if t329 = 0 then (if (t328.length : Int) ≤ (wrap64 ((wrap64 ((t344.length : Int) + 4)) + (wrap64 (Int.tdiv (wrap64 ((wrap64 ((t318.length : Int) * t350)) + 7)) 8)))) then (if t324 = t325 then (if (t328.length : Int) = (wrap64 ((t344.length : Int) + 4)) then ((shapesearchlaw10_awake.f k).bind fun t351=>(some t351)) else (some false)) else ((shapesearchlaw10_awake.f k).bind fun t352=>(some t352))) else (some false)) else (some false))))) = some r:=H
 have A7:=A_ A70
 clear A70
 replace H:=Option.bind_eq_some_iff.mp H
 obtain ⟨t341,A80,H⟩:=H
 replace H : ((shapesearchref03_PutInt.f k t341 t326).bind fun t344=>((shapesearchref03_Width.f k (([wrap64 (t325 - t324)] : List Int))).bind fun t350=>(if t329 = 0 then (if (t328.length : Int) ≤ (wrap64 ((wrap64 ((t344.length : Int) + 4)) + (wrap64 (Int.tdiv (wrap64 ((wrap64 ((t318.length : Int) * t350)) + 7)) 8)))) then (if t324 = t325 then (if (t328.length : Int) = (wrap64 ((t344.length : Int) + 4)) then ((shapesearchlaw10_awake.f k).bind fun t351=>(some t351)) else (some false)) else ((shapesearchlaw10_awake.f k).bind fun t352=>(some t352))) else (some false)) else (some false)))) = some r:=H
 have A8:=A_ A80
 clear A80
 replace H:=Option.bind_eq_some_iff.mp H
 obtain ⟨t344,A90,H⟩:=H
 replace H : ((shapesearchref03_Width.f k (([wrap64 (t325 - t324)] : List Int))).bind fun t350=>(if t329 = 0 then (if (t328.length : Int) ≤ (wrap64 ((wrap64 ((t344.length : Int) + 4)) + (wrap64 (Int.tdiv (wrap64 ((wrap64 ((t318.length : Int) * t350)) + 7)) 8)))) then (if t324 = t325 then (if (t328.length : Int) = (wrap64 ((t344.length : Int) + 4)) then ((shapesearchlaw10_awake.f k).bind fun t351=>(some t351)) else (some false)) else ((shapesearchlaw10_awake.f k).bind fun t352=>(some t352))) else (some false)) else (some false))) = some r:=H
 have A9:=A_ A90
 clear A90
 obtain ⟨y347,hy347⟩ : ∃ y_ : List Int,y_ = (([wrap64 (t325 - t324)] : List Int)):=⟨_,rfl⟩
 replace H : ((shapesearchref03_Width.f k y347).bind fun t350=>(if t329 = 0 then (if (t328.length : Int) ≤ (wrap64 ((wrap64 ((t344.length : Int) + 4)) + (wrap64 (Int.tdiv (wrap64 ((wrap64 ((t318.length : Int) * t350)) + 7)) 8)))) then (if t324 = t325 then (if (t328.length : Int) = (wrap64 ((t344.length : Int) + 4)) then ((shapesearchlaw10_awake.f k).bind fun t351=>(some t351)) else (some false)) else ((shapesearchlaw10_awake.f k).bind fun t352=>(some t352))) else (some false)) else (some false))) = some r:=by first|(rw [hy347];with_reducible exact H)|(have H2_:=(Option.bind_some _ _).symm.trans H;rw [hy347];with_reducible exact H2_)|(have H2_:=(Option.bind_some _ _).symm.trans H;with_reducible exact H2_)|with_reducible exact H|(rw [hy347];exact H)|exact H
 have Ny347:=A_ hy347
 clear hy347
 replace H:=Option.bind_eq_some_iff.mp H
 obtain ⟨t350,A100,H⟩:=H
 replace H : (if t329 = 0 then (if (t328.length : Int) ≤ (wrap64 ((wrap64 ((t344.length : Int) + 4)) + (wrap64 (Int.tdiv (wrap64 ((wrap64 ((t318.length : Int) * t350)) + 7)) 8)))) then (if t324 = t325 then (if (t328.length : Int) = (wrap64 ((t344.length : Int) + 4)) then ((shapesearchlaw10_awake.f k).bind fun t351=>(some t351)) else (some false)) else ((shapesearchlaw10_awake.f k).bind fun t352=>(some t352))) else (some false)) else (some false)) = some r:=H
 have A10:=A_ A100
 clear A100
 have HC11:=A_ H
 clear H
 go_enter Try.func3,Try.ntmps3
 try go_wp2_with (first|((with_reducible refine gate_callee (f:=11) rfl ?_);refine gl (some 10) Try.func11 #[.slice A0 l0.length c0] ?_;(with_reducible refine (shapesearchkeep_New.calls _ _ l0 t315 t316 w _ ?side1 ?side2 ?side3 A2.out).mono ?_);(case side1=>exact uq0);(case side2=>exact HR0.out);(case side3=>exact HC0.out);rintro e w12 ⟨g317,rfl,hi,hb,hb2⟩;refine ⟨_,rfl,?_⟩;replace HB:=A_ (hb);have HI317:=A_ (hi);(try clear hb);(try clear hb2);(try clear hk);(try clear hi))|((with_reducible refine gate_callee (f:=10) rfl ?_);refine gl (some 11) Try.func10 #[.pointer (some ⟨g317,0,none⟩)] ?_;(with_reducible refine (shapesearchlaw10_made.calls k g317 t315 t316 t318 t321 w _ ?side1 ?side2 A3.out).mono ?_);(case side1=>exact uq33);(case side2=>exact uq29);rintro e w13 ⟨v319,rfl,ho0,hi,hb,hk⟩;refine ⟨_,rfl,?_⟩;have HO320:=A_ (Kd.R_lower ho0 (below_size uq29));replace HB:=A_ (hb);replace HI317:=A_ (hi);(try clear hb);(try clear hb2);(try clear hk);(try clear hi);(try clear ho0);obtain ⟨Ao14,co14,eo14⟩:=Kd.R_slice HO320.out;subst eo14)|((with_reducible refine gate_callee (f:=12) rfl ?_);refine gl (some 13) Try.func12 #[.slice Ao14 t318.length co14] ?_;(with_reducible refine (shapesearchref10_Measure.calls _ _ t318 t322 t323 t324 t325 t326 _ ?side1 ?side2 A4.out).mono ?_);(case side1=>exact cx ((rd_ HO320.out).2.2));(case side2=>exact (rd_ HO320.out).2.1);rintro e w15 ⟨rfl,hb⟩;refine ⟨_,rfl,?_⟩;replace HO320:=A_ (rw_ (rx HO320.out) hb);replace HI317:=A_ (IsS76.below uq33 hb);replace HB:=A_ (below_step uq29 hb);(try clear hb);(try clear hb2);(try clear hk);(try clear hi))|((with_reducible refine gate_dst (N:=4) rfl ?_);(try (refine gate_guard (by rfl) ?_;dsimp only));refine box_event ?hg (N:=4) ?hd (cs:=#[.int .i64 0,.int .i64 0,.int .i64 0,.int .i64 0,.int .i64 0]) (t:=27) ?hr ?_;(case hd=>rfl);(case hg=>rfl);(case hr=>first|(go_simp;done)|(go_simp;rfl));intro gb327 hg w16 hbox hb;have n0_:=A_ (rw_ (rx HO320.out) hb);have n1_:=A_ (IsS76.below uq33 hb);have n2_:=A_ (below_step uq29 hb);have n3_:=A_ (hbox);have n4_:=A_ ((by rw [hg];exact (below_size uq29) : w.heap.size ≤ gb327));have n5_:=A_ ((by rw [hg];exact (below_size uq29) : w.heap.size ≤ gb327));have n6_:=A_ ((by rw [hg];exact Nat.ne_of_lt (IsS76.lt (show IsS76 w _ g317 t315 t321 from uq33)) : g317≠gb327));have n7_:=A_ ((by rw [hg];exact Nat.ne_of_gt (IsS76.lt (show IsS76 w _ g317 t315 t321 from uq33)) : gb327≠g317));clear HO320;clear HI317;clear HB;have HO320:=n0_;have HI317:=n1_;have HB:=n2_;have BK327:=n3_;have GW327:=n4_;have GE327:=n5_;have NB317_327:=n6_;have NB327_317:=n7_;clear n0_ n1_ n2_ n3_ n4_ n5_ n6_ n7_;clear hb hbox hg;have hnb17:=NB327_317.out;have hnc17:=NB317_327.out;have hcz18_0 : w16.cell? ⟨gb327,0,none⟩ = some (.int .i64 0):=(blk_cell BK327.out 0).trans rfl;have hcz18_1 : w16.cell? ⟨gb327,1,none⟩ = some (.int .i64 0):=(blk_cell BK327.out 1).trans rfl;have hcz18_2 : w16.cell? ⟨gb327,2,none⟩ = some (.int .i64 0):=(blk_cell BK327.out 2).trans rfl;have hcz18_3 : w16.cell? ⟨gb327,3,none⟩ = some (.int .i64 0):=(blk_cell BK327.out 3).trans rfl;have hcz18_4 : w16.cell? ⟨gb327,4,none⟩ = some (.int .i64 0):=(blk_cell BK327.out 4).trans rfl;have hfz18_0:=blk_frozen BK327.out 0;have hfz18_1:=blk_frozen BK327.out 1;have hfz18_2:=blk_frozen BK327.out 2;have hfz18_3:=blk_frozen BK327.out 3;have hfz18_4:=blk_frozen BK327.out 4)|((with_reducible refine gate_callee (f:=13) rfl ?_);refine gl (some 16) Try.func13 #[.slice Ao14 t318.length co14] ?_;(with_reducible refine (segment_Encode.calls k _ _ t318 t328 t329 _ ?side1 ?side2 A5.out).mono ?_);(case side1=>refine (rd_ (e:=3) (base:=w.heap.size) (ok:=fun k_=>True) (n:=t318.length) (c:=co14) ?_).2.2;exact (by (with_reducible repeat (first|apply ra|apply rb|apply rc));exact (rm (Kd.R_far (p:=⟨gb327,4,none⟩) (Kd.R_far (p:=⟨gb327,3,none⟩) (Kd.R_far (p:=⟨gb327,2,none⟩) (Kd.R_far (p:=⟨gb327,1,none⟩) (Kd.R_far (p:=⟨gb327,0,none⟩) (Kd.R_types HO320.out BK327.out (by decide)) (fun _ hk=>hk.2) (.int .i64 t322)) (fun _ hk=>hk.2) (.int .i64 t323)) (fun _ hk=>hk.2) (.int .i64 t324)) (fun _ hk=>hk.2) (.int .i64 t325)) (fun _ hk=>hk.2) (.int .i64 t326)) (fun _ h_=>h_.1))));(case side2=>exact (rd_ HO320.out).2.1);rintro e w19 ⟨v330,rfl,ho0,hb⟩;refine ⟨_,rfl,?_⟩;replace HO320:=A_ (rw_ (by (with_reducible repeat (first|apply ra|apply rb|apply rc));exact (rm (Kd.R_far (p:=⟨gb327,4,none⟩) (Kd.R_far (p:=⟨gb327,3,none⟩) (Kd.R_far (p:=⟨gb327,2,none⟩) (Kd.R_far (p:=⟨gb327,1,none⟩) (Kd.R_far (p:=⟨gb327,0,none⟩) (Kd.R_types HO320.out BK327.out (by decide)) (fun _ hk=>hk.2) (.int .i64 t322)) (fun _ hk=>hk.2) (.int .i64 t323)) (fun _ hk=>hk.2) (.int .i64 t324)) (fun _ hk=>hk.2) (.int .i64 t325)) (fun _ hk=>hk.2) (.int .i64 t326)) (fun _ h_=>h_.1))) hb);have HO331:=A_ (Kd.R_lower ho0 (below_size uq11));replace HI317:=A_ (IsS76.below (show IsS76 w (((((w16.setCell ⟨gb327,0,none⟩ (.int .i64 t322)).setCell ⟨gb327,1,none⟩ (.int .i64 t323)).setCell ⟨gb327,2,none⟩ (.int .i64 t324)).setCell ⟨gb327,3,none⟩ (.int .i64 t325)).setCell ⟨gb327,4,none⟩ (.int .i64 t326)) g317 t315 t321 from uq20) hb);replace BK327:=A_ (blk_below (g:=gb327) (o:=.cells #[.int .i64 t322,.int .i64 t323,.int .i64 t324,.int .i64 t325,.int .i64 t326] 27 (0,0)) (by (with_reducible repeat (first|refine blk_drewN ?_ _|refine blk_drew ?_|refine blk_alloc ?_ _));refine blk_put (cs:=#[.int .i64 t322,.int .i64 t323,.int .i64 t324,.int .i64 t325,.int .i64 0]) ?_ 4 _ rfl;(with_reducible repeat (first|refine blk_drewN ?_ _|refine blk_drew ?_|refine blk_alloc ?_ _));refine blk_put (cs:=#[.int .i64 t322,.int .i64 t323,.int .i64 t324,.int .i64 0,.int .i64 0]) ?_ 3 _ rfl;(with_reducible repeat (first|refine blk_drewN ?_ _|refine blk_drew ?_|refine blk_alloc ?_ _));refine blk_put (cs:=#[.int .i64 t322,.int .i64 t323,.int .i64 0,.int .i64 0,.int .i64 0]) ?_ 2 _ rfl;(with_reducible repeat (first|refine blk_drewN ?_ _|refine blk_drew ?_|refine blk_alloc ?_ _));refine blk_put (cs:=#[.int .i64 t322,.int .i64 0,.int .i64 0,.int .i64 0,.int .i64 0]) ?_ 1 _ rfl;(with_reducible repeat (first|refine blk_drewN ?_ _|refine blk_drew ?_|refine blk_alloc ?_ _));refine blk_put (cs:=#[.int .i64 0,.int .i64 0,.int .i64 0,.int .i64 0,.int .i64 0]) ?_ 0 _ rfl;(with_reducible repeat (first|refine blk_drewN ?_ _|refine blk_drew ?_|refine blk_alloc ?_ _));exact BK327.out) hb);replace HB:=A_ (below_step uq11 hb);(try clear hb);(try clear hb2);(try clear hk);(try clear hi);(try clear ho0)))
 have n0_:=A_ (Kd.R_drew HO320.out)
 have n1_:=A_ (Kd.R_drew HO331.out)
 have n2_:=A_ (blk_drew BK327.out)
 have n3_:=A_ (IsS76.drew HI317.out)
 have n4_:=A_ (below_drew1 HB.out)
 clear HO320
 clear HO331
 clear BK327
 clear HI317
 clear HB
 have HO320:=n0_
 have HO331:=n1_
 have BK327:=n2_
 have HI317:=n3_
 have HB:=n4_
 clear n0_ n1_ n2_ n3_ n4_
 refine start_ (n:=19) (S:=fun w'=>w'.cell? ⟨gb327,0,none⟩ = some (.int .i64 t322)∧w'.cell? ⟨gb327,1,none⟩ = some (.int .i64 t323)∧w'.cell? ⟨gb327,2,none⟩ = some (.int .i64 t324)∧w'.cell? ⟨gb327,3,none⟩ = some (.int .i64 t325)∧w'.cell? ⟨gb327,4,none⟩ = some (.int .i64 t326)) (ds:=[]) #[false,false,false,false,false,false,false,false,false,false,false,false,false,false,false,false,false,false,false] uq2 rfl rfl ⟨(blk_cell BK327.out 0).trans rfl,(blk_cell BK327.out 1).trans rfl,(blk_cell BK327.out 2).trans rfl,(blk_cell BK327.out 3).trans rfl,(blk_cell BK327.out 4).trans rfl⟩ (fun hHeld=>?_);refine with_tabW shapesearchlaw10_SegmentShort.tab4 shapesearchlaw10_SegmentShort.bits4 (fun HT_ HW_=>?_)
 generalize w19.drew = w20 at HO320 HO331 BK327 HI317 HB hHeld ⊢
 refine pu (i:=1) (N:=some 20) (v:=?_) (a':=?_) #[false,true,false,false,false,false,false,false,false,false,false,false,false,false,false,false,false,false,false] ?_ ?_ ?_
 rotate_left
 ·
  intro w'
  go_simp
  with_reducible rfl
 rotate_left
 ·
  simp only [Act.put,sa,sb,sc,i64_w,i32_w]
  rfl
 refine pu (i:=4) (N:=some 23) (v:=?_) (a':=?_) #[false,true,false,false,true,false,false,false,false,false,false,false,false,false,false,false,false,false,false] ?_ ?_ ?_
 rotate_left
 ·
  intro w'
  go_simp
  with_reducible rfl
 rotate_left
 ·
  simp only [Act.put,sa,sb,sc,i64_w,i32_w]
  rfl
 refine pu (i:=7) (N:=some 26) (v:=?_) (a':=?_) #[false,true,false,false,true,false,false,true,false,false,false,false,false,false,false,false,false,false,false] ?_ ?_ ?_
 rotate_left
 ·
  intro w'
  go_simp
  with_reducible rfl
 rotate_left
 ·
  simp only [Act.put,sa,sb,sc,i64_w,i32_w]
  rfl
 refine pu (i:=9) (N:=some 28) (v:=?_) (a':=?_) #[false,true,false,false,true,false,false,true,false,true,false,false,false,false,false,false,false,false,false] ?_ ?_ ?_
 rotate_left
 ·
  intro w'
  go_simp
  with_reducible rfl
 rotate_left
 ·
  simp only [Act.put,sa,sb,sc,i64_w,i32_w]
  rfl
 refine pu (i:=13) (N:=some 32) (v:=?_) (a':=?_) #[false,true,false,false,true,false,false,true,false,true,false,false,false,true,false,false,false,false,false] ?_ ?_ ?_
 rotate_left
 ·
  intro w'
  go_simp
  with_reducible rfl
 rotate_left
 ·
  simp only [Act.put,sa,sb,sc,i64_w,i32_w]
  rfl
 refine tk (i:=2) (N:=some 21) (v:=?_) (a':=?_) #[false,true,true,false,true,false,false,true,false,true,false,false,false,true,false,false,false,false,false] ?_ hHeld ?_ ?_
 rotate_left
 ·
  rintro w' ⟨s0,s1,s2,s3,s4⟩
  go_simp
  with_reducible rfl
 rotate_left
 ·
  simp only [Act.put,sa,sb,sc,i64_w,i32_w]
  rfl
 refine tk (i:=5) (N:=some 24) (v:=?_) (a':=?_) #[false,true,true,false,true,true,false,true,false,true,false,false,false,true,false,false,false,false,false] ?_ hHeld ?_ ?_
 rotate_left
 ·
  rintro w' ⟨s0,s1,s2,s3,s4⟩
  go_simp
  with_reducible rfl
 rotate_left
 ·
  simp only [Act.put,sa,sb,sc,i64_w,i32_w]
  rfl
 refine tk (i:=8) (N:=some 27) (v:=?_) (a':=?_) #[false,true,true,false,true,true,false,true,true,true,false,false,false,true,false,false,false,false,false] ?_ hHeld ?_ ?_
 rotate_left
 ·
  rintro w' ⟨s0,s1,s2,s3,s4⟩
  go_simp
  with_reducible rfl
 rotate_left
 ·
  simp only [Act.put,sa,sb,sc,i64_w,i32_w]
  rfl
 refine tk (i:=10) (N:=some 29) (v:=?_) (a':=?_) #[false,true,true,false,true,true,false,true,true,true,true,false,false,true,false,false,false,false,false] ?_ hHeld ?_ ?_
 rotate_left
 ·
  rintro w' ⟨s0,s1,s2,s3,s4⟩
  go_simp
  with_reducible rfl
 rotate_left
 ·
  simp only [Act.put,sa,sb,sc,i64_w,i32_w]
  rfl
 refine pu (i:=11) (N:=some 30) (v:=?_) (a':=?_) #[false,true,true,false,true,true,false,true,true,true,true,true,false,true,false,false,false,false,false] ?_ ?_ ?_
 rotate_left
 ·
  intro w'
  go_simp
  with_reducible rfl
 rotate_left
 ·
  simp only [Act.put,sa,sb,sc,i64_w,i32_w]
  rfl
 refine tk (i:=14) (N:=some 33) (v:=?_) (a':=?_) #[false,true,true,false,true,true,false,true,true,true,true,true,false,true,true,false,false,false,false] ?_ hHeld ?_ ?_
 rotate_left
 ·
  rintro w' ⟨s0,s1,s2,s3,s4⟩
  go_simp
  with_reducible rfl
 rotate_left
 ·
  simp only [Act.put,sa,sb,sc,i64_w,i32_w]
  rfl
 refine one_ (i:=0) (N:=some 19) #[true,true,true,false,true,true,false,true,true,true,true,true,false,true,true,false,false,false,false] rfl rfl (one_of HT_.out uq2) (by decide) (fun K hK=>?_)
 refine Kd.R_lit_step (Kd.int .u8) _ 5 ?hg (N:=19) ?hd (xs:=([0] : List Int)) (inner:=[.int .u8 0]) (ok:=fun _=>True) (okp:=fun _=>True) ?hr ?hp (fun _ hk=>hk) trivial (Below.refl _ _) (Nat.le_refl _) (by simp) ?_;(case hd=>rfl);(case hg=>rfl);(case hr=>first|(go_simp;done)|(go_simp;rfl));(case hp=>exact (Reps.one (show Kd.M (Kd.int .u8) _ _ _ 0 [.int .u8 0] from rfl) (Reps.none _ _)))
 intro v333 w21 ho22 hb hg_ hnew_
 clear hg_ hnew_
 (first|rw [← Ny332.out] at ho22|(simp only [Int.reduceToNat] at ho22;rw [← Ny332.out] at ho22))
 have n0_:=A_ (rw_ (rx HO320.out) hb)
 have n1_:=A_ (re (rx HO331.out) (rs ho22) hb)
 have n2_:=A_ (Kd.R_lower (rn ho22 (rl (rx HO331.out))) (below_size uq11))
 have n3_:=A_ (IsS76.below uq20 hb)
 have n4_:=A_ (blk_below (g:=gb327) (o:=.cells #[.int .i64 t322,.int .i64 t323,.int .i64 t324,.int .i64 t325,.int .i64 t326] 27 (0,0)) uq23 hb)
 have n5_:=A_ (below_step uq11 hb)
 clear HO320
 clear HO331
 clear HI317
 clear BK327
 clear HB
 have HO320:=n0_
 have HO331:=n1_
 have HO334:=n2_
 have HI317:=n3_
 have BK327:=n4_
 have HB:=n5_
 clear n0_ n1_ n2_ n3_ n4_ n5_
 clear hb ho22
 obtain ⟨Ao23,co23,eo23⟩:=Kd.R_slice HO334.out
 (first|subst eo23|(injection eo23 with f1_ f2_ f3_;have f4_:=f1_.symm;have f5_:=f3_.symm;clear f1_ f2_ f3_;subst f4_;subst f5_))
 refine hK.out _ _ ⟨(blk_cell BK327.out 0).trans rfl,(blk_cell BK327.out 1).trans rfl,(blk_cell BK327.out 2).trans rfl,(blk_cell BK327.out 3).trans rfl,(blk_cell BK327.out 4).trans rfl⟩ (fun hHeld=>?_)
 clear hK K
 refine norm_ (a':=?_) ?_ ?_
 rotate_left
 ·
  show Act.put _ (some 19) _ = _
  simp only [Act.put,sa,sb,sc,i64_w,i32_w]
  rfl
 refine one_ (i:=3) (N:=some 22) #[true,true,true,true,true,true,false,true,true,true,true,true,false,true,true,false,false,false,false] rfl rfl (one_of HT_.out uq2) (by decide) (fun K hK=>?_)
 refine goes_ Try.func14 uq2 rfl #[.slice Ao23 y332.length co23,.int .i64 t323] (by rfl) rfl rfl uq21 ?_
 with_reducible refine (shapesearchref03_PutInt.calls k _ _ y332 t323 t335 _ ?side1 ?side2 A6.out).mono ?_
 (case side1=>exact cx ((rd_ HO334.out).2.2))
 (case side2=>exact (rd_ HO334.out).2.1)
 rintro e w24 ⟨v336,rfl,ho0,hb⟩
 refine ⟨_,rfl,?_⟩
 have n0_:=A_ (rw_ (rx HO320.out) hb)
 have n1_:=A_ (re (rx HO331.out) (rs ho0) hb)
 have n2_:=A_ (re (rx HO334.out) (rs ho0) hb)
 have n3_:=A_ (Kd.R_lower (rn (rn ho0 (rl (rx HO331.out))) (rl (rx HO334.out))) (below_size uq11))
 have n4_:=A_ (IsS76.below uq20 hb)
 have n5_:=A_ (blk_below (g:=gb327) (o:=.cells #[.int .i64 t322,.int .i64 t323,.int .i64 t324,.int .i64 t325,.int .i64 t326] 27 (0,0)) uq23 hb)
 have n6_:=A_ (below_step uq11 hb)
 clear HO320
 clear HO331
 clear HO334
 clear HI317
 clear BK327
 clear HB
 have HO320:=n0_
 have HO331:=n1_
 have HO334:=n2_
 have HO337:=n3_
 have HI317:=n4_
 have BK327:=n5_
 have HB:=n6_
 clear n0_ n1_ n2_ n3_ n4_ n5_ n6_
 (try clear hb)
 (try clear hb2)
 (try clear hk)
 (try clear hi)
 (try clear ho0)
 obtain ⟨Ao25,co25,eo25⟩:=Kd.R_slice HO337.out
 (first|subst eo25|(injection eo25 with f1_ f2_ f3_;have f4_:=f1_.symm;have f5_:=f3_.symm;clear f1_ f2_ f3_;subst f4_;subst f5_))
 refine hK.out _ _ ⟨(blk_cell BK327.out 0).trans rfl,(blk_cell BK327.out 1).trans rfl,(blk_cell BK327.out 2).trans rfl,(blk_cell BK327.out 3).trans rfl,(blk_cell BK327.out 4).trans rfl⟩ (fun hHeld=>?_)
 clear hK K
 refine norm_ (a':=?_) ?_ ?_
 rotate_left
 ·
  show Act.put _ (some 22) _ = _
  simp only [Act.put,sa,sb,sc,i64_w,i32_w]
  rfl
 refine one_ (i:=6) (N:=some 25) #[true,true,true,true,true,true,true,true,true,true,true,true,false,true,true,false,false,false,false] rfl rfl (one_of HT_.out uq2) (by decide) (fun K hK=>?_)
 refine goes_ Try.func14 uq2 rfl #[.slice Ao25 t335.length co25,.int .i64 t324] (by rfl) rfl rfl uq21 ?_
 with_reducible refine (shapesearchref03_PutInt.calls k _ _ t335 t324 t338 _ ?side1 ?side2 A7.out).mono ?_
 (case side1=>exact cx ((rd_ HO337.out).2.2))
 (case side2=>exact (rd_ HO337.out).2.1)
 rintro e w26 ⟨v339,rfl,ho0,hb⟩
 refine ⟨_,rfl,?_⟩
 have n0_:=A_ (rw_ (rx HO320.out) hb)
 have n1_:=A_ (re (rx HO331.out) (rs ho0) hb)
 have n2_:=A_ (re (rx HO334.out) (rs ho0) hb)
 have n3_:=A_ (re (rx HO337.out) (rs ho0) hb)
 have n4_:=A_ (Kd.R_lower (rn (rn (rn ho0 (rl (rx HO331.out))) (rl (rx HO334.out))) (rl (rx HO337.out))) (below_size uq11))
 have n5_:=A_ (IsS76.below uq20 hb)
 have n6_:=A_ (blk_below (g:=gb327) (o:=.cells #[.int .i64 t322,.int .i64 t323,.int .i64 t324,.int .i64 t325,.int .i64 t326] 27 (0,0)) uq23 hb)
 have n7_:=A_ (below_step uq11 hb)
 clear HO320
 clear HO331
 clear HO334
 clear HO337
 clear HI317
 clear BK327
 clear HB
 have HO320:=n0_
 have HO331:=n1_
 have HO334:=n2_
 have HO337:=n3_
 have HO340:=n4_
 have HI317:=n5_
 have BK327:=n6_
 have HB:=n7_
 clear n0_ n1_ n2_ n3_ n4_ n5_ n6_ n7_
 (try clear hb)
 (try clear hb2)
 (try clear hk)
 (try clear hi)
 (try clear ho0)
 obtain ⟨Ao27,co27,eo27⟩:=Kd.R_slice HO340.out
 (first|subst eo27|(injection eo27 with f1_ f2_ f3_;have f4_:=f1_.symm;have f5_:=f3_.symm;clear f1_ f2_ f3_;subst f4_;subst f5_))
 refine hK.out _ _ ⟨(blk_cell BK327.out 0).trans rfl,(blk_cell BK327.out 1).trans rfl,(blk_cell BK327.out 2).trans rfl,(blk_cell BK327.out 3).trans rfl,(blk_cell BK327.out 4).trans rfl⟩ (fun hHeld=>?_)
 clear hK K
 refine norm_ (a':=?_) ?_ ?_
 rotate_left
 ·
  show Act.put _ (some 25) _ = _
  simp only [Act.put,sa,sb,sc,i64_w,i32_w]
  rfl
 refine one_ (i:=12) (N:=some 31) #[true,true,true,true,true,true,true,true,true,true,true,true,true,true,true,false,false,false,false] rfl rfl (one_of HT_.out uq2) (by decide) (fun K hK=>?_)
 refine goes_ Try.func14 uq2 rfl #[.slice Ao27 t338.length co27,.int .i64 (wrap64 (t325 - t324))] (by rfl) rfl rfl uq21 ?_
 with_reducible refine (shapesearchref03_PutInt.calls k _ _ t338 (wrap64 (t325 - t324)) t341 _ ?side1 ?side2 A8.out).mono ?_
 (case side1=>exact cx ((rd_ HO340.out).2.2))
 (case side2=>exact (rd_ HO340.out).2.1)
 rintro e w28 ⟨v342,rfl,ho0,hb⟩
 refine ⟨_,rfl,?_⟩
 have n0_:=A_ (rw_ (rx HO320.out) hb)
 have n1_:=A_ (re (rx HO331.out) (rs ho0) hb)
 have n2_:=A_ (re (rx HO334.out) (rs ho0) hb)
 have n3_:=A_ (re (rx HO337.out) (rs ho0) hb)
 have n4_:=A_ (re (rx HO340.out) (rs ho0) hb)
 have n5_:=A_ (Kd.R_lower (rn (rn (rn (rn ho0 (rl (rx HO331.out))) (rl (rx HO334.out))) (rl (rx HO337.out))) (rl (rx HO340.out))) (below_size uq11))
 have n6_:=A_ (IsS76.below uq20 hb)
 have n7_:=A_ (blk_below (g:=gb327) (o:=.cells #[.int .i64 t322,.int .i64 t323,.int .i64 t324,.int .i64 t325,.int .i64 t326] 27 (0,0)) uq23 hb)
 have n8_:=A_ (below_step uq11 hb)
 clear HO320
 clear HO331
 clear HO334
 clear HO337
 clear HO340
 clear HI317
 clear BK327
 clear HB
 have HO320:=n0_
 have HO331:=n1_
 have HO334:=n2_
 have HO337:=n3_
 have HO340:=n4_
 have HO343:=n5_
 have HI317:=n6_
 have BK327:=n7_
 have HB:=n8_
 clear n0_ n1_ n2_ n3_ n4_ n5_ n6_ n7_ n8_
 (try clear hb)
 (try clear hb2)
 (try clear hk)
 (try clear hi)
 (try clear ho0)
 obtain ⟨Ao29,co29,eo29⟩:=Kd.R_slice HO343.out
 (first|subst eo29|(injection eo29 with f1_ f2_ f3_;have f4_:=f1_.symm;have f5_:=f3_.symm;clear f1_ f2_ f3_;subst f4_;subst f5_))
 refine hK.out _ _ ⟨(blk_cell BK327.out 0).trans rfl,(blk_cell BK327.out 1).trans rfl,(blk_cell BK327.out 2).trans rfl,(blk_cell BK327.out 3).trans rfl,(blk_cell BK327.out 4).trans rfl⟩ (fun hHeld=>?_)
 clear hK K
 refine norm_ (a':=?_) ?_ ?_
 rotate_left
 ·
  show Act.put _ (some 31) _ = _
  simp only [Act.put,sa,sb,sc,i64_w,i32_w]
  rfl
 refine one_ (i:=15) (N:=some 34) #[true,true,true,true,true,true,true,true,true,true,true,true,true,true,true,true,false,false,false] rfl rfl (one_of HT_.out uq2) (by decide) (fun K hK=>?_)
 refine goes_ Try.func14 uq2 rfl #[.slice Ao29 t341.length co29,.int .i64 t326] (by rfl) rfl rfl uq21 ?_
 with_reducible refine (shapesearchref03_PutInt.calls k _ _ t341 t326 t344 _ ?side1 ?side2 A9.out).mono ?_
 (case side1=>exact cx ((rd_ HO343.out).2.2))
 (case side2=>exact (rd_ HO343.out).2.1)
 rintro e w30 ⟨v345,rfl,ho0,hb⟩
 refine ⟨_,rfl,?_⟩
 have n0_:=A_ (rw_ (rx HO320.out) hb)
 have n1_:=A_ (re (rx HO331.out) (rs ho0) hb)
 have n2_:=A_ (re (rx HO334.out) (rs ho0) hb)
 have n3_:=A_ (re (rx HO337.out) (rs ho0) hb)
 have n4_:=A_ (re (rx HO340.out) (rs ho0) hb)
 have n5_:=A_ (re (rx HO343.out) (rs ho0) hb)
 have n6_:=A_ (Kd.R_lower (rn (rn (rn (rn (rn ho0 (rl (rx HO331.out))) (rl (rx HO334.out))) (rl (rx HO337.out))) (rl (rx HO340.out))) (rl (rx HO343.out))) (below_size uq11))
 have n7_:=A_ (IsS76.below uq20 hb)
 have n8_:=A_ (blk_below (g:=gb327) (o:=.cells #[.int .i64 t322,.int .i64 t323,.int .i64 t324,.int .i64 t325,.int .i64 t326] 27 (0,0)) uq23 hb)
 have n9_:=A_ (below_step uq11 hb)
 clear HO320
 clear HO331
 clear HO334
 clear HO337
 clear HO340
 clear HO343
 clear HI317
 clear BK327
 clear HB
 have HO320:=n0_
 have HO331:=n1_
 have HO334:=n2_
 have HO337:=n3_
 have HO340:=n4_
 have HO343:=n5_
 have HO346:=n6_
 have HI317:=n7_
 have BK327:=n8_
 have HB:=n9_
 clear n0_ n1_ n2_ n3_ n4_ n5_ n6_ n7_ n8_ n9_
 (try clear hb)
 (try clear hb2)
 (try clear hk)
 (try clear hi)
 (try clear ho0)
 obtain ⟨Ao31,co31,eo31⟩:=Kd.R_slice HO346.out
 (first|subst eo31|(injection eo31 with f1_ f2_ f3_;have f4_:=f1_.symm;have f5_:=f3_.symm;clear f1_ f2_ f3_;subst f4_;subst f5_))
 refine hK.out _ _ ⟨(blk_cell BK327.out 0).trans rfl,(blk_cell BK327.out 1).trans rfl,(blk_cell BK327.out 2).trans rfl,(blk_cell BK327.out 3).trans rfl,(blk_cell BK327.out 4).trans rfl⟩ (fun hHeld=>?_)
 clear hK K
 refine norm_ (a':=?_) ?_ ?_
 rotate_left
 ·
  show Act.put _ (some 34) _ = _
  simp only [Act.put,sa,sb,sc,i64_w,i32_w]
  rfl
 refine pu (i:=16) (N:=some 35) (v:=?_) (a':=?_) #[true,true,true,true,true,true,true,true,true,true,true,true,true,true,true,true,true,false,false] ?_ ?_ ?_
 rotate_left
 ·
  intro w'
  go_simp
  with_reducible rfl
 rotate_left
 ·
  simp only [Act.put,sa,sb,sc,i64_w,i32_w]
  rfl
 refine pu (i:=17) (N:=some 36) (v:=?_) (a':=?_) #[true,true,true,true,true,true,true,true,true,true,true,true,true,true,true,true,true,true,false] ?_ ?_ ?_
 rotate_left
 ·
  intro w'
  go_simp
  with_reducible rfl
 rotate_left
 ·
  simp only [Act.put,sa,sb,sc,i64_w,i32_w]
  rfl
 refine pu (i:=18) (N:=some 7) (v:=?_) (a':=?_) #[true,true,true,true,true,true,true,true,true,true,true,true,true,true,true,true,true,true,true] ?_ ?_ ?_
 rotate_left
 ·
  intro w'
  go_simp
  with_reducible rfl
 rotate_left
 ·
  simp only [Act.put,sa,sb,sc,i64_w,i32_w]
  rfl
 refine done_ (done_of HT_.out uq2) ?_
 have hcz32_0 : w30.cell? ⟨gb327,0,none⟩ = some (.int .i64 t322):=(blk_cell BK327.out 0).trans rfl
 have hcz32_1 : w30.cell? ⟨gb327,1,none⟩ = some (.int .i64 t323):=(blk_cell BK327.out 1).trans rfl
 have hcz32_2 : w30.cell? ⟨gb327,2,none⟩ = some (.int .i64 t324):=(blk_cell BK327.out 2).trans rfl
 have hcz32_3 : w30.cell? ⟨gb327,3,none⟩ = some (.int .i64 t325):=(blk_cell BK327.out 3).trans rfl
 have hcz32_4 : w30.cell? ⟨gb327,4,none⟩ = some (.int .i64 t326):=(blk_cell BK327.out 4).trans rfl
 have hfz32_0:=blk_frozen BK327.out 0
 have hfz32_1:=blk_frozen BK327.out 1
 have hfz32_2:=blk_frozen BK327.out 2
 have hfz32_3:=blk_frozen BK327.out 3
 have hfz32_4:=blk_frozen BK327.out 4
 go_upto_region 6 with (first|((with_reducible refine gate_dst (N:=44) rfl ?_);(try (refine gate_guard (by rfl) ?_;dsimp only));refine Kd.R_lit (Kd.int .i64) _ 3 ?hg (N:=44) ?hd (xs:=([wrap64 (t325 - t324)] : List Int)) (inner:=[.int .i64 (wrap64 (t325 - t324))]) (ok:=fun _=>True) (okp:=fun _=>True) ?hr ?hp (fun _ hk=>hk) trivial (Below.refl _ _) (Nat.le_refl _) (by simp) ?_;(case hd=>rfl);(case hg=>rfl);(case hr=>first|(go_simp;done)|(go_simp;rfl));(case hp=>exact (Reps.one (show Kd.M (Kd.int .i64) _ _ _ (wrap64 (t325 - t324)) [.int .i64 (wrap64 (t325 - t324))] from rfl) (Reps.none _ _)));intro v348 w33 ho34 hb hg_ hnew_;clear hg_ hnew_;(first|rw [← Ny347.out] at ho34|(simp only [Int.reduceToNat] at ho34;rw [← Ny347.out] at ho34));have n0_:=A_ (re (rx HO320.out) (rs ho34) hb);have n1_:=A_ (rw_ (rx HO331.out) hb);have n2_:=A_ (rw_ (rx HO334.out) hb);have n3_:=A_ (rw_ (rx HO337.out) hb);have n4_:=A_ (rw_ (rx HO340.out) hb);have n5_:=A_ (rw_ (rx HO343.out) hb);have n6_:=A_ (rw_ (rx HO346.out) hb);have n7_:=A_ (Kd.R_lower (rn ho34 (rl (rx HO320.out))) (below_size uq11));have n8_:=A_ (IsS76.below uq20 hb);have n9_:=A_ (blk_below (g:=gb327) (o:=.cells #[.int .i64 t322,.int .i64 t323,.int .i64 t324,.int .i64 t325,.int .i64 t326] 27 (0,0)) uq23 hb);have n10_:=A_ (below_step uq11 hb);clear HO320;clear HO331;clear HO334;clear HO337;clear HO340;clear HO343;clear HO346;clear HI317;clear BK327;clear HB;have HO320:=n0_;have HO331:=n1_;have HO334:=n2_;have HO337:=n3_;have HO340:=n4_;have HO343:=n5_;have HO346:=n6_;have HO349:=n7_;have HI317:=n8_;have BK327:=n9_;have HB:=n10_;clear n0_ n1_ n2_ n3_ n4_ n5_ n6_ n7_ n8_ n9_ n10_;clear hb ho34;obtain ⟨Ao35,co35,eo35⟩:=Kd.R_slice HO349.out;subst eo35)|((with_reducible refine gate_callee (f:=15) rfl ?_);refine gl (some 45) Try.func15 #[.slice Ao35 y347.length co35] ?_;(with_reducible refine (shapesearchref03_Width.calls k _ _ y347 t350 _ ?side1 ?side2 A10.out).mono ?_);(case side1=>exact cx ((rd_ HO349.out).2.2));(case side2=>exact (rd_ HO349.out).2.1);rintro e w' ⟨rfl,⟨nd,rfl⟩⟩;refine ⟨_,rfl,?_⟩))
 (try simp only [Act.put,List.setIfInBounds_toArray,List.set_cons_zero,List.set_cons_succ])
 have H:=HC11.out
 clear HC11
 by_cases c36 : t329 = 0
 ·
  rw [if_pos c36] at H
  have c36b0 : (t329 == 0) = true:=beq_iff_eq.mpr c36
  have c36b1 : (t329 != 0) = false:=bne_eq_false_iff_eq.mpr c36
  clear c36
  (first|rw [c36b0]|(simp only [i64_w,i32_w];rw [c36b0])|skip)
  by_cases c37 : (t328.length : Int) ≤ (wrap64 ((wrap64 ((t344.length : Int) + 4)) + (wrap64 (Int.tdiv (wrap64 ((wrap64 ((t318.length : Int) * t350)) + 7)) 8))))
  ·
   rw [if_pos c37] at H
   have c37b0 : decide ((t328.length : Int) ≤ (wrap64 ((wrap64 ((t344.length : Int) + 4)) + (wrap64 (Int.tdiv (wrap64 ((wrap64 ((t318.length : Int) * t350)) + 7)) 8))))) = true:=decide_eq_true c37
   (try (have c37b0d:=c37b0;simp only [Int.tdiv_eq_ediv_of_nonneg (Int.natCast_nonneg _)] at c37b0d))
   clear c37
   by_cases c38 : t324 = t325
   ·
    rw [if_pos c38] at H
    have c38b0 : (t324 == t325) = true:=beq_iff_eq.mpr c38
    have c38b1 : (t324 != t325) = false:=bne_eq_false_iff_eq.mpr c38
    clear c38
    by_cases c39 : (t328.length : Int) = (wrap64 ((t344.length : Int) + 4))
    ·
     rw [if_pos c39] at H
     have c39b0 : ((t328.length : Int) == (wrap64 ((t344.length : Int) + 4))) = true:=beq_iff_eq.mpr c39
     have c39b1 : ((t328.length : Int) != (wrap64 ((t344.length : Int) + 4))) = false:=bne_eq_false_iff_eq.mpr c39
     clear c39
     replace H:=Option.bind_eq_some_iff.mp H
     obtain ⟨t351,A400,H⟩:=H
     replace H : (some t351) = some r:=H
     have A40:=A_ A400
     clear A400
     obtain rfl:=Option.some.inj H
     obtain ⟨Ao41,co41,eo41⟩:=Kd.R_slice HO331.out
     subst eo41
     have hnb42:=NB327_317.out
     have hnc42:=NB317_327.out
     have hcz43_0 : w33.cell? ⟨gb327,0,none⟩ = some (.int .i64 t322):=(blk_cell BK327.out 0).trans rfl
     have hcz43_1 : w33.cell? ⟨gb327,1,none⟩ = some (.int .i64 t323):=(blk_cell BK327.out 1).trans rfl
     have hcz43_2 : w33.cell? ⟨gb327,2,none⟩ = some (.int .i64 t324):=(blk_cell BK327.out 2).trans rfl
     have hcz43_3 : w33.cell? ⟨gb327,3,none⟩ = some (.int .i64 t325):=(blk_cell BK327.out 3).trans rfl
     have hcz43_4 : w33.cell? ⟨gb327,4,none⟩ = some (.int .i64 t326):=(blk_cell BK327.out 4).trans rfl
     have hfz43_0:=blk_frozen BK327.out 0
     have hfz43_1:=blk_frozen BK327.out 1
     have hfz43_2:=blk_frozen BK327.out 2
     have hfz43_3:=blk_frozen BK327.out 3
     have hfz43_4:=blk_frozen BK327.out 4
     go_wp2_with (first|(go_at_call 16;(with_reducible refine (shapesearchlaw10_awake.calls k  t351 _ A40.out).mono ?_);rintro e w44 ⟨rfl,hb⟩;replace HO320:=A_ (rw_ (rx HO320.out) hb);replace HO331:=A_ (rw_ (rx HO331.out) hb);replace HO334:=A_ (rw_ (rx HO334.out) hb);replace HO337:=A_ (rw_ (rx HO337.out) hb);replace HO340:=A_ (rw_ (rx HO340.out) hb);replace HO343:=A_ (rw_ (rx HO343.out) hb);replace HO346:=A_ (rw_ (rx HO346.out) hb);replace HO349:=A_ (rw_ (rx HO349.out) hb);replace HI317:=A_ (IsS76.below uq20 hb);replace BK327:=A_ (blk_below (g:=gb327) (o:=.cells #[.int .i64 t322,.int .i64 t323,.int .i64 t324,.int .i64 t325,.int .i64 t326] 27 (0,0)) uq23 hb);replace HB:=A_ (below_step uq11 hb);(try clear hb);(try clear hb2);(try clear hk);(try clear hi)))
     go_ret
     exact ⟨by first|rfl|(simp [errW_none,errW_some] <;> rfl)|(simp [*,errW_none,errW_some] <;> rfl),uq11⟩
    ·
     rw [if_neg c39] at H
     have c39b0 : ((t328.length : Int) == (wrap64 ((t344.length : Int) + 4))) = false:=beq_eq_false_iff_ne.mpr c39
     have c39b1 : ((t328.length : Int) != (wrap64 ((t344.length : Int) + 4))) = true:=bne_iff_ne.mpr c39
     exact absurd ((Option.some.inj H).trans HTR_.out) (by decide)
   ·
    rw [if_neg c38] at H
    have c38b0 : (t324 == t325) = false:=beq_eq_false_iff_ne.mpr c38
    have c38b1 : (t324 != t325) = true:=bne_iff_ne.mpr c38
    replace H:=Option.bind_eq_some_iff.mp H
    obtain ⟨t352,A450,H⟩:=H
    replace H : (some t352) = some r:=H
    have A45:=A_ A450
    clear A450
    obtain rfl:=Option.some.inj H
    obtain ⟨Ao46,co46,eo46⟩:=Kd.R_slice HO331.out
    subst eo46
    have hnb47:=NB327_317.out
    have hnc47:=NB317_327.out
    have hcz48_0 : w33.cell? ⟨gb327,0,none⟩ = some (.int .i64 t322):=(blk_cell BK327.out 0).trans rfl
    have hcz48_1 : w33.cell? ⟨gb327,1,none⟩ = some (.int .i64 t323):=(blk_cell BK327.out 1).trans rfl
    have hcz48_2 : w33.cell? ⟨gb327,2,none⟩ = some (.int .i64 t324):=(blk_cell BK327.out 2).trans rfl
    have hcz48_3 : w33.cell? ⟨gb327,3,none⟩ = some (.int .i64 t325):=(blk_cell BK327.out 3).trans rfl
    have hcz48_4 : w33.cell? ⟨gb327,4,none⟩ = some (.int .i64 t326):=(blk_cell BK327.out 4).trans rfl
    have hfz48_0:=blk_frozen BK327.out 0
    have hfz48_1:=blk_frozen BK327.out 1
    have hfz48_2:=blk_frozen BK327.out 2
    have hfz48_3:=blk_frozen BK327.out 3
    have hfz48_4:=blk_frozen BK327.out 4
    go_wp2_with (first|(go_at_call 16;(with_reducible refine (shapesearchlaw10_awake.calls k  t352 _ A45.out).mono ?_);rintro e w49 ⟨rfl,hb⟩;replace HO320:=A_ (rw_ (rx HO320.out) hb);replace HO331:=A_ (rw_ (rx HO331.out) hb);replace HO334:=A_ (rw_ (rx HO334.out) hb);replace HO337:=A_ (rw_ (rx HO337.out) hb);replace HO340:=A_ (rw_ (rx HO340.out) hb);replace HO343:=A_ (rw_ (rx HO343.out) hb);replace HO346:=A_ (rw_ (rx HO346.out) hb);replace HO349:=A_ (rw_ (rx HO349.out) hb);replace HI317:=A_ (IsS76.below uq20 hb);replace BK327:=A_ (blk_below (g:=gb327) (o:=.cells #[.int .i64 t322,.int .i64 t323,.int .i64 t324,.int .i64 t325,.int .i64 t326] 27 (0,0)) uq23 hb);replace HB:=A_ (below_step uq11 hb);(try clear hb);(try clear hb2);(try clear hk);(try clear hi)))
    go_ret
    exact ⟨by first|rfl|(simp [errW_none,errW_some] <;> rfl)|(simp [*,errW_none,errW_some] <;> rfl),uq11⟩
  ·
   rw [if_neg c37] at H
   have c37b0 : decide ((t328.length : Int) ≤ (wrap64 ((wrap64 ((t344.length : Int) + 4)) + (wrap64 (Int.tdiv (wrap64 ((wrap64 ((t318.length : Int) * t350)) + 7)) 8))))) = false:=decide_eq_false c37
   (try (have c37b0d:=c37b0;simp only [Int.tdiv_eq_ediv_of_nonneg (Int.natCast_nonneg _)] at c37b0d))
   clear c37
   exact absurd ((Option.some.inj H).trans HTR_.out) (by decide)
 ·
  rw [if_neg c36] at H
  have c36b0 : (t329 == 0) = false:=beq_eq_false_iff_ne.mpr c36
  have c36b1 : (t329 != 0) = true:=bne_iff_ne.mpr c36
  (first|rw [c36b0]|(simp only [i64_w,i32_w];rw [c36b0])|skip)
  exact absurd ((Option.some.inj H).trans HTR_.out) (by decide)

/-- THE ONE PURE STATEMENT of shapesearchlaw10_SegmentShort: yours. -/
def shapesearchlaw10_SegmentShort.Pure : Prop:=∀ (l0 : List Int),l0.length ≤ maxLen → l0.length * 8 ≤ 140737488351232 → (∀ x ∈ l0,(Lit.int .i64 x).wf = true) → ∃ k,shapesearchlaw10_SegmentShort.f k l0 = some true
theorem shapesearchlaw10_SegmentShort.walk (P : shapesearchlaw10_SegmentShort.Pure) (a0 : Option Addr) (len0 cap0 : Nat) (z0 : List Int) (w : World) (w0 : (a0 = none∧len0 = 0∧cap0 = 0∧z0 = []) ∨ ∃ x,a0 = some x∧len0 ≤ cap0∧cap0 ≤ maxLen∧z0.length = cap0∧(∀ i,i < z0.length → w.cell? (x.add i) = some (.int .i64 (z0.getD i 0)))∧∀ n ∈ z0,(Lit.int .i64 n).wf = true) (y0 : len0 * 8 ≤ 140737488351232) :
  Calls Try.prog 3 #[.slice a0 len0 cap0] w fun e w'=>e = .returned (.bool true)∧Below w.heap.size w w':=by
 obtain ⟨l0,rfl,hr0,hm0,hw0,hc0⟩:=ReadsInt.ofRowC w0
 obtain ⟨k,h⟩:=P l0 hm0 y0 hw0
 refine (shapesearchlaw10_SegmentShort.calls k _ _ l0 true w (Kd.C_of_reads (d:=(0 : Int)) (h1:=fun _=>rfl) hr0) hc0 h rfl).mono ?_
 rintro e w' ⟨rfl,hd⟩
 exact ⟨rfl,hd⟩

end Go.Proofs.Ytdnhfofmfpgmmaa.PSegmentShort
