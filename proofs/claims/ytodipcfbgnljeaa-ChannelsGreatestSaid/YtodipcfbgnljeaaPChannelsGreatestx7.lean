/- This file proves, function by function, what the Go functions that one law uses compute; most of it was printed by a program (wip/tools of this session, over the kit's print). -/
import Derived.Test.YtodipcfbgnljeaaPChannelsGreatestx0
import Derived.Test.YtodipcfbgnljeaaPChannelsGreatestx2
import Derived.Test.YtodipcfbgnljeaaPChannelsGreatestx6
namespace Go.Proofs.Ytodipcfbgnljeaa.PChannelsGreatest
open Go.RowKit Go.Proofs.YtodipcfbgnljeaaW.PrintWords Go.Proofs.YtodipcfbgnljeaaW.PrintLast Go.Proofs.YtodipcfbgnljeaaW.PrintMore
attribute [local go_sem] max2_int min2_int max_two min_two max_three min_three max_four min_four   -- for this text's walks alone
set_option linter.unusedVariables false
set_option linter.unusedSimpArgs false

/-! ### shapesearchkeep_Src_List: function 20 -/
mutual
def shapesearchkeep_Src_List.j0 : Nat → Int → Int → Int → Int → List Int → Int → Option (List Int × Int)
 | 0,_,_,_,_,_,_=>none
 | k + 1,x1,x5,x6,x7,x1000,x1001=>shapesearchkeep_Src_List.l0 k x1 x5 x6 x7 ([] : List Int) 0 x1000 x1001
def shapesearchkeep_Src_List.l0 : Nat → Int → Int → Int → Int → List Int → Int → List Int → Int → Option (List Int × Int)
 | 0,_,_,_,_,_,_,_,_=>none
 | k + 1,x1,x5,x6,x7,x8,x9,x1000,x1001=>if x9 < x1 then (if x5 = 0 then (shapesearchkeep_Src_List.j2 k x1 x5 x6 x7 x8 x9 x5 (x5 == 0) x1000 x1001) else (shapesearchkeep_Src_List.j2 k x1 x5 x6 x7 x8 x9 x5 (x5 == 1) x1000 x1001)) else (some (x8,x1001))
def shapesearchkeep_Src_List.j2 : Nat → Int → Int → Int → Int → List Int → Int → Int → Bool → List Int → Int → Option (List Int × Int)
 | 0,_,_,_,_,_,_,_,_,_,_=>none
 | k + 1,x1,x5,x6,x7,x8,x9,x25,x32,x1000,x1001=>if x32 = true then ((shapesearchkeep_Src_Range.f x1000 x1001 (wrap64 (-x6)) x6).bind fun bt249=>(if x8.length < 17592186044416 then (shapesearchkeep_Src_List.l0 k x1 x5 x6 x7 (x8 ++ [bt249.1]) (wrap64 (x9 + 1)) x1000 bt249.2) else (none))) else (if x25 = 2 then (shapesearchkeep_Src_List.j3 k x1 x5 x6 x7 x8 x9 x25 (x25 == 2) x1000 x1001) else (shapesearchkeep_Src_List.j3 k x1 x5 x6 x7 x8 x9 x25 (x25 == 3) x1000 x1001))
def shapesearchkeep_Src_List.j3 : Nat → Int → Int → Int → Int → List Int → Int → Int → Bool → List Int → Int → Option (List Int × Int)
 | 0,_,_,_,_,_,_,_,_,_,_=>none
 | k + 1,x1,x5,x6,x7,x8,x9,x25,x43,x1000,x1001=>if x43 = true then ((shapesearchkeep_Src_Range.f x1000 x1001 (wrap64 (-x6)) x6).bind fun bt254=>((shapesearchkeep_clip.f (wrap64 (x7 + bt254.1))).bind fun t256=>(if x8.length < 17592186044416 then (shapesearchkeep_Src_List.l0 k x1 x5 x6 t256 (x8 ++ [t256]) (wrap64 (x9 + 1)) x1000 bt254.2) else (none)))) else (if x25 = 4 then ((shapesearchkeep_Src_N.f x1000 x1001 4).bind fun bt260=>(if bt260.1 = 0 then ((shapesearchkeep_Src_Range.f x1000 bt260.2 (wrap64 (-x6)) x6).bind fun bt262=>(if x8.length < 17592186044416 then (shapesearchkeep_Src_List.l0 k x1 x5 x6 bt262.1 (x8 ++ [bt262.1]) (wrap64 (x9 + 1)) x1000 bt262.2) else (none))) else (if x8.length < 17592186044416 then (shapesearchkeep_Src_List.l0 k x1 x5 x6 x7 (x8 ++ [x7]) (wrap64 (x9 + 1)) x1000 bt260.2) else (none)))) else ((shapesearchkeep_Src_Pick.f x1000 x1001 (([(-1000),1000,1000,0] : List Int))).bind fun bt273=>(if x8.length < 17592186044416 then (shapesearchkeep_Src_List.l0 k x1 x5 x6 x7 (x8 ++ [bt273.1]) (wrap64 (x9 + 1)) x1000 bt273.2) else (none))))
end
def shapesearchkeep_Src_List.f (k : Nat) (s0_0 : List Int) (s0_1 : Int) (a1 : Int) : Option (List Int × Int):=(shapesearchkeep_Src_N.f s0_0 s0_1 6).bind fun bt238=>((shapesearchkeep_Src_Pick.f s0_0 bt238.2 (([1,3,10,100,1000] : List Int))).bind fun bt243=>((shapesearchkeep_Src_N.f s0_0 bt243.2 3).bind fun bt245=>(if bt245.1 = 0 then ((shapesearchkeep_Src_Range.f s0_0 bt245.2 (-1000) 1000).bind fun bt247=>(shapesearchkeep_Src_List.j0 k a1 bt238.1 bt243.1 bt247.1 s0_0 bt247.2)) else (shapesearchkeep_Src_List.j0 k a1 bt238.1 bt243.1 0 s0_0 bt245.2))))
theorem shapesearchkeep_Src_List.mono_l : ∀ k,(∀ y0 y1 y2 y3 y4 y5,LeO (shapesearchkeep_Src_List.j0 k y0 y1 y2 y3 y4 y5) (shapesearchkeep_Src_List.j0 (k + 1) y0 y1 y2 y3 y4 y5))∧(∀ y0 y1 y2 y3 y4 y5 y6 y7,LeO (shapesearchkeep_Src_List.l0 k y0 y1 y2 y3 y4 y5 y6 y7) (shapesearchkeep_Src_List.l0 (k + 1) y0 y1 y2 y3 y4 y5 y6 y7))∧(∀ y0 y1 y2 y3 y4 y5 y6 y7 y8 y9,LeO (shapesearchkeep_Src_List.j2 k y0 y1 y2 y3 y4 y5 y6 y7 y8 y9) (shapesearchkeep_Src_List.j2 (k + 1) y0 y1 y2 y3 y4 y5 y6 y7 y8 y9))∧(∀ y0 y1 y2 y3 y4 y5 y6 y7 y8 y9,LeO (shapesearchkeep_Src_List.j3 k y0 y1 y2 y3 y4 y5 y6 y7 y8 y9) (shapesearchkeep_Src_List.j3 (k + 1) y0 y1 y2 y3 y4 y5 y6 y7 y8 y9))
 | 0=>⟨fun _ _ _ _ _ _ r h=>by simp [shapesearchkeep_Src_List.j0] at h,fun _ _ _ _ _ _ _ _ r h=>by simp [shapesearchkeep_Src_List.l0] at h,fun _ _ _ _ _ _ _ _ _ _ r h=>by simp [shapesearchkeep_Src_List.j2] at h,fun _ _ _ _ _ _ _ _ _ _ r h=>by simp [shapesearchkeep_Src_List.j3] at h⟩
 | k + 1=>by
  obtain ⟨ih0,ih1,ih2,ih3⟩:=shapesearchkeep_Src_List.mono_l k
  refine ⟨?_,?_,?_,?_⟩
  ·
   intro y0 y1 y2 y3 y4 y5
   unfold shapesearchkeep_Src_List.j0
   repeat' first
   | (with_reducible exact ih0 _ _ _ _ _ _)
   | (with_reducible exact ih1 _ _ _ _ _ _ _ _)
   | (with_reducible exact ih2 _ _ _ _ _ _ _ _ _ _)
   | (with_reducible exact ih3 _ _ _ _ _ _ _ _ _ _)
   | (with_reducible exact LeO.refl _)
   | (with_reducible exact LeO.none _)
   | (with_reducible refine LeO.ite ?_ ?_)
   | (with_reducible refine LeO.bind ?_ (fun _=>?_))
   | exact ih0 _ _ _ _ _ _
   | exact ih1 _ _ _ _ _ _ _ _
   | exact ih2 _ _ _ _ _ _ _ _ _ _
   | exact ih3 _ _ _ _ _ _ _ _ _ _
   | exact LeO.none _
   | refine LeO.ite ?_ ?_
   | refine LeO.bind ?_ (fun _=>?_)
  ·
   intro y0 y1 y2 y3 y4 y5 y6 y7
   unfold shapesearchkeep_Src_List.l0
   repeat' first
   | (with_reducible exact ih0 _ _ _ _ _ _)
   | (with_reducible exact ih1 _ _ _ _ _ _ _ _)
   | (with_reducible exact ih2 _ _ _ _ _ _ _ _ _ _)
   | (with_reducible exact ih3 _ _ _ _ _ _ _ _ _ _)
   | (with_reducible exact LeO.refl _)
   | (with_reducible exact LeO.none _)
   | (with_reducible refine LeO.ite ?_ ?_)
   | (with_reducible refine LeO.bind ?_ (fun _=>?_))
   | exact ih0 _ _ _ _ _ _
   | exact ih1 _ _ _ _ _ _ _ _
   | exact ih2 _ _ _ _ _ _ _ _ _ _
   | exact ih3 _ _ _ _ _ _ _ _ _ _
   | exact LeO.none _
   | refine LeO.ite ?_ ?_
   | refine LeO.bind ?_ (fun _=>?_)
  ·
   intro y0 y1 y2 y3 y4 y5 y6 y7 y8 y9
   unfold shapesearchkeep_Src_List.j2
   repeat' first
   | (with_reducible exact ih0 _ _ _ _ _ _)
   | (with_reducible exact ih1 _ _ _ _ _ _ _ _)
   | (with_reducible exact ih2 _ _ _ _ _ _ _ _ _ _)
   | (with_reducible exact ih3 _ _ _ _ _ _ _ _ _ _)
   | (with_reducible exact LeO.refl _)
   | (with_reducible exact LeO.none _)
   | (with_reducible refine LeO.ite ?_ ?_)
   | (with_reducible refine LeO.bind ?_ (fun _=>?_))
   | exact ih0 _ _ _ _ _ _
   | exact ih1 _ _ _ _ _ _ _ _
   | exact ih2 _ _ _ _ _ _ _ _ _ _
   | exact ih3 _ _ _ _ _ _ _ _ _ _
   | exact LeO.none _
   | refine LeO.ite ?_ ?_
   | refine LeO.bind ?_ (fun _=>?_)
  ·
   intro y0 y1 y2 y3 y4 y5 y6 y7 y8 y9
   unfold shapesearchkeep_Src_List.j3
   repeat' first
   | (with_reducible exact ih0 _ _ _ _ _ _)
   | (with_reducible exact ih1 _ _ _ _ _ _ _ _)
   | (with_reducible exact ih2 _ _ _ _ _ _ _ _ _ _)
   | (with_reducible exact ih3 _ _ _ _ _ _ _ _ _ _)
   | (with_reducible exact LeO.refl _)
   | (with_reducible exact LeO.none _)
   | (with_reducible refine LeO.ite ?_ ?_)
   | (with_reducible refine LeO.bind ?_ (fun _=>?_))
   | exact ih0 _ _ _ _ _ _
   | exact ih1 _ _ _ _ _ _ _ _
   | exact ih2 _ _ _ _ _ _ _ _ _ _
   | exact ih3 _ _ _ _ _ _ _ _ _ _
   | exact LeO.none _
   | refine LeO.ite ?_ ?_
   | refine LeO.bind ?_ (fun _=>?_)
theorem shapesearchkeep_Src_List.mono : ∀ a0 a1 a2 k,LeO (shapesearchkeep_Src_List.f k a0 a1 a2) (shapesearchkeep_Src_List.f (k + 1) a0 a1 a2):=by
 intro a0 a1 a2 k
 obtain ⟨ih0,ih1,ih2,ih3⟩:=shapesearchkeep_Src_List.mono_l k
 unfold shapesearchkeep_Src_List.f
 repeat' first
   | (with_reducible exact ih0 _ _ _ _ _ _)
   | (with_reducible exact ih1 _ _ _ _ _ _ _ _)
   | (with_reducible exact ih2 _ _ _ _ _ _ _ _ _ _)
   | (with_reducible exact ih3 _ _ _ _ _ _ _ _ _ _)
   | (with_reducible exact LeO.refl _)
   | (with_reducible exact LeO.none _)
   | (with_reducible refine LeO.ite ?_ ?_)
   | (with_reducible refine LeO.bind ?_ (fun _=>?_))
   | exact ih0 _ _ _ _ _ _
   | exact ih1 _ _ _ _ _ _ _ _
   | exact ih2 _ _ _ _ _ _ _ _ _ _
   | exact ih3 _ _ _ _ _ _ _ _ _ _
   | exact LeO.none _
   | refine LeO.ite ?_ ?_
   | refine LeO.bind ?_ (fun _=>?_)
set_option maxHeartbeats 8000000 in
set_option maxRecDepth 100000 in
theorem shapesearchkeep_Src_List.calls (k : Nat) (g : Nat) (s0_0 : List Int) (s0_1 : Int) (a1 : Int) (r1 : List Int) (r2 : Int) (w0 w : World) (hI : IsS56 w0 w g s0_0 s0_1) (hB : Below w0.heap.size w0 w) (h : shapesearchkeep_Src_List.f k s0_0 s0_1 a1 = some (r1,r2)) :
  Calls Try.prog 20 #[.pointer (some ⟨g,0,none⟩),.int .i64 a1] w fun e w'=>∃ v0_ : Value,e = .returned (v0_)∧Kd.R (Kd.int .i64) 3 w' w.heap.size (fun _=>True) v0_ r1∧IsS56 w0 w' g s0_0 r2∧Below w0.heap.size w0 w'∧KeepBut w w' g none:=by
 have HI0:=A_ hI
 have HK:=A_ (KeepBut.refl w g none)
 have HL:=A_ hB.size
 clear hI
 have HW0:=A_ hB.size
 have HB:=A_ hB
 clear hB
 have H : ((shapesearchkeep_Src_N.f s0_0 s0_1 6).bind fun bt238=>((shapesearchkeep_Src_Pick.f s0_0 bt238.2 (([1,3,10,100,1000] : List Int))).bind fun bt243=>((shapesearchkeep_Src_N.f s0_0 bt243.2 3).bind fun bt245=>(if bt245.1 = 0 then ((shapesearchkeep_Src_Range.f s0_0 bt245.2 (-1000) 1000).bind fun bt247=>(shapesearchkeep_Src_List.j0 k a1 bt238.1 bt243.1 bt247.1 s0_0 bt247.2)) else (shapesearchkeep_Src_List.j0 k a1 bt238.1 bt243.1 0 s0_0 bt245.2))))) = some (r1,r2):=h
 clear h
 replace H:=Option.bind_eq_some_iff.mp H
 obtain ⟨⟨t238,t239⟩,A30,H⟩:=H
 replace H : ((shapesearchkeep_Src_Pick.f s0_0 t239 (([1,3,10,100,1000] : List Int))).bind fun bt243=>((shapesearchkeep_Src_N.f s0_0 bt243.2 3).bind fun bt245=>(if bt245.1 = 0 then ((shapesearchkeep_Src_Range.f s0_0 bt245.2 (-1000) 1000).bind fun bt247=>(shapesearchkeep_Src_List.j0 k a1 t238 bt243.1 bt247.1 s0_0 bt247.2)) else (shapesearchkeep_Src_List.j0 k a1 t238 bt243.1 0 s0_0 bt245.2)))) = some (r1,r2):=H
 have A3:=A_ A30
 clear A30
 obtain ⟨y240,hy240⟩ : ∃ y_ : List Int,y_ = (([1,3,10,100,1000] : List Int)):=⟨_,rfl⟩
 replace H : ((shapesearchkeep_Src_Pick.f s0_0 t239 y240).bind fun bt243=>((shapesearchkeep_Src_N.f s0_0 bt243.2 3).bind fun bt245=>(if bt245.1 = 0 then ((shapesearchkeep_Src_Range.f s0_0 bt245.2 (-1000) 1000).bind fun bt247=>(shapesearchkeep_Src_List.j0 k a1 t238 bt243.1 bt247.1 s0_0 bt247.2)) else (shapesearchkeep_Src_List.j0 k a1 t238 bt243.1 0 s0_0 bt245.2)))) = some (r1,r2):=by first|(rw [hy240];with_reducible exact H)|(have H2_:=(Option.bind_some _ _).symm.trans H;rw [hy240];with_reducible exact H2_)|(have H2_:=(Option.bind_some _ _).symm.trans H;with_reducible exact H2_)|with_reducible exact H|(rw [hy240];exact H)|exact H
 have Ny240:=A_ hy240
 clear hy240
 replace H:=Option.bind_eq_some_iff.mp H
 obtain ⟨⟨t243,t244⟩,A40,H⟩:=H
 replace H : ((shapesearchkeep_Src_N.f s0_0 t244 3).bind fun bt245=>(if bt245.1 = 0 then ((shapesearchkeep_Src_Range.f s0_0 bt245.2 (-1000) 1000).bind fun bt247=>(shapesearchkeep_Src_List.j0 k a1 t238 t243 bt247.1 s0_0 bt247.2)) else (shapesearchkeep_Src_List.j0 k a1 t238 t243 0 s0_0 bt245.2))) = some (r1,r2):=H
 have A4:=A_ A40
 clear A40
 replace H:=Option.bind_eq_some_iff.mp H
 obtain ⟨⟨t245,t246⟩,A50,H⟩:=H
 replace H : (if t245 = 0 then ((shapesearchkeep_Src_Range.f s0_0 t246 (-1000) 1000).bind fun bt247=>(shapesearchkeep_Src_List.j0 k a1 t238 t243 bt247.1 s0_0 bt247.2)) else (shapesearchkeep_Src_List.j0 k a1 t238 t243 0 s0_0 t246)) = some (r1,r2):=H
 have A5:=A_ A50
 clear A50
 have HC6:=A_ H
 clear H
 go_enter Try.func20,Try.ntmps20
 go_upto_if 17 with (first|((with_reducible refine gate_callee (f:=24) rfl ?_);refine goesL_ (some 11) rfl rfl Try.func24 (by kernel_rfl) rfl #[.pointer (some ⟨g,0,none⟩),.int .i64 6] rfl (by (try simp only [List.map_toArray,List.map_cons,List.map_nil]);first|done|rfl|(simp only [List.length_drop,List.length_take];rfl)) ?_;(with_reducible refine (shapesearchkeep_Src_N.calls g s0_0 s0_1 6 t238 t239 w0 _ ?side1 ?side2 A3.out).mono ?_);(case side1=>repeat (first|(with_reducible first|exact HI0.out|apply IsS56.alloc|apply IsS56.drewN|apply IsS56.drew|apply IsS56.set_1)|exact HI0.out));(case side2=>repeat (first|(with_reducible first|exact HB.out|apply ba|apply bb|apply bc|refine below_set ?_ (IsS56.ge HI0.out))|exact HB.out));rintro e w7 ⟨rfl,hi,hb,hk⟩;refine ⟨_,rfl,?_⟩;have n0_:=A_ (KeepBut.trans (by repeat (first|(with_reducible first|exact HK.out|apply KeepBut.set_|apply keep_drewN|apply keep_drew|apply keep_alloc)|exact HK.out)) hk (.inl rfl));have n1_:=A_ (hb);have n2_:=A_ (hi);clear HK;clear HB;clear HI0;have HK:=n0_;have HB:=n1_;have HI0:=n2_;clear n0_ n1_ n2_;(try clear hb);(try clear hb2);(try clear hk);(try clear hi))|((with_reducible refine gate_dst (N:=13) rfl ?_);refine Kd.R_lit (Kd.int .i64) _ 3 ?hg (N:=13) ?hd (xs:=([1,3,10,100,1000] : List Int)) (inner:=[.int .i64 1,.int .i64 3,.int .i64 10,.int .i64 100,.int .i64 1000]) (ok:=fun _=>True) (okp:=fun _=>True) ?hr ?hp (fun _ hk=>hk) trivial (Below.refl _ _) (Nat.le_refl _) (by simp) ?_;(case hd=>rfl);(case hg=>rfl);(case hr=>first|(go_simp;done)|(go_simp;rfl));(case hp=>exact (Reps.one (show Kd.M (Kd.int .i64) _ _ _ 1 [.int .i64 1] from rfl) (Reps.one (show Kd.M (Kd.int .i64) _ _ _ 3 [.int .i64 3] from rfl) (Reps.one (show Kd.M (Kd.int .i64) _ _ _ 10 [.int .i64 10] from rfl) (Reps.one (show Kd.M (Kd.int .i64) _ _ _ 100 [.int .i64 100] from rfl) (Reps.one (show Kd.M (Kd.int .i64) _ _ _ 1000 [.int .i64 1000] from rfl) (Reps.none _ _)))))));intro v241 w8 ho9 hb hg_ hnew_;clear hg_ hnew_;(first|rw [← Ny240.out] at ho9|(simp only [Int.reduceToNat] at ho9;rw [← Ny240.out] at ho9));have n0_:=A_ (Kd.R_lower ho9 (keep_size (w:=w) (g:=g) (row:=none) (by repeat (first|(with_reducible first|exact HK.out|apply KeepBut.set_|apply keep_drewN|apply keep_drew|apply keep_alloc)|exact HK.out))));have n1_:=A_ (IsS56.below (by repeat (first|(with_reducible first|exact HI0.out|apply IsS56.alloc|apply IsS56.drewN|apply IsS56.drew|apply IsS56.set_1)|exact HI0.out)) hb);have n2_:=A_ (KeepBut.trans (by repeat (first|(with_reducible first|exact HK.out|apply KeepBut.set_|apply keep_drewN|apply keep_drew|apply keep_alloc)|exact HK.out)) (KeepBut.of_below hb g none) (.inl rfl));have n3_:=A_ (below_step (by repeat (first|(with_reducible first|exact HB.out|apply ba|apply bb|apply bc|refine below_set ?_ (IsS56.ge HI0.out))|exact HB.out)) hb);clear HI0;clear HK;clear HB;have HO242:=n0_;have HI0:=n1_;have HK:=n2_;have HB:=n3_;clear n0_ n1_ n2_ n3_;clear hb ho9;obtain ⟨Ao10,co10,eo10⟩:=Kd.R_slice HO242.out;subst eo10)|((with_reducible refine gate_callee (f:=47) rfl ?_);refine goesL_ (some 14) rfl rfl Try.func47 (by kernel_rfl) rfl #[.pointer (some ⟨g,0,none⟩),.slice Ao10 y240.length co10] rfl (by (try simp only [List.map_toArray,List.map_cons,List.map_nil]);first|done|rfl|(simp only [List.length_drop,List.length_take];rfl)) ?_;(with_reducible refine (shapesearchkeep_Src_Pick.calls g s0_0 t239 _ _ y240 t243 t244 w0 _ ?side1 ?side2 ?side3 ?side4 ?side5 A4.out).mono ?_);(case side1=>repeat (first|(with_reducible first|exact HI0.out|apply IsS56.alloc|apply IsS56.drewN|apply IsS56.drew|apply IsS56.set_1)|exact HI0.out));(case side2=>repeat (first|(with_reducible first|exact HB.out|apply ba|apply bb|apply bc|refine below_set ?_ (IsS56.ge HI0.out))|exact HB.out));(case side3=>repeat (first|exact (rd_ HO242.out).2.2|(with_reducible refine ca ?_ _)|(with_reducible refine cb ?_ _)|(with_reducible refine cc ?_)));(case side4=>exact (rd_ HO242.out).2.1);(case side5=>exact far_slice (IsS56.own_ne HI0.out HO242.out (by decide)));rintro e w11 ⟨rfl,hi,hb,hk⟩;refine ⟨_,rfl,?_⟩;have n0_:=A_ (rm (Kd.R_keep (IsS56.apart (show IsS56 w0 _ g s0_0 t239 from by repeat (first|(with_reducible first|exact HI0.out|apply IsS56.alloc|apply IsS56.drewN|apply IsS56.drew|apply IsS56.set_1)|exact HI0.out)) (by (with_reducible repeat (first|apply ra|apply rb|apply rc));exact HO242.out) (by decide)) hk (fun _ h=>h.2)) (fun _ h=>h.1));have n1_:=A_ (KeepBut.trans (by repeat (first|(with_reducible first|exact HK.out|apply KeepBut.set_|apply keep_drewN|apply keep_drew|apply keep_alloc)|exact HK.out)) hk (.inl rfl));have n2_:=A_ (hb);have n3_:=A_ (hi);clear HO242;clear HK;clear HB;clear HI0;have HO242:=n0_;have HK:=n1_;have HB:=n2_;have HI0:=n3_;clear n0_ n1_ n2_ n3_;(try clear hb);(try clear hb2);(try clear hk);(try clear hi))|((with_reducible refine gate_callee (f:=24) rfl ?_);refine goesL_ (some 16) rfl rfl Try.func24 (by kernel_rfl) rfl #[.pointer (some ⟨g,0,none⟩),.int .i64 3] rfl (by (try simp only [List.map_toArray,List.map_cons,List.map_nil]);first|done|rfl|(simp only [List.length_drop,List.length_take];rfl)) ?_;(with_reducible refine (shapesearchkeep_Src_N.calls g s0_0 t244 3 t245 t246 w0 _ ?side1 ?side2 A5.out).mono ?_);(case side1=>repeat (first|(with_reducible first|exact HI0.out|apply IsS56.alloc|apply IsS56.drewN|apply IsS56.drew|apply IsS56.set_1)|exact HI0.out));(case side2=>repeat (first|(with_reducible first|exact HB.out|apply ba|apply bb|apply bc|refine below_set ?_ (IsS56.ge HI0.out))|exact HB.out));rintro e w12 ⟨rfl,hi,hb,hk⟩;refine ⟨_,rfl,?_⟩;have n0_:=A_ (rm (Kd.R_keep (IsS56.apart (show IsS56 w0 _ g s0_0 t244 from by repeat (first|(with_reducible first|exact HI0.out|apply IsS56.alloc|apply IsS56.drewN|apply IsS56.drew|apply IsS56.set_1)|exact HI0.out)) (by (with_reducible repeat (first|apply ra|apply rb|apply rc));exact HO242.out) (by decide)) hk (fun _ h=>h.2)) (fun _ h=>h.1));have n1_:=A_ (KeepBut.trans (by repeat (first|(with_reducible first|exact HK.out|apply KeepBut.set_|apply keep_drewN|apply keep_drew|apply keep_alloc)|exact HK.out)) hk (.inl rfl));have n2_:=A_ (hb);have n3_:=A_ (hi);clear HO242;clear HK;clear HB;clear HI0;have HO242:=n0_;have HK:=n1_;have HB:=n2_;have HI0:=n3_;clear n0_ n1_ n2_ n3_;(try clear hb);(try clear hb2);(try clear hk);(try clear hi)))
 (try simp only [Act.put,List.setIfInBounds_toArray,List.set_cons_zero,List.set_cons_succ])
 go_cut [7] (fun v7 wc=>∃ (kq : Nat) (x7_5 : Int) (x1001_5 : Int),v7 = .int .i64 x7_5∧Aside0 (shapesearchkeep_Src_List.j0 kq a1 t238 t243 x7_5 s0_0 x1001_5 = some (r1,r2))∧Aside0 (kq ≤ k)∧Aside0 (IsS56 w0 wc g s0_0 x1001_5)∧Aside0 (KeepBut w wc g none)∧Aside0 (Below w0.heap.size w0 wc))
 case first =>
  have H:=HC6.out
  clear HC6
  by_cases c13 : t245 = 0
  ·
   rw [if_pos c13] at H
   have c13b0 : (t245 == 0) = true:=beq_iff_eq.mpr c13
   have c13b1 : (t245 != 0) = false:=bne_eq_false_iff_eq.mpr c13
   clear c13
   (first|rw [c13b0]|(simp only [i64_w,i32_w];rw [c13b0])|skip)
   replace H:=Option.bind_eq_some_iff.mp H
   obtain ⟨⟨t247,t248⟩,A140,H⟩:=H
   replace H : (shapesearchkeep_Src_List.j0 k a1 t238 t243 t247 s0_0 t248) = some (r1,r2):=H
   have A14:=A_ A140
   clear A140
   have H':=A_ H
   clear H
   go_wp2_with (first|((with_reducible refine gate_callee (f:=45) rfl ?_);refine goesL_ (some 19) rfl rfl Try.func45 (by kernel_rfl) rfl #[.pointer (some ⟨g,0,none⟩),.int .i64 (-1000),.int .i64 1000] rfl (by (try simp only [List.map_toArray,List.map_cons,List.map_nil]);first|done|rfl|(simp only [List.length_drop,List.length_take];rfl)) ?_;(with_reducible refine (shapesearchkeep_Src_Range.calls g s0_0 t246 (-1000) 1000 t247 t248 w0 _ ?side1 ?side2 A14.out).mono ?_);(case side1=>repeat (first|(with_reducible first|exact HI0.out|apply IsS56.alloc|apply IsS56.drewN|apply IsS56.drew|apply IsS56.set_1)|exact HI0.out));(case side2=>repeat (first|(with_reducible first|exact HB.out|apply ba|apply bb|apply bc|refine below_set ?_ (IsS56.ge HI0.out))|exact HB.out));rintro e w15 ⟨rfl,hi,hb,hk⟩;refine ⟨_,rfl,?_⟩;have n0_:=A_ (rm (Kd.R_keep (IsS56.apart (show IsS56 w0 _ g s0_0 t246 from by repeat (first|(with_reducible first|exact HI0.out|apply IsS56.alloc|apply IsS56.drewN|apply IsS56.drew|apply IsS56.set_1)|exact HI0.out)) (by (with_reducible repeat (first|apply ra|apply rb|apply rc));exact HO242.out) (by decide)) hk (fun _ h=>h.2)) (fun _ h=>h.1));have n1_:=A_ (KeepBut.trans (by repeat (first|(with_reducible first|exact HK.out|apply KeepBut.set_|apply keep_drewN|apply keep_drew|apply keep_alloc)|exact HK.out)) hk (.inl rfl));have n2_:=A_ (hb);have n3_:=A_ (hi);clear HO242;clear HK;clear HB;clear HI0;have HO242:=n0_;have HK:=n1_;have HB:=n2_;have HI0:=n3_;clear n0_ n1_ n2_ n3_;(try clear hb);(try clear hb2);(try clear hk);(try clear hi)))
   go_meet
   case rel=>exact ⟨_,(t247),(t248),(by first|rfl|(simp;done)|(simp [*];done)),H',⟨by first|omega|exact Nat.le_refl _⟩,⟨by repeat (first|(with_reducible first|exact HI0.out|apply IsS56.alloc|apply IsS56.drewN|apply IsS56.drew|apply IsS56.set_1)|exact HI0.out)⟩,⟨by repeat (first|(with_reducible first|exact HK.out|apply KeepBut.set_|apply keep_drewN|apply keep_drew|apply keep_alloc)|exact HK.out)⟩,⟨by repeat (first|(with_reducible first|exact HB.out|apply ba|apply bb|apply bc|refine below_set ?_ (IsS56.ge HI0.out))|exact HB.out)⟩⟩
  ·
   rw [if_neg c13] at H
   have c13b0 : (t245 == 0) = false:=beq_eq_false_iff_ne.mpr c13
   have c13b1 : (t245 != 0) = true:=bne_iff_ne.mpr c13
   (first|rw [c13b0]|(simp only [i64_w,i32_w];rw [c13b0])|skip)
   have H':=A_ H
   clear H
   go_wp2
   go_meet
   case rel=>exact ⟨_,(0),(t246),(by first|rfl|(simp;done)|(simp [*];done)),H',⟨by first|omega|exact Nat.le_refl _⟩,⟨by repeat (first|(with_reducible first|exact HI0.out|apply IsS56.alloc|apply IsS56.drewN|apply IsS56.drew|apply IsS56.set_1)|exact HI0.out)⟩,⟨by repeat (first|(with_reducible first|exact HK.out|apply KeepBut.set_|apply keep_drewN|apply keep_drew|apply keep_alloc)|exact HK.out)⟩,⟨by repeat (first|(with_reducible first|exact HB.out|apply ba|apply bb|apply bc|refine below_set ?_ (IsS56.ge HI0.out))|exact HB.out)⟩⟩
 case rest =>
  clear HC6
  try clear c1
  try clear c2
  try clear p2
  try clear c4
  try clear c13
  try clear c13b0
  try clear c13b1
  obtain ⟨kq,x7_5,x1001_5,rfl,HA,HJ5,HI0,HK,HB⟩:=hcut
  cases kq with
  | zero=>exact absurd HA.out (by simp [shapesearchkeep_Src_List.j0])
  | succ kj5 =>
   have H:=HA.out
   clear HA
   simp only [shapesearchkeep_Src_List.j0] at H
   have H':=A_ H
   clear H
   go_wp2
   go_loopg [7,8,9] kj5 (fun kq v7 v8 v9 w'=>∃ (x7_2 : Int) (x8_2 : List Int) (x9_2 : Int) (x1001_2 : Int),v7 = .int .i64 x7_2∧v9 = .int .i64 x9_2∧Aside0 (shapesearchkeep_Src_List.l0 kq a1 t238 t243 x7_2 x8_2 x9_2 s0_0 x1001_2 = some (r1,r2))∧Aside0 (kq ≤ kj5)∧Aside0 (Kd.R (Kd.int .i64) 3 w' w.heap.size (fun _=>True) v8 x8_2)∧Aside0 (IsS56 w0 w' g s0_0 x1001_2)∧Aside0 (KeepBut w w' g none)∧Aside0 (Below w0.heap.size w0 w'))
   case atStart=>exact ⟨(x7_5),(([] : List Int)),(0),(x1001_5),(by first|rfl|(simp;done)|(simp [*];done)),(by first|rfl|(simp;done)|(simp [*];done)),H',⟨Nat.le_refl _⟩,⟨by first|exact Kd.R_nil _ _ _ _ _|exact Kd.N_nil _ _ _ _ _|exact Kd.V_nil _ _ _ _ _|exact Kd.Q_nil _ _ _ _ _|exact Kd.S_nil _ _ _ _ _⟩,⟨by repeat (first|(with_reducible first|exact HI0.out|apply IsS56.alloc|apply IsS56.drewN|apply IsS56.drew|apply IsS56.set_1)|exact HI0.out)⟩,⟨by repeat (first|(with_reducible first|exact HK.out|apply KeepBut.set_|apply keep_drewN|apply keep_drew|apply keep_alloc)|exact HK.out)⟩,⟨by repeat (first|(with_reducible first|exact HB.out|apply ba|apply bb|apply bc|refine below_set ?_ (IsS56.ge HI0.out))|exact HB.out)⟩⟩
   case round =>
    clear H'
    try clear c1
    try clear c2
    try clear p2
    try clear c4
    try clear c13
    try clear c13b0
    try clear c13b1
    try clear p2
    obtain ⟨x7_2,x8_2,x9_2,x1001_2,rfl,rfl,HA,HK2,HO_8,HI0,HK,HB⟩:=hrel
    cases gk with
    | zero=>exact absurd HA.out (by simp [shapesearchkeep_Src_List.l0])
    | succ k2 =>
     have H:=HA.out
     clear HA
     simp only [shapesearchkeep_Src_List.l0] at H
     by_cases c16 : x9_2 < a1
     ·
      rw [if_pos c16] at H
      have c16b0 : decide (x9_2 < a1) = true:=decide_eq_true c16
      clear c16
      have HC17:=A_ H
      clear H
      go_upto_if 32 with (fail)
      go_cut [32] (fun v32 wc=>∃ (kq : Nat) (x32_16 : Bool),v32 = .bool x32_16∧Aside0 (shapesearchkeep_Src_List.j2 kq a1 t238 t243 x7_2 x8_2 x9_2 t238 x32_16 s0_0 x1001_2 = some (r1,r2))∧Aside0 (kq ≤ k2)∧Aside0 (Kd.R (Kd.int .i64) 3 wc w.heap.size (fun _=>True) u8 x8_2)∧Aside0 (IsS56 w0 wc g s0_0 x1001_2)∧Aside0 (KeepBut w wc g none)∧Aside0 (Below w0.heap.size w0 wc))
      case first =>
       have H:=HC17.out
       clear HC17
       by_cases c18 : t238 = 0
       ·
        rw [if_pos c18] at H
        have c18b0 : (t238 == 0) = true:=beq_iff_eq.mpr c18
        have c18b1 : (t238 != 0) = false:=bne_eq_false_iff_eq.mpr c18
        clear c18
        (first|rw [c18b0]|(simp only [i64_w,i32_w];rw [c18b0])|skip)
        have H':=A_ H
        clear H
        go_wp2
        go_meet
        case rel=>exact ⟨_,((t238 == 0)),(by first|rfl|(simp;done)|(simp [*];done)),H',⟨by have:=HJ5.out;have:=HK2.out;first|omega|exact Nat.le_refl _⟩,⟨by (with_reducible repeat (first|apply ra|apply rb|apply rc));exact HO_8.out⟩,⟨by repeat (first|(with_reducible first|exact HI0.out|apply IsS56.alloc|apply IsS56.drewN|apply IsS56.drew|apply IsS56.set_1)|exact HI0.out)⟩,⟨by repeat (first|(with_reducible first|exact HK.out|apply KeepBut.set_|apply keep_drewN|apply keep_drew|apply keep_alloc)|exact HK.out)⟩,⟨by repeat (first|(with_reducible first|exact HB.out|apply ba|apply bb|apply bc|refine below_set ?_ (IsS56.ge HI0.out))|exact HB.out)⟩⟩
       ·
        rw [if_neg c18] at H
        have c18b0 : (t238 == 0) = false:=beq_eq_false_iff_ne.mpr c18
        have c18b1 : (t238 != 0) = true:=bne_iff_ne.mpr c18
        (first|rw [c18b0]|(simp only [i64_w,i32_w];rw [c18b0])|skip)
        have H':=A_ H
        clear H
        go_wp2
        go_meet
        case rel=>exact ⟨_,((t238 == 1)),(by first|rfl|(simp;done)|(simp [*];done)),H',⟨by have:=HJ5.out;have:=HK2.out;first|omega|exact Nat.le_refl _⟩,⟨by (with_reducible repeat (first|apply ra|apply rb|apply rc));exact HO_8.out⟩,⟨by repeat (first|(with_reducible first|exact HI0.out|apply IsS56.alloc|apply IsS56.drewN|apply IsS56.drew|apply IsS56.set_1)|exact HI0.out)⟩,⟨by repeat (first|(with_reducible first|exact HK.out|apply KeepBut.set_|apply keep_drewN|apply keep_drew|apply keep_alloc)|exact HK.out)⟩,⟨by repeat (first|(with_reducible first|exact HB.out|apply ba|apply bb|apply bc|refine below_set ?_ (IsS56.ge HI0.out))|exact HB.out)⟩⟩
      case rest =>
       clear HC17
       try clear c1
       try clear c2
       try clear p2
       try clear c4
       try clear c13
       try clear c13b0
       try clear c13b1
       try clear c16
       try clear c16b0
       try clear c18
       try clear c18b0
       try clear c18b1
       try clear p2
       obtain ⟨kq,x32_16,rfl,HA,HJ16,HO_8,HI0,HK,HB⟩:=hcut
       cases kq with
       | zero=>exact absurd HA.out (by simp [shapesearchkeep_Src_List.j2])
       | succ kj16 =>
        have H:=HA.out
        clear HA
        simp only [shapesearchkeep_Src_List.j2] at H
        by_cases c19 : x32_16 = true
        ·
         subst c19
         have H1 : ((shapesearchkeep_Src_Range.f s0_0 x1001_2 (wrap64 (-t243)) t243).bind fun bt249=>(if x8_2.length < 17592186044416 then (shapesearchkeep_Src_List.l0 kj16 a1 t238 t243 x7_2 (x8_2 ++ [bt249.1]) (wrap64 (x9_2 + 1)) s0_0 bt249.2) else (none))) = some (r1,r2):=by rw [if_pos rfl] at H;exact H
         clear H
         have H:=H1
         clear H1
         replace H:=Option.bind_eq_some_iff.mp H
         obtain ⟨⟨t249,t250⟩,A200,H⟩:=H
         replace H : (if x8_2.length < 17592186044416 then (shapesearchkeep_Src_List.l0 kj16 a1 t238 t243 x7_2 (x8_2 ++ [t249]) (wrap64 (x9_2 + 1)) s0_0 t250) else (none)) = some (r1,r2):=H
         have A20:=A_ A200
         clear A200
         by_cases c21 : x8_2.length < 17592186044416
         ·
          rw [if_pos c21] at H
          have LMc21:=A_ c21
          clear c21
          obtain ⟨y251,hy251⟩ : ∃ y_ : List Int,y_ = (x8_2 ++ [t249]):=⟨_,rfl⟩
          replace H : (shapesearchkeep_Src_List.l0 kj16 a1 t238 t243 x7_2 y251 (wrap64 (x9_2 + 1)) s0_0 t250) = some (r1,r2):=by first|(rw [hy251];with_reducible exact H)|(have H2_:=(Option.bind_some _ _).symm.trans H;rw [hy251];with_reducible exact H2_)|(have H2_:=(Option.bind_some _ _).symm.trans H;with_reducible exact H2_)|with_reducible exact H|(rw [hy251];exact H)|exact H
          have Ny251:=A_ hy251
          clear hy251
          have H':=A_ H
          clear H
          go_wp2_with (first|((with_reducible refine gate_callee (f:=45) rfl ?_);refine goesL_ (some 40) rfl rfl Try.func45 (by kernel_rfl) rfl #[.pointer (some ⟨g,0,none⟩),.int .i64 (wrap64 (-t243)),.int .i64 t243] rfl (by (try simp only [List.map_toArray,List.map_cons,List.map_nil]);first|done|rfl|(simp only [List.length_drop,List.length_take];rfl)) ?_;(with_reducible refine (shapesearchkeep_Src_Range.calls g s0_0 x1001_2 (wrap64 (-t243)) t243 t249 t250 w0 _ ?side1 ?side2 A20.out).mono ?_);(case side1=>repeat (first|(with_reducible first|exact HI0.out|apply IsS56.alloc|apply IsS56.drewN|apply IsS56.drew|apply IsS56.set_1)|exact HI0.out));(case side2=>repeat (first|(with_reducible first|exact HB.out|apply ba|apply bb|apply bc|refine below_set ?_ (IsS56.ge HI0.out))|exact HB.out));rintro e w22 ⟨rfl,hi,hb,hk⟩;refine ⟨_,rfl,?_⟩;have n0_:=A_ (rm (Kd.R_keep (IsS56.apart (show IsS56 w0 _ g s0_0 x1001_2 from by repeat (first|(with_reducible first|exact HI0.out|apply IsS56.alloc|apply IsS56.drewN|apply IsS56.drew|apply IsS56.set_1)|exact HI0.out)) (by (with_reducible repeat (first|apply ra|apply rb|apply rc));exact HO_8.out) (by decide)) hk (fun _ h=>h.2)) (fun _ h=>h.1));have n1_:=A_ (KeepBut.trans (by repeat (first|(with_reducible first|exact HK.out|apply KeepBut.set_|apply keep_drewN|apply keep_drew|apply keep_alloc)|exact HK.out)) hk (.inl rfl));have n2_:=A_ (hb);have n3_:=A_ (hi);clear HO_8;clear HK;clear HB;clear HI0;have HO_8:=n0_;have HK:=n1_;have HB:=n2_;have HI0:=n3_;clear n0_ n1_ n2_ n3_;(try clear hb);(try clear hb2);(try clear hk);(try clear hi))|((with_reducible refine gate_builtin (b:=.append) (xs:=#[.tmp 35,.tmp 41]) rfl ?_);at_builtin;refine Kd.R_append (Kd.int .i64) w.heap.size rfl (.tmp 35) (.tmp 41) 22 3 (.int .i64 0) 8 rfl Try.underlying22 info3 rfl (by decide) (by omega) u8 x8_2 t249 [.int .i64 t249] (fun _=>True) (fun _=>False) rfl rfl ?aP (fun _ hk=>hk.elim) ?aF ?aO (Below.refl _ _) ?aS ?aL ?_;(case aP=>exact rfl);(case aF=>exact (fun _ _=>trivial));(case aO=>exact (by (with_reducible repeat (first|apply ra|apply rb|apply rc));exact HO_8.out));(case aS=>exact (keep_size (w:=w) (g:=g) (row:=none) (by repeat (first|(with_reducible first|exact HK.out|apply KeepBut.set_|apply keep_drewN|apply keep_drew|apply keep_alloc)|exact HK.out))));(case aL=>have:=LMc21.out;omega);intro v252 w23 ho hb hg hat;rw [← Ny251.out] at ho;have n0_:=A_ (IsS56.grown (by repeat (first|(with_reducible first|exact HI0.out|apply IsS56.alloc|apply IsS56.drewN|apply IsS56.drew|apply IsS56.set_1)|exact HI0.out)) hg (IsS56.own_ne HI0.out HO_8.out (by decide)));have n1_:=A_ (below_weaken (by repeat (first|(with_reducible first|exact HB.out|apply ba|apply bb|apply bc|refine below_set ?_ (IsS56.ge HI0.out))|exact HB.out)) HL.out hb);have n2_:=A_ (KeepBut.trans (by repeat (first|(with_reducible first|exact HK.out|apply KeepBut.set_|apply keep_drewN|apply keep_drew|apply keep_alloc)|exact HK.out)) (KeepBut.of_grown hg g) (Kd.R_base2 HO_8.out));have n3_:=A_ (ho);clear HI0;clear HB;clear HK;clear HO_8;have HI0:=n0_;have HB:=n1_;have HK:=n2_;have HO253:=n3_;clear n0_ n1_ n2_ n3_;clear ho hb hg hat))
          go_roundg kj16
          case measure=>have:=HJ5.out;have:=HK2.out;have:=HJ16.out;omega
          case rel=>exact ⟨(x7_2),(y251),(wrap64 (x9_2 + 1)),(t250),(by first|rfl|(simp;done)|(simp [*];done)),(by first|rfl|(simp;done)|(simp [*];done)),H',⟨by have:=HJ5.out;have:=HK2.out;have:=HJ16.out;omega⟩,⟨by (with_reducible repeat (first|apply ra|apply rb|apply rc));exact HO253.out⟩,⟨by repeat (first|(with_reducible first|exact HI0.out|apply IsS56.alloc|apply IsS56.drewN|apply IsS56.drew|apply IsS56.set_1)|exact HI0.out)⟩,⟨by repeat (first|(with_reducible first|exact HK.out|apply KeepBut.set_|apply keep_drewN|apply keep_drew|apply keep_alloc)|exact HK.out)⟩,⟨by repeat (first|(with_reducible first|exact HB.out|apply ba|apply bb|apply bc|refine below_set ?_ (IsS56.ge HI0.out))|exact HB.out)⟩⟩
         ·
          rw [if_neg c21] at H
          exact absurd H (by simp)
        ·
         replace c19:=Bool.eq_false_iff.mpr c19
         subst c19
         have H1 : (if t238 = 2 then (shapesearchkeep_Src_List.j3 kj16 a1 t238 t243 x7_2 x8_2 x9_2 t238 (t238 == 2) s0_0 x1001_2) else (shapesearchkeep_Src_List.j3 kj16 a1 t238 t243 x7_2 x8_2 x9_2 t238 (t238 == 3) s0_0 x1001_2)) = some (r1,r2):=by rw [if_neg (show ¬ (false = true) by decide)] at H;exact H
         clear H
         have H:=H1
         clear H1
         have HC24:=A_ H
         clear H
         go_upto_if 43 with (fail)
         go_cut [43] (fun v43 wc=>∃ (kq : Nat) (x43_23 : Bool),v43 = .bool x43_23∧Aside0 (shapesearchkeep_Src_List.j3 kq a1 t238 t243 x7_2 x8_2 x9_2 t238 x43_23 s0_0 x1001_2 = some (r1,r2))∧Aside0 (kq ≤ kj16)∧Aside0 (Kd.R (Kd.int .i64) 3 wc w.heap.size (fun _=>True) u8 x8_2)∧Aside0 (IsS56 w0 wc g s0_0 x1001_2)∧Aside0 (KeepBut w wc g none)∧Aside0 (Below w0.heap.size w0 wc))
         case first =>
          have H:=HC24.out
          clear HC24
          by_cases c25 : t238 = 2
          ·
           rw [if_pos c25] at H
           have c25b0 : (t238 == 2) = true:=beq_iff_eq.mpr c25
           have c25b1 : (t238 != 2) = false:=bne_eq_false_iff_eq.mpr c25
           clear c25
           (first|rw [c25b0]|(simp only [i64_w,i32_w];rw [c25b0])|skip)
           have H':=A_ H
           clear H
           go_wp2
           go_meet
           case rel=>exact ⟨_,((t238 == 2)),(by first|rfl|(simp;done)|(simp [*];done)),H',⟨by have:=HJ5.out;have:=HK2.out;have:=HJ16.out;first|omega|exact Nat.le_refl _⟩,⟨by (with_reducible repeat (first|apply ra|apply rb|apply rc));exact HO_8.out⟩,⟨by repeat (first|(with_reducible first|exact HI0.out|apply IsS56.alloc|apply IsS56.drewN|apply IsS56.drew|apply IsS56.set_1)|exact HI0.out)⟩,⟨by repeat (first|(with_reducible first|exact HK.out|apply KeepBut.set_|apply keep_drewN|apply keep_drew|apply keep_alloc)|exact HK.out)⟩,⟨by repeat (first|(with_reducible first|exact HB.out|apply ba|apply bb|apply bc|refine below_set ?_ (IsS56.ge HI0.out))|exact HB.out)⟩⟩
          ·
           rw [if_neg c25] at H
           have c25b0 : (t238 == 2) = false:=beq_eq_false_iff_ne.mpr c25
           have c25b1 : (t238 != 2) = true:=bne_iff_ne.mpr c25
           (first|rw [c25b0]|(simp only [i64_w,i32_w];rw [c25b0])|skip)
           have H':=A_ H
           clear H
           go_wp2
           go_meet
           case rel=>exact ⟨_,((t238 == 3)),(by first|rfl|(simp;done)|(simp [*];done)),H',⟨by have:=HJ5.out;have:=HK2.out;have:=HJ16.out;first|omega|exact Nat.le_refl _⟩,⟨by (with_reducible repeat (first|apply ra|apply rb|apply rc));exact HO_8.out⟩,⟨by repeat (first|(with_reducible first|exact HI0.out|apply IsS56.alloc|apply IsS56.drewN|apply IsS56.drew|apply IsS56.set_1)|exact HI0.out)⟩,⟨by repeat (first|(with_reducible first|exact HK.out|apply KeepBut.set_|apply keep_drewN|apply keep_drew|apply keep_alloc)|exact HK.out)⟩,⟨by repeat (first|(with_reducible first|exact HB.out|apply ba|apply bb|apply bc|refine below_set ?_ (IsS56.ge HI0.out))|exact HB.out)⟩⟩
         case rest =>
          clear HC24
          try clear c1
          try clear c2
          try clear p2
          try clear c4
          try clear p6
          try clear c13
          try clear c13b0
          try clear c13b1
          try clear c16
          try clear c16b0
          try clear c18
          try clear c18b0
          try clear c18b1
          try clear c19
          try clear c20
          try clear c21
          try clear c24
          try clear c25
          try clear c25b0
          try clear c25b1
          try clear p2
          obtain ⟨kq,x43_23,rfl,HA,HJ23,HO_8,HI0,HK,HB⟩:=hcut
          cases kq with
          | zero=>exact absurd HA.out (by simp [shapesearchkeep_Src_List.j3])
          | succ kj23 =>
           have H:=HA.out
           clear HA
           simp only [shapesearchkeep_Src_List.j3] at H
           by_cases c26 : x43_23 = true
           ·
            subst c26
            have H1 : ((shapesearchkeep_Src_Range.f s0_0 x1001_2 (wrap64 (-t243)) t243).bind fun bt254=>((shapesearchkeep_clip.f (wrap64 (x7_2 + bt254.1))).bind fun t256=>(if x8_2.length < 17592186044416 then (shapesearchkeep_Src_List.l0 kj23 a1 t238 t243 t256 (x8_2 ++ [t256]) (wrap64 (x9_2 + 1)) s0_0 bt254.2) else (none)))) = some (r1,r2):=by rw [if_pos rfl] at H;exact H
            clear H
            have H:=H1
            clear H1
            replace H:=Option.bind_eq_some_iff.mp H
            obtain ⟨⟨t254,t255⟩,A270,H⟩:=H
            replace H : ((shapesearchkeep_clip.f (wrap64 (x7_2 + t254))).bind fun t256=>(if x8_2.length < 17592186044416 then (shapesearchkeep_Src_List.l0 kj23 a1 t238 t243 t256 (x8_2 ++ [t256]) (wrap64 (x9_2 + 1)) s0_0 t255) else (none))) = some (r1,r2):=H
            have A27:=A_ A270
            clear A270
            replace H:=Option.bind_eq_some_iff.mp H
            obtain ⟨t256,A280,H⟩:=H
            replace H : (if x8_2.length < 17592186044416 then (shapesearchkeep_Src_List.l0 kj23 a1 t238 t243 t256 (x8_2 ++ [t256]) (wrap64 (x9_2 + 1)) s0_0 t255) else (none)) = some (r1,r2):=H
            have A28:=A_ A280
            clear A280
            by_cases c29 : x8_2.length < 17592186044416
            ·
             rw [if_pos c29] at H
             have LMc29:=A_ c29
             clear c29
             obtain ⟨y257,hy257⟩ : ∃ y_ : List Int,y_ = (x8_2 ++ [t256]):=⟨_,rfl⟩
             replace H : (shapesearchkeep_Src_List.l0 kj23 a1 t238 t243 t256 y257 (wrap64 (x9_2 + 1)) s0_0 t255) = some (r1,r2):=by first|(rw [hy257];with_reducible exact H)|(have H2_:=(Option.bind_some _ _).symm.trans H;rw [hy257];with_reducible exact H2_)|(have H2_:=(Option.bind_some _ _).symm.trans H;with_reducible exact H2_)|with_reducible exact H|(rw [hy257];exact H)|exact H
             have Ny257:=A_ hy257
             clear hy257
             have H':=A_ H
             clear H
             go_wp2_with (first|((with_reducible refine gate_callee (f:=45) rfl ?_);refine goesL_ (some 51) rfl rfl Try.func45 (by kernel_rfl) rfl #[.pointer (some ⟨g,0,none⟩),.int .i64 (wrap64 (-t243)),.int .i64 t243] rfl (by (try simp only [List.map_toArray,List.map_cons,List.map_nil]);first|done|rfl|(simp only [List.length_drop,List.length_take];rfl)) ?_;(with_reducible refine (shapesearchkeep_Src_Range.calls g s0_0 x1001_2 (wrap64 (-t243)) t243 t254 t255 w0 _ ?side1 ?side2 A27.out).mono ?_);(case side1=>repeat (first|(with_reducible first|exact HI0.out|apply IsS56.alloc|apply IsS56.drewN|apply IsS56.drew|apply IsS56.set_1)|exact HI0.out));(case side2=>repeat (first|(with_reducible first|exact HB.out|apply ba|apply bb|apply bc|refine below_set ?_ (IsS56.ge HI0.out))|exact HB.out));rintro e w30 ⟨rfl,hi,hb,hk⟩;refine ⟨_,rfl,?_⟩;have n0_:=A_ (rm (Kd.R_keep (IsS56.apart (show IsS56 w0 _ g s0_0 x1001_2 from by repeat (first|(with_reducible first|exact HI0.out|apply IsS56.alloc|apply IsS56.drewN|apply IsS56.drew|apply IsS56.set_1)|exact HI0.out)) (by (with_reducible repeat (first|apply ra|apply rb|apply rc));exact HO_8.out) (by decide)) hk (fun _ h=>h.2)) (fun _ h=>h.1));have n1_:=A_ (KeepBut.trans (by repeat (first|(with_reducible first|exact HK.out|apply KeepBut.set_|apply keep_drewN|apply keep_drew|apply keep_alloc)|exact HK.out)) hk (.inl rfl));have n2_:=A_ (hb);have n3_:=A_ (hi);clear HO_8;clear HK;clear HB;clear HI0;have HO_8:=n0_;have HK:=n1_;have HB:=n2_;have HI0:=n3_;clear n0_ n1_ n2_ n3_;(try clear hb);(try clear hb2);(try clear hk);(try clear hi))|((with_reducible refine gate_callee (f:=46) rfl ?_);refine goesL_ (some 53) rfl rfl Try.func46 (by kernel_rfl) rfl #[.int .i64 (wrap64 (x7_2 + t254))] rfl (by (try simp only [List.map_toArray,List.map_cons,List.map_nil]);first|done|rfl|(simp only [List.length_drop,List.length_take];rfl)) ?_;(with_reducible refine (shapesearchkeep_clip.calls (wrap64 (x7_2 + t254)) t256 _ A28.out).mono ?_);rintro e w31 ⟨rfl,hb⟩;refine ⟨_,rfl,?_⟩;have n0_:=A_ (rw_ (by (with_reducible repeat (first|apply ra|apply rb|apply rc));exact HO_8.out) hb);have n1_:=A_ (IsS56.below (by repeat (first|(with_reducible first|exact HI0.out|apply IsS56.alloc|apply IsS56.drewN|apply IsS56.drew|apply IsS56.set_1)|exact HI0.out)) hb);have n2_:=A_ (KeepBut.trans (by repeat (first|(with_reducible first|exact HK.out|apply KeepBut.set_|apply keep_drewN|apply keep_drew|apply keep_alloc)|exact HK.out)) (KeepBut.of_below hb g none) (.inl rfl));have n3_:=A_ (below_step (by repeat (first|(with_reducible first|exact HB.out|apply ba|apply bb|apply bc|refine below_set ?_ (IsS56.ge HI0.out))|exact HB.out)) hb);clear HO_8;clear HI0;clear HK;clear HB;have HO_8:=n0_;have HI0:=n1_;have HK:=n2_;have HB:=n3_;clear n0_ n1_ n2_ n3_;(try clear hb);(try clear hb2);(try clear hk);(try clear hi))|((with_reducible refine gate_builtin (b:=.append) (xs:=#[.tmp 54,.tmp 56]) rfl ?_);at_builtin;refine Kd.R_append (Kd.int .i64) w.heap.size rfl (.tmp 54) (.tmp 56) 22 3 (.int .i64 0) 8 rfl Try.underlying22 info3 rfl (by decide) (by omega) u8 x8_2 t256 [.int .i64 t256] (fun _=>True) (fun _=>False) rfl rfl ?aP (fun _ hk=>hk.elim) ?aF ?aO (Below.refl _ _) ?aS ?aL ?_;(case aP=>exact rfl);(case aF=>exact (fun _ _=>trivial));(case aO=>exact (by (with_reducible repeat (first|apply ra|apply rb|apply rc));exact HO_8.out));(case aS=>exact (keep_size (w:=w) (g:=g) (row:=none) (by repeat (first|(with_reducible first|exact HK.out|apply KeepBut.set_|apply keep_drewN|apply keep_drew|apply keep_alloc)|exact HK.out))));(case aL=>have:=LMc29.out;omega);intro v258 w32 ho hb hg hat;rw [← Ny257.out] at ho;have n0_:=A_ (IsS56.grown (by repeat (first|(with_reducible first|exact HI0.out|apply IsS56.alloc|apply IsS56.drewN|apply IsS56.drew|apply IsS56.set_1)|exact HI0.out)) hg (IsS56.own_ne HI0.out HO_8.out (by decide)));have n1_:=A_ (below_weaken (by repeat (first|(with_reducible first|exact HB.out|apply ba|apply bb|apply bc|refine below_set ?_ (IsS56.ge HI0.out))|exact HB.out)) HL.out hb);have n2_:=A_ (KeepBut.trans (by repeat (first|(with_reducible first|exact HK.out|apply KeepBut.set_|apply keep_drewN|apply keep_drew|apply keep_alloc)|exact HK.out)) (KeepBut.of_grown hg g) (Kd.R_base2 HO_8.out));have n3_:=A_ (ho);clear HI0;clear HB;clear HK;clear HO_8;have HI0:=n0_;have HB:=n1_;have HK:=n2_;have HO259:=n3_;clear n0_ n1_ n2_ n3_;clear ho hb hg hat))
             go_roundg kj23
             case measure=>have:=HJ5.out;have:=HK2.out;have:=HJ16.out;have:=HJ23.out;omega
             case rel=>exact ⟨(t256),(y257),(wrap64 (x9_2 + 1)),(t255),(by first|rfl|(simp;done)|(simp [*];done)),(by first|rfl|(simp;done)|(simp [*];done)),H',⟨by have:=HJ5.out;have:=HK2.out;have:=HJ16.out;have:=HJ23.out;omega⟩,⟨by (with_reducible repeat (first|apply ra|apply rb|apply rc));exact HO259.out⟩,⟨by repeat (first|(with_reducible first|exact HI0.out|apply IsS56.alloc|apply IsS56.drewN|apply IsS56.drew|apply IsS56.set_1)|exact HI0.out)⟩,⟨by repeat (first|(with_reducible first|exact HK.out|apply KeepBut.set_|apply keep_drewN|apply keep_drew|apply keep_alloc)|exact HK.out)⟩,⟨by repeat (first|(with_reducible first|exact HB.out|apply ba|apply bb|apply bc|refine below_set ?_ (IsS56.ge HI0.out))|exact HB.out)⟩⟩
            ·
             rw [if_neg c29] at H
             exact absurd H (by simp)
           ·
            replace c26:=Bool.eq_false_iff.mpr c26
            subst c26
            have H1 : (if t238 = 4 then ((shapesearchkeep_Src_N.f s0_0 x1001_2 4).bind fun bt260=>(if bt260.1 = 0 then ((shapesearchkeep_Src_Range.f s0_0 bt260.2 (wrap64 (-t243)) t243).bind fun bt262=>(if x8_2.length < 17592186044416 then (shapesearchkeep_Src_List.l0 kj23 a1 t238 t243 bt262.1 (x8_2 ++ [bt262.1]) (wrap64 (x9_2 + 1)) s0_0 bt262.2) else (none))) else (if x8_2.length < 17592186044416 then (shapesearchkeep_Src_List.l0 kj23 a1 t238 t243 x7_2 (x8_2 ++ [x7_2]) (wrap64 (x9_2 + 1)) s0_0 bt260.2) else (none)))) else ((shapesearchkeep_Src_Pick.f s0_0 x1001_2 (([(-1000),1000,1000,0] : List Int))).bind fun bt273=>(if x8_2.length < 17592186044416 then (shapesearchkeep_Src_List.l0 kj23 a1 t238 t243 x7_2 (x8_2 ++ [bt273.1]) (wrap64 (x9_2 + 1)) s0_0 bt273.2) else (none)))) = some (r1,r2):=by rw [if_neg (show ¬ (false = true) by decide)] at H;exact H
            clear H
            have H:=H1
            clear H1
            by_cases c33 : t238 = 4
            ·
             rw [if_pos c33] at H
             have c33b0 : (t238 == 4) = true:=beq_iff_eq.mpr c33
             have c33b1 : (t238 != 4) = false:=bne_eq_false_iff_eq.mpr c33
             clear c33
             replace H:=Option.bind_eq_some_iff.mp H
             obtain ⟨⟨t260,t261⟩,A340,H⟩:=H
             replace H : (if t260 = 0 then ((shapesearchkeep_Src_Range.f s0_0 t261 (wrap64 (-t243)) t243).bind fun bt262=>(if x8_2.length < 17592186044416 then (shapesearchkeep_Src_List.l0 kj23 a1 t238 t243 bt262.1 (x8_2 ++ [bt262.1]) (wrap64 (x9_2 + 1)) s0_0 bt262.2) else (none))) else (if x8_2.length < 17592186044416 then (shapesearchkeep_Src_List.l0 kj23 a1 t238 t243 x7_2 (x8_2 ++ [x7_2]) (wrap64 (x9_2 + 1)) s0_0 t261) else (none))) = some (r1,r2):=H
             have A34:=A_ A340
             clear A340
             by_cases c35 : t260 = 0
             ·
              rw [if_pos c35] at H
              have c35b0 : (t260 == 0) = true:=beq_iff_eq.mpr c35
              have c35b1 : (t260 != 0) = false:=bne_eq_false_iff_eq.mpr c35
              clear c35
              replace H:=Option.bind_eq_some_iff.mp H
              obtain ⟨⟨t262,t263⟩,A360,H⟩:=H
              replace H : (if x8_2.length < 17592186044416 then (shapesearchkeep_Src_List.l0 kj23 a1 t238 t243 t262 (x8_2 ++ [t262]) (wrap64 (x9_2 + 1)) s0_0 t263) else (none)) = some (r1,r2):=H
              have A36:=A_ A360
              clear A360
              by_cases c37 : x8_2.length < 17592186044416
              ·
               rw [if_pos c37] at H
               have LMc37:=A_ c37
               clear c37
               obtain ⟨y264,hy264⟩ : ∃ y_ : List Int,y_ = (x8_2 ++ [t262]):=⟨_,rfl⟩
               replace H : (shapesearchkeep_Src_List.l0 kj23 a1 t238 t243 t262 y264 (wrap64 (x9_2 + 1)) s0_0 t263) = some (r1,r2):=by first|(rw [hy264];with_reducible exact H)|(have H2_:=(Option.bind_some _ _).symm.trans H;rw [hy264];with_reducible exact H2_)|(have H2_:=(Option.bind_some _ _).symm.trans H;with_reducible exact H2_)|with_reducible exact H|(rw [hy264];exact H)|exact H
               have Ny264:=A_ hy264
               clear hy264
               have H':=A_ H
               clear H
               go_wp2_with (first|((with_reducible refine gate_callee (f:=24) rfl ?_);refine goesL_ (some 61) rfl rfl Try.func24 (by kernel_rfl) rfl #[.pointer (some ⟨g,0,none⟩),.int .i64 4] rfl (by (try simp only [List.map_toArray,List.map_cons,List.map_nil]);first|done|rfl|(simp only [List.length_drop,List.length_take];rfl)) ?_;(with_reducible refine (shapesearchkeep_Src_N.calls g s0_0 x1001_2 4 t260 t261 w0 _ ?side1 ?side2 A34.out).mono ?_);(case side1=>repeat (first|(with_reducible first|exact HI0.out|apply IsS56.alloc|apply IsS56.drewN|apply IsS56.drew|apply IsS56.set_1)|exact HI0.out));(case side2=>repeat (first|(with_reducible first|exact HB.out|apply ba|apply bb|apply bc|refine below_set ?_ (IsS56.ge HI0.out))|exact HB.out));rintro e w38 ⟨rfl,hi,hb,hk⟩;refine ⟨_,rfl,?_⟩;have n0_:=A_ (rm (Kd.R_keep (IsS56.apart (show IsS56 w0 _ g s0_0 x1001_2 from by repeat (first|(with_reducible first|exact HI0.out|apply IsS56.alloc|apply IsS56.drewN|apply IsS56.drew|apply IsS56.set_1)|exact HI0.out)) (by (with_reducible repeat (first|apply ra|apply rb|apply rc));exact HO_8.out) (by decide)) hk (fun _ h=>h.2)) (fun _ h=>h.1));have n1_:=A_ (KeepBut.trans (by repeat (first|(with_reducible first|exact HK.out|apply KeepBut.set_|apply keep_drewN|apply keep_drew|apply keep_alloc)|exact HK.out)) hk (.inl rfl));have n2_:=A_ (hb);have n3_:=A_ (hi);clear HO_8;clear HK;clear HB;clear HI0;have HO_8:=n0_;have HK:=n1_;have HB:=n2_;have HI0:=n3_;clear n0_ n1_ n2_ n3_;(try clear hb);(try clear hb2);(try clear hk);(try clear hi))|((with_reducible refine gate_callee (f:=45) rfl ?_);refine goesL_ (some 67) rfl rfl Try.func45 (by kernel_rfl) rfl #[.pointer (some ⟨g,0,none⟩),.int .i64 (wrap64 (-t243)),.int .i64 t243] rfl (by (try simp only [List.map_toArray,List.map_cons,List.map_nil]);first|done|rfl|(simp only [List.length_drop,List.length_take];rfl)) ?_;(with_reducible refine (shapesearchkeep_Src_Range.calls g s0_0 t261 (wrap64 (-t243)) t243 t262 t263 w0 _ ?side1 ?side2 A36.out).mono ?_);(case side1=>repeat (first|(with_reducible first|exact HI0.out|apply IsS56.alloc|apply IsS56.drewN|apply IsS56.drew|apply IsS56.set_1)|exact HI0.out));(case side2=>repeat (first|(with_reducible first|exact HB.out|apply ba|apply bb|apply bc|refine below_set ?_ (IsS56.ge HI0.out))|exact HB.out));rintro e w39 ⟨rfl,hi,hb,hk⟩;refine ⟨_,rfl,?_⟩;have n0_:=A_ (rm (Kd.R_keep (IsS56.apart (show IsS56 w0 _ g s0_0 t261 from by repeat (first|(with_reducible first|exact HI0.out|apply IsS56.alloc|apply IsS56.drewN|apply IsS56.drew|apply IsS56.set_1)|exact HI0.out)) (by (with_reducible repeat (first|apply ra|apply rb|apply rc));exact HO_8.out) (by decide)) hk (fun _ h=>h.2)) (fun _ h=>h.1));have n1_:=A_ (KeepBut.trans (by repeat (first|(with_reducible first|exact HK.out|apply KeepBut.set_|apply keep_drewN|apply keep_drew|apply keep_alloc)|exact HK.out)) hk (.inl rfl));have n2_:=A_ (hb);have n3_:=A_ (hi);clear HO_8;clear HK;clear HB;clear HI0;have HO_8:=n0_;have HK:=n1_;have HB:=n2_;have HI0:=n3_;clear n0_ n1_ n2_ n3_;(try clear hb);(try clear hb2);(try clear hk);(try clear hi))|((with_reducible refine gate_builtin (b:=.append) (xs:=#[.tmp 68,.tmp 70]) rfl ?_);at_builtin;refine Kd.R_append (Kd.int .i64) w.heap.size rfl (.tmp 68) (.tmp 70) 22 3 (.int .i64 0) 8 rfl Try.underlying22 info3 rfl (by decide) (by omega) u8 x8_2 t262 [.int .i64 t262] (fun _=>True) (fun _=>False) rfl rfl ?aP (fun _ hk=>hk.elim) ?aF ?aO (Below.refl _ _) ?aS ?aL ?_;(case aP=>exact rfl);(case aF=>exact (fun _ _=>trivial));(case aO=>exact (by (with_reducible repeat (first|apply ra|apply rb|apply rc));exact HO_8.out));(case aS=>exact (keep_size (w:=w) (g:=g) (row:=none) (by repeat (first|(with_reducible first|exact HK.out|apply KeepBut.set_|apply keep_drewN|apply keep_drew|apply keep_alloc)|exact HK.out))));(case aL=>have:=LMc37.out;omega);intro v265 w40 ho hb hg hat;rw [← Ny264.out] at ho;have n0_:=A_ (IsS56.grown (by repeat (first|(with_reducible first|exact HI0.out|apply IsS56.alloc|apply IsS56.drewN|apply IsS56.drew|apply IsS56.set_1)|exact HI0.out)) hg (IsS56.own_ne HI0.out HO_8.out (by decide)));have n1_:=A_ (below_weaken (by repeat (first|(with_reducible first|exact HB.out|apply ba|apply bb|apply bc|refine below_set ?_ (IsS56.ge HI0.out))|exact HB.out)) HL.out hb);have n2_:=A_ (KeepBut.trans (by repeat (first|(with_reducible first|exact HK.out|apply KeepBut.set_|apply keep_drewN|apply keep_drew|apply keep_alloc)|exact HK.out)) (KeepBut.of_grown hg g) (Kd.R_base2 HO_8.out));have n3_:=A_ (ho);clear HI0;clear HB;clear HK;clear HO_8;have HI0:=n0_;have HB:=n1_;have HK:=n2_;have HO266:=n3_;clear n0_ n1_ n2_ n3_;clear ho hb hg hat))
               go_roundg kj23
               case measure=>have:=HJ5.out;have:=HK2.out;have:=HJ16.out;have:=HJ23.out;omega
               case rel=>exact ⟨(t262),(y264),(wrap64 (x9_2 + 1)),(t263),(by first|rfl|(simp;done)|(simp [*];done)),(by first|rfl|(simp;done)|(simp [*];done)),H',⟨by have:=HJ5.out;have:=HK2.out;have:=HJ16.out;have:=HJ23.out;omega⟩,⟨by (with_reducible repeat (first|apply ra|apply rb|apply rc));exact HO266.out⟩,⟨by repeat (first|(with_reducible first|exact HI0.out|apply IsS56.alloc|apply IsS56.drewN|apply IsS56.drew|apply IsS56.set_1)|exact HI0.out)⟩,⟨by repeat (first|(with_reducible first|exact HK.out|apply KeepBut.set_|apply keep_drewN|apply keep_drew|apply keep_alloc)|exact HK.out)⟩,⟨by repeat (first|(with_reducible first|exact HB.out|apply ba|apply bb|apply bc|refine below_set ?_ (IsS56.ge HI0.out))|exact HB.out)⟩⟩
              ·
               rw [if_neg c37] at H
               exact absurd H (by simp)
             ·
              rw [if_neg c35] at H
              have c35b0 : (t260 == 0) = false:=beq_eq_false_iff_ne.mpr c35
              have c35b1 : (t260 != 0) = true:=bne_iff_ne.mpr c35
              by_cases c41 : x8_2.length < 17592186044416
              ·
               rw [if_pos c41] at H
               have LMc41:=A_ c41
               clear c41
               obtain ⟨y267,hy267⟩ : ∃ y_ : List Int,y_ = (x8_2 ++ [x7_2]):=⟨_,rfl⟩
               replace H : (shapesearchkeep_Src_List.l0 kj23 a1 t238 t243 x7_2 y267 (wrap64 (x9_2 + 1)) s0_0 t261) = some (r1,r2):=by first|(rw [hy267];with_reducible exact H)|(have H2_:=(Option.bind_some _ _).symm.trans H;rw [hy267];with_reducible exact H2_)|(have H2_:=(Option.bind_some _ _).symm.trans H;with_reducible exact H2_)|with_reducible exact H|(rw [hy267];exact H)|exact H
               have Ny267:=A_ hy267
               clear hy267
               have H':=A_ H
               clear H
               go_wp2_with (first|((with_reducible refine gate_callee (f:=24) rfl ?_);refine goesL_ (some 61) rfl rfl Try.func24 (by kernel_rfl) rfl #[.pointer (some ⟨g,0,none⟩),.int .i64 4] rfl (by (try simp only [List.map_toArray,List.map_cons,List.map_nil]);first|done|rfl|(simp only [List.length_drop,List.length_take];rfl)) ?_;(with_reducible refine (shapesearchkeep_Src_N.calls g s0_0 x1001_2 4 t260 t261 w0 _ ?side1 ?side2 A34.out).mono ?_);(case side1=>repeat (first|(with_reducible first|exact HI0.out|apply IsS56.alloc|apply IsS56.drewN|apply IsS56.drew|apply IsS56.set_1)|exact HI0.out));(case side2=>repeat (first|(with_reducible first|exact HB.out|apply ba|apply bb|apply bc|refine below_set ?_ (IsS56.ge HI0.out))|exact HB.out));rintro e w42 ⟨rfl,hi,hb,hk⟩;refine ⟨_,rfl,?_⟩;have n0_:=A_ (rm (Kd.R_keep (IsS56.apart (show IsS56 w0 _ g s0_0 x1001_2 from by repeat (first|(with_reducible first|exact HI0.out|apply IsS56.alloc|apply IsS56.drewN|apply IsS56.drew|apply IsS56.set_1)|exact HI0.out)) (by (with_reducible repeat (first|apply ra|apply rb|apply rc));exact HO_8.out) (by decide)) hk (fun _ h=>h.2)) (fun _ h=>h.1));have n1_:=A_ (KeepBut.trans (by repeat (first|(with_reducible first|exact HK.out|apply KeepBut.set_|apply keep_drewN|apply keep_drew|apply keep_alloc)|exact HK.out)) hk (.inl rfl));have n2_:=A_ (hb);have n3_:=A_ (hi);clear HO_8;clear HK;clear HB;clear HI0;have HO_8:=n0_;have HK:=n1_;have HB:=n2_;have HI0:=n3_;clear n0_ n1_ n2_ n3_;(try clear hb);(try clear hb2);(try clear hk);(try clear hi))|((with_reducible refine gate_builtin (b:=.append) (xs:=#[.tmp 68,.tmp 70]) rfl ?_);at_builtin;refine Kd.R_append (Kd.int .i64) w.heap.size rfl (.tmp 68) (.tmp 70) 22 3 (.int .i64 0) 8 rfl Try.underlying22 info3 rfl (by decide) (by omega) u8 x8_2 x7_2 [.int .i64 x7_2] (fun _=>True) (fun _=>False) rfl rfl ?aP (fun _ hk=>hk.elim) ?aF ?aO (Below.refl _ _) ?aS ?aL ?_;(case aP=>exact rfl);(case aF=>exact (fun _ _=>trivial));(case aO=>exact (by (with_reducible repeat (first|apply ra|apply rb|apply rc));exact HO_8.out));(case aS=>exact (keep_size (w:=w) (g:=g) (row:=none) (by repeat (first|(with_reducible first|exact HK.out|apply KeepBut.set_|apply keep_drewN|apply keep_drew|apply keep_alloc)|exact HK.out))));(case aL=>have:=LMc41.out;omega);intro v268 w43 ho hb hg hat;rw [← Ny267.out] at ho;have n0_:=A_ (IsS56.grown (by repeat (first|(with_reducible first|exact HI0.out|apply IsS56.alloc|apply IsS56.drewN|apply IsS56.drew|apply IsS56.set_1)|exact HI0.out)) hg (IsS56.own_ne HI0.out HO_8.out (by decide)));have n1_:=A_ (below_weaken (by repeat (first|(with_reducible first|exact HB.out|apply ba|apply bb|apply bc|refine below_set ?_ (IsS56.ge HI0.out))|exact HB.out)) HL.out hb);have n2_:=A_ (KeepBut.trans (by repeat (first|(with_reducible first|exact HK.out|apply KeepBut.set_|apply keep_drewN|apply keep_drew|apply keep_alloc)|exact HK.out)) (KeepBut.of_grown hg g) (Kd.R_base2 HO_8.out));have n3_:=A_ (ho);clear HI0;clear HB;clear HK;clear HO_8;have HI0:=n0_;have HB:=n1_;have HK:=n2_;have HO269:=n3_;clear n0_ n1_ n2_ n3_;clear ho hb hg hat))
               go_roundg kj23
               case measure=>have:=HJ5.out;have:=HK2.out;have:=HJ16.out;have:=HJ23.out;omega
               case rel=>exact ⟨(x7_2),(y267),(wrap64 (x9_2 + 1)),(t261),(by first|rfl|(simp;done)|(simp [*];done)),(by first|rfl|(simp;done)|(simp [*];done)),H',⟨by have:=HJ5.out;have:=HK2.out;have:=HJ16.out;have:=HJ23.out;omega⟩,⟨by (with_reducible repeat (first|apply ra|apply rb|apply rc));exact HO269.out⟩,⟨by repeat (first|(with_reducible first|exact HI0.out|apply IsS56.alloc|apply IsS56.drewN|apply IsS56.drew|apply IsS56.set_1)|exact HI0.out)⟩,⟨by repeat (first|(with_reducible first|exact HK.out|apply KeepBut.set_|apply keep_drewN|apply keep_drew|apply keep_alloc)|exact HK.out)⟩,⟨by repeat (first|(with_reducible first|exact HB.out|apply ba|apply bb|apply bc|refine below_set ?_ (IsS56.ge HI0.out))|exact HB.out)⟩⟩
              ·
               rw [if_neg c41] at H
               exact absurd H (by simp)
            ·
             rw [if_neg c33] at H
             have c33b0 : (t238 == 4) = false:=beq_eq_false_iff_ne.mpr c33
             have c33b1 : (t238 != 4) = true:=bne_iff_ne.mpr c33
             obtain ⟨y270,hy270⟩ : ∃ y_ : List Int,y_ = (([(-1000),1000,1000,0] : List Int)):=⟨_,rfl⟩
             replace H : ((shapesearchkeep_Src_Pick.f s0_0 x1001_2 y270).bind fun bt273=>(if x8_2.length < 17592186044416 then (shapesearchkeep_Src_List.l0 kj23 a1 t238 t243 x7_2 (x8_2 ++ [bt273.1]) (wrap64 (x9_2 + 1)) s0_0 bt273.2) else (none))) = some (r1,r2):=by first|(rw [hy270];with_reducible exact H)|(have H2_:=(Option.bind_some _ _).symm.trans H;rw [hy270];with_reducible exact H2_)|(have H2_:=(Option.bind_some _ _).symm.trans H;with_reducible exact H2_)|with_reducible exact H|(rw [hy270];exact H)|exact H
             have Ny270:=A_ hy270
             clear hy270
             replace H:=Option.bind_eq_some_iff.mp H
             obtain ⟨⟨t273,t274⟩,A440,H⟩:=H
             replace H : (if x8_2.length < 17592186044416 then (shapesearchkeep_Src_List.l0 kj23 a1 t238 t243 x7_2 (x8_2 ++ [t273]) (wrap64 (x9_2 + 1)) s0_0 t274) else (none)) = some (r1,r2):=H
             have A44:=A_ A440
             clear A440
             by_cases c45 : x8_2.length < 17592186044416
             ·
              rw [if_pos c45] at H
              have LMc45:=A_ c45
              clear c45
              obtain ⟨y275,hy275⟩ : ∃ y_ : List Int,y_ = (x8_2 ++ [t273]):=⟨_,rfl⟩
              replace H : (shapesearchkeep_Src_List.l0 kj23 a1 t238 t243 x7_2 y275 (wrap64 (x9_2 + 1)) s0_0 t274) = some (r1,r2):=by first|(rw [hy275];with_reducible exact H)|(have H2_:=(Option.bind_some _ _).symm.trans H;rw [hy275];with_reducible exact H2_)|(have H2_:=(Option.bind_some _ _).symm.trans H;with_reducible exact H2_)|with_reducible exact H|(rw [hy275];exact H)|exact H
              have Ny275:=A_ hy275
              clear hy275
              have H':=A_ H
              clear H
              go_wp2_with (first|((with_reducible refine gate_dst (N:=28) rfl ?_);refine Kd.R_lit (Kd.int .i64) _ 3 ?hg (N:=28) ?hd (xs:=([(-1000),1000,1000,0] : List Int)) (inner:=[.int .i64 (-1000),.int .i64 1000,.int .i64 1000,.int .i64 0]) (ok:=fun _=>True) (okp:=fun _=>True) ?hr ?hp (fun _ hk=>hk) trivial (Below.refl _ _) (Nat.le_refl _) (by simp) ?_;(case hd=>rfl);(case hg=>rfl);(case hr=>first|(go_simp;done)|(go_simp;rfl));(case hp=>exact (Reps.one (show Kd.M (Kd.int .i64) _ _ _ (-1000) [.int .i64 (-1000)] from rfl) (Reps.one (show Kd.M (Kd.int .i64) _ _ _ 1000 [.int .i64 1000] from rfl) (Reps.one (show Kd.M (Kd.int .i64) _ _ _ 1000 [.int .i64 1000] from rfl) (Reps.one (show Kd.M (Kd.int .i64) _ _ _ 0 [.int .i64 0] from rfl) (Reps.none _ _))))));intro v271 w46 ho47 hb hg_ hnew_;clear hg_ hnew_;(first|rw [← Ny270.out] at ho47|(simp only [Int.reduceToNat] at ho47;rw [← Ny270.out] at ho47));have n0_:=A_ (re (by (with_reducible repeat (first|apply ra|apply rb|apply rc));exact HO_8.out) (rs ho47) hb);have n1_:=A_ (Kd.R_lower (rn ho47 (rl (by (with_reducible repeat (first|apply ra|apply rb|apply rc));exact HO_8.out))) (keep_size (w:=w) (g:=g) (row:=none) (by repeat (first|(with_reducible first|exact HK.out|apply KeepBut.set_|apply keep_drewN|apply keep_drew|apply keep_alloc)|exact HK.out))));have n2_:=A_ (IsS56.below (by repeat (first|(with_reducible first|exact HI0.out|apply IsS56.alloc|apply IsS56.drewN|apply IsS56.drew|apply IsS56.set_1)|exact HI0.out)) hb);have n3_:=A_ (KeepBut.trans (by repeat (first|(with_reducible first|exact HK.out|apply KeepBut.set_|apply keep_drewN|apply keep_drew|apply keep_alloc)|exact HK.out)) (KeepBut.of_below hb g none) (.inl rfl));have n4_:=A_ (below_step (by repeat (first|(with_reducible first|exact HB.out|apply ba|apply bb|apply bc|refine below_set ?_ (IsS56.ge HI0.out))|exact HB.out)) hb);clear HO_8;clear HI0;clear HK;clear HB;have HO_8:=n0_;have HO272:=n1_;have HI0:=n2_;have HK:=n3_;have HB:=n4_;clear n0_ n1_ n2_ n3_ n4_;clear hb ho47;obtain ⟨Ao48,co48,eo48⟩:=Kd.R_slice HO272.out;subst eo48)|((with_reducible refine gate_callee (f:=47) rfl ?_);refine goesL_ (some 29) rfl rfl Try.func47 (by kernel_rfl) rfl #[.pointer (some ⟨g,0,none⟩),.slice Ao48 y270.length co48] rfl (by (try simp only [List.map_toArray,List.map_cons,List.map_nil]);first|done|rfl|(simp only [List.length_drop,List.length_take];rfl)) ?_;(with_reducible refine (shapesearchkeep_Src_Pick.calls g s0_0 x1001_2 _ _ y270 t273 t274 w0 _ ?side1 ?side2 ?side3 ?side4 ?side5 A44.out).mono ?_);(case side1=>repeat (first|(with_reducible first|exact HI0.out|apply IsS56.alloc|apply IsS56.drewN|apply IsS56.drew|apply IsS56.set_1)|exact HI0.out));(case side2=>repeat (first|(with_reducible first|exact HB.out|apply ba|apply bb|apply bc|refine below_set ?_ (IsS56.ge HI0.out))|exact HB.out));(case side3=>repeat (first|exact (rd_ HO272.out).2.2|(with_reducible refine ca ?_ _)|(with_reducible refine cb ?_ _)|(with_reducible refine cc ?_)));(case side4=>exact (rd_ HO272.out).2.1);(case side5=>exact far_slice (IsS56.own_ne HI0.out HO272.out (by decide)));rintro e w49 ⟨rfl,hi,hb,hk⟩;refine ⟨_,rfl,?_⟩;have n0_:=A_ (rm (Kd.R_keep (IsS56.apart (show IsS56 w0 _ g s0_0 x1001_2 from by repeat (first|(with_reducible first|exact HI0.out|apply IsS56.alloc|apply IsS56.drewN|apply IsS56.drew|apply IsS56.set_1)|exact HI0.out)) (by (with_reducible repeat (first|apply ra|apply rb|apply rc));exact HO_8.out) (by decide)) hk (fun _ h=>h.2)) (fun _ h=>h.1));have n1_:=A_ (rm (Kd.R_keep (IsS56.apart (show IsS56 w0 _ g s0_0 x1001_2 from by repeat (first|(with_reducible first|exact HI0.out|apply IsS56.alloc|apply IsS56.drewN|apply IsS56.drew|apply IsS56.set_1)|exact HI0.out)) (by (with_reducible repeat (first|apply ra|apply rb|apply rc));exact HO272.out) (by decide)) hk (fun _ h=>h.2)) (fun _ h=>h.1));have n2_:=A_ (KeepBut.trans (by repeat (first|(with_reducible first|exact HK.out|apply KeepBut.set_|apply keep_drewN|apply keep_drew|apply keep_alloc)|exact HK.out)) hk (.inl rfl));have n3_:=A_ (hb);have n4_:=A_ (hi);clear HO_8;clear HO272;clear HK;clear HB;clear HI0;have HO_8:=n0_;have HO272:=n1_;have HK:=n2_;have HB:=n3_;have HI0:=n4_;clear n0_ n1_ n2_ n3_ n4_;(try clear hb);(try clear hb2);(try clear hk);(try clear hi))|((with_reducible refine gate_builtin (b:=.append) (xs:=#[.tmp 26,.tmp 30]) rfl ?_);at_builtin;refine Kd.R_append (Kd.int .i64) w.heap.size rfl (.tmp 26) (.tmp 30) 22 3 (.int .i64 0) 8 rfl Try.underlying22 info3 rfl (by decide) (by omega) u8 x8_2 t273 [.int .i64 t273] (fun k_=>nb k_ (.slice Ao48 y270.length co48)) (fun _=>False) rfl rfl ?aP (fun _ hk=>hk.elim) ?aF ?aO (Below.refl _ _) ?aS ?aL ?_;(case aP=>exact rfl);(case aF=>exact (fun k_ hk=>rh (rl (by (with_reducible repeat (first|apply ra|apply rb|apply rc));exact HO272.out)) k_ hk));(case aO=>exact (by (with_reducible repeat (first|apply ra|apply rb|apply rc));exact rm HO_8.out (fun _ hk=>hk.2)));(case aS=>exact (keep_size (w:=w) (g:=g) (row:=none) (by repeat (first|(with_reducible first|exact HK.out|apply KeepBut.set_|apply keep_drewN|apply keep_drew|apply keep_alloc)|exact HK.out))));(case aL=>have:=LMc45.out;omega);intro v276 w50 ho hb hg hat;rw [← Ny275.out] at ho;have n0_:=A_ (IsS56.grown (by repeat (first|(with_reducible first|exact HI0.out|apply IsS56.alloc|apply IsS56.drewN|apply IsS56.drew|apply IsS56.set_1)|exact HI0.out)) hg (IsS56.own_ne HI0.out HO_8.out (by decide)));have n1_:=A_ (rf (ok:=(fun _=>True)) (by (with_reducible repeat (first|apply ra|apply rb|apply rc));first|exact HO272.out|exact rm HO272.out (fun _ h_=>⟨trivial,h_⟩)) hg hat);have n2_:=A_ (below_weaken (by repeat (first|(with_reducible first|exact HB.out|apply ba|apply bb|apply bc|refine below_set ?_ (IsS56.ge HI0.out))|exact HB.out)) HL.out hb);have n3_:=A_ (KeepBut.trans (by repeat (first|(with_reducible first|exact HK.out|apply KeepBut.set_|apply keep_drewN|apply keep_drew|apply keep_alloc)|exact HK.out)) (KeepBut.of_grown hg g) (Kd.R_base2 HO_8.out));have n4_:=A_ (ho);clear HI0;clear HO272;clear HB;clear HK;clear HO_8;have HI0:=n0_;have HO272:=n1_;have HB:=n2_;have HK:=n3_;have HO277:=n4_;clear n0_ n1_ n2_ n3_ n4_;clear ho hb hg hat))
              go_roundg kj23
              case measure=>have:=HJ5.out;have:=HK2.out;have:=HJ16.out;have:=HJ23.out;omega
              case rel=>exact ⟨(x7_2),(y275),(wrap64 (x9_2 + 1)),(t274),(by first|rfl|(simp;done)|(simp [*];done)),(by first|rfl|(simp;done)|(simp [*];done)),H',⟨by have:=HJ5.out;have:=HK2.out;have:=HJ16.out;have:=HJ23.out;omega⟩,⟨by (with_reducible repeat (first|apply ra|apply rb|apply rc));exact rm HO277.out (fun _ hk=>trivial)⟩,⟨by repeat (first|(with_reducible first|exact HI0.out|apply IsS56.alloc|apply IsS56.drewN|apply IsS56.drew|apply IsS56.set_1)|exact HI0.out)⟩,⟨by repeat (first|(with_reducible first|exact HK.out|apply KeepBut.set_|apply keep_drewN|apply keep_drew|apply keep_alloc)|exact HK.out)⟩,⟨by repeat (first|(with_reducible first|exact HB.out|apply ba|apply bb|apply bc|refine below_set ?_ (IsS56.ge HI0.out))|exact HB.out)⟩⟩
             ·
              rw [if_neg c45] at H
              exact absurd H (by simp)
     ·
      rw [if_neg c16] at H
      have c16b0 : decide (x9_2 < a1) = false:=decide_eq_false c16
      clear c16
      simp only [Option.some.injEq,Prod.mk.injEq] at H
      obtain ⟨rfl,rfl⟩:=H
      go_wp2
      go_ret
      exact ⟨_,by first|rfl|(simp [errW_none,errW_some] <;> rfl)|(simp [*,errW_none,errW_some] <;> rfl),by (with_reducible repeat (first|apply ra|apply rb|apply rc));exact HO_8.out,by repeat (first|(with_reducible first|exact HI0.out|apply IsS56.alloc|apply IsS56.drewN|apply IsS56.drew|apply IsS56.set_1)|exact HI0.out),by repeat (first|(with_reducible first|exact HB.out|apply ba|apply bb|apply bc|refine below_set ?_ (IsS56.ge HI0.out))|exact HB.out),by repeat (first|(with_reducible first|exact HK.out|apply KeepBut.set_|apply keep_drewN|apply keep_drew|apply keep_alloc)|exact HK.out)⟩

/-! ### shapesearchkeep_Src_Length: function 44 -/
def shapesearchkeep_Src_Length.f (s0_0 : List Int) (s0_1 : Int) : Option (Int × Int):=(shapesearchkeep_Src_N.f s0_0 s0_1 8).bind fun bt278=>(if bt278.1 = 7 then ((shapesearchkeep_Src_Range.f s0_0 bt278.2 13 32).bind fun bt280=>(some (bt280.1,bt280.2))) else ((shapesearchkeep_Src_Range.f s0_0 bt278.2 2 12).bind fun bt282=>(some (bt282.1,bt282.2))))
set_option maxHeartbeats 8000000 in
set_option maxRecDepth 100000 in
theorem shapesearchkeep_Src_Length.calls (g : Nat) (s0_0 : List Int) (s0_1 : Int) (r1 : Int) (r2 : Int) (w0 w : World) (hI : IsS56 w0 w g s0_0 s0_1) (hB : Below w0.heap.size w0 w) (h : shapesearchkeep_Src_Length.f s0_0 s0_1 = some (r1,r2)) :
  Calls Try.prog 44 #[.pointer (some ⟨g,0,none⟩)] w fun e w'=>e = .returned (.int .i64 r1)∧IsS56 w0 w' g s0_0 r2∧Below w0.heap.size w0 w'∧KeepBut w w' g none:=by
 have HI0:=A_ hI
 have HK:=A_ (KeepBut.refl w g none)
 have HL:=A_ hB.size
 clear hI
 have HW0:=A_ hB.size
 have HB:=A_ hB
 clear hB
 have H : ((shapesearchkeep_Src_N.f s0_0 s0_1 8).bind fun bt278=>(if bt278.1 = 7 then ((shapesearchkeep_Src_Range.f s0_0 bt278.2 13 32).bind fun bt280=>(some (bt280.1,bt280.2))) else ((shapesearchkeep_Src_Range.f s0_0 bt278.2 2 12).bind fun bt282=>(some (bt282.1,bt282.2))))) = some (r1,r2):=h
 clear h
 replace H:=Option.bind_eq_some_iff.mp H
 obtain ⟨⟨t278,t279⟩,A20,H⟩:=H
 replace H : (if t278 = 7 then ((shapesearchkeep_Src_Range.f s0_0 t279 13 32).bind fun bt280=>(some (bt280.1,bt280.2))) else ((shapesearchkeep_Src_Range.f s0_0 t279 2 12).bind fun bt282=>(some (bt282.1,bt282.2)))) = some (r1,r2):=H
 have A2:=A_ A20
 clear A20
 by_cases c3 : t278 = 7
 ·
  rw [if_pos c3] at H
  have c3b0 : (t278 == 7) = true:=beq_iff_eq.mpr c3
  have c3b1 : (t278 != 7) = false:=bne_eq_false_iff_eq.mpr c3
  clear c3
  replace H:=Option.bind_eq_some_iff.mp H
  obtain ⟨⟨t280,t281⟩,A40,H⟩:=H
  replace H : (some (t280,t281)) = some (r1,r2):=H
  have A4:=A_ A40
  clear A40
  simp only [Option.some.injEq,Prod.mk.injEq] at H
  obtain ⟨rfl,rfl⟩:=H
  go_enter Try.func44,Try.ntmps44
  go_wp2_with (first|((with_reducible refine gate_callee (f:=24) rfl ?_);refine goesL_ (some 4) rfl rfl Try.func24 (by kernel_rfl) rfl #[.pointer (some ⟨g,0,none⟩),.int .i64 8] rfl (by (try simp only [List.map_toArray,List.map_cons,List.map_nil]);first|done|rfl|(simp only [List.length_drop,List.length_take];rfl)) ?_;(with_reducible refine (shapesearchkeep_Src_N.calls g s0_0 s0_1 8 t278 t279 w0 _ ?side1 ?side2 A2.out).mono ?_);(case side1=>repeat (first|(with_reducible first|exact HI0.out|apply IsS56.alloc|apply IsS56.drewN|apply IsS56.drew|apply IsS56.set_1)|exact HI0.out));(case side2=>repeat (first|(with_reducible first|exact HB.out|apply ba|apply bb|apply bc|refine below_set ?_ (IsS56.ge HI0.out))|exact HB.out));rintro e w5 ⟨rfl,hi,hb,hk⟩;refine ⟨_,rfl,?_⟩;have n0_:=A_ (KeepBut.trans (by repeat (first|(with_reducible first|exact HK.out|apply KeepBut.set_|apply keep_drewN|apply keep_drew|apply keep_alloc)|exact HK.out)) hk (.inl rfl));have n1_:=A_ (hb);have n2_:=A_ (hi);clear HK;clear HB;clear HI0;have HK:=n0_;have HB:=n1_;have HI0:=n2_;clear n0_ n1_ n2_;(try clear hb);(try clear hb2);(try clear hk);(try clear hi))|((with_reducible refine gate_callee (f:=45) rfl ?_);refine goesL_ (some 7) rfl rfl Try.func45 (by kernel_rfl) rfl #[.pointer (some ⟨g,0,none⟩),.int .i64 13,.int .i64 32] rfl (by (try simp only [List.map_toArray,List.map_cons,List.map_nil]);first|done|rfl|(simp only [List.length_drop,List.length_take];rfl)) ?_;(with_reducible refine (shapesearchkeep_Src_Range.calls g s0_0 t279 13 32 t280 t281 w0 _ ?side1 ?side2 A4.out).mono ?_);(case side1=>repeat (first|(with_reducible first|exact HI0.out|apply IsS56.alloc|apply IsS56.drewN|apply IsS56.drew|apply IsS56.set_1)|exact HI0.out));(case side2=>repeat (first|(with_reducible first|exact HB.out|apply ba|apply bb|apply bc|refine below_set ?_ (IsS56.ge HI0.out))|exact HB.out));rintro e w6 ⟨rfl,hi,hb,hk⟩;refine ⟨_,rfl,?_⟩;have n0_:=A_ (KeepBut.trans (by repeat (first|(with_reducible first|exact HK.out|apply KeepBut.set_|apply keep_drewN|apply keep_drew|apply keep_alloc)|exact HK.out)) hk (.inl rfl));have n1_:=A_ (hb);have n2_:=A_ (hi);clear HK;clear HB;clear HI0;have HK:=n0_;have HB:=n1_;have HI0:=n2_;clear n0_ n1_ n2_;(try clear hb);(try clear hb2);(try clear hk);(try clear hi)))
  go_ret
  exact ⟨by first|rfl|(simp [errW_none,errW_some] <;> rfl)|(simp [*,errW_none,errW_some] <;> rfl),by repeat (first|(with_reducible first|exact HI0.out|apply IsS56.alloc|apply IsS56.drewN|apply IsS56.drew|apply IsS56.set_1)|exact HI0.out),by repeat (first|(with_reducible first|exact HB.out|apply ba|apply bb|apply bc|refine below_set ?_ (IsS56.ge HI0.out))|exact HB.out),by repeat (first|(with_reducible first|exact HK.out|apply KeepBut.set_|apply keep_drewN|apply keep_drew|apply keep_alloc)|exact HK.out)⟩
 ·
  rw [if_neg c3] at H
  have c3b0 : (t278 == 7) = false:=beq_eq_false_iff_ne.mpr c3
  have c3b1 : (t278 != 7) = true:=bne_iff_ne.mpr c3
  replace H:=Option.bind_eq_some_iff.mp H
  obtain ⟨⟨t282,t283⟩,A70,H⟩:=H
  replace H : (some (t282,t283)) = some (r1,r2):=H
  have A7:=A_ A70
  clear A70
  simp only [Option.some.injEq,Prod.mk.injEq] at H
  obtain ⟨rfl,rfl⟩:=H
  go_enter Try.func44,Try.ntmps44
  go_wp2_with (first|((with_reducible refine gate_callee (f:=24) rfl ?_);refine goesL_ (some 4) rfl rfl Try.func24 (by kernel_rfl) rfl #[.pointer (some ⟨g,0,none⟩),.int .i64 8] rfl (by (try simp only [List.map_toArray,List.map_cons,List.map_nil]);first|done|rfl|(simp only [List.length_drop,List.length_take];rfl)) ?_;(with_reducible refine (shapesearchkeep_Src_N.calls g s0_0 s0_1 8 t278 t279 w0 _ ?side1 ?side2 A2.out).mono ?_);(case side1=>repeat (first|(with_reducible first|exact HI0.out|apply IsS56.alloc|apply IsS56.drewN|apply IsS56.drew|apply IsS56.set_1)|exact HI0.out));(case side2=>repeat (first|(with_reducible first|exact HB.out|apply ba|apply bb|apply bc|refine below_set ?_ (IsS56.ge HI0.out))|exact HB.out));rintro e w8 ⟨rfl,hi,hb,hk⟩;refine ⟨_,rfl,?_⟩;have n0_:=A_ (KeepBut.trans (by repeat (first|(with_reducible first|exact HK.out|apply KeepBut.set_|apply keep_drewN|apply keep_drew|apply keep_alloc)|exact HK.out)) hk (.inl rfl));have n1_:=A_ (hb);have n2_:=A_ (hi);clear HK;clear HB;clear HI0;have HK:=n0_;have HB:=n1_;have HI0:=n2_;clear n0_ n1_ n2_;(try clear hb);(try clear hb2);(try clear hk);(try clear hi))|((with_reducible refine gate_callee (f:=45) rfl ?_);refine goesL_ (some 9) rfl rfl Try.func45 (by kernel_rfl) rfl #[.pointer (some ⟨g,0,none⟩),.int .i64 2,.int .i64 12] rfl (by (try simp only [List.map_toArray,List.map_cons,List.map_nil]);first|done|rfl|(simp only [List.length_drop,List.length_take];rfl)) ?_;(with_reducible refine (shapesearchkeep_Src_Range.calls g s0_0 t279 2 12 t282 t283 w0 _ ?side1 ?side2 A7.out).mono ?_);(case side1=>repeat (first|(with_reducible first|exact HI0.out|apply IsS56.alloc|apply IsS56.drewN|apply IsS56.drew|apply IsS56.set_1)|exact HI0.out));(case side2=>repeat (first|(with_reducible first|exact HB.out|apply ba|apply bb|apply bc|refine below_set ?_ (IsS56.ge HI0.out))|exact HB.out));rintro e w9 ⟨rfl,hi,hb,hk⟩;refine ⟨_,rfl,?_⟩;have n0_:=A_ (KeepBut.trans (by repeat (first|(with_reducible first|exact HK.out|apply KeepBut.set_|apply keep_drewN|apply keep_drew|apply keep_alloc)|exact HK.out)) hk (.inl rfl));have n1_:=A_ (hb);have n2_:=A_ (hi);clear HK;clear HB;clear HI0;have HK:=n0_;have HB:=n1_;have HI0:=n2_;clear n0_ n1_ n2_;(try clear hb);(try clear hb2);(try clear hk);(try clear hi)))
  go_ret
  exact ⟨by first|rfl|(simp [errW_none,errW_some] <;> rfl)|(simp [*,errW_none,errW_some] <;> rfl),by repeat (first|(with_reducible first|exact HI0.out|apply IsS56.alloc|apply IsS56.drewN|apply IsS56.drew|apply IsS56.set_1)|exact HI0.out),by repeat (first|(with_reducible first|exact HB.out|apply ba|apply bb|apply bc|refine below_set ?_ (IsS56.ge HI0.out))|exact HB.out),by repeat (first|(with_reducible first|exact HK.out|apply KeepBut.set_|apply keep_drewN|apply keep_drew|apply keep_alloc)|exact HK.out)⟩

/-! ### shapesearchkeep_Src_Pair: function 18 -/
def shapesearchkeep_Src_Pair.f (k : Nat) (s0_0 : List Int) (s0_1 : Int) : Option (List Int × List Int × Int):=(shapesearchkeep_Src_Length.f s0_0 s0_1).bind fun bt284=>((shapesearchkeep_Src_List.f k s0_0 bt284.2 bt284.1).bind fun bt286=>((shapesearchkeep_Src_N.f s0_0 bt286.2 3).bind fun bt290=>(if bt290.1 = 0 then ((shapesearchkeep_Src_List.f k s0_0 bt290.2 (bt286.1.length : Int)).bind fun bt292=>(some (bt286.1,bt292.1,bt292.2))) else ((shapesearchkeep_Src_Near.f k s0_0 bt290.2 bt286.1).bind fun bt296=>(some (bt286.1,bt296.1,bt296.2))))))
theorem shapesearchkeep_Src_Pair.mono : ∀ a0 a1 k,LeO (shapesearchkeep_Src_Pair.f k a0 a1) (shapesearchkeep_Src_Pair.f (k + 1) a0 a1):=by
 intro a0 a1 k
 unfold shapesearchkeep_Src_Pair.f
 repeat' first
   | (with_reducible exact shapesearchkeep_Src_List.mono _ _ _ _)
   | (with_reducible exact shapesearchkeep_Src_Near.mono _ _ _ _)
   | (with_reducible exact LeO.refl _)
   | (with_reducible exact LeO.none _)
   | (with_reducible refine LeO.ite ?_ ?_)
   | (with_reducible refine LeO.bind ?_ (fun _=>?_))
   | exact shapesearchkeep_Src_List.mono _ _ _ _
   | exact shapesearchkeep_Src_Near.mono _ _ _ _
   | exact LeO.none _
   | refine LeO.ite ?_ ?_
   | refine LeO.bind ?_ (fun _=>?_)
set_option maxHeartbeats 8000000 in
set_option maxRecDepth 100000 in
theorem shapesearchkeep_Src_Pair.calls (k : Nat) (g : Nat) (s0_0 : List Int) (s0_1 : Int) (r1 : List Int) (r2 : List Int) (r3 : Int) (w0 w : World) (hI : IsS56 w0 w g s0_0 s0_1) (hB : Below w0.heap.size w0 w) (h : shapesearchkeep_Src_Pair.f k s0_0 s0_1 = some (r1,r2,r3)) :
  Calls Try.prog 18 #[.pointer (some ⟨g,0,none⟩)] w fun e w'=>∃ v0_ v1_ : Value,e = .returned (.tuple #[v0_,v1_])∧Kd.R (Kd.int .i64) 3 w' w.heap.size (fun k_=>some k_≠(v1_ : Value).ownBlock) v0_ r1∧Kd.R (Kd.int .i64) 3 w' w.heap.size (fun k_=>some k_≠(v0_ : Value).ownBlock) v1_ r2∧IsS56 w0 w' g s0_0 r3∧Below w0.heap.size w0 w'∧KeepBut w w' g none:=by
 have HI0:=A_ hI
 have HK:=A_ (KeepBut.refl w g none)
 have HL:=A_ hB.size
 clear hI
 have HW0:=A_ hB.size
 have HB:=A_ hB
 clear hB
 have H : ((shapesearchkeep_Src_Length.f s0_0 s0_1).bind fun bt284=>((shapesearchkeep_Src_List.f k s0_0 bt284.2 bt284.1).bind fun bt286=>((shapesearchkeep_Src_N.f s0_0 bt286.2 3).bind fun bt290=>(if bt290.1 = 0 then ((shapesearchkeep_Src_List.f k s0_0 bt290.2 (bt286.1.length : Int)).bind fun bt292=>(some (bt286.1,bt292.1,bt292.2))) else ((shapesearchkeep_Src_Near.f k s0_0 bt290.2 bt286.1).bind fun bt296=>(some (bt286.1,bt296.1,bt296.2))))))) = some (r1,r2,r3):=h
 clear h
 replace H:=Option.bind_eq_some_iff.mp H
 obtain ⟨⟨t284,t285⟩,A20,H⟩:=H
 replace H : ((shapesearchkeep_Src_List.f k s0_0 t285 t284).bind fun bt286=>((shapesearchkeep_Src_N.f s0_0 bt286.2 3).bind fun bt290=>(if bt290.1 = 0 then ((shapesearchkeep_Src_List.f k s0_0 bt290.2 (bt286.1.length : Int)).bind fun bt292=>(some (bt286.1,bt292.1,bt292.2))) else ((shapesearchkeep_Src_Near.f k s0_0 bt290.2 bt286.1).bind fun bt296=>(some (bt286.1,bt296.1,bt296.2)))))) = some (r1,r2,r3):=H
 have A2:=A_ A20
 clear A20
 replace H:=Option.bind_eq_some_iff.mp H
 obtain ⟨⟨t286,t289⟩,A30,H⟩:=H
 replace H : ((shapesearchkeep_Src_N.f s0_0 t289 3).bind fun bt290=>(if bt290.1 = 0 then ((shapesearchkeep_Src_List.f k s0_0 bt290.2 (t286.length : Int)).bind fun bt292=>(some (t286,bt292.1,bt292.2))) else ((shapesearchkeep_Src_Near.f k s0_0 bt290.2 t286).bind fun bt296=>(some (t286,bt296.1,bt296.2))))) = some (r1,r2,r3):=H
 have A3:=A_ A30
 clear A30
 replace H:=Option.bind_eq_some_iff.mp H
 obtain ⟨⟨t290,t291⟩,A40,H⟩:=H
 replace H : (if t290 = 0 then ((shapesearchkeep_Src_List.f k s0_0 t291 (t286.length : Int)).bind fun bt292=>(some (t286,bt292.1,bt292.2))) else ((shapesearchkeep_Src_Near.f k s0_0 t291 t286).bind fun bt296=>(some (t286,bt296.1,bt296.2)))) = some (r1,r2,r3):=H
 have A4:=A_ A40
 clear A40
 by_cases c5 : t290 = 0
 ·
  rw [if_pos c5] at H
  have c5b0 : (t290 == 0) = true:=beq_iff_eq.mpr c5
  have c5b1 : (t290 != 0) = false:=bne_eq_false_iff_eq.mpr c5
  clear c5
  replace H:=Option.bind_eq_some_iff.mp H
  obtain ⟨⟨t292,t295⟩,A60,H⟩:=H
  replace H : (some (t286,t292,t295)) = some (r1,r2,r3):=H
  have A6:=A_ A60
  clear A60
  simp only [Option.some.injEq,Prod.mk.injEq] at H
  obtain ⟨rfl,rfl,rfl⟩:=H
  go_enter Try.func18,Try.ntmps18
  go_wp2_with (first|((with_reducible refine gate_callee (f:=44) rfl ?_);refine goesL_ (some 7) rfl rfl Try.func44 (by kernel_rfl) rfl #[.pointer (some ⟨g,0,none⟩)] rfl (by (try simp only [List.map_toArray,List.map_cons,List.map_nil]);first|done|rfl|(simp only [List.length_drop,List.length_take];rfl)) ?_;(with_reducible refine (shapesearchkeep_Src_Length.calls g s0_0 s0_1 t284 t285 w0 _ ?side1 ?side2 A2.out).mono ?_);(case side1=>repeat (first|(with_reducible first|exact HI0.out|apply IsS56.alloc|apply IsS56.drewN|apply IsS56.drew|apply IsS56.set_1)|exact HI0.out));(case side2=>repeat (first|(with_reducible first|exact HB.out|apply ba|apply bb|apply bc|refine below_set ?_ (IsS56.ge HI0.out))|exact HB.out));rintro e w7 ⟨rfl,hi,hb,hk⟩;refine ⟨_,rfl,?_⟩;have n0_:=A_ (KeepBut.trans (by repeat (first|(with_reducible first|exact HK.out|apply KeepBut.set_|apply keep_drewN|apply keep_drew|apply keep_alloc)|exact HK.out)) hk (.inl rfl));have n1_:=A_ (hb);have n2_:=A_ (hi);clear HK;clear HB;clear HI0;have HK:=n0_;have HB:=n1_;have HI0:=n2_;clear n0_ n1_ n2_;(try clear hb);(try clear hb2);(try clear hk);(try clear hi))|((with_reducible refine gate_callee (f:=20) rfl ?_);refine goesL_ (some 8) rfl rfl Try.func20 (by kernel_rfl) rfl #[.pointer (some ⟨g,0,none⟩),.int .i64 t284] rfl (by (try simp only [List.map_toArray,List.map_cons,List.map_nil]);first|done|rfl|(simp only [List.length_drop,List.length_take];rfl)) ?_;(with_reducible refine (shapesearchkeep_Src_List.calls k g s0_0 t285 t284 t286 t289 w0 _ ?side1 ?side2 A3.out).mono ?_);(case side1=>repeat (first|(with_reducible first|exact HI0.out|apply IsS56.alloc|apply IsS56.drewN|apply IsS56.drew|apply IsS56.set_1)|exact HI0.out));(case side2=>repeat (first|(with_reducible first|exact HB.out|apply ba|apply bb|apply bc|refine below_set ?_ (IsS56.ge HI0.out))|exact HB.out));rintro e w8 ⟨v287,rfl,ho0,hi,hb,hk⟩;refine ⟨_,rfl,?_⟩;have n0_:=A_ (Kd.R_lower ho0 (keep_size (w:=w) (g:=g) (row:=none) (by repeat (first|(with_reducible first|exact HK.out|apply KeepBut.set_|apply keep_drewN|apply keep_drew|apply keep_alloc)|exact HK.out))));have n1_:=A_ (KeepBut.trans (by repeat (first|(with_reducible first|exact HK.out|apply KeepBut.set_|apply keep_drewN|apply keep_drew|apply keep_alloc)|exact HK.out)) hk (.inl rfl));have n2_:=A_ (hb);have n3_:=A_ (hi);clear HK;clear HB;clear HI0;have HO288:=n0_;have HK:=n1_;have HB:=n2_;have HI0:=n3_;clear n0_ n1_ n2_ n3_;(try clear hb);(try clear hb2);(try clear hk);(try clear hi);(try clear ho0))|((with_reducible refine gate_callee (f:=24) rfl ?_);refine goesL_ (some 10) rfl rfl Try.func24 (by kernel_rfl) rfl #[.pointer (some ⟨g,0,none⟩),.int .i64 3] rfl (by (try simp only [List.map_toArray,List.map_cons,List.map_nil]);first|done|rfl|(simp only [List.length_drop,List.length_take];rfl)) ?_;(with_reducible refine (shapesearchkeep_Src_N.calls g s0_0 t289 3 t290 t291 w0 _ ?side1 ?side2 A4.out).mono ?_);(case side1=>repeat (first|(with_reducible first|exact HI0.out|apply IsS56.alloc|apply IsS56.drewN|apply IsS56.drew|apply IsS56.set_1)|exact HI0.out));(case side2=>repeat (first|(with_reducible first|exact HB.out|apply ba|apply bb|apply bc|refine below_set ?_ (IsS56.ge HI0.out))|exact HB.out));rintro e w9 ⟨rfl,hi,hb,hk⟩;refine ⟨_,rfl,?_⟩;have n0_:=A_ (rm (Kd.R_keep (IsS56.apart (show IsS56 w0 _ g s0_0 t289 from by repeat (first|(with_reducible first|exact HI0.out|apply IsS56.alloc|apply IsS56.drewN|apply IsS56.drew|apply IsS56.set_1)|exact HI0.out)) (by (with_reducible repeat (first|apply ra|apply rb|apply rc));exact HO288.out) (by decide)) hk (fun _ h=>h.2)) (fun _ h=>h.1));have n1_:=A_ (KeepBut.trans (by repeat (first|(with_reducible first|exact HK.out|apply KeepBut.set_|apply keep_drewN|apply keep_drew|apply keep_alloc)|exact HK.out)) hk (.inl rfl));have n2_:=A_ (hb);have n3_:=A_ (hi);clear HO288;clear HK;clear HB;clear HI0;have HO288:=n0_;have HK:=n1_;have HB:=n2_;have HI0:=n3_;clear n0_ n1_ n2_ n3_;(try clear hb);(try clear hb2);(try clear hk);(try clear hi);obtain ⟨Ao10,co10,eo10⟩:=Kd.R_slice HO288.out;subst eo10)|((with_reducible refine gate_callee (f:=20) rfl ?_);refine goesL_ (some 16) rfl rfl Try.func20 (by kernel_rfl) rfl #[.pointer (some ⟨g,0,none⟩),.int .i64 (t286.length : Int)] rfl (by (try simp only [List.map_toArray,List.map_cons,List.map_nil]);first|done|rfl|(simp only [List.length_drop,List.length_take];rfl)) ?_;(with_reducible refine (shapesearchkeep_Src_List.calls k g s0_0 t291 (t286.length : Int) t292 t295 w0 _ ?side1 ?side2 A6.out).mono ?_);(case side1=>repeat (first|(with_reducible first|exact HI0.out|apply IsS56.alloc|apply IsS56.drewN|apply IsS56.drew|apply IsS56.set_1)|exact HI0.out));(case side2=>repeat (first|(with_reducible first|exact HB.out|apply ba|apply bb|apply bc|refine below_set ?_ (IsS56.ge HI0.out))|exact HB.out));rintro e w11 ⟨v293,rfl,ho0,hi,hb,hk⟩;refine ⟨_,rfl,?_⟩;have n0_:=A_ (rm (Kd.R_told (Kd.R_oldK (IsS56.apart (show IsS56 w0 _ g s0_0 t291 from by repeat (first|(with_reducible first|exact HI0.out|apply IsS56.alloc|apply IsS56.drewN|apply IsS56.drew|apply IsS56.set_1)|exact HI0.out)) (by (with_reducible repeat (first|apply ra|apply rb|apply rc));exact HO288.out) (by decide)) hk) (rs ho0)) (fun _ h_=>h_.1));have n1_:=A_ (Kd.R_lower (rn ho0 (rl (by (with_reducible repeat (first|apply ra|apply rb|apply rc));exact HO288.out))) (keep_size (w:=w) (g:=g) (row:=none) (by repeat (first|(with_reducible first|exact HK.out|apply KeepBut.set_|apply keep_drewN|apply keep_drew|apply keep_alloc)|exact HK.out))));have n2_:=A_ (KeepBut.trans (by repeat (first|(with_reducible first|exact HK.out|apply KeepBut.set_|apply keep_drewN|apply keep_drew|apply keep_alloc)|exact HK.out)) hk (.inl rfl));have n3_:=A_ (hb);have n4_:=A_ (hi);clear HO288;clear HK;clear HB;clear HI0;have HO288:=n0_;have HO294:=n1_;have HK:=n2_;have HB:=n3_;have HI0:=n4_;clear n0_ n1_ n2_ n3_ n4_;(try clear hb);(try clear hb2);(try clear hk);(try clear hi);(try clear ho0)))
  go_ret2
  exact ⟨_,_,by first|rfl|(simp [errW_none,errW_some] <;> rfl)|(simp [*,errW_none,errW_some] <;> rfl),by (with_reducible repeat (first|apply ra|apply rb|apply rc));exact rm HO288.out (fun _ hk=>hk.2),by (with_reducible repeat (first|apply ra|apply rb|apply rc));exact rm HO294.out (fun _ hk=>hk.2),by repeat (first|(with_reducible first|exact HI0.out|apply IsS56.alloc|apply IsS56.drewN|apply IsS56.drew|apply IsS56.set_1)|exact HI0.out),by repeat (first|(with_reducible first|exact HB.out|apply ba|apply bb|apply bc|refine below_set ?_ (IsS56.ge HI0.out))|exact HB.out),by repeat (first|(with_reducible first|exact HK.out|apply KeepBut.set_|apply keep_drewN|apply keep_drew|apply keep_alloc)|exact HK.out)⟩
 ·
  rw [if_neg c5] at H
  have c5b0 : (t290 == 0) = false:=beq_eq_false_iff_ne.mpr c5
  have c5b1 : (t290 != 0) = true:=bne_iff_ne.mpr c5
  replace H:=Option.bind_eq_some_iff.mp H
  obtain ⟨⟨t296,t299⟩,A120,H⟩:=H
  replace H : (some (t286,t296,t299)) = some (r1,r2,r3):=H
  have A12:=A_ A120
  clear A120
  simp only [Option.some.injEq,Prod.mk.injEq] at H
  obtain ⟨rfl,rfl,rfl⟩:=H
  go_enter Try.func18,Try.ntmps18
  go_wp2_with (first|((with_reducible refine gate_callee (f:=44) rfl ?_);refine goesL_ (some 7) rfl rfl Try.func44 (by kernel_rfl) rfl #[.pointer (some ⟨g,0,none⟩)] rfl (by (try simp only [List.map_toArray,List.map_cons,List.map_nil]);first|done|rfl|(simp only [List.length_drop,List.length_take];rfl)) ?_;(with_reducible refine (shapesearchkeep_Src_Length.calls g s0_0 s0_1 t284 t285 w0 _ ?side1 ?side2 A2.out).mono ?_);(case side1=>repeat (first|(with_reducible first|exact HI0.out|apply IsS56.alloc|apply IsS56.drewN|apply IsS56.drew|apply IsS56.set_1)|exact HI0.out));(case side2=>repeat (first|(with_reducible first|exact HB.out|apply ba|apply bb|apply bc|refine below_set ?_ (IsS56.ge HI0.out))|exact HB.out));rintro e w13 ⟨rfl,hi,hb,hk⟩;refine ⟨_,rfl,?_⟩;have n0_:=A_ (KeepBut.trans (by repeat (first|(with_reducible first|exact HK.out|apply KeepBut.set_|apply keep_drewN|apply keep_drew|apply keep_alloc)|exact HK.out)) hk (.inl rfl));have n1_:=A_ (hb);have n2_:=A_ (hi);clear HK;clear HB;clear HI0;have HK:=n0_;have HB:=n1_;have HI0:=n2_;clear n0_ n1_ n2_;(try clear hb);(try clear hb2);(try clear hk);(try clear hi))|((with_reducible refine gate_callee (f:=20) rfl ?_);refine goesL_ (some 8) rfl rfl Try.func20 (by kernel_rfl) rfl #[.pointer (some ⟨g,0,none⟩),.int .i64 t284] rfl (by (try simp only [List.map_toArray,List.map_cons,List.map_nil]);first|done|rfl|(simp only [List.length_drop,List.length_take];rfl)) ?_;(with_reducible refine (shapesearchkeep_Src_List.calls k g s0_0 t285 t284 t286 t289 w0 _ ?side1 ?side2 A3.out).mono ?_);(case side1=>repeat (first|(with_reducible first|exact HI0.out|apply IsS56.alloc|apply IsS56.drewN|apply IsS56.drew|apply IsS56.set_1)|exact HI0.out));(case side2=>repeat (first|(with_reducible first|exact HB.out|apply ba|apply bb|apply bc|refine below_set ?_ (IsS56.ge HI0.out))|exact HB.out));rintro e w14 ⟨v287,rfl,ho0,hi,hb,hk⟩;refine ⟨_,rfl,?_⟩;have n0_:=A_ (Kd.R_lower ho0 (keep_size (w:=w) (g:=g) (row:=none) (by repeat (first|(with_reducible first|exact HK.out|apply KeepBut.set_|apply keep_drewN|apply keep_drew|apply keep_alloc)|exact HK.out))));have n1_:=A_ (KeepBut.trans (by repeat (first|(with_reducible first|exact HK.out|apply KeepBut.set_|apply keep_drewN|apply keep_drew|apply keep_alloc)|exact HK.out)) hk (.inl rfl));have n2_:=A_ (hb);have n3_:=A_ (hi);clear HK;clear HB;clear HI0;have HO288:=n0_;have HK:=n1_;have HB:=n2_;have HI0:=n3_;clear n0_ n1_ n2_ n3_;(try clear hb);(try clear hb2);(try clear hk);(try clear hi);(try clear ho0))|((with_reducible refine gate_callee (f:=24) rfl ?_);refine goesL_ (some 10) rfl rfl Try.func24 (by kernel_rfl) rfl #[.pointer (some ⟨g,0,none⟩),.int .i64 3] rfl (by (try simp only [List.map_toArray,List.map_cons,List.map_nil]);first|done|rfl|(simp only [List.length_drop,List.length_take];rfl)) ?_;(with_reducible refine (shapesearchkeep_Src_N.calls g s0_0 t289 3 t290 t291 w0 _ ?side1 ?side2 A4.out).mono ?_);(case side1=>repeat (first|(with_reducible first|exact HI0.out|apply IsS56.alloc|apply IsS56.drewN|apply IsS56.drew|apply IsS56.set_1)|exact HI0.out));(case side2=>repeat (first|(with_reducible first|exact HB.out|apply ba|apply bb|apply bc|refine below_set ?_ (IsS56.ge HI0.out))|exact HB.out));rintro e w15 ⟨rfl,hi,hb,hk⟩;refine ⟨_,rfl,?_⟩;have n0_:=A_ (rm (Kd.R_keep (IsS56.apart (show IsS56 w0 _ g s0_0 t289 from by repeat (first|(with_reducible first|exact HI0.out|apply IsS56.alloc|apply IsS56.drewN|apply IsS56.drew|apply IsS56.set_1)|exact HI0.out)) (by (with_reducible repeat (first|apply ra|apply rb|apply rc));exact HO288.out) (by decide)) hk (fun _ h=>h.2)) (fun _ h=>h.1));have n1_:=A_ (KeepBut.trans (by repeat (first|(with_reducible first|exact HK.out|apply KeepBut.set_|apply keep_drewN|apply keep_drew|apply keep_alloc)|exact HK.out)) hk (.inl rfl));have n2_:=A_ (hb);have n3_:=A_ (hi);clear HO288;clear HK;clear HB;clear HI0;have HO288:=n0_;have HK:=n1_;have HB:=n2_;have HI0:=n3_;clear n0_ n1_ n2_ n3_;(try clear hb);(try clear hb2);(try clear hk);(try clear hi);obtain ⟨Ao16,co16,eo16⟩:=Kd.R_slice HO288.out;subst eo16)|((with_reducible refine gate_callee (f:=19) rfl ?_);refine goesL_ (some 20) rfl rfl Try.func19 (by kernel_rfl) rfl #[.pointer (some ⟨g,0,none⟩),.slice Ao16 t286.length co16] rfl (by (try simp only [List.map_toArray,List.map_cons,List.map_nil]);first|done|rfl|(simp only [List.length_drop,List.length_take];rfl)) ?_;(with_reducible refine (shapesearchkeep_Src_Near.calls k g s0_0 t291 _ _ t286 t296 t299 w0 _ ?side1 ?side2 ?side3 ?side4 ?side5 A12.out).mono ?_);(case side1=>repeat (first|(with_reducible first|exact HI0.out|apply IsS56.alloc|apply IsS56.drewN|apply IsS56.drew|apply IsS56.set_1)|exact HI0.out));(case side2=>repeat (first|(with_reducible first|exact HB.out|apply ba|apply bb|apply bc|refine below_set ?_ (IsS56.ge HI0.out))|exact HB.out));(case side3=>repeat (first|exact (rd_ HO288.out).2.2|(with_reducible refine ca ?_ _)|(with_reducible refine cb ?_ _)|(with_reducible refine cc ?_)));(case side4=>exact (rd_ HO288.out).2.1);(case side5=>exact far_slice (IsS56.own_ne HI0.out HO288.out (by decide)));rintro e w17 ⟨v297,rfl,ho0,hi,hb,hk⟩;refine ⟨_,rfl,?_⟩;have n0_:=A_ (rm (Kd.R_told (Kd.R_oldK (IsS56.apart (show IsS56 w0 _ g s0_0 t291 from by repeat (first|(with_reducible first|exact HI0.out|apply IsS56.alloc|apply IsS56.drewN|apply IsS56.drew|apply IsS56.set_1)|exact HI0.out)) (by (with_reducible repeat (first|apply ra|apply rb|apply rc));exact HO288.out) (by decide)) hk) (rs ho0)) (fun _ h_=>h_.1));have n1_:=A_ (Kd.R_lower (rn ho0 (rl (by (with_reducible repeat (first|apply ra|apply rb|apply rc));exact HO288.out))) (keep_size (w:=w) (g:=g) (row:=none) (by repeat (first|(with_reducible first|exact HK.out|apply KeepBut.set_|apply keep_drewN|apply keep_drew|apply keep_alloc)|exact HK.out))));have n2_:=A_ (KeepBut.trans (by repeat (first|(with_reducible first|exact HK.out|apply KeepBut.set_|apply keep_drewN|apply keep_drew|apply keep_alloc)|exact HK.out)) hk (.inl rfl));have n3_:=A_ (hb);have n4_:=A_ (hi);clear HO288;clear HK;clear HB;clear HI0;have HO288:=n0_;have HO298:=n1_;have HK:=n2_;have HB:=n3_;have HI0:=n4_;clear n0_ n1_ n2_ n3_ n4_;(try clear hb);(try clear hb2);(try clear hk);(try clear hi);(try clear ho0)))
  go_ret2
  exact ⟨_,_,by first|rfl|(simp [errW_none,errW_some] <;> rfl)|(simp [*,errW_none,errW_some] <;> rfl),by (with_reducible repeat (first|apply ra|apply rb|apply rc));exact rm HO288.out (fun _ hk=>hk.2),by (with_reducible repeat (first|apply ra|apply rb|apply rc));exact rm HO298.out (fun _ hk=>hk.2),by repeat (first|(with_reducible first|exact HI0.out|apply IsS56.alloc|apply IsS56.drewN|apply IsS56.drew|apply IsS56.set_1)|exact HI0.out),by repeat (first|(with_reducible first|exact HB.out|apply ba|apply bb|apply bc|refine below_set ?_ (IsS56.ge HI0.out))|exact HB.out),by repeat (first|(with_reducible first|exact HK.out|apply KeepBut.set_|apply keep_drewN|apply keep_drew|apply keep_alloc)|exact HK.out)⟩

/-! ### shapesearchref13_product: function 50 -/
def shapesearchref13_product.l0 : Nat → List Int → List Int → Int → Int → Int → Int → Int → Option (Int)
 | 0,_,_,_,_,_,_,_=>none
 | k + 1,x0,x1,x5,x6,x7,x10,x11=>if x11 < x10 then (if 0 ≤ x11 then (if x11 < (x0.length : Int) then (if x11 < (x1.length : Int) then (shapesearchref13_product.l0 k x0 x1 (wrap64 (x5 + (wrap64 ((rd x0 x11) * (rd x1 x11))))) (wrap64 (x6 + (rd x0 x11))) (wrap64 (x7 + (rd x1 x11))) x10 (wrap64 (x11 + 1))) else (none)) else (none)) else (none)) else (some (wrap64 ((wrap64 ((x0.length : Int) * x5)) - (wrap64 (x6 * x7)))))
def shapesearchref13_product.f (k : Nat) (l0 : List Int) (l1 : List Int) : Option (Int):=shapesearchref13_product.l0 k l0 l1 0 0 0 (l0.length : Int) 0
theorem shapesearchref13_product.mono_l : ∀ k,(∀ y0 y1 y2 y3 y4 y5 y6,LeO (shapesearchref13_product.l0 k y0 y1 y2 y3 y4 y5 y6) (shapesearchref13_product.l0 (k + 1) y0 y1 y2 y3 y4 y5 y6))
 | 0=>fun _ _ _ _ _ _ _ r h=>by simp [shapesearchref13_product.l0] at h
 | k + 1=>by
  have ih0:=shapesearchref13_product.mono_l k
  ·
   intro y0 y1 y2 y3 y4 y5 y6
   unfold shapesearchref13_product.l0
   repeat' first
   | (with_reducible exact ih0 _ _ _ _ _ _ _)
   | (with_reducible exact LeO.refl _)
   | (with_reducible exact LeO.none _)
   | (with_reducible refine LeO.ite ?_ ?_)
   | (with_reducible refine LeO.bind ?_ (fun _=>?_))
   | exact ih0 _ _ _ _ _ _ _
   | exact LeO.none _
   | refine LeO.ite ?_ ?_
   | refine LeO.bind ?_ (fun _=>?_)
theorem shapesearchref13_product.mono : ∀ a0 a1 k,LeO (shapesearchref13_product.f k a0 a1) (shapesearchref13_product.f (k + 1) a0 a1):=by
 intro a0 a1 k
 have ih0:=shapesearchref13_product.mono_l k
 unfold shapesearchref13_product.f
 repeat' first
   | (with_reducible exact ih0 _ _ _ _ _ _ _)
   | (with_reducible exact LeO.refl _)
   | (with_reducible exact LeO.none _)
   | (with_reducible refine LeO.ite ?_ ?_)
   | (with_reducible refine LeO.bind ?_ (fun _=>?_))
   | exact ih0 _ _ _ _ _ _ _
   | exact LeO.none _
   | refine LeO.ite ?_ ?_
   | refine LeO.bind ?_ (fun _=>?_)
set_option maxHeartbeats 8000000 in
set_option maxRecDepth 100000 in
theorem shapesearchref13_product.calls (k : Nat) (A0 : Option Addr) (c0 : Nat) (l0 : List Int) (A1 : Option Addr) (c1 : Nat) (l1 : List Int) (r : Int) (w : World) (hr0 : Kd.C (Kd.int .i64) w A0 l0.length l0) (hc0 : l0.length ≤ c0) (hr1 : Kd.C (Kd.int .i64) w A1 l1.length l1) (hc1 : l1.length ≤ c1) (h : shapesearchref13_product.f k l0 l1 = some r) :
  Calls Try.prog 50 #[.slice A0 l0.length c0,.slice A1 l1.length c1] w fun e w'=>e = .returned (.int .i64 r)∧Drawn0 w w':=by
 have HR0:=A_ hr0
 have HC0:=A_ hc0
 clear hr0 hc0
 have HR1:=A_ hr1
 have HC1:=A_ hc1
 clear hr1 hc1
 have H : (shapesearchref13_product.l0 k l0 l1 0 0 0 (l0.length : Int) 0) = some r:=h
 clear h
 have H':=A_ H
 clear H
 go_enter Try.func50,Try.ntmps50
 go_wp2
 repeat (go_quiet (fail);try go_wp2)
 go_loopg [5,6,7,11] k (fun kq v5 v6 v7 v11 w'=>∃ (x5_1 : Int) (x6_1 : Int) (x7_1 : Int) (x11_1 : Int),v5 = .int .i64 x5_1∧v6 = .int .i64 x6_1∧v7 = .int .i64 x7_1∧v11 = .int .i64 x11_1∧Aside0 (shapesearchref13_product.l0 kq l0 l1 x5_1 x6_1 x7_1 (l0.length : Int) x11_1 = some r)∧Aside0 (kq ≤ k)∧Drawn0 w w')
 case atStart=>exact ⟨(0),(0),(0),(0),(by first|rfl|(simp;done)|(simp [*];done)),(by first|rfl|(simp;done)|(simp [*];done)),(by first|rfl|(simp;done)|(simp [*];done)),(by first|rfl|(simp;done)|(simp [*];done)),H',⟨Nat.le_refl _⟩,by repeat (first|exact Drawn0.refl _|apply Drawn0.step)⟩
 case round =>
  clear H'
  try clear c1
  try clear p2
  obtain ⟨x5_1,x6_1,x7_1,x11_1,rfl,rfl,rfl,rfl,HA,HK1,⟨m1,rfl⟩⟩:=hrel
  cases gk with
  | zero=>exact absurd HA.out (by simp [shapesearchref13_product.l0])
  | succ k1 =>
   have H:=HA.out
   clear HA
   simp only [shapesearchref13_product.l0] at H
   by_cases c3 : x11_1 < (l0.length : Int)
   ·
    rw [if_pos c3] at H
    have c3b0 : decide (x11_1 < (l0.length : Int)) = true:=decide_eq_true c3
    clear c3
    by_cases c4 : 0 ≤ x11_1
    ·
     rw [if_pos c4] at H
     have c4b0 : decide (0 ≤ x11_1) = true:=decide_eq_true c4
     clear c4
     by_cases c5 : x11_1 < (l0.length : Int)
     ·
      rw [if_pos c5] at H
      have c5b0 : decide (x11_1 < (l0.length : Int)) = true:=decide_eq_true c5
      clear c5
      by_cases c6 : x11_1 < (l1.length : Int)
      ·
       rw [if_pos c6] at H
       have c6b0 : decide (x11_1 < (l1.length : Int)) = true:=decide_eq_true c6
       clear c6
       have H':=A_ H
       clear H
       have p300 : 0 ≤ (x11_1 : Int):=of_decide_eq_true (by first|(with_reducible assumption)|assumption)
       have q300 : x11_1 < (l0.length : Int):=of_decide_eq_true (by first|(with_reducible assumption)|assumption)
       obtain ⟨ad300,e300,hx300_0⟩:=Kd.at_int HR0.out x11_1 p300 q300
       cases e300
       replace p300:=eq_true p300
       replace q300:=eq_true q300
       have p301 : 0 ≤ (x11_1 : Int):=of_decide_eq_true (by first|(with_reducible assumption)|assumption)
       have q301 : x11_1 < (l1.length : Int):=of_decide_eq_true (by first|(with_reducible assumption)|assumption)
       obtain ⟨ad301,e301,hx301_0⟩:=Kd.at_int HR1.out x11_1 p301 q301
       cases e301
       replace p301:=eq_true p301
       replace q301:=eq_true q301
       have p302 : 0 ≤ (x11_1 : Int):=of_decide_eq_true (by first|(with_reducible assumption)|assumption)
       have q302 : x11_1 < (l0.length : Int):=of_decide_eq_true (by first|(with_reducible assumption)|assumption)
       obtain ⟨ad302,e302,hx302_0⟩:=Kd.at_int HR0.out x11_1 p302 q302
       obtain rfl : ad300 = ad302:=(by injection e302)
       replace p302:=eq_true p302
       replace q302:=eq_true q302
       have p303 : 0 ≤ (x11_1 : Int):=of_decide_eq_true (by first|(with_reducible assumption)|assumption)
       have q303 : x11_1 < (l1.length : Int):=of_decide_eq_true (by first|(with_reducible assumption)|assumption)
       obtain ⟨ad303,e303,hx303_0⟩:=Kd.at_int HR1.out x11_1 p303 q303
       obtain rfl : ad301 = ad303:=(by injection e303)
       replace p303:=eq_true p303
       replace q303:=eq_true q303
       go_wp2
       repeat (go_quiet (fail);try go_wp2)
       go_roundg k1
       case measure=>have:=HK1.out;omega
       case rel=>exact ⟨(wrap64 (x5_1 + (wrap64 ((rd l0 x11_1) * (rd l1 x11_1))))),(wrap64 (x6_1 + (rd l0 x11_1))),(wrap64 (x7_1 + (rd l1 x11_1))),(wrap64 (x11_1 + 1)),(by first|rfl|(simp;done)|(simp [*];done)),(by first|rfl|(simp;done)|(simp [*];done)),(by first|rfl|(simp;done)|(simp [*];done)),(by first|rfl|(simp;done)|(simp [*];done)),H',⟨by have:=HK1.out;omega⟩,by repeat (first|exact Drawn0.refl _|apply Drawn0.step)⟩
      ·
       rw [if_neg c6] at H
       exact absurd H (by simp)
     ·
      rw [if_neg c5] at H
      exact absurd H (by simp)
    ·
     rw [if_neg c4] at H
     exact absurd H (by simp)
   ·
    rw [if_neg c3] at H
    have c3b0 : decide (x11_1 < (l0.length : Int)) = false:=decide_eq_false c3
    clear c3
    obtain rfl:=Option.some.inj H
    go_wp2
    repeat (go_quiet (fail);try go_wp2)
    go_ret
    exact ⟨by first|rfl|(simp;done)|(simp [*];done),by repeat (first|exact Drawn0.refl _|apply Drawn0.step)⟩

/-! ### shapesearchref04_Sample: function 75 -/
def shapesearchref04_Sample.f (a0 : Int) : Option (Bool):=if a0 ≥ (-1000) then (some (decide (a0 ≤ 1000))) else (some false)
set_option maxHeartbeats 8000000 in
set_option maxRecDepth 100000 in
theorem shapesearchref04_Sample.calls (a0 : Int) (r : Bool) (w : World) (h : shapesearchref04_Sample.f a0 = some r) :
  Calls Try.prog 75 #[.int .i64 a0] w fun e w'=>e = .returned (.bool r)∧Drawn0 w w':=by
 have H : (if a0 ≥ (-1000) then (some (decide (a0 ≤ 1000))) else (some false)) = some r:=h
 clear h
 by_cases c2 : a0 ≥ (-1000)
 ·
  rw [if_pos c2] at H
  have c2b0 : decide ((-1000) ≤ a0) = true:=decide_eq_true c2
  clear c2
  obtain rfl:=Option.some.inj H
  go_enter Try.func75,Try.ntmps75
  go_wp2
  go_ret
  exact ⟨by first|rfl|(simp;done)|(simp [*];done),by repeat (first|exact Drawn0.refl _|apply Drawn0.step)⟩
 ·
  rw [if_neg c2] at H
  have c2b0 : decide ((-1000) ≤ a0) = false:=decide_eq_false c2
  clear c2
  obtain rfl:=Option.some.inj H
  go_enter Try.func75,Try.ntmps75
  go_wp2
  go_ret
  exact ⟨by first|rfl|(simp;done)|(simp [*];done),by repeat (first|exact Drawn0.refl _|apply Drawn0.step)⟩

/-! ### shapesearchref12_Samples: function 66 -/
def shapesearchref12_Samples.l0 : Nat → List Int → Int → Int → Option (Int)
 | 0,_,_,_=>none
 | k + 1,x0,x5,x6=>if x6 < x5 then (if 0 ≤ x6 then (if x6 < (x0.length : Int) then ((shapesearchref04_Sample.f (rd x0 x6)).bind fun t305=>(if t305 = true then (shapesearchref12_Samples.l0 k x0 x5 (wrap64 (x6 + 1))) else (some 12))) else (none)) else (none)) else (some 0)
def shapesearchref12_Samples.f (k : Nat) (l0 : List Int) : Option (Int):=shapesearchref12_Samples.l0 k l0 (l0.length : Int) 0
theorem shapesearchref12_Samples.mono_l : ∀ k,(∀ y0 y1 y2,LeO (shapesearchref12_Samples.l0 k y0 y1 y2) (shapesearchref12_Samples.l0 (k + 1) y0 y1 y2))
 | 0=>fun _ _ _ r h=>by simp [shapesearchref12_Samples.l0] at h
 | k + 1=>by
  have ih0:=shapesearchref12_Samples.mono_l k
  ·
   intro y0 y1 y2
   unfold shapesearchref12_Samples.l0
   repeat' first
   | (with_reducible exact ih0 _ _ _)
   | (with_reducible exact LeO.refl _)
   | (with_reducible exact LeO.none _)
   | (with_reducible refine LeO.ite ?_ ?_)
   | (with_reducible refine LeO.bind ?_ (fun _=>?_))
   | exact ih0 _ _ _
   | exact LeO.none _
   | refine LeO.ite ?_ ?_
   | refine LeO.bind ?_ (fun _=>?_)
theorem shapesearchref12_Samples.mono : ∀ a0 k,LeO (shapesearchref12_Samples.f k a0) (shapesearchref12_Samples.f (k + 1) a0):=by
 intro a0 k
 have ih0:=shapesearchref12_Samples.mono_l k
 unfold shapesearchref12_Samples.f
 repeat' first
   | (with_reducible exact ih0 _ _ _)
   | (with_reducible exact LeO.refl _)
   | (with_reducible exact LeO.none _)
   | (with_reducible refine LeO.ite ?_ ?_)
   | (with_reducible refine LeO.bind ?_ (fun _=>?_))
   | exact ih0 _ _ _
   | exact LeO.none _
   | refine LeO.ite ?_ ?_
   | refine LeO.bind ?_ (fun _=>?_)
set_option maxHeartbeats 8000000 in
set_option maxRecDepth 100000 in
theorem shapesearchref12_Samples.calls (k : Nat) (A0 : Option Addr) (c0 : Nat) (l0 : List Int) (r : Int) (w : World) (hr0 : Kd.C (Kd.int .i64) w A0 l0.length l0) (hc0 : l0.length ≤ c0) (h : shapesearchref12_Samples.f k l0 = some r) :
  Calls Try.prog 66 #[.slice A0 l0.length c0] w fun e w'=>e = .returned (.int .i64 r)∧Drawn0 w w':=by
 have HR0:=A_ hr0
 have HC0:=A_ hc0
 clear hr0 hc0
 have H : (shapesearchref12_Samples.l0 k l0 (l0.length : Int) 0) = some r:=h
 clear h
 have H':=A_ H
 clear H
 go_enter Try.func66,Try.ntmps66
 go_wp2
 go_loopg [6] k (fun kq v6 w'=>∃ (x6_1 : Int),v6 = .int .i64 x6_1∧Aside0 (shapesearchref12_Samples.l0 kq l0 (l0.length : Int) x6_1 = some r)∧Aside0 (kq ≤ k)∧Drawn0 w w')
 case atStart=>exact ⟨(0),(by first|rfl|(simp;done)|(simp [*];done)),H',⟨Nat.le_refl _⟩,by repeat (first|exact Drawn0.refl _|apply Drawn0.step)⟩
 case round =>
  clear H'
  obtain ⟨x6_1,rfl,HA,HK1,⟨m1,rfl⟩⟩:=hrel
  cases gk with
  | zero=>exact absurd HA.out (by simp [shapesearchref12_Samples.l0])
  | succ k1 =>
   have H:=HA.out
   clear HA
   simp only [shapesearchref12_Samples.l0] at H
   by_cases c2 : x6_1 < (l0.length : Int)
   ·
    rw [if_pos c2] at H
    have c2b0 : decide (x6_1 < (l0.length : Int)) = true:=decide_eq_true c2
    clear c2
    by_cases c3 : 0 ≤ x6_1
    ·
     rw [if_pos c3] at H
     have c3b0 : decide (0 ≤ x6_1) = true:=decide_eq_true c3
     clear c3
     by_cases c4 : x6_1 < (l0.length : Int)
     ·
      rw [if_pos c4] at H
      have c4b0 : decide (x6_1 < (l0.length : Int)) = true:=decide_eq_true c4
      clear c4
      replace H:=Option.bind_eq_some_iff.mp H
      obtain ⟨t305,A50,H⟩:=H
      replace H : (if t305 = true then (shapesearchref12_Samples.l0 k1 l0 (l0.length : Int) (wrap64 (x6_1 + 1))) else (some 12)) = some r:=H
      have A5:=A_ A50
      clear A50
      by_cases c6 : t305 = true
      ·
       subst c6
       have H1 : (shapesearchref12_Samples.l0 k1 l0 (l0.length : Int) (wrap64 (x6_1 + 1))) = some r:=by rw [if_pos rfl] at H;exact H
       clear H
       have H:=H1
       clear H1
       have H':=A_ H
       clear H
       have p304 : 0 ≤ (x6_1 : Int):=of_decide_eq_true (by first|(with_reducible assumption)|assumption)
       have q304 : x6_1 < (l0.length : Int):=of_decide_eq_true (by first|(with_reducible assumption)|assumption)
       obtain ⟨ad304,e304,hx304_0⟩:=Kd.at_int HR0.out x6_1 p304 q304
       cases e304
       replace p304:=eq_true p304
       replace q304:=eq_true q304
       go_wp2_with (first|((with_reducible refine gate_callee (f:=75) rfl ?_);refine goesL_ (some 13) rfl rfl Try.func75 (by kernel_rfl) rfl #[.int .i64 (rd l0 x6_1)] rfl (by (try simp only [List.map_toArray,List.map_cons,List.map_nil]);first|done|rfl|(simp only [List.length_drop,List.length_take];rfl)) ?_;(with_reducible refine (shapesearchref04_Sample.calls (rd l0 x6_1) true _ A5.out).mono ?_);rintro e w' ⟨rfl,⟨nd,rfl⟩⟩;refine ⟨_,rfl,?_⟩))
       go_roundg k1
       case measure=>have:=HK1.out;omega
       case rel=>exact ⟨(wrap64 (x6_1 + 1)),(by first|rfl|(simp;done)|(simp [*];done)),H',⟨by have:=HK1.out;omega⟩,by repeat (first|exact Drawn0.refl _|apply Drawn0.step)⟩
      ·
       replace c6:=Bool.eq_false_iff.mpr c6
       subst c6
       have H1 : (some 12) = some r:=by rw [if_neg (show ¬ (false = true) by decide)] at H;exact H
       clear H
       have H:=H1
       clear H1
       obtain rfl:=Option.some.inj H
       have p304 : 0 ≤ (x6_1 : Int):=of_decide_eq_true (by first|(with_reducible assumption)|assumption)
       have q304 : x6_1 < (l0.length : Int):=of_decide_eq_true (by first|(with_reducible assumption)|assumption)
       obtain ⟨ad304,e304,hx304_0⟩:=Kd.at_int HR0.out x6_1 p304 q304
       cases e304
       replace p304:=eq_true p304
       replace q304:=eq_true q304
       go_wp2_with (first|((with_reducible refine gate_callee (f:=75) rfl ?_);refine goesL_ (some 13) rfl rfl Try.func75 (by kernel_rfl) rfl #[.int .i64 (rd l0 x6_1)] rfl (by (try simp only [List.map_toArray,List.map_cons,List.map_nil]);first|done|rfl|(simp only [List.length_drop,List.length_take];rfl)) ?_;(with_reducible refine (shapesearchref04_Sample.calls (rd l0 x6_1) false _ A5.out).mono ?_);rintro e w' ⟨rfl,⟨nd,rfl⟩⟩;refine ⟨_,rfl,?_⟩))
       go_ret
       exact ⟨by first|rfl|(simp;done)|(simp [*];done),by repeat (first|exact Drawn0.refl _|apply Drawn0.step)⟩
     ·
      rw [if_neg c4] at H
      exact absurd H (by simp)
    ·
     rw [if_neg c3] at H
     exact absurd H (by simp)
   ·
    rw [if_neg c2] at H
    have c2b0 : decide (x6_1 < (l0.length : Int)) = false:=decide_eq_false c2
    clear c2
    obtain rfl:=Option.some.inj H
    go_wp2
    go_ret
    exact ⟨by first|rfl|(simp;done)|(simp [*];done),by repeat (first|exact Drawn0.refl _|apply Drawn0.step)⟩

end Go.Proofs.Ytodipcfbgnljeaa.PChannelsGreatest
