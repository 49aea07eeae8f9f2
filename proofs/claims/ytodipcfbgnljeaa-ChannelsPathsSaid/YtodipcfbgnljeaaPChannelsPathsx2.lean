/- This file proves, function by function, what the Go functions that one law uses compute; most of it was printed by a program (wip/tools of this session, over the kit's print). -/
import Derived.Test.YtodipcfbgnljeaaPChannelsPathsx0
import Derived.Test.YtodipcfbgnljeaaPChannelsPathsx1
namespace Go.Proofs.Ytodipcfbgnljeaa.PChannelsPaths
open Go.RowKit Go.Proofs.YtodipcfbgnljeaaW.PrintWords Go.Proofs.YtodipcfbgnljeaaW.PrintLast Go.Proofs.YtodipcfbgnljeaaW.PrintMore
attribute [local go_sem] max2_int min2_int max_two min_two max_three min_three max_four min_four   -- for this text's walks alone
set_option linter.unusedVariables false
set_option linter.unusedSimpArgs false

/-! ### shapesearchkeep_Src_List: function 20 -/
mutual
def shapesearchkeep_Src_List.j0 : Nat → Int → Int → Int → Int → List Int → Int → Option (List Int × Int)
 | 0,_,_,_,_,_,_=>none
 | k + 1,x1,x5,x6,x7,x1000,x1001=>shapesearchkeep_Src_List.l0 k x1 x5 x6 x7 ([] : List Int) 0 x1000 x1001
def shapesearchkeep_Src_List.l0 : Nat → Int → Int → Int → Int → List Int → Int → List Int → Int → Option (List Int × Int)
 | 0,_,_,_,_,_,_,_,_=>none
 | k + 1,x1,x5,x6,x7,x8,x9,x1000,x1001=>if x9 < x1 then (if x5 = 0 then (shapesearchkeep_Src_List.j2 k x1 x5 x6 x7 x8 x9 x5 (x5 == 0) x1000 x1001) else (shapesearchkeep_Src_List.j2 k x1 x5 x6 x7 x8 x9 x5 (x5 == 1) x1000 x1001)) else (some (x8,x1001))
def shapesearchkeep_Src_List.j2 : Nat → Int → Int → Int → Int → List Int → Int → Int → Bool → List Int → Int → Option (List Int × Int)
 | 0,_,_,_,_,_,_,_,_,_,_=>none
 | k + 1,x1,x5,x6,x7,x8,x9,x25,x32,x1000,x1001=>if x32 = true then ((shapesearchkeep_Src_Range.f x1000 x1001 (wrap64 (-x6)) x6).bind fun bt154=>(if x8.length < 17592186044416 then (shapesearchkeep_Src_List.l0 k x1 x5 x6 x7 (x8 ++ [bt154.1]) (wrap64 (x9 + 1)) x1000 bt154.2) else (none))) else (if x25 = 2 then (shapesearchkeep_Src_List.j3 k x1 x5 x6 x7 x8 x9 x25 (x25 == 2) x1000 x1001) else (shapesearchkeep_Src_List.j3 k x1 x5 x6 x7 x8 x9 x25 (x25 == 3) x1000 x1001))
def shapesearchkeep_Src_List.j3 : Nat → Int → Int → Int → Int → List Int → Int → Int → Bool → List Int → Int → Option (List Int × Int)
 | 0,_,_,_,_,_,_,_,_,_,_=>none
 | k + 1,x1,x5,x6,x7,x8,x9,x25,x43,x1000,x1001=>if x43 = true then ((shapesearchkeep_Src_Range.f x1000 x1001 (wrap64 (-x6)) x6).bind fun bt159=>((shapesearchkeep_clip.f (wrap64 (x7 + bt159.1))).bind fun t161=>(if x8.length < 17592186044416 then (shapesearchkeep_Src_List.l0 k x1 x5 x6 t161 (x8 ++ [t161]) (wrap64 (x9 + 1)) x1000 bt159.2) else (none)))) else (if x25 = 4 then ((shapesearchkeep_Src_N.f x1000 x1001 4).bind fun bt165=>(if bt165.1 = 0 then ((shapesearchkeep_Src_Range.f x1000 bt165.2 (wrap64 (-x6)) x6).bind fun bt167=>(if x8.length < 17592186044416 then (shapesearchkeep_Src_List.l0 k x1 x5 x6 bt167.1 (x8 ++ [bt167.1]) (wrap64 (x9 + 1)) x1000 bt167.2) else (none))) else (if x8.length < 17592186044416 then (shapesearchkeep_Src_List.l0 k x1 x5 x6 x7 (x8 ++ [x7]) (wrap64 (x9 + 1)) x1000 bt165.2) else (none)))) else ((shapesearchkeep_Src_Pick.f x1000 x1001 (([(-1000),1000,1000,0] : List Int))).bind fun bt178=>(if x8.length < 17592186044416 then (shapesearchkeep_Src_List.l0 k x1 x5 x6 x7 (x8 ++ [bt178.1]) (wrap64 (x9 + 1)) x1000 bt178.2) else (none))))
end
def shapesearchkeep_Src_List.f (k : Nat) (s0_0 : List Int) (s0_1 : Int) (a1 : Int) : Option (List Int × Int):=(shapesearchkeep_Src_N.f s0_0 s0_1 6).bind fun bt143=>((shapesearchkeep_Src_Pick.f s0_0 bt143.2 (([1,3,10,100,1000] : List Int))).bind fun bt148=>((shapesearchkeep_Src_N.f s0_0 bt148.2 3).bind fun bt150=>(if bt150.1 = 0 then ((shapesearchkeep_Src_Range.f s0_0 bt150.2 (-1000) 1000).bind fun bt152=>(shapesearchkeep_Src_List.j0 k a1 bt143.1 bt148.1 bt152.1 s0_0 bt152.2)) else (shapesearchkeep_Src_List.j0 k a1 bt143.1 bt148.1 0 s0_0 bt150.2))))
theorem shapesearchkeep_Src_List.mono_l : ∀ k,(∀ y0 y1 y2 y3 y4 y5,LeO (shapesearchkeep_Src_List.j0 k y0 y1 y2 y3 y4 y5) (shapesearchkeep_Src_List.j0 (k + 1) y0 y1 y2 y3 y4 y5))∧(∀ y0 y1 y2 y3 y4 y5 y6 y7,LeO (shapesearchkeep_Src_List.l0 k y0 y1 y2 y3 y4 y5 y6 y7) (shapesearchkeep_Src_List.l0 (k + 1) y0 y1 y2 y3 y4 y5 y6 y7))∧(∀ y0 y1 y2 y3 y4 y5 y6 y7 y8 y9,LeO (shapesearchkeep_Src_List.j2 k y0 y1 y2 y3 y4 y5 y6 y7 y8 y9) (shapesearchkeep_Src_List.j2 (k + 1) y0 y1 y2 y3 y4 y5 y6 y7 y8 y9))∧(∀ y0 y1 y2 y3 y4 y5 y6 y7 y8 y9,LeO (shapesearchkeep_Src_List.j3 k y0 y1 y2 y3 y4 y5 y6 y7 y8 y9) (shapesearchkeep_Src_List.j3 (k + 1) y0 y1 y2 y3 y4 y5 y6 y7 y8 y9))
 | 0=>⟨fun _ _ _ _ _ _ r h=>by simp [shapesearchkeep_Src_List.j0] at h,fun _ _ _ _ _ _ _ _ r h=>by simp [shapesearchkeep_Src_List.l0] at h,fun _ _ _ _ _ _ _ _ _ _ r h=>by simp [shapesearchkeep_Src_List.j2] at h,fun _ _ _ _ _ _ _ _ _ _ r h=>by simp [shapesearchkeep_Src_List.j3] at h⟩
 | k + 1=>by
  obtain ⟨ih0,ih1,ih2,ih3⟩:=shapesearchkeep_Src_List.mono_l k
  refine ⟨?_,?_,?_,?_⟩
  ·
   intro y0 y1 y2 y3 y4 y5
   unfold shapesearchkeep_Src_List.j0
   repeat' first
   | (with_reducible exact ih0 _ _ _ _ _ _)
   | (with_reducible exact ih1 _ _ _ _ _ _ _ _)
   | (with_reducible exact ih2 _ _ _ _ _ _ _ _ _ _)
   | (with_reducible exact ih3 _ _ _ _ _ _ _ _ _ _)
   | (with_reducible exact LeO.refl _)
   | (with_reducible exact LeO.none _)
   | (with_reducible refine LeO.ite ?_ ?_)
   | (with_reducible refine LeO.bind ?_ (fun _=>?_))
   | exact ih0 _ _ _ _ _ _
   | exact ih1 _ _ _ _ _ _ _ _
   | exact ih2 _ _ _ _ _ _ _ _ _ _
   | exact ih3 _ _ _ _ _ _ _ _ _ _
   | exact LeO.none _
   | refine LeO.ite ?_ ?_
   | refine LeO.bind ?_ (fun _=>?_)
  ·
   intro y0 y1 y2 y3 y4 y5 y6 y7
   unfold shapesearchkeep_Src_List.l0
   repeat' first
   | (with_reducible exact ih0 _ _ _ _ _ _)
   | (with_reducible exact ih1 _ _ _ _ _ _ _ _)
   | (with_reducible exact ih2 _ _ _ _ _ _ _ _ _ _)
   | (with_reducible exact ih3 _ _ _ _ _ _ _ _ _ _)
   | (with_reducible exact LeO.refl _)
   | (with_reducible exact LeO.none _)
   | (with_reducible refine LeO.ite ?_ ?_)
   | (with_reducible refine LeO.bind ?_ (fun _=>?_))
   | exact ih0 _ _ _ _ _ _
   | exact ih1 _ _ _ _ _ _ _ _
   | exact ih2 _ _ _ _ _ _ _ _ _ _
   | exact ih3 _ _ _ _ _ _ _ _ _ _
   | exact LeO.none _
   | refine LeO.ite ?_ ?_
   | refine LeO.bind ?_ (fun _=>?_)
  ·
   intro y0 y1 y2 y3 y4 y5 y6 y7 y8 y9
   unfold shapesearchkeep_Src_List.j2
   repeat' first
   | (with_reducible exact ih0 _ _ _ _ _ _)
   | (with_reducible exact ih1 _ _ _ _ _ _ _ _)
   | (with_reducible exact ih2 _ _ _ _ _ _ _ _ _ _)
   | (with_reducible exact ih3 _ _ _ _ _ _ _ _ _ _)
   | (with_reducible exact LeO.refl _)
   | (with_reducible exact LeO.none _)
   | (with_reducible refine LeO.ite ?_ ?_)
   | (with_reducible refine LeO.bind ?_ (fun _=>?_))
   | exact ih0 _ _ _ _ _ _
   | exact ih1 _ _ _ _ _ _ _ _
   | exact ih2 _ _ _ _ _ _ _ _ _ _
   | exact ih3 _ _ _ _ _ _ _ _ _ _
   | exact LeO.none _
   | refine LeO.ite ?_ ?_
   | refine LeO.bind ?_ (fun _=>?_)
  ·
   intro y0 y1 y2 y3 y4 y5 y6 y7 y8 y9
   unfold shapesearchkeep_Src_List.j3
   repeat' first
   | (with_reducible exact ih0 _ _ _ _ _ _)
   | (with_reducible exact ih1 _ _ _ _ _ _ _ _)
   | (with_reducible exact ih2 _ _ _ _ _ _ _ _ _ _)
   | (with_reducible exact ih3 _ _ _ _ _ _ _ _ _ _)
   | (with_reducible exact LeO.refl _)
   | (with_reducible exact LeO.none _)
   | (with_reducible refine LeO.ite ?_ ?_)
   | (with_reducible refine LeO.bind ?_ (fun _=>?_))
   | exact ih0 _ _ _ _ _ _
   | exact ih1 _ _ _ _ _ _ _ _
   | exact ih2 _ _ _ _ _ _ _ _ _ _
   | exact ih3 _ _ _ _ _ _ _ _ _ _
   | exact LeO.none _
   | refine LeO.ite ?_ ?_
   | refine LeO.bind ?_ (fun _=>?_)
theorem shapesearchkeep_Src_List.mono : ∀ a0 a1 a2 k,LeO (shapesearchkeep_Src_List.f k a0 a1 a2) (shapesearchkeep_Src_List.f (k + 1) a0 a1 a2):=by
 intro a0 a1 a2 k
 obtain ⟨ih0,ih1,ih2,ih3⟩:=shapesearchkeep_Src_List.mono_l k
 unfold shapesearchkeep_Src_List.f
 repeat' first
   | (with_reducible exact ih0 _ _ _ _ _ _)
   | (with_reducible exact ih1 _ _ _ _ _ _ _ _)
   | (with_reducible exact ih2 _ _ _ _ _ _ _ _ _ _)
   | (with_reducible exact ih3 _ _ _ _ _ _ _ _ _ _)
   | (with_reducible exact LeO.refl _)
   | (with_reducible exact LeO.none _)
   | (with_reducible refine LeO.ite ?_ ?_)
   | (with_reducible refine LeO.bind ?_ (fun _=>?_))
   | exact ih0 _ _ _ _ _ _
   | exact ih1 _ _ _ _ _ _ _ _
   | exact ih2 _ _ _ _ _ _ _ _ _ _
   | exact ih3 _ _ _ _ _ _ _ _ _ _
   | exact LeO.none _
   | refine LeO.ite ?_ ?_
   | refine LeO.bind ?_ (fun _=>?_)
set_option maxHeartbeats 8000000 in
set_option maxRecDepth 100000 in
theorem shapesearchkeep_Src_List.calls (k : Nat) (g : Nat) (s0_0 : List Int) (s0_1 : Int) (a1 : Int) (r1 : List Int) (r2 : Int) (w0 w : World) (hI : IsS56 w0 w g s0_0 s0_1) (hB : Below w0.heap.size w0 w) (h : shapesearchkeep_Src_List.f k s0_0 s0_1 a1 = some (r1,r2)) :
  Calls Try.prog 20 #[.pointer (some ⟨g,0,none⟩),.int .i64 a1] w fun e w'=>∃ v0_ : Value,e = .returned (v0_)∧Kd.R (Kd.int .i64) 3 w' w.heap.size (fun _=>True) v0_ r1∧IsS56 w0 w' g s0_0 r2∧Below w0.heap.size w0 w'∧KeepBut w w' g none:=by
 have HI0:=A_ hI
 have HK:=A_ (KeepBut.refl w g none)
 have HL:=A_ hB.size
 clear hI
 have HW0:=A_ hB.size
 have HB:=A_ hB
 clear hB
 have H : ((shapesearchkeep_Src_N.f s0_0 s0_1 6).bind fun bt143=>((shapesearchkeep_Src_Pick.f s0_0 bt143.2 (([1,3,10,100,1000] : List Int))).bind fun bt148=>((shapesearchkeep_Src_N.f s0_0 bt148.2 3).bind fun bt150=>(if bt150.1 = 0 then ((shapesearchkeep_Src_Range.f s0_0 bt150.2 (-1000) 1000).bind fun bt152=>(shapesearchkeep_Src_List.j0 k a1 bt143.1 bt148.1 bt152.1 s0_0 bt152.2)) else (shapesearchkeep_Src_List.j0 k a1 bt143.1 bt148.1 0 s0_0 bt150.2))))) = some (r1,r2):=h
 clear h
 replace H:=Option.bind_eq_some_iff.mp H
 obtain ⟨⟨t143,t144⟩,A30,H⟩:=H
 replace H : ((shapesearchkeep_Src_Pick.f s0_0 t144 (([1,3,10,100,1000] : List Int))).bind fun bt148=>((shapesearchkeep_Src_N.f s0_0 bt148.2 3).bind fun bt150=>(if bt150.1 = 0 then ((shapesearchkeep_Src_Range.f s0_0 bt150.2 (-1000) 1000).bind fun bt152=>(shapesearchkeep_Src_List.j0 k a1 t143 bt148.1 bt152.1 s0_0 bt152.2)) else (shapesearchkeep_Src_List.j0 k a1 t143 bt148.1 0 s0_0 bt150.2)))) = some (r1,r2):=H
 have A3:=A_ A30
 clear A30
 obtain ⟨y145,hy145⟩ : ∃ y_ : List Int,y_ = (([1,3,10,100,1000] : List Int)):=⟨_,rfl⟩
 replace H : ((shapesearchkeep_Src_Pick.f s0_0 t144 y145).bind fun bt148=>((shapesearchkeep_Src_N.f s0_0 bt148.2 3).bind fun bt150=>(if bt150.1 = 0 then ((shapesearchkeep_Src_Range.f s0_0 bt150.2 (-1000) 1000).bind fun bt152=>(shapesearchkeep_Src_List.j0 k a1 t143 bt148.1 bt152.1 s0_0 bt152.2)) else (shapesearchkeep_Src_List.j0 k a1 t143 bt148.1 0 s0_0 bt150.2)))) = some (r1,r2):=by first|(rw [hy145];with_reducible exact H)|(have H2_:=(Option.bind_some _ _).symm.trans H;rw [hy145];with_reducible exact H2_)|(have H2_:=(Option.bind_some _ _).symm.trans H;with_reducible exact H2_)|with_reducible exact H|(rw [hy145];exact H)|exact H
 have Ny145:=A_ hy145
 clear hy145
 replace H:=Option.bind_eq_some_iff.mp H
 obtain ⟨⟨t148,t149⟩,A40,H⟩:=H
 replace H : ((shapesearchkeep_Src_N.f s0_0 t149 3).bind fun bt150=>(if bt150.1 = 0 then ((shapesearchkeep_Src_Range.f s0_0 bt150.2 (-1000) 1000).bind fun bt152=>(shapesearchkeep_Src_List.j0 k a1 t143 t148 bt152.1 s0_0 bt152.2)) else (shapesearchkeep_Src_List.j0 k a1 t143 t148 0 s0_0 bt150.2))) = some (r1,r2):=H
 have A4:=A_ A40
 clear A40
 replace H:=Option.bind_eq_some_iff.mp H
 obtain ⟨⟨t150,t151⟩,A50,H⟩:=H
 replace H : (if t150 = 0 then ((shapesearchkeep_Src_Range.f s0_0 t151 (-1000) 1000).bind fun bt152=>(shapesearchkeep_Src_List.j0 k a1 t143 t148 bt152.1 s0_0 bt152.2)) else (shapesearchkeep_Src_List.j0 k a1 t143 t148 0 s0_0 t151)) = some (r1,r2):=H
 have A5:=A_ A50
 clear A50
 have HC6:=A_ H
 clear H
 go_enter Try.func20,Try.ntmps20
 go_upto_if 17 with (first|((with_reducible refine gate_callee (f:=24) rfl ?_);refine goesL_ (some 11) rfl rfl Try.func24 (by kernel_rfl) rfl #[.pointer (some ⟨g,0,none⟩),.int .i64 6] rfl (by (try simp only [List.map_toArray,List.map_cons,List.map_nil]);first|done|rfl|(simp only [List.length_drop,List.length_take];rfl)) ?_;(with_reducible refine (shapesearchkeep_Src_N.calls g s0_0 s0_1 6 t143 t144 w0 _ ?side1 ?side2 A3.out).mono ?_);(case side1=>repeat (first|(with_reducible first|exact HI0.out|apply IsS56.alloc|apply IsS56.drewN|apply IsS56.drew|apply IsS56.set_1)|exact HI0.out));(case side2=>repeat (first|(with_reducible first|exact HB.out|apply ba|apply bb|apply bc|refine below_set ?_ (IsS56.ge HI0.out))|exact HB.out));rintro e w7 ⟨rfl,hi,hb,hk⟩;refine ⟨_,rfl,?_⟩;have n0_:=A_ (KeepBut.trans (by repeat (first|(with_reducible first|exact HK.out|apply KeepBut.set_|apply keep_drewN|apply keep_drew|apply keep_alloc)|exact HK.out)) hk (.inl rfl));have n1_:=A_ (hb);have n2_:=A_ (hi);clear HK;clear HB;clear HI0;have HK:=n0_;have HB:=n1_;have HI0:=n2_;clear n0_ n1_ n2_;(try clear hb);(try clear hb2);(try clear hk);(try clear hi))|((with_reducible refine gate_dst (N:=13) rfl ?_);refine Kd.R_lit (Kd.int .i64) _ 3 ?hg (N:=13) ?hd (xs:=([1,3,10,100,1000] : List Int)) (inner:=[.int .i64 1,.int .i64 3,.int .i64 10,.int .i64 100,.int .i64 1000]) (ok:=fun _=>True) (okp:=fun _=>True) ?hr ?hp (fun _ hk=>hk) trivial (Below.refl _ _) (Nat.le_refl _) (by simp) ?_;(case hd=>rfl);(case hg=>rfl);(case hr=>first|(go_simp;done)|(go_simp;rfl));(case hp=>exact (Reps.one (show Kd.M (Kd.int .i64) _ _ _ 1 [.int .i64 1] from rfl) (Reps.one (show Kd.M (Kd.int .i64) _ _ _ 3 [.int .i64 3] from rfl) (Reps.one (show Kd.M (Kd.int .i64) _ _ _ 10 [.int .i64 10] from rfl) (Reps.one (show Kd.M (Kd.int .i64) _ _ _ 100 [.int .i64 100] from rfl) (Reps.one (show Kd.M (Kd.int .i64) _ _ _ 1000 [.int .i64 1000] from rfl) (Reps.none _ _)))))));intro v146 w8 ho9 hb hg_ hnew_;clear hg_ hnew_;(first|rw [← Ny145.out] at ho9|(simp only [Int.reduceToNat] at ho9;rw [← Ny145.out] at ho9));have n0_:=A_ (Kd.R_lower ho9 (keep_size (w:=w) (g:=g) (row:=none) (by repeat (first|(with_reducible first|exact HK.out|apply KeepBut.set_|apply keep_drewN|apply keep_drew|apply keep_alloc)|exact HK.out))));have n1_:=A_ (IsS56.below (by repeat (first|(with_reducible first|exact HI0.out|apply IsS56.alloc|apply IsS56.drewN|apply IsS56.drew|apply IsS56.set_1)|exact HI0.out)) hb);have n2_:=A_ (KeepBut.trans (by repeat (first|(with_reducible first|exact HK.out|apply KeepBut.set_|apply keep_drewN|apply keep_drew|apply keep_alloc)|exact HK.out)) (KeepBut.of_below hb g none) (.inl rfl));have n3_:=A_ (below_step (by repeat (first|(with_reducible first|exact HB.out|apply ba|apply bb|apply bc|refine below_set ?_ (IsS56.ge HI0.out))|exact HB.out)) hb);clear HI0;clear HK;clear HB;have HO147:=n0_;have HI0:=n1_;have HK:=n2_;have HB:=n3_;clear n0_ n1_ n2_ n3_;clear hb ho9;obtain ⟨Ao10,co10,eo10⟩:=Kd.R_slice HO147.out;subst eo10)|((with_reducible refine gate_callee (f:=47) rfl ?_);refine goesL_ (some 14) rfl rfl Try.func47 (by kernel_rfl) rfl #[.pointer (some ⟨g,0,none⟩),.slice Ao10 y145.length co10] rfl (by (try simp only [List.map_toArray,List.map_cons,List.map_nil]);first|done|rfl|(simp only [List.length_drop,List.length_take];rfl)) ?_;(with_reducible refine (shapesearchkeep_Src_Pick.calls g s0_0 t144 _ _ y145 t148 t149 w0 _ ?side1 ?side2 ?side3 ?side4 ?side5 A4.out).mono ?_);(case side1=>repeat (first|(with_reducible first|exact HI0.out|apply IsS56.alloc|apply IsS56.drewN|apply IsS56.drew|apply IsS56.set_1)|exact HI0.out));(case side2=>repeat (first|(with_reducible first|exact HB.out|apply ba|apply bb|apply bc|refine below_set ?_ (IsS56.ge HI0.out))|exact HB.out));(case side3=>repeat (first|exact (rd_ HO147.out).2.2|(with_reducible refine ca ?_ _)|(with_reducible refine cb ?_ _)|(with_reducible refine cc ?_)));(case side4=>exact (rd_ HO147.out).2.1);(case side5=>exact far_slice (IsS56.own_ne HI0.out HO147.out (by decide)));rintro e w11 ⟨rfl,hi,hb,hk⟩;refine ⟨_,rfl,?_⟩;have n0_:=A_ (rm (Kd.R_keep (IsS56.apart (show IsS56 w0 _ g s0_0 t144 from by repeat (first|(with_reducible first|exact HI0.out|apply IsS56.alloc|apply IsS56.drewN|apply IsS56.drew|apply IsS56.set_1)|exact HI0.out)) (by (with_reducible repeat (first|apply ra|apply rb|apply rc));exact HO147.out) (by decide)) hk (fun _ h=>h.2)) (fun _ h=>h.1));have n1_:=A_ (KeepBut.trans (by repeat (first|(with_reducible first|exact HK.out|apply KeepBut.set_|apply keep_drewN|apply keep_drew|apply keep_alloc)|exact HK.out)) hk (.inl rfl));have n2_:=A_ (hb);have n3_:=A_ (hi);clear HO147;clear HK;clear HB;clear HI0;have HO147:=n0_;have HK:=n1_;have HB:=n2_;have HI0:=n3_;clear n0_ n1_ n2_ n3_;(try clear hb);(try clear hb2);(try clear hk);(try clear hi))|((with_reducible refine gate_callee (f:=24) rfl ?_);refine goesL_ (some 16) rfl rfl Try.func24 (by kernel_rfl) rfl #[.pointer (some ⟨g,0,none⟩),.int .i64 3] rfl (by (try simp only [List.map_toArray,List.map_cons,List.map_nil]);first|done|rfl|(simp only [List.length_drop,List.length_take];rfl)) ?_;(with_reducible refine (shapesearchkeep_Src_N.calls g s0_0 t149 3 t150 t151 w0 _ ?side1 ?side2 A5.out).mono ?_);(case side1=>repeat (first|(with_reducible first|exact HI0.out|apply IsS56.alloc|apply IsS56.drewN|apply IsS56.drew|apply IsS56.set_1)|exact HI0.out));(case side2=>repeat (first|(with_reducible first|exact HB.out|apply ba|apply bb|apply bc|refine below_set ?_ (IsS56.ge HI0.out))|exact HB.out));rintro e w12 ⟨rfl,hi,hb,hk⟩;refine ⟨_,rfl,?_⟩;have n0_:=A_ (rm (Kd.R_keep (IsS56.apart (show IsS56 w0 _ g s0_0 t149 from by repeat (first|(with_reducible first|exact HI0.out|apply IsS56.alloc|apply IsS56.drewN|apply IsS56.drew|apply IsS56.set_1)|exact HI0.out)) (by (with_reducible repeat (first|apply ra|apply rb|apply rc));exact HO147.out) (by decide)) hk (fun _ h=>h.2)) (fun _ h=>h.1));have n1_:=A_ (KeepBut.trans (by repeat (first|(with_reducible first|exact HK.out|apply KeepBut.set_|apply keep_drewN|apply keep_drew|apply keep_alloc)|exact HK.out)) hk (.inl rfl));have n2_:=A_ (hb);have n3_:=A_ (hi);clear HO147;clear HK;clear HB;clear HI0;have HO147:=n0_;have HK:=n1_;have HB:=n2_;have HI0:=n3_;clear n0_ n1_ n2_ n3_;(try clear hb);(try clear hb2);(try clear hk);(try clear hi)))
 (try simp only [Act.put,List.setIfInBounds_toArray,List.set_cons_zero,List.set_cons_succ])
 go_cut [7] (fun v7 wc=>∃ (kq : Nat) (x7_5 : Int) (x1001_5 : Int),v7 = .int .i64 x7_5∧Aside0 (shapesearchkeep_Src_List.j0 kq a1 t143 t148 x7_5 s0_0 x1001_5 = some (r1,r2))∧Aside0 (kq ≤ k)∧Aside0 (IsS56 w0 wc g s0_0 x1001_5)∧Aside0 (KeepBut w wc g none)∧Aside0 (Below w0.heap.size w0 wc))
 case first =>
  have H:=HC6.out
  clear HC6
  by_cases c13 : t150 = 0
  ·
   rw [if_pos c13] at H
   have c13b0 : (t150 == 0) = true:=beq_iff_eq.mpr c13
   have c13b1 : (t150 != 0) = false:=bne_eq_false_iff_eq.mpr c13
   clear c13
   (first|rw [c13b0]|(simp only [i64_w,i32_w];rw [c13b0])|skip)
   replace H:=Option.bind_eq_some_iff.mp H
   obtain ⟨⟨t152,t153⟩,A140,H⟩:=H
   replace H : (shapesearchkeep_Src_List.j0 k a1 t143 t148 t152 s0_0 t153) = some (r1,r2):=H
   have A14:=A_ A140
   clear A140
   have H':=A_ H
   clear H
   go_wp2_with (first|((with_reducible refine gate_callee (f:=45) rfl ?_);refine goesL_ (some 19) rfl rfl Try.func45 (by kernel_rfl) rfl #[.pointer (some ⟨g,0,none⟩),.int .i64 (-1000),.int .i64 1000] rfl (by (try simp only [List.map_toArray,List.map_cons,List.map_nil]);first|done|rfl|(simp only [List.length_drop,List.length_take];rfl)) ?_;(with_reducible refine (shapesearchkeep_Src_Range.calls g s0_0 t151 (-1000) 1000 t152 t153 w0 _ ?side1 ?side2 A14.out).mono ?_);(case side1=>repeat (first|(with_reducible first|exact HI0.out|apply IsS56.alloc|apply IsS56.drewN|apply IsS56.drew|apply IsS56.set_1)|exact HI0.out));(case side2=>repeat (first|(with_reducible first|exact HB.out|apply ba|apply bb|apply bc|refine below_set ?_ (IsS56.ge HI0.out))|exact HB.out));rintro e w15 ⟨rfl,hi,hb,hk⟩;refine ⟨_,rfl,?_⟩;have n0_:=A_ (rm (Kd.R_keep (IsS56.apart (show IsS56 w0 _ g s0_0 t151 from by repeat (first|(with_reducible first|exact HI0.out|apply IsS56.alloc|apply IsS56.drewN|apply IsS56.drew|apply IsS56.set_1)|exact HI0.out)) (by (with_reducible repeat (first|apply ra|apply rb|apply rc));exact HO147.out) (by decide)) hk (fun _ h=>h.2)) (fun _ h=>h.1));have n1_:=A_ (KeepBut.trans (by repeat (first|(with_reducible first|exact HK.out|apply KeepBut.set_|apply keep_drewN|apply keep_drew|apply keep_alloc)|exact HK.out)) hk (.inl rfl));have n2_:=A_ (hb);have n3_:=A_ (hi);clear HO147;clear HK;clear HB;clear HI0;have HO147:=n0_;have HK:=n1_;have HB:=n2_;have HI0:=n3_;clear n0_ n1_ n2_ n3_;(try clear hb);(try clear hb2);(try clear hk);(try clear hi)))
   go_meet
   case rel=>exact ⟨_,(t152),(t153),(by first|rfl|(simp;done)|(simp [*];done)),H',⟨by first|omega|exact Nat.le_refl _⟩,⟨by repeat (first|(with_reducible first|exact HI0.out|apply IsS56.alloc|apply IsS56.drewN|apply IsS56.drew|apply IsS56.set_1)|exact HI0.out)⟩,⟨by repeat (first|(with_reducible first|exact HK.out|apply KeepBut.set_|apply keep_drewN|apply keep_drew|apply keep_alloc)|exact HK.out)⟩,⟨by repeat (first|(with_reducible first|exact HB.out|apply ba|apply bb|apply bc|refine below_set ?_ (IsS56.ge HI0.out))|exact HB.out)⟩⟩
  ·
   rw [if_neg c13] at H
   have c13b0 : (t150 == 0) = false:=beq_eq_false_iff_ne.mpr c13
   have c13b1 : (t150 != 0) = true:=bne_iff_ne.mpr c13
   (first|rw [c13b0]|(simp only [i64_w,i32_w];rw [c13b0])|skip)
   have H':=A_ H
   clear H
   go_wp2
   go_meet
   case rel=>exact ⟨_,(0),(t151),(by first|rfl|(simp;done)|(simp [*];done)),H',⟨by first|omega|exact Nat.le_refl _⟩,⟨by repeat (first|(with_reducible first|exact HI0.out|apply IsS56.alloc|apply IsS56.drewN|apply IsS56.drew|apply IsS56.set_1)|exact HI0.out)⟩,⟨by repeat (first|(with_reducible first|exact HK.out|apply KeepBut.set_|apply keep_drewN|apply keep_drew|apply keep_alloc)|exact HK.out)⟩,⟨by repeat (first|(with_reducible first|exact HB.out|apply ba|apply bb|apply bc|refine below_set ?_ (IsS56.ge HI0.out))|exact HB.out)⟩⟩
 case rest =>
  clear HC6
  try clear c1
  try clear c2
  try clear p2
  try clear c4
  try clear c13
  try clear c13b0
  try clear c13b1
  obtain ⟨kq,x7_5,x1001_5,rfl,HA,HJ5,HI0,HK,HB⟩:=hcut
  cases kq with
  | zero=>exact absurd HA.out (by simp [shapesearchkeep_Src_List.j0])
  | succ kj5 =>
   have H:=HA.out
   clear HA
   simp only [shapesearchkeep_Src_List.j0] at H
   have H':=A_ H
   clear H
   go_wp2
   go_loopg [7,8,9] kj5 (fun kq v7 v8 v9 w'=>∃ (x7_2 : Int) (x8_2 : List Int) (x9_2 : Int) (x1001_2 : Int),v7 = .int .i64 x7_2∧v9 = .int .i64 x9_2∧Aside0 (shapesearchkeep_Src_List.l0 kq a1 t143 t148 x7_2 x8_2 x9_2 s0_0 x1001_2 = some (r1,r2))∧Aside0 (kq ≤ kj5)∧Aside0 (Kd.R (Kd.int .i64) 3 w' w.heap.size (fun _=>True) v8 x8_2)∧Aside0 (IsS56 w0 w' g s0_0 x1001_2)∧Aside0 (KeepBut w w' g none)∧Aside0 (Below w0.heap.size w0 w'))
   case atStart=>exact ⟨(x7_5),(([] : List Int)),(0),(x1001_5),(by first|rfl|(simp;done)|(simp [*];done)),(by first|rfl|(simp;done)|(simp [*];done)),H',⟨Nat.le_refl _⟩,⟨by first|exact Kd.R_nil _ _ _ _ _|exact Kd.N_nil _ _ _ _ _|exact Kd.V_nil _ _ _ _ _|exact Kd.Q_nil _ _ _ _ _|exact Kd.S_nil _ _ _ _ _⟩,⟨by repeat (first|(with_reducible first|exact HI0.out|apply IsS56.alloc|apply IsS56.drewN|apply IsS56.drew|apply IsS56.set_1)|exact HI0.out)⟩,⟨by repeat (first|(with_reducible first|exact HK.out|apply KeepBut.set_|apply keep_drewN|apply keep_drew|apply keep_alloc)|exact HK.out)⟩,⟨by repeat (first|(with_reducible first|exact HB.out|apply ba|apply bb|apply bc|refine below_set ?_ (IsS56.ge HI0.out))|exact HB.out)⟩⟩
   case round =>
    clear H'
    try clear c1
    try clear c2
    try clear p2
    try clear c4
    try clear c13
    try clear c13b0
    try clear c13b1
    try clear p2
    obtain ⟨x7_2,x8_2,x9_2,x1001_2,rfl,rfl,HA,HK2,HO_8,HI0,HK,HB⟩:=hrel
    cases gk with
    | zero=>exact absurd HA.out (by simp [shapesearchkeep_Src_List.l0])
    | succ k2 =>
     have H:=HA.out
     clear HA
     simp only [shapesearchkeep_Src_List.l0] at H
     by_cases c16 : x9_2 < a1
     ·
      rw [if_pos c16] at H
      have c16b0 : decide (x9_2 < a1) = true:=decide_eq_true c16
      clear c16
      have HC17:=A_ H
      clear H
      go_upto_if 32 with (fail)
      go_cut [32] (fun v32 wc=>∃ (kq : Nat) (x32_16 : Bool),v32 = .bool x32_16∧Aside0 (shapesearchkeep_Src_List.j2 kq a1 t143 t148 x7_2 x8_2 x9_2 t143 x32_16 s0_0 x1001_2 = some (r1,r2))∧Aside0 (kq ≤ k2)∧Aside0 (Kd.R (Kd.int .i64) 3 wc w.heap.size (fun _=>True) u8 x8_2)∧Aside0 (IsS56 w0 wc g s0_0 x1001_2)∧Aside0 (KeepBut w wc g none)∧Aside0 (Below w0.heap.size w0 wc))
      case first =>
       have H:=HC17.out
       clear HC17
       by_cases c18 : t143 = 0
       ·
        rw [if_pos c18] at H
        have c18b0 : (t143 == 0) = true:=beq_iff_eq.mpr c18
        have c18b1 : (t143 != 0) = false:=bne_eq_false_iff_eq.mpr c18
        clear c18
        (first|rw [c18b0]|(simp only [i64_w,i32_w];rw [c18b0])|skip)
        have H':=A_ H
        clear H
        go_wp2
        go_meet
        case rel=>exact ⟨_,((t143 == 0)),(by first|rfl|(simp;done)|(simp [*];done)),H',⟨by have:=HJ5.out;have:=HK2.out;first|omega|exact Nat.le_refl _⟩,⟨by (with_reducible repeat (first|apply ra|apply rb|apply rc));exact HO_8.out⟩,⟨by repeat (first|(with_reducible first|exact HI0.out|apply IsS56.alloc|apply IsS56.drewN|apply IsS56.drew|apply IsS56.set_1)|exact HI0.out)⟩,⟨by repeat (first|(with_reducible first|exact HK.out|apply KeepBut.set_|apply keep_drewN|apply keep_drew|apply keep_alloc)|exact HK.out)⟩,⟨by repeat (first|(with_reducible first|exact HB.out|apply ba|apply bb|apply bc|refine below_set ?_ (IsS56.ge HI0.out))|exact HB.out)⟩⟩
       ·
        rw [if_neg c18] at H
        have c18b0 : (t143 == 0) = false:=beq_eq_false_iff_ne.mpr c18
        have c18b1 : (t143 != 0) = true:=bne_iff_ne.mpr c18
        (first|rw [c18b0]|(simp only [i64_w,i32_w];rw [c18b0])|skip)
        have H':=A_ H
        clear H
        go_wp2
        go_meet
        case rel=>exact ⟨_,((t143 == 1)),(by first|rfl|(simp;done)|(simp [*];done)),H',⟨by have:=HJ5.out;have:=HK2.out;first|omega|exact Nat.le_refl _⟩,⟨by (with_reducible repeat (first|apply ra|apply rb|apply rc));exact HO_8.out⟩,⟨by repeat (first|(with_reducible first|exact HI0.out|apply IsS56.alloc|apply IsS56.drewN|apply IsS56.drew|apply IsS56.set_1)|exact HI0.out)⟩,⟨by repeat (first|(with_reducible first|exact HK.out|apply KeepBut.set_|apply keep_drewN|apply keep_drew|apply keep_alloc)|exact HK.out)⟩,⟨by repeat (first|(with_reducible first|exact HB.out|apply ba|apply bb|apply bc|refine below_set ?_ (IsS56.ge HI0.out))|exact HB.out)⟩⟩
      case rest =>
       clear HC17
       try clear c1
       try clear c2
       try clear p2
       try clear c4
       try clear c13
       try clear c13b0
       try clear c13b1
       try clear c16
       try clear c16b0
       try clear c18
       try clear c18b0
       try clear c18b1
       try clear p2
       obtain ⟨kq,x32_16,rfl,HA,HJ16,HO_8,HI0,HK,HB⟩:=hcut
       cases kq with
       | zero=>exact absurd HA.out (by simp [shapesearchkeep_Src_List.j2])
       | succ kj16 =>
        have H:=HA.out
        clear HA
        simp only [shapesearchkeep_Src_List.j2] at H
        by_cases c19 : x32_16 = true
        ·
         subst c19
         have H1 : ((shapesearchkeep_Src_Range.f s0_0 x1001_2 (wrap64 (-t148)) t148).bind fun bt154=>(if x8_2.length < 17592186044416 then (shapesearchkeep_Src_List.l0 kj16 a1 t143 t148 x7_2 (x8_2 ++ [bt154.1]) (wrap64 (x9_2 + 1)) s0_0 bt154.2) else (none))) = some (r1,r2):=by rw [if_pos rfl] at H;exact H
         clear H
         have H:=H1
         clear H1
         replace H:=Option.bind_eq_some_iff.mp H
         obtain ⟨⟨t154,t155⟩,A200,H⟩:=H
         replace H : (if x8_2.length < 17592186044416 then (shapesearchkeep_Src_List.l0 kj16 a1 t143 t148 x7_2 (x8_2 ++ [t154]) (wrap64 (x9_2 + 1)) s0_0 t155) else (none)) = some (r1,r2):=H
         have A20:=A_ A200
         clear A200
         by_cases c21 : x8_2.length < 17592186044416
         ·
          rw [if_pos c21] at H
          have LMc21:=A_ c21
          clear c21
          obtain ⟨y156,hy156⟩ : ∃ y_ : List Int,y_ = (x8_2 ++ [t154]):=⟨_,rfl⟩
          replace H : (shapesearchkeep_Src_List.l0 kj16 a1 t143 t148 x7_2 y156 (wrap64 (x9_2 + 1)) s0_0 t155) = some (r1,r2):=by first|(rw [hy156];with_reducible exact H)|(have H2_:=(Option.bind_some _ _).symm.trans H;rw [hy156];with_reducible exact H2_)|(have H2_:=(Option.bind_some _ _).symm.trans H;with_reducible exact H2_)|with_reducible exact H|(rw [hy156];exact H)|exact H
          have Ny156:=A_ hy156
          clear hy156
          have H':=A_ H
          clear H
          go_wp2_with (first|((with_reducible refine gate_callee (f:=45) rfl ?_);refine goesL_ (some 40) rfl rfl Try.func45 (by kernel_rfl) rfl #[.pointer (some ⟨g,0,none⟩),.int .i64 (wrap64 (-t148)),.int .i64 t148] rfl (by (try simp only [List.map_toArray,List.map_cons,List.map_nil]);first|done|rfl|(simp only [List.length_drop,List.length_take];rfl)) ?_;(with_reducible refine (shapesearchkeep_Src_Range.calls g s0_0 x1001_2 (wrap64 (-t148)) t148 t154 t155 w0 _ ?side1 ?side2 A20.out).mono ?_);(case side1=>repeat (first|(with_reducible first|exact HI0.out|apply IsS56.alloc|apply IsS56.drewN|apply IsS56.drew|apply IsS56.set_1)|exact HI0.out));(case side2=>repeat (first|(with_reducible first|exact HB.out|apply ba|apply bb|apply bc|refine below_set ?_ (IsS56.ge HI0.out))|exact HB.out));rintro e w22 ⟨rfl,hi,hb,hk⟩;refine ⟨_,rfl,?_⟩;have n0_:=A_ (rm (Kd.R_keep (IsS56.apart (show IsS56 w0 _ g s0_0 x1001_2 from by repeat (first|(with_reducible first|exact HI0.out|apply IsS56.alloc|apply IsS56.drewN|apply IsS56.drew|apply IsS56.set_1)|exact HI0.out)) (by (with_reducible repeat (first|apply ra|apply rb|apply rc));exact HO_8.out) (by decide)) hk (fun _ h=>h.2)) (fun _ h=>h.1));have n1_:=A_ (KeepBut.trans (by repeat (first|(with_reducible first|exact HK.out|apply KeepBut.set_|apply keep_drewN|apply keep_drew|apply keep_alloc)|exact HK.out)) hk (.inl rfl));have n2_:=A_ (hb);have n3_:=A_ (hi);clear HO_8;clear HK;clear HB;clear HI0;have HO_8:=n0_;have HK:=n1_;have HB:=n2_;have HI0:=n3_;clear n0_ n1_ n2_ n3_;(try clear hb);(try clear hb2);(try clear hk);(try clear hi))|((with_reducible refine gate_builtin (b:=.append) (xs:=#[.tmp 35,.tmp 41]) rfl ?_);at_builtin;refine Kd.R_append (Kd.int .i64) w.heap.size rfl (.tmp 35) (.tmp 41) 22 3 (.int .i64 0) 8 rfl Try.underlying22 info3 rfl (by decide) (by omega) u8 x8_2 t154 [.int .i64 t154] (fun _=>True) (fun _=>False) rfl rfl ?aP (fun _ hk=>hk.elim) ?aF ?aO (Below.refl _ _) ?aS ?aL ?_;(case aP=>exact rfl);(case aF=>exact (fun _ _=>trivial));(case aO=>exact (by (with_reducible repeat (first|apply ra|apply rb|apply rc));exact HO_8.out));(case aS=>exact (keep_size (w:=w) (g:=g) (row:=none) (by repeat (first|(with_reducible first|exact HK.out|apply KeepBut.set_|apply keep_drewN|apply keep_drew|apply keep_alloc)|exact HK.out))));(case aL=>have:=LMc21.out;omega);intro v157 w23 ho hb hg hat;rw [← Ny156.out] at ho;have n0_:=A_ (IsS56.grown (by repeat (first|(with_reducible first|exact HI0.out|apply IsS56.alloc|apply IsS56.drewN|apply IsS56.drew|apply IsS56.set_1)|exact HI0.out)) hg (IsS56.own_ne HI0.out HO_8.out (by decide)));have n1_:=A_ (below_weaken (by repeat (first|(with_reducible first|exact HB.out|apply ba|apply bb|apply bc|refine below_set ?_ (IsS56.ge HI0.out))|exact HB.out)) HL.out hb);have n2_:=A_ (KeepBut.trans (by repeat (first|(with_reducible first|exact HK.out|apply KeepBut.set_|apply keep_drewN|apply keep_drew|apply keep_alloc)|exact HK.out)) (KeepBut.of_grown hg g) (Kd.R_base2 HO_8.out));have n3_:=A_ (ho);clear HI0;clear HB;clear HK;clear HO_8;have HI0:=n0_;have HB:=n1_;have HK:=n2_;have HO158:=n3_;clear n0_ n1_ n2_ n3_;clear ho hb hg hat))
          go_roundg kj16
          case measure=>have:=HJ5.out;have:=HK2.out;have:=HJ16.out;omega
          case rel=>exact ⟨(x7_2),(y156),(wrap64 (x9_2 + 1)),(t155),(by first|rfl|(simp;done)|(simp [*];done)),(by first|rfl|(simp;done)|(simp [*];done)),H',⟨by have:=HJ5.out;have:=HK2.out;have:=HJ16.out;omega⟩,⟨by (with_reducible repeat (first|apply ra|apply rb|apply rc));exact HO158.out⟩,⟨by repeat (first|(with_reducible first|exact HI0.out|apply IsS56.alloc|apply IsS56.drewN|apply IsS56.drew|apply IsS56.set_1)|exact HI0.out)⟩,⟨by repeat (first|(with_reducible first|exact HK.out|apply KeepBut.set_|apply keep_drewN|apply keep_drew|apply keep_alloc)|exact HK.out)⟩,⟨by repeat (first|(with_reducible first|exact HB.out|apply ba|apply bb|apply bc|refine below_set ?_ (IsS56.ge HI0.out))|exact HB.out)⟩⟩
         ·
          rw [if_neg c21] at H
          exact absurd H (by simp)
        ·
         replace c19:=Bool.eq_false_iff.mpr c19
         subst c19
         have H1 : (if t143 = 2 then (shapesearchkeep_Src_List.j3 kj16 a1 t143 t148 x7_2 x8_2 x9_2 t143 (t143 == 2) s0_0 x1001_2) else (shapesearchkeep_Src_List.j3 kj16 a1 t143 t148 x7_2 x8_2 x9_2 t143 (t143 == 3) s0_0 x1001_2)) = some (r1,r2):=by rw [if_neg (show ¬ (false = true) by decide)] at H;exact H
         clear H
         have H:=H1
         clear H1
         have HC24:=A_ H
         clear H
         go_upto_if 43 with (fail)
         go_cut [43] (fun v43 wc=>∃ (kq : Nat) (x43_23 : Bool),v43 = .bool x43_23∧Aside0 (shapesearchkeep_Src_List.j3 kq a1 t143 t148 x7_2 x8_2 x9_2 t143 x43_23 s0_0 x1001_2 = some (r1,r2))∧Aside0 (kq ≤ kj16)∧Aside0 (Kd.R (Kd.int .i64) 3 wc w.heap.size (fun _=>True) u8 x8_2)∧Aside0 (IsS56 w0 wc g s0_0 x1001_2)∧Aside0 (KeepBut w wc g none)∧Aside0 (Below w0.heap.size w0 wc))
         case first =>
          have H:=HC24.out
          clear HC24
          by_cases c25 : t143 = 2
          ·
           rw [if_pos c25] at H
           have c25b0 : (t143 == 2) = true:=beq_iff_eq.mpr c25
           have c25b1 : (t143 != 2) = false:=bne_eq_false_iff_eq.mpr c25
           clear c25
           (first|rw [c25b0]|(simp only [i64_w,i32_w];rw [c25b0])|skip)
           have H':=A_ H
           clear H
           go_wp2
           go_meet
           case rel=>exact ⟨_,((t143 == 2)),(by first|rfl|(simp;done)|(simp [*];done)),H',⟨by have:=HJ5.out;have:=HK2.out;have:=HJ16.out;first|omega|exact Nat.le_refl _⟩,⟨by (with_reducible repeat (first|apply ra|apply rb|apply rc));exact HO_8.out⟩,⟨by repeat (first|(with_reducible first|exact HI0.out|apply IsS56.alloc|apply IsS56.drewN|apply IsS56.drew|apply IsS56.set_1)|exact HI0.out)⟩,⟨by repeat (first|(with_reducible first|exact HK.out|apply KeepBut.set_|apply keep_drewN|apply keep_drew|apply keep_alloc)|exact HK.out)⟩,⟨by repeat (first|(with_reducible first|exact HB.out|apply ba|apply bb|apply bc|refine below_set ?_ (IsS56.ge HI0.out))|exact HB.out)⟩⟩
          ·
           rw [if_neg c25] at H
           have c25b0 : (t143 == 2) = false:=beq_eq_false_iff_ne.mpr c25
           have c25b1 : (t143 != 2) = true:=bne_iff_ne.mpr c25
           (first|rw [c25b0]|(simp only [i64_w,i32_w];rw [c25b0])|skip)
           have H':=A_ H
           clear H
           go_wp2
           go_meet
           case rel=>exact ⟨_,((t143 == 3)),(by first|rfl|(simp;done)|(simp [*];done)),H',⟨by have:=HJ5.out;have:=HK2.out;have:=HJ16.out;first|omega|exact Nat.le_refl _⟩,⟨by (with_reducible repeat (first|apply ra|apply rb|apply rc));exact HO_8.out⟩,⟨by repeat (first|(with_reducible first|exact HI0.out|apply IsS56.alloc|apply IsS56.drewN|apply IsS56.drew|apply IsS56.set_1)|exact HI0.out)⟩,⟨by repeat (first|(with_reducible first|exact HK.out|apply KeepBut.set_|apply keep_drewN|apply keep_drew|apply keep_alloc)|exact HK.out)⟩,⟨by repeat (first|(with_reducible first|exact HB.out|apply ba|apply bb|apply bc|refine below_set ?_ (IsS56.ge HI0.out))|exact HB.out)⟩⟩
         case rest =>
          clear HC24
          try clear c1
          try clear c2
          try clear p2
          try clear c4
          try clear p6
          try clear c13
          try clear c13b0
          try clear c13b1
          try clear c16
          try clear c16b0
          try clear c18
          try clear c18b0
          try clear c18b1
          try clear c19
          try clear c20
          try clear c21
          try clear c24
          try clear c25
          try clear c25b0
          try clear c25b1
          try clear p2
          obtain ⟨kq,x43_23,rfl,HA,HJ23,HO_8,HI0,HK,HB⟩:=hcut
          cases kq with
          | zero=>exact absurd HA.out (by simp [shapesearchkeep_Src_List.j3])
          | succ kj23 =>
           have H:=HA.out
           clear HA
           simp only [shapesearchkeep_Src_List.j3] at H
           by_cases c26 : x43_23 = true
           ·
            subst c26
            have H1 : ((shapesearchkeep_Src_Range.f s0_0 x1001_2 (wrap64 (-t148)) t148).bind fun bt159=>((shapesearchkeep_clip.f (wrap64 (x7_2 + bt159.1))).bind fun t161=>(if x8_2.length < 17592186044416 then (shapesearchkeep_Src_List.l0 kj23 a1 t143 t148 t161 (x8_2 ++ [t161]) (wrap64 (x9_2 + 1)) s0_0 bt159.2) else (none)))) = some (r1,r2):=by rw [if_pos rfl] at H;exact H
            clear H
            have H:=H1
            clear H1
            replace H:=Option.bind_eq_some_iff.mp H
            obtain ⟨⟨t159,t160⟩,A270,H⟩:=H
            replace H : ((shapesearchkeep_clip.f (wrap64 (x7_2 + t159))).bind fun t161=>(if x8_2.length < 17592186044416 then (shapesearchkeep_Src_List.l0 kj23 a1 t143 t148 t161 (x8_2 ++ [t161]) (wrap64 (x9_2 + 1)) s0_0 t160) else (none))) = some (r1,r2):=H
            have A27:=A_ A270
            clear A270
            replace H:=Option.bind_eq_some_iff.mp H
            obtain ⟨t161,A280,H⟩:=H
            replace H : (if x8_2.length < 17592186044416 then (shapesearchkeep_Src_List.l0 kj23 a1 t143 t148 t161 (x8_2 ++ [t161]) (wrap64 (x9_2 + 1)) s0_0 t160) else (none)) = some (r1,r2):=H
            have A28:=A_ A280
            clear A280
            by_cases c29 : x8_2.length < 17592186044416
            ·
             rw [if_pos c29] at H
             have LMc29:=A_ c29
             clear c29
             obtain ⟨y162,hy162⟩ : ∃ y_ : List Int,y_ = (x8_2 ++ [t161]):=⟨_,rfl⟩
             replace H : (shapesearchkeep_Src_List.l0 kj23 a1 t143 t148 t161 y162 (wrap64 (x9_2 + 1)) s0_0 t160) = some (r1,r2):=by first|(rw [hy162];with_reducible exact H)|(have H2_:=(Option.bind_some _ _).symm.trans H;rw [hy162];with_reducible exact H2_)|(have H2_:=(Option.bind_some _ _).symm.trans H;with_reducible exact H2_)|with_reducible exact H|(rw [hy162];exact H)|exact H
             have Ny162:=A_ hy162
             clear hy162
             have H':=A_ H
             clear H
             go_wp2_with (first|((with_reducible refine gate_callee (f:=45) rfl ?_);refine goesL_ (some 51) rfl rfl Try.func45 (by kernel_rfl) rfl #[.pointer (some ⟨g,0,none⟩),.int .i64 (wrap64 (-t148)),.int .i64 t148] rfl (by (try simp only [List.map_toArray,List.map_cons,List.map_nil]);first|done|rfl|(simp only [List.length_drop,List.length_take];rfl)) ?_;(with_reducible refine (shapesearchkeep_Src_Range.calls g s0_0 x1001_2 (wrap64 (-t148)) t148 t159 t160 w0 _ ?side1 ?side2 A27.out).mono ?_);(case side1=>repeat (first|(with_reducible first|exact HI0.out|apply IsS56.alloc|apply IsS56.drewN|apply IsS56.drew|apply IsS56.set_1)|exact HI0.out));(case side2=>repeat (first|(with_reducible first|exact HB.out|apply ba|apply bb|apply bc|refine below_set ?_ (IsS56.ge HI0.out))|exact HB.out));rintro e w30 ⟨rfl,hi,hb,hk⟩;refine ⟨_,rfl,?_⟩;have n0_:=A_ (rm (Kd.R_keep (IsS56.apart (show IsS56 w0 _ g s0_0 x1001_2 from by repeat (first|(with_reducible first|exact HI0.out|apply IsS56.alloc|apply IsS56.drewN|apply IsS56.drew|apply IsS56.set_1)|exact HI0.out)) (by (with_reducible repeat (first|apply ra|apply rb|apply rc));exact HO_8.out) (by decide)) hk (fun _ h=>h.2)) (fun _ h=>h.1));have n1_:=A_ (KeepBut.trans (by repeat (first|(with_reducible first|exact HK.out|apply KeepBut.set_|apply keep_drewN|apply keep_drew|apply keep_alloc)|exact HK.out)) hk (.inl rfl));have n2_:=A_ (hb);have n3_:=A_ (hi);clear HO_8;clear HK;clear HB;clear HI0;have HO_8:=n0_;have HK:=n1_;have HB:=n2_;have HI0:=n3_;clear n0_ n1_ n2_ n3_;(try clear hb);(try clear hb2);(try clear hk);(try clear hi))|((with_reducible refine gate_callee (f:=46) rfl ?_);refine goesL_ (some 53) rfl rfl Try.func46 (by kernel_rfl) rfl #[.int .i64 (wrap64 (x7_2 + t159))] rfl (by (try simp only [List.map_toArray,List.map_cons,List.map_nil]);first|done|rfl|(simp only [List.length_drop,List.length_take];rfl)) ?_;(with_reducible refine (shapesearchkeep_clip.calls (wrap64 (x7_2 + t159)) t161 _ A28.out).mono ?_);rintro e w31 ⟨rfl,hb⟩;refine ⟨_,rfl,?_⟩;have n0_:=A_ (rw_ (by (with_reducible repeat (first|apply ra|apply rb|apply rc));exact HO_8.out) hb);have n1_:=A_ (IsS56.below (by repeat (first|(with_reducible first|exact HI0.out|apply IsS56.alloc|apply IsS56.drewN|apply IsS56.drew|apply IsS56.set_1)|exact HI0.out)) hb);have n2_:=A_ (KeepBut.trans (by repeat (first|(with_reducible first|exact HK.out|apply KeepBut.set_|apply keep_drewN|apply keep_drew|apply keep_alloc)|exact HK.out)) (KeepBut.of_below hb g none) (.inl rfl));have n3_:=A_ (below_step (by repeat (first|(with_reducible first|exact HB.out|apply ba|apply bb|apply bc|refine below_set ?_ (IsS56.ge HI0.out))|exact HB.out)) hb);clear HO_8;clear HI0;clear HK;clear HB;have HO_8:=n0_;have HI0:=n1_;have HK:=n2_;have HB:=n3_;clear n0_ n1_ n2_ n3_;(try clear hb);(try clear hb2);(try clear hk);(try clear hi))|((with_reducible refine gate_builtin (b:=.append) (xs:=#[.tmp 54,.tmp 56]) rfl ?_);at_builtin;refine Kd.R_append (Kd.int .i64) w.heap.size rfl (.tmp 54) (.tmp 56) 22 3 (.int .i64 0) 8 rfl Try.underlying22 info3 rfl (by decide) (by omega) u8 x8_2 t161 [.int .i64 t161] (fun _=>True) (fun _=>False) rfl rfl ?aP (fun _ hk=>hk.elim) ?aF ?aO (Below.refl _ _) ?aS ?aL ?_;(case aP=>exact rfl);(case aF=>exact (fun _ _=>trivial));(case aO=>exact (by (with_reducible repeat (first|apply ra|apply rb|apply rc));exact HO_8.out));(case aS=>exact (keep_size (w:=w) (g:=g) (row:=none) (by repeat (first|(with_reducible first|exact HK.out|apply KeepBut.set_|apply keep_drewN|apply keep_drew|apply keep_alloc)|exact HK.out))));(case aL=>have:=LMc29.out;omega);intro v163 w32 ho hb hg hat;rw [← Ny162.out] at ho;have n0_:=A_ (IsS56.grown (by repeat (first|(with_reducible first|exact HI0.out|apply IsS56.alloc|apply IsS56.drewN|apply IsS56.drew|apply IsS56.set_1)|exact HI0.out)) hg (IsS56.own_ne HI0.out HO_8.out (by decide)));have n1_:=A_ (below_weaken (by repeat (first|(with_reducible first|exact HB.out|apply ba|apply bb|apply bc|refine below_set ?_ (IsS56.ge HI0.out))|exact HB.out)) HL.out hb);have n2_:=A_ (KeepBut.trans (by repeat (first|(with_reducible first|exact HK.out|apply KeepBut.set_|apply keep_drewN|apply keep_drew|apply keep_alloc)|exact HK.out)) (KeepBut.of_grown hg g) (Kd.R_base2 HO_8.out));have n3_:=A_ (ho);clear HI0;clear HB;clear HK;clear HO_8;have HI0:=n0_;have HB:=n1_;have HK:=n2_;have HO164:=n3_;clear n0_ n1_ n2_ n3_;clear ho hb hg hat))
             go_roundg kj23
             case measure=>have:=HJ5.out;have:=HK2.out;have:=HJ16.out;have:=HJ23.out;omega
             case rel=>exact ⟨(t161),(y162),(wrap64 (x9_2 + 1)),(t160),(by first|rfl|(simp;done)|(simp [*];done)),(by first|rfl|(simp;done)|(simp [*];done)),H',⟨by have:=HJ5.out;have:=HK2.out;have:=HJ16.out;have:=HJ23.out;omega⟩,⟨by (with_reducible repeat (first|apply ra|apply rb|apply rc));exact HO164.out⟩,⟨by repeat (first|(with_reducible first|exact HI0.out|apply IsS56.alloc|apply IsS56.drewN|apply IsS56.drew|apply IsS56.set_1)|exact HI0.out)⟩,⟨by repeat (first|(with_reducible first|exact HK.out|apply KeepBut.set_|apply keep_drewN|apply keep_drew|apply keep_alloc)|exact HK.out)⟩,⟨by repeat (first|(with_reducible first|exact HB.out|apply ba|apply bb|apply bc|refine below_set ?_ (IsS56.ge HI0.out))|exact HB.out)⟩⟩
            ·
             rw [if_neg c29] at H
             exact absurd H (by simp)
           ·
            replace c26:=Bool.eq_false_iff.mpr c26
            subst c26
            have H1 : (if t143 = 4 then ((shapesearchkeep_Src_N.f s0_0 x1001_2 4).bind fun bt165=>(if bt165.1 = 0 then ((shapesearchkeep_Src_Range.f s0_0 bt165.2 (wrap64 (-t148)) t148).bind fun bt167=>(if x8_2.length < 17592186044416 then (shapesearchkeep_Src_List.l0 kj23 a1 t143 t148 bt167.1 (x8_2 ++ [bt167.1]) (wrap64 (x9_2 + 1)) s0_0 bt167.2) else (none))) else (if x8_2.length < 17592186044416 then (shapesearchkeep_Src_List.l0 kj23 a1 t143 t148 x7_2 (x8_2 ++ [x7_2]) (wrap64 (x9_2 + 1)) s0_0 bt165.2) else (none)))) else ((shapesearchkeep_Src_Pick.f s0_0 x1001_2 (([(-1000),1000,1000,0] : List Int))).bind fun bt178=>(if x8_2.length < 17592186044416 then (shapesearchkeep_Src_List.l0 kj23 a1 t143 t148 x7_2 (x8_2 ++ [bt178.1]) (wrap64 (x9_2 + 1)) s0_0 bt178.2) else (none)))) = some (r1,r2):=by rw [if_neg (show ¬ (false = true) by decide)] at H;exact H
            clear H
            have H:=H1
            clear H1
            by_cases c33 : t143 = 4
            ·
             rw [if_pos c33] at H
             have c33b0 : (t143 == 4) = true:=beq_iff_eq.mpr c33
             have c33b1 : (t143 != 4) = false:=bne_eq_false_iff_eq.mpr c33
             clear c33
             replace H:=Option.bind_eq_some_iff.mp H
             obtain ⟨⟨t165,t166⟩,A340,H⟩:=H
             replace H : (if t165 = 0 then ((shapesearchkeep_Src_Range.f s0_0 t166 (wrap64 (-t148)) t148).bind fun bt167=>(if x8_2.length < 17592186044416 then (shapesearchkeep_Src_List.l0 kj23 a1 t143 t148 bt167.1 (x8_2 ++ [bt167.1]) (wrap64 (x9_2 + 1)) s0_0 bt167.2) else (none))) else (if x8_2.length < 17592186044416 then (shapesearchkeep_Src_List.l0 kj23 a1 t143 t148 x7_2 (x8_2 ++ [x7_2]) (wrap64 (x9_2 + 1)) s0_0 t166) else (none))) = some (r1,r2):=H
             have A34:=A_ A340
             clear A340
             by_cases c35 : t165 = 0
             ·
              rw [if_pos c35] at H
              have c35b0 : (t165 == 0) = true:=beq_iff_eq.mpr c35
              have c35b1 : (t165 != 0) = false:=bne_eq_false_iff_eq.mpr c35
              clear c35
              replace H:=Option.bind_eq_some_iff.mp H
              obtain ⟨⟨t167,t168⟩,A360,H⟩:=H
              replace H : (if x8_2.length < 17592186044416 then (shapesearchkeep_Src_List.l0 kj23 a1 t143 t148 t167 (x8_2 ++ [t167]) (wrap64 (x9_2 + 1)) s0_0 t168) else (none)) = some (r1,r2):=H
              have A36:=A_ A360
              clear A360
              by_cases c37 : x8_2.length < 17592186044416
              ·
               rw [if_pos c37] at H
               have LMc37:=A_ c37
               clear c37
               obtain ⟨y169,hy169⟩ : ∃ y_ : List Int,y_ = (x8_2 ++ [t167]):=⟨_,rfl⟩
               replace H : (shapesearchkeep_Src_List.l0 kj23 a1 t143 t148 t167 y169 (wrap64 (x9_2 + 1)) s0_0 t168) = some (r1,r2):=by first|(rw [hy169];with_reducible exact H)|(have H2_:=(Option.bind_some _ _).symm.trans H;rw [hy169];with_reducible exact H2_)|(have H2_:=(Option.bind_some _ _).symm.trans H;with_reducible exact H2_)|with_reducible exact H|(rw [hy169];exact H)|exact H
               have Ny169:=A_ hy169
               clear hy169
               have H':=A_ H
               clear H
               go_wp2_with (first|((with_reducible refine gate_callee (f:=24) rfl ?_);refine goesL_ (some 61) rfl rfl Try.func24 (by kernel_rfl) rfl #[.pointer (some ⟨g,0,none⟩),.int .i64 4] rfl (by (try simp only [List.map_toArray,List.map_cons,List.map_nil]);first|done|rfl|(simp only [List.length_drop,List.length_take];rfl)) ?_;(with_reducible refine (shapesearchkeep_Src_N.calls g s0_0 x1001_2 4 t165 t166 w0 _ ?side1 ?side2 A34.out).mono ?_);(case side1=>repeat (first|(with_reducible first|exact HI0.out|apply IsS56.alloc|apply IsS56.drewN|apply IsS56.drew|apply IsS56.set_1)|exact HI0.out));(case side2=>repeat (first|(with_reducible first|exact HB.out|apply ba|apply bb|apply bc|refine below_set ?_ (IsS56.ge HI0.out))|exact HB.out));rintro e w38 ⟨rfl,hi,hb,hk⟩;refine ⟨_,rfl,?_⟩;have n0_:=A_ (rm (Kd.R_keep (IsS56.apart (show IsS56 w0 _ g s0_0 x1001_2 from by repeat (first|(with_reducible first|exact HI0.out|apply IsS56.alloc|apply IsS56.drewN|apply IsS56.drew|apply IsS56.set_1)|exact HI0.out)) (by (with_reducible repeat (first|apply ra|apply rb|apply rc));exact HO_8.out) (by decide)) hk (fun _ h=>h.2)) (fun _ h=>h.1));have n1_:=A_ (KeepBut.trans (by repeat (first|(with_reducible first|exact HK.out|apply KeepBut.set_|apply keep_drewN|apply keep_drew|apply keep_alloc)|exact HK.out)) hk (.inl rfl));have n2_:=A_ (hb);have n3_:=A_ (hi);clear HO_8;clear HK;clear HB;clear HI0;have HO_8:=n0_;have HK:=n1_;have HB:=n2_;have HI0:=n3_;clear n0_ n1_ n2_ n3_;(try clear hb);(try clear hb2);(try clear hk);(try clear hi))|((with_reducible refine gate_callee (f:=45) rfl ?_);refine goesL_ (some 67) rfl rfl Try.func45 (by kernel_rfl) rfl #[.pointer (some ⟨g,0,none⟩),.int .i64 (wrap64 (-t148)),.int .i64 t148] rfl (by (try simp only [List.map_toArray,List.map_cons,List.map_nil]);first|done|rfl|(simp only [List.length_drop,List.length_take];rfl)) ?_;(with_reducible refine (shapesearchkeep_Src_Range.calls g s0_0 t166 (wrap64 (-t148)) t148 t167 t168 w0 _ ?side1 ?side2 A36.out).mono ?_);(case side1=>repeat (first|(with_reducible first|exact HI0.out|apply IsS56.alloc|apply IsS56.drewN|apply IsS56.drew|apply IsS56.set_1)|exact HI0.out));(case side2=>repeat (first|(with_reducible first|exact HB.out|apply ba|apply bb|apply bc|refine below_set ?_ (IsS56.ge HI0.out))|exact HB.out));rintro e w39 ⟨rfl,hi,hb,hk⟩;refine ⟨_,rfl,?_⟩;have n0_:=A_ (rm (Kd.R_keep (IsS56.apart (show IsS56 w0 _ g s0_0 t166 from by repeat (first|(with_reducible first|exact HI0.out|apply IsS56.alloc|apply IsS56.drewN|apply IsS56.drew|apply IsS56.set_1)|exact HI0.out)) (by (with_reducible repeat (first|apply ra|apply rb|apply rc));exact HO_8.out) (by decide)) hk (fun _ h=>h.2)) (fun _ h=>h.1));have n1_:=A_ (KeepBut.trans (by repeat (first|(with_reducible first|exact HK.out|apply KeepBut.set_|apply keep_drewN|apply keep_drew|apply keep_alloc)|exact HK.out)) hk (.inl rfl));have n2_:=A_ (hb);have n3_:=A_ (hi);clear HO_8;clear HK;clear HB;clear HI0;have HO_8:=n0_;have HK:=n1_;have HB:=n2_;have HI0:=n3_;clear n0_ n1_ n2_ n3_;(try clear hb);(try clear hb2);(try clear hk);(try clear hi))|((with_reducible refine gate_builtin (b:=.append) (xs:=#[.tmp 68,.tmp 70]) rfl ?_);at_builtin;refine Kd.R_append (Kd.int .i64) w.heap.size rfl (.tmp 68) (.tmp 70) 22 3 (.int .i64 0) 8 rfl Try.underlying22 info3 rfl (by decide) (by omega) u8 x8_2 t167 [.int .i64 t167] (fun _=>True) (fun _=>False) rfl rfl ?aP (fun _ hk=>hk.elim) ?aF ?aO (Below.refl _ _) ?aS ?aL ?_;(case aP=>exact rfl);(case aF=>exact (fun _ _=>trivial));(case aO=>exact (by (with_reducible repeat (first|apply ra|apply rb|apply rc));exact HO_8.out));(case aS=>exact (keep_size (w:=w) (g:=g) (row:=none) (by repeat (first|(with_reducible first|exact HK.out|apply KeepBut.set_|apply keep_drewN|apply keep_drew|apply keep_alloc)|exact HK.out))));(case aL=>have:=LMc37.out;omega);intro v170 w40 ho hb hg hat;rw [← Ny169.out] at ho;have n0_:=A_ (IsS56.grown (by repeat (first|(with_reducible first|exact HI0.out|apply IsS56.alloc|apply IsS56.drewN|apply IsS56.drew|apply IsS56.set_1)|exact HI0.out)) hg (IsS56.own_ne HI0.out HO_8.out (by decide)));have n1_:=A_ (below_weaken (by repeat (first|(with_reducible first|exact HB.out|apply ba|apply bb|apply bc|refine below_set ?_ (IsS56.ge HI0.out))|exact HB.out)) HL.out hb);have n2_:=A_ (KeepBut.trans (by repeat (first|(with_reducible first|exact HK.out|apply KeepBut.set_|apply keep_drewN|apply keep_drew|apply keep_alloc)|exact HK.out)) (KeepBut.of_grown hg g) (Kd.R_base2 HO_8.out));have n3_:=A_ (ho);clear HI0;clear HB;clear HK;clear HO_8;have HI0:=n0_;have HB:=n1_;have HK:=n2_;have HO171:=n3_;clear n0_ n1_ n2_ n3_;clear ho hb hg hat))
               go_roundg kj23
               case measure=>have:=HJ5.out;have:=HK2.out;have:=HJ16.out;have:=HJ23.out;omega
               case rel=>exact ⟨(t167),(y169),(wrap64 (x9_2 + 1)),(t168),(by first|rfl|(simp;done)|(simp [*];done)),(by first|rfl|(simp;done)|(simp [*];done)),H',⟨by have:=HJ5.out;have:=HK2.out;have:=HJ16.out;have:=HJ23.out;omega⟩,⟨by (with_reducible repeat (first|apply ra|apply rb|apply rc));exact HO171.out⟩,⟨by repeat (first|(with_reducible first|exact HI0.out|apply IsS56.alloc|apply IsS56.drewN|apply IsS56.drew|apply IsS56.set_1)|exact HI0.out)⟩,⟨by repeat (first|(with_reducible first|exact HK.out|apply KeepBut.set_|apply keep_drewN|apply keep_drew|apply keep_alloc)|exact HK.out)⟩,⟨by repeat (first|(with_reducible first|exact HB.out|apply ba|apply bb|apply bc|refine below_set ?_ (IsS56.ge HI0.out))|exact HB.out)⟩⟩
              ·
               rw [if_neg c37] at H
               exact absurd H (by simp)
             ·
              rw [if_neg c35] at H
              have c35b0 : (t165 == 0) = false:=beq_eq_false_iff_ne.mpr c35
              have c35b1 : (t165 != 0) = true:=bne_iff_ne.mpr c35
              by_cases c41 : x8_2.length < 17592186044416
              ·
               rw [if_pos c41] at H
               have LMc41:=A_ c41
               clear c41
               obtain ⟨y172,hy172⟩ : ∃ y_ : List Int,y_ = (x8_2 ++ [x7_2]):=⟨_,rfl⟩
               replace H : (shapesearchkeep_Src_List.l0 kj23 a1 t143 t148 x7_2 y172 (wrap64 (x9_2 + 1)) s0_0 t166) = some (r1,r2):=by first|(rw [hy172];with_reducible exact H)|(have H2_:=(Option.bind_some _ _).symm.trans H;rw [hy172];with_reducible exact H2_)|(have H2_:=(Option.bind_some _ _).symm.trans H;with_reducible exact H2_)|with_reducible exact H|(rw [hy172];exact H)|exact H
               have Ny172:=A_ hy172
               clear hy172
               have H':=A_ H
               clear H
               go_wp2_with (first|((with_reducible refine gate_callee (f:=24) rfl ?_);refine goesL_ (some 61) rfl rfl Try.func24 (by kernel_rfl) rfl #[.pointer (some ⟨g,0,none⟩),.int .i64 4] rfl (by (try simp only [List.map_toArray,List.map_cons,List.map_nil]);first|done|rfl|(simp only [List.length_drop,List.length_take];rfl)) ?_;(with_reducible refine (shapesearchkeep_Src_N.calls g s0_0 x1001_2 4 t165 t166 w0 _ ?side1 ?side2 A34.out).mono ?_);(case side1=>repeat (first|(with_reducible first|exact HI0.out|apply IsS56.alloc|apply IsS56.drewN|apply IsS56.drew|apply IsS56.set_1)|exact HI0.out));(case side2=>repeat (first|(with_reducible first|exact HB.out|apply ba|apply bb|apply bc|refine below_set ?_ (IsS56.ge HI0.out))|exact HB.out));rintro e w42 ⟨rfl,hi,hb,hk⟩;refine ⟨_,rfl,?_⟩;have n0_:=A_ (rm (Kd.R_keep (IsS56.apart (show IsS56 w0 _ g s0_0 x1001_2 from by repeat (first|(with_reducible first|exact HI0.out|apply IsS56.alloc|apply IsS56.drewN|apply IsS56.drew|apply IsS56.set_1)|exact HI0.out)) (by (with_reducible repeat (first|apply ra|apply rb|apply rc));exact HO_8.out) (by decide)) hk (fun _ h=>h.2)) (fun _ h=>h.1));have n1_:=A_ (KeepBut.trans (by repeat (first|(with_reducible first|exact HK.out|apply KeepBut.set_|apply keep_drewN|apply keep_drew|apply keep_alloc)|exact HK.out)) hk (.inl rfl));have n2_:=A_ (hb);have n3_:=A_ (hi);clear HO_8;clear HK;clear HB;clear HI0;have HO_8:=n0_;have HK:=n1_;have HB:=n2_;have HI0:=n3_;clear n0_ n1_ n2_ n3_;(try clear hb);(try clear hb2);(try clear hk);(try clear hi))|((with_reducible refine gate_builtin (b:=.append) (xs:=#[.tmp 68,.tmp 70]) rfl ?_);at_builtin;refine Kd.R_append (Kd.int .i64) w.heap.size rfl (.tmp 68) (.tmp 70) 22 3 (.int .i64 0) 8 rfl Try.underlying22 info3 rfl (by decide) (by omega) u8 x8_2 x7_2 [.int .i64 x7_2] (fun _=>True) (fun _=>False) rfl rfl ?aP (fun _ hk=>hk.elim) ?aF ?aO (Below.refl _ _) ?aS ?aL ?_;(case aP=>exact rfl);(case aF=>exact (fun _ _=>trivial));(case aO=>exact (by (with_reducible repeat (first|apply ra|apply rb|apply rc));exact HO_8.out));(case aS=>exact (keep_size (w:=w) (g:=g) (row:=none) (by repeat (first|(with_reducible first|exact HK.out|apply KeepBut.set_|apply keep_drewN|apply keep_drew|apply keep_alloc)|exact HK.out))));(case aL=>have:=LMc41.out;omega);intro v173 w43 ho hb hg hat;rw [← Ny172.out] at ho;have n0_:=A_ (IsS56.grown (by repeat (first|(with_reducible first|exact HI0.out|apply IsS56.alloc|apply IsS56.drewN|apply IsS56.drew|apply IsS56.set_1)|exact HI0.out)) hg (IsS56.own_ne HI0.out HO_8.out (by decide)));have n1_:=A_ (below_weaken (by repeat (first|(with_reducible first|exact HB.out|apply ba|apply bb|apply bc|refine below_set ?_ (IsS56.ge HI0.out))|exact HB.out)) HL.out hb);have n2_:=A_ (KeepBut.trans (by repeat (first|(with_reducible first|exact HK.out|apply KeepBut.set_|apply keep_drewN|apply keep_drew|apply keep_alloc)|exact HK.out)) (KeepBut.of_grown hg g) (Kd.R_base2 HO_8.out));have n3_:=A_ (ho);clear HI0;clear HB;clear HK;clear HO_8;have HI0:=n0_;have HB:=n1_;have HK:=n2_;have HO174:=n3_;clear n0_ n1_ n2_ n3_;clear ho hb hg hat))
               go_roundg kj23
               case measure=>have:=HJ5.out;have:=HK2.out;have:=HJ16.out;have:=HJ23.out;omega
               case rel=>exact ⟨(x7_2),(y172),(wrap64 (x9_2 + 1)),(t166),(by first|rfl|(simp;done)|(simp [*];done)),(by first|rfl|(simp;done)|(simp [*];done)),H',⟨by have:=HJ5.out;have:=HK2.out;have:=HJ16.out;have:=HJ23.out;omega⟩,⟨by (with_reducible repeat (first|apply ra|apply rb|apply rc));exact HO174.out⟩,⟨by repeat (first|(with_reducible first|exact HI0.out|apply IsS56.alloc|apply IsS56.drewN|apply IsS56.drew|apply IsS56.set_1)|exact HI0.out)⟩,⟨by repeat (first|(with_reducible first|exact HK.out|apply KeepBut.set_|apply keep_drewN|apply keep_drew|apply keep_alloc)|exact HK.out)⟩,⟨by repeat (first|(with_reducible first|exact HB.out|apply ba|apply bb|apply bc|refine below_set ?_ (IsS56.ge HI0.out))|exact HB.out)⟩⟩
              ·
               rw [if_neg c41] at H
               exact absurd H (by simp)
            ·
             rw [if_neg c33] at H
             have c33b0 : (t143 == 4) = false:=beq_eq_false_iff_ne.mpr c33
             have c33b1 : (t143 != 4) = true:=bne_iff_ne.mpr c33
             obtain ⟨y175,hy175⟩ : ∃ y_ : List Int,y_ = (([(-1000),1000,1000,0] : List Int)):=⟨_,rfl⟩
             replace H : ((shapesearchkeep_Src_Pick.f s0_0 x1001_2 y175).bind fun bt178=>(if x8_2.length < 17592186044416 then (shapesearchkeep_Src_List.l0 kj23 a1 t143 t148 x7_2 (x8_2 ++ [bt178.1]) (wrap64 (x9_2 + 1)) s0_0 bt178.2) else (none))) = some (r1,r2):=by first|(rw [hy175];with_reducible exact H)|(have H2_:=(Option.bind_some _ _).symm.trans H;rw [hy175];with_reducible exact H2_)|(have H2_:=(Option.bind_some _ _).symm.trans H;with_reducible exact H2_)|with_reducible exact H|(rw [hy175];exact H)|exact H
             have Ny175:=A_ hy175
             clear hy175
             replace H:=Option.bind_eq_some_iff.mp H
             obtain ⟨⟨t178,t179⟩,A440,H⟩:=H
             replace H : (if x8_2.length < 17592186044416 then (shapesearchkeep_Src_List.l0 kj23 a1 t143 t148 x7_2 (x8_2 ++ [t178]) (wrap64 (x9_2 + 1)) s0_0 t179) else (none)) = some (r1,r2):=H
             have A44:=A_ A440
             clear A440
             by_cases c45 : x8_2.length < 17592186044416
             ·
              rw [if_pos c45] at H
              have LMc45:=A_ c45
              clear c45
              obtain ⟨y180,hy180⟩ : ∃ y_ : List Int,y_ = (x8_2 ++ [t178]):=⟨_,rfl⟩
              replace H : (shapesearchkeep_Src_List.l0 kj23 a1 t143 t148 x7_2 y180 (wrap64 (x9_2 + 1)) s0_0 t179) = some (r1,r2):=by first|(rw [hy180];with_reducible exact H)|(have H2_:=(Option.bind_some _ _).symm.trans H;rw [hy180];with_reducible exact H2_)|(have H2_:=(Option.bind_some _ _).symm.trans H;with_reducible exact H2_)|with_reducible exact H|(rw [hy180];exact H)|exact H
              have Ny180:=A_ hy180
              clear hy180
              have H':=A_ H
              clear H
              go_wp2_with (first|((with_reducible refine gate_dst (N:=28) rfl ?_);refine Kd.R_lit (Kd.int .i64) _ 3 ?hg (N:=28) ?hd (xs:=([(-1000),1000,1000,0] : List Int)) (inner:=[.int .i64 (-1000),.int .i64 1000,.int .i64 1000,.int .i64 0]) (ok:=fun _=>True) (okp:=fun _=>True) ?hr ?hp (fun _ hk=>hk) trivial (Below.refl _ _) (Nat.le_refl _) (by simp) ?_;(case hd=>rfl);(case hg=>rfl);(case hr=>first|(go_simp;done)|(go_simp;rfl));(case hp=>exact (Reps.one (show Kd.M (Kd.int .i64) _ _ _ (-1000) [.int .i64 (-1000)] from rfl) (Reps.one (show Kd.M (Kd.int .i64) _ _ _ 1000 [.int .i64 1000] from rfl) (Reps.one (show Kd.M (Kd.int .i64) _ _ _ 1000 [.int .i64 1000] from rfl) (Reps.one (show Kd.M (Kd.int .i64) _ _ _ 0 [.int .i64 0] from rfl) (Reps.none _ _))))));intro v176 w46 ho47 hb hg_ hnew_;clear hg_ hnew_;(first|rw [← Ny175.out] at ho47|(simp only [Int.reduceToNat] at ho47;rw [← Ny175.out] at ho47));have n0_:=A_ (re (by (with_reducible repeat (first|apply ra|apply rb|apply rc));exact HO_8.out) (rs ho47) hb);have n1_:=A_ (Kd.R_lower (rn ho47 (rl (by (with_reducible repeat (first|apply ra|apply rb|apply rc));exact HO_8.out))) (keep_size (w:=w) (g:=g) (row:=none) (by repeat (first|(with_reducible first|exact HK.out|apply KeepBut.set_|apply keep_drewN|apply keep_drew|apply keep_alloc)|exact HK.out))));have n2_:=A_ (IsS56.below (by repeat (first|(with_reducible first|exact HI0.out|apply IsS56.alloc|apply IsS56.drewN|apply IsS56.drew|apply IsS56.set_1)|exact HI0.out)) hb);have n3_:=A_ (KeepBut.trans (by repeat (first|(with_reducible first|exact HK.out|apply KeepBut.set_|apply keep_drewN|apply keep_drew|apply keep_alloc)|exact HK.out)) (KeepBut.of_below hb g none) (.inl rfl));have n4_:=A_ (below_step (by repeat (first|(with_reducible first|exact HB.out|apply ba|apply bb|apply bc|refine below_set ?_ (IsS56.ge HI0.out))|exact HB.out)) hb);clear HO_8;clear HI0;clear HK;clear HB;have HO_8:=n0_;have HO177:=n1_;have HI0:=n2_;have HK:=n3_;have HB:=n4_;clear n0_ n1_ n2_ n3_ n4_;clear hb ho47;obtain ⟨Ao48,co48,eo48⟩:=Kd.R_slice HO177.out;subst eo48)|((with_reducible refine gate_callee (f:=47) rfl ?_);refine goesL_ (some 29) rfl rfl Try.func47 (by kernel_rfl) rfl #[.pointer (some ⟨g,0,none⟩),.slice Ao48 y175.length co48] rfl (by (try simp only [List.map_toArray,List.map_cons,List.map_nil]);first|done|rfl|(simp only [List.length_drop,List.length_take];rfl)) ?_;(with_reducible refine (shapesearchkeep_Src_Pick.calls g s0_0 x1001_2 _ _ y175 t178 t179 w0 _ ?side1 ?side2 ?side3 ?side4 ?side5 A44.out).mono ?_);(case side1=>repeat (first|(with_reducible first|exact HI0.out|apply IsS56.alloc|apply IsS56.drewN|apply IsS56.drew|apply IsS56.set_1)|exact HI0.out));(case side2=>repeat (first|(with_reducible first|exact HB.out|apply ba|apply bb|apply bc|refine below_set ?_ (IsS56.ge HI0.out))|exact HB.out));(case side3=>repeat (first|exact (rd_ HO177.out).2.2|(with_reducible refine ca ?_ _)|(with_reducible refine cb ?_ _)|(with_reducible refine cc ?_)));(case side4=>exact (rd_ HO177.out).2.1);(case side5=>exact far_slice (IsS56.own_ne HI0.out HO177.out (by decide)));rintro e w49 ⟨rfl,hi,hb,hk⟩;refine ⟨_,rfl,?_⟩;have n0_:=A_ (rm (Kd.R_keep (IsS56.apart (show IsS56 w0 _ g s0_0 x1001_2 from by repeat (first|(with_reducible first|exact HI0.out|apply IsS56.alloc|apply IsS56.drewN|apply IsS56.drew|apply IsS56.set_1)|exact HI0.out)) (by (with_reducible repeat (first|apply ra|apply rb|apply rc));exact HO_8.out) (by decide)) hk (fun _ h=>h.2)) (fun _ h=>h.1));have n1_:=A_ (rm (Kd.R_keep (IsS56.apart (show IsS56 w0 _ g s0_0 x1001_2 from by repeat (first|(with_reducible first|exact HI0.out|apply IsS56.alloc|apply IsS56.drewN|apply IsS56.drew|apply IsS56.set_1)|exact HI0.out)) (by (with_reducible repeat (first|apply ra|apply rb|apply rc));exact HO177.out) (by decide)) hk (fun _ h=>h.2)) (fun _ h=>h.1));have n2_:=A_ (KeepBut.trans (by repeat (first|(with_reducible first|exact HK.out|apply KeepBut.set_|apply keep_drewN|apply keep_drew|apply keep_alloc)|exact HK.out)) hk (.inl rfl));have n3_:=A_ (hb);have n4_:=A_ (hi);clear HO_8;clear HO177;clear HK;clear HB;clear HI0;have HO_8:=n0_;have HO177:=n1_;have HK:=n2_;have HB:=n3_;have HI0:=n4_;clear n0_ n1_ n2_ n3_ n4_;(try clear hb);(try clear hb2);(try clear hk);(try clear hi))|((with_reducible refine gate_builtin (b:=.append) (xs:=#[.tmp 26,.tmp 30]) rfl ?_);at_builtin;refine Kd.R_append (Kd.int .i64) w.heap.size rfl (.tmp 26) (.tmp 30) 22 3 (.int .i64 0) 8 rfl Try.underlying22 info3 rfl (by decide) (by omega) u8 x8_2 t178 [.int .i64 t178] (fun k_=>nb k_ (.slice Ao48 y175.length co48)) (fun _=>False) rfl rfl ?aP (fun _ hk=>hk.elim) ?aF ?aO (Below.refl _ _) ?aS ?aL ?_;(case aP=>exact rfl);(case aF=>exact (fun k_ hk=>rh (rl (by (with_reducible repeat (first|apply ra|apply rb|apply rc));exact HO177.out)) k_ hk));(case aO=>exact (by (with_reducible repeat (first|apply ra|apply rb|apply rc));exact rm HO_8.out (fun _ hk=>hk.2)));(case aS=>exact (keep_size (w:=w) (g:=g) (row:=none) (by repeat (first|(with_reducible first|exact HK.out|apply KeepBut.set_|apply keep_drewN|apply keep_drew|apply keep_alloc)|exact HK.out))));(case aL=>have:=LMc45.out;omega);intro v181 w50 ho hb hg hat;rw [← Ny180.out] at ho;have n0_:=A_ (IsS56.grown (by repeat (first|(with_reducible first|exact HI0.out|apply IsS56.alloc|apply IsS56.drewN|apply IsS56.drew|apply IsS56.set_1)|exact HI0.out)) hg (IsS56.own_ne HI0.out HO_8.out (by decide)));have n1_:=A_ (rf (ok:=(fun _=>True)) (by (with_reducible repeat (first|apply ra|apply rb|apply rc));first|exact HO177.out|exact rm HO177.out (fun _ h_=>⟨trivial,h_⟩)) hg hat);have n2_:=A_ (below_weaken (by repeat (first|(with_reducible first|exact HB.out|apply ba|apply bb|apply bc|refine below_set ?_ (IsS56.ge HI0.out))|exact HB.out)) HL.out hb);have n3_:=A_ (KeepBut.trans (by repeat (first|(with_reducible first|exact HK.out|apply KeepBut.set_|apply keep_drewN|apply keep_drew|apply keep_alloc)|exact HK.out)) (KeepBut.of_grown hg g) (Kd.R_base2 HO_8.out));have n4_:=A_ (ho);clear HI0;clear HO177;clear HB;clear HK;clear HO_8;have HI0:=n0_;have HO177:=n1_;have HB:=n2_;have HK:=n3_;have HO182:=n4_;clear n0_ n1_ n2_ n3_ n4_;clear ho hb hg hat))
              go_roundg kj23
              case measure=>have:=HJ5.out;have:=HK2.out;have:=HJ16.out;have:=HJ23.out;omega
              case rel=>exact ⟨(x7_2),(y180),(wrap64 (x9_2 + 1)),(t179),(by first|rfl|(simp;done)|(simp [*];done)),(by first|rfl|(simp;done)|(simp [*];done)),H',⟨by have:=HJ5.out;have:=HK2.out;have:=HJ16.out;have:=HJ23.out;omega⟩,⟨by (with_reducible repeat (first|apply ra|apply rb|apply rc));exact rm HO182.out (fun _ hk=>trivial)⟩,⟨by repeat (first|(with_reducible first|exact HI0.out|apply IsS56.alloc|apply IsS56.drewN|apply IsS56.drew|apply IsS56.set_1)|exact HI0.out)⟩,⟨by repeat (first|(with_reducible first|exact HK.out|apply KeepBut.set_|apply keep_drewN|apply keep_drew|apply keep_alloc)|exact HK.out)⟩,⟨by repeat (first|(with_reducible first|exact HB.out|apply ba|apply bb|apply bc|refine below_set ?_ (IsS56.ge HI0.out))|exact HB.out)⟩⟩
             ·
              rw [if_neg c45] at H
              exact absurd H (by simp)
     ·
      rw [if_neg c16] at H
      have c16b0 : decide (x9_2 < a1) = false:=decide_eq_false c16
      clear c16
      simp only [Option.some.injEq,Prod.mk.injEq] at H
      obtain ⟨rfl,rfl⟩:=H
      go_wp2
      go_ret
      exact ⟨_,by first|rfl|(simp [errW_none,errW_some] <;> rfl)|(simp [*,errW_none,errW_some] <;> rfl),by (with_reducible repeat (first|apply ra|apply rb|apply rc));exact HO_8.out,by repeat (first|(with_reducible first|exact HI0.out|apply IsS56.alloc|apply IsS56.drewN|apply IsS56.drew|apply IsS56.set_1)|exact HI0.out),by repeat (first|(with_reducible first|exact HB.out|apply ba|apply bb|apply bc|refine below_set ?_ (IsS56.ge HI0.out))|exact HB.out),by repeat (first|(with_reducible first|exact HK.out|apply KeepBut.set_|apply keep_drewN|apply keep_drew|apply keep_alloc)|exact HK.out)⟩

/-! ### shapesearchkeep_Src_Length: function 44 -/
def shapesearchkeep_Src_Length.f (s0_0 : List Int) (s0_1 : Int) : Option (Int × Int):=(shapesearchkeep_Src_N.f s0_0 s0_1 8).bind fun bt183=>(if bt183.1 = 7 then ((shapesearchkeep_Src_Range.f s0_0 bt183.2 13 32).bind fun bt185=>(some (bt185.1,bt185.2))) else ((shapesearchkeep_Src_Range.f s0_0 bt183.2 2 12).bind fun bt187=>(some (bt187.1,bt187.2))))
set_option maxHeartbeats 8000000 in
set_option maxRecDepth 100000 in
theorem shapesearchkeep_Src_Length.calls (g : Nat) (s0_0 : List Int) (s0_1 : Int) (r1 : Int) (r2 : Int) (w0 w : World) (hI : IsS56 w0 w g s0_0 s0_1) (hB : Below w0.heap.size w0 w) (h : shapesearchkeep_Src_Length.f s0_0 s0_1 = some (r1,r2)) :
  Calls Try.prog 44 #[.pointer (some ⟨g,0,none⟩)] w fun e w'=>e = .returned (.int .i64 r1)∧IsS56 w0 w' g s0_0 r2∧Below w0.heap.size w0 w'∧KeepBut w w' g none:=by
 have HI0:=A_ hI
 have HK:=A_ (KeepBut.refl w g none)
 have HL:=A_ hB.size
 clear hI
 have HW0:=A_ hB.size
 have HB:=A_ hB
 clear hB
 have H : ((shapesearchkeep_Src_N.f s0_0 s0_1 8).bind fun bt183=>(if bt183.1 = 7 then ((shapesearchkeep_Src_Range.f s0_0 bt183.2 13 32).bind fun bt185=>(some (bt185.1,bt185.2))) else ((shapesearchkeep_Src_Range.f s0_0 bt183.2 2 12).bind fun bt187=>(some (bt187.1,bt187.2))))) = some (r1,r2):=h
 clear h
 replace H:=Option.bind_eq_some_iff.mp H
 obtain ⟨⟨t183,t184⟩,A20,H⟩:=H
 replace H : (if t183 = 7 then ((shapesearchkeep_Src_Range.f s0_0 t184 13 32).bind fun bt185=>(some (bt185.1,bt185.2))) else ((shapesearchkeep_Src_Range.f s0_0 t184 2 12).bind fun bt187=>(some (bt187.1,bt187.2)))) = some (r1,r2):=H
 have A2:=A_ A20
 clear A20
 by_cases c3 : t183 = 7
 ·
  rw [if_pos c3] at H
  have c3b0 : (t183 == 7) = true:=beq_iff_eq.mpr c3
  have c3b1 : (t183 != 7) = false:=bne_eq_false_iff_eq.mpr c3
  clear c3
  replace H:=Option.bind_eq_some_iff.mp H
  obtain ⟨⟨t185,t186⟩,A40,H⟩:=H
  replace H : (some (t185,t186)) = some (r1,r2):=H
  have A4:=A_ A40
  clear A40
  simp only [Option.some.injEq,Prod.mk.injEq] at H
  obtain ⟨rfl,rfl⟩:=H
  go_enter Try.func44,Try.ntmps44
  go_wp2_with (first|((with_reducible refine gate_callee (f:=24) rfl ?_);refine goesL_ (some 4) rfl rfl Try.func24 (by kernel_rfl) rfl #[.pointer (some ⟨g,0,none⟩),.int .i64 8] rfl (by (try simp only [List.map_toArray,List.map_cons,List.map_nil]);first|done|rfl|(simp only [List.length_drop,List.length_take];rfl)) ?_;(with_reducible refine (shapesearchkeep_Src_N.calls g s0_0 s0_1 8 t183 t184 w0 _ ?side1 ?side2 A2.out).mono ?_);(case side1=>repeat (first|(with_reducible first|exact HI0.out|apply IsS56.alloc|apply IsS56.drewN|apply IsS56.drew|apply IsS56.set_1)|exact HI0.out));(case side2=>repeat (first|(with_reducible first|exact HB.out|apply ba|apply bb|apply bc|refine below_set ?_ (IsS56.ge HI0.out))|exact HB.out));rintro e w5 ⟨rfl,hi,hb,hk⟩;refine ⟨_,rfl,?_⟩;have n0_:=A_ (KeepBut.trans (by repeat (first|(with_reducible first|exact HK.out|apply KeepBut.set_|apply keep_drewN|apply keep_drew|apply keep_alloc)|exact HK.out)) hk (.inl rfl));have n1_:=A_ (hb);have n2_:=A_ (hi);clear HK;clear HB;clear HI0;have HK:=n0_;have HB:=n1_;have HI0:=n2_;clear n0_ n1_ n2_;(try clear hb);(try clear hb2);(try clear hk);(try clear hi))|((with_reducible refine gate_callee (f:=45) rfl ?_);refine goesL_ (some 7) rfl rfl Try.func45 (by kernel_rfl) rfl #[.pointer (some ⟨g,0,none⟩),.int .i64 13,.int .i64 32] rfl (by (try simp only [List.map_toArray,List.map_cons,List.map_nil]);first|done|rfl|(simp only [List.length_drop,List.length_take];rfl)) ?_;(with_reducible refine (shapesearchkeep_Src_Range.calls g s0_0 t184 13 32 t185 t186 w0 _ ?side1 ?side2 A4.out).mono ?_);(case side1=>repeat (first|(with_reducible first|exact HI0.out|apply IsS56.alloc|apply IsS56.drewN|apply IsS56.drew|apply IsS56.set_1)|exact HI0.out));(case side2=>repeat (first|(with_reducible first|exact HB.out|apply ba|apply bb|apply bc|refine below_set ?_ (IsS56.ge HI0.out))|exact HB.out));rintro e w6 ⟨rfl,hi,hb,hk⟩;refine ⟨_,rfl,?_⟩;have n0_:=A_ (KeepBut.trans (by repeat (first|(with_reducible first|exact HK.out|apply KeepBut.set_|apply keep_drewN|apply keep_drew|apply keep_alloc)|exact HK.out)) hk (.inl rfl));have n1_:=A_ (hb);have n2_:=A_ (hi);clear HK;clear HB;clear HI0;have HK:=n0_;have HB:=n1_;have HI0:=n2_;clear n0_ n1_ n2_;(try clear hb);(try clear hb2);(try clear hk);(try clear hi)))
  go_ret
  exact ⟨by first|rfl|(simp [errW_none,errW_some] <;> rfl)|(simp [*,errW_none,errW_some] <;> rfl),by repeat (first|(with_reducible first|exact HI0.out|apply IsS56.alloc|apply IsS56.drewN|apply IsS56.drew|apply IsS56.set_1)|exact HI0.out),by repeat (first|(with_reducible first|exact HB.out|apply ba|apply bb|apply bc|refine below_set ?_ (IsS56.ge HI0.out))|exact HB.out),by repeat (first|(with_reducible first|exact HK.out|apply KeepBut.set_|apply keep_drewN|apply keep_drew|apply keep_alloc)|exact HK.out)⟩
 ·
  rw [if_neg c3] at H
  have c3b0 : (t183 == 7) = false:=beq_eq_false_iff_ne.mpr c3
  have c3b1 : (t183 != 7) = true:=bne_iff_ne.mpr c3
  replace H:=Option.bind_eq_some_iff.mp H
  obtain ⟨⟨t187,t188⟩,A70,H⟩:=H
  replace H : (some (t187,t188)) = some (r1,r2):=H
  have A7:=A_ A70
  clear A70
  simp only [Option.some.injEq,Prod.mk.injEq] at H
  obtain ⟨rfl,rfl⟩:=H
  go_enter Try.func44,Try.ntmps44
  go_wp2_with (first|((with_reducible refine gate_callee (f:=24) rfl ?_);refine goesL_ (some 4) rfl rfl Try.func24 (by kernel_rfl) rfl #[.pointer (some ⟨g,0,none⟩),.int .i64 8] rfl (by (try simp only [List.map_toArray,List.map_cons,List.map_nil]);first|done|rfl|(simp only [List.length_drop,List.length_take];rfl)) ?_;(with_reducible refine (shapesearchkeep_Src_N.calls g s0_0 s0_1 8 t183 t184 w0 _ ?side1 ?side2 A2.out).mono ?_);(case side1=>repeat (first|(with_reducible first|exact HI0.out|apply IsS56.alloc|apply IsS56.drewN|apply IsS56.drew|apply IsS56.set_1)|exact HI0.out));(case side2=>repeat (first|(with_reducible first|exact HB.out|apply ba|apply bb|apply bc|refine below_set ?_ (IsS56.ge HI0.out))|exact HB.out));rintro e w8 ⟨rfl,hi,hb,hk⟩;refine ⟨_,rfl,?_⟩;have n0_:=A_ (KeepBut.trans (by repeat (first|(with_reducible first|exact HK.out|apply KeepBut.set_|apply keep_drewN|apply keep_drew|apply keep_alloc)|exact HK.out)) hk (.inl rfl));have n1_:=A_ (hb);have n2_:=A_ (hi);clear HK;clear HB;clear HI0;have HK:=n0_;have HB:=n1_;have HI0:=n2_;clear n0_ n1_ n2_;(try clear hb);(try clear hb2);(try clear hk);(try clear hi))|((with_reducible refine gate_callee (f:=45) rfl ?_);refine goesL_ (some 9) rfl rfl Try.func45 (by kernel_rfl) rfl #[.pointer (some ⟨g,0,none⟩),.int .i64 2,.int .i64 12] rfl (by (try simp only [List.map_toArray,List.map_cons,List.map_nil]);first|done|rfl|(simp only [List.length_drop,List.length_take];rfl)) ?_;(with_reducible refine (shapesearchkeep_Src_Range.calls g s0_0 t184 2 12 t187 t188 w0 _ ?side1 ?side2 A7.out).mono ?_);(case side1=>repeat (first|(with_reducible first|exact HI0.out|apply IsS56.alloc|apply IsS56.drewN|apply IsS56.drew|apply IsS56.set_1)|exact HI0.out));(case side2=>repeat (first|(with_reducible first|exact HB.out|apply ba|apply bb|apply bc|refine below_set ?_ (IsS56.ge HI0.out))|exact HB.out));rintro e w9 ⟨rfl,hi,hb,hk⟩;refine ⟨_,rfl,?_⟩;have n0_:=A_ (KeepBut.trans (by repeat (first|(with_reducible first|exact HK.out|apply KeepBut.set_|apply keep_drewN|apply keep_drew|apply keep_alloc)|exact HK.out)) hk (.inl rfl));have n1_:=A_ (hb);have n2_:=A_ (hi);clear HK;clear HB;clear HI0;have HK:=n0_;have HB:=n1_;have HI0:=n2_;clear n0_ n1_ n2_;(try clear hb);(try clear hb2);(try clear hk);(try clear hi)))
  go_ret
  exact ⟨by first|rfl|(simp [errW_none,errW_some] <;> rfl)|(simp [*,errW_none,errW_some] <;> rfl),by repeat (first|(with_reducible first|exact HI0.out|apply IsS56.alloc|apply IsS56.drewN|apply IsS56.drew|apply IsS56.set_1)|exact HI0.out),by repeat (first|(with_reducible first|exact HB.out|apply ba|apply bb|apply bc|refine below_set ?_ (IsS56.ge HI0.out))|exact HB.out),by repeat (first|(with_reducible first|exact HK.out|apply KeepBut.set_|apply keep_drewN|apply keep_drew|apply keep_alloc)|exact HK.out)⟩

/-! ### shapesearchkeep_Src_Pair: function 18 -/
def shapesearchkeep_Src_Pair.f (k : Nat) (s0_0 : List Int) (s0_1 : Int) : Option (List Int × List Int × Int):=(shapesearchkeep_Src_Length.f s0_0 s0_1).bind fun bt189=>((shapesearchkeep_Src_List.f k s0_0 bt189.2 bt189.1).bind fun bt191=>((shapesearchkeep_Src_N.f s0_0 bt191.2 3).bind fun bt195=>(if bt195.1 = 0 then ((shapesearchkeep_Src_List.f k s0_0 bt195.2 (bt191.1.length : Int)).bind fun bt197=>(some (bt191.1,bt197.1,bt197.2))) else ((shapesearchkeep_Src_Near.f k s0_0 bt195.2 bt191.1).bind fun bt201=>(some (bt191.1,bt201.1,bt201.2))))))
theorem shapesearchkeep_Src_Pair.mono : ∀ a0 a1 k,LeO (shapesearchkeep_Src_Pair.f k a0 a1) (shapesearchkeep_Src_Pair.f (k + 1) a0 a1):=by
 intro a0 a1 k
 unfold shapesearchkeep_Src_Pair.f
 repeat' first
   | (with_reducible exact shapesearchkeep_Src_List.mono _ _ _ _)
   | (with_reducible exact shapesearchkeep_Src_Near.mono _ _ _ _)
   | (with_reducible exact LeO.refl _)
   | (with_reducible exact LeO.none _)
   | (with_reducible refine LeO.ite ?_ ?_)
   | (with_reducible refine LeO.bind ?_ (fun _=>?_))
   | exact shapesearchkeep_Src_List.mono _ _ _ _
   | exact shapesearchkeep_Src_Near.mono _ _ _ _
   | exact LeO.none _
   | refine LeO.ite ?_ ?_
   | refine LeO.bind ?_ (fun _=>?_)
set_option maxHeartbeats 8000000 in
set_option maxRecDepth 100000 in
theorem shapesearchkeep_Src_Pair.calls (k : Nat) (g : Nat) (s0_0 : List Int) (s0_1 : Int) (r1 : List Int) (r2 : List Int) (r3 : Int) (w0 w : World) (hI : IsS56 w0 w g s0_0 s0_1) (hB : Below w0.heap.size w0 w) (h : shapesearchkeep_Src_Pair.f k s0_0 s0_1 = some (r1,r2,r3)) :
  Calls Try.prog 18 #[.pointer (some ⟨g,0,none⟩)] w fun e w'=>∃ v0_ v1_ : Value,e = .returned (.tuple #[v0_,v1_])∧Kd.R (Kd.int .i64) 3 w' w.heap.size (fun k_=>some k_≠(v1_ : Value).ownBlock) v0_ r1∧Kd.R (Kd.int .i64) 3 w' w.heap.size (fun k_=>some k_≠(v0_ : Value).ownBlock) v1_ r2∧IsS56 w0 w' g s0_0 r3∧Below w0.heap.size w0 w'∧KeepBut w w' g none:=by
 have HI0:=A_ hI
 have HK:=A_ (KeepBut.refl w g none)
 have HL:=A_ hB.size
 clear hI
 have HW0:=A_ hB.size
 have HB:=A_ hB
 clear hB
 have H : ((shapesearchkeep_Src_Length.f s0_0 s0_1).bind fun bt189=>((shapesearchkeep_Src_List.f k s0_0 bt189.2 bt189.1).bind fun bt191=>((shapesearchkeep_Src_N.f s0_0 bt191.2 3).bind fun bt195=>(if bt195.1 = 0 then ((shapesearchkeep_Src_List.f k s0_0 bt195.2 (bt191.1.length : Int)).bind fun bt197=>(some (bt191.1,bt197.1,bt197.2))) else ((shapesearchkeep_Src_Near.f k s0_0 bt195.2 bt191.1).bind fun bt201=>(some (bt191.1,bt201.1,bt201.2))))))) = some (r1,r2,r3):=h
 clear h
 replace H:=Option.bind_eq_some_iff.mp H
 obtain ⟨⟨t189,t190⟩,A20,H⟩:=H
 replace H : ((shapesearchkeep_Src_List.f k s0_0 t190 t189).bind fun bt191=>((shapesearchkeep_Src_N.f s0_0 bt191.2 3).bind fun bt195=>(if bt195.1 = 0 then ((shapesearchkeep_Src_List.f k s0_0 bt195.2 (bt191.1.length : Int)).bind fun bt197=>(some (bt191.1,bt197.1,bt197.2))) else ((shapesearchkeep_Src_Near.f k s0_0 bt195.2 bt191.1).bind fun bt201=>(some (bt191.1,bt201.1,bt201.2)))))) = some (r1,r2,r3):=H
 have A2:=A_ A20
 clear A20
 replace H:=Option.bind_eq_some_iff.mp H
 obtain ⟨⟨t191,t194⟩,A30,H⟩:=H
 replace H : ((shapesearchkeep_Src_N.f s0_0 t194 3).bind fun bt195=>(if bt195.1 = 0 then ((shapesearchkeep_Src_List.f k s0_0 bt195.2 (t191.length : Int)).bind fun bt197=>(some (t191,bt197.1,bt197.2))) else ((shapesearchkeep_Src_Near.f k s0_0 bt195.2 t191).bind fun bt201=>(some (t191,bt201.1,bt201.2))))) = some (r1,r2,r3):=H
 have A3:=A_ A30
 clear A30
 replace H:=Option.bind_eq_some_iff.mp H
 obtain ⟨⟨t195,t196⟩,A40,H⟩:=H
 replace H : (if t195 = 0 then ((shapesearchkeep_Src_List.f k s0_0 t196 (t191.length : Int)).bind fun bt197=>(some (t191,bt197.1,bt197.2))) else ((shapesearchkeep_Src_Near.f k s0_0 t196 t191).bind fun bt201=>(some (t191,bt201.1,bt201.2)))) = some (r1,r2,r3):=H
 have A4:=A_ A40
 clear A40
 by_cases c5 : t195 = 0
 ·
  rw [if_pos c5] at H
  have c5b0 : (t195 == 0) = true:=beq_iff_eq.mpr c5
  have c5b1 : (t195 != 0) = false:=bne_eq_false_iff_eq.mpr c5
  clear c5
  replace H:=Option.bind_eq_some_iff.mp H
  obtain ⟨⟨t197,t200⟩,A60,H⟩:=H
  replace H : (some (t191,t197,t200)) = some (r1,r2,r3):=H
  have A6:=A_ A60
  clear A60
  simp only [Option.some.injEq,Prod.mk.injEq] at H
  obtain ⟨rfl,rfl,rfl⟩:=H
  go_enter Try.func18,Try.ntmps18
  go_wp2_with (first|((with_reducible refine gate_callee (f:=44) rfl ?_);refine goesL_ (some 7) rfl rfl Try.func44 (by kernel_rfl) rfl #[.pointer (some ⟨g,0,none⟩)] rfl (by (try simp only [List.map_toArray,List.map_cons,List.map_nil]);first|done|rfl|(simp only [List.length_drop,List.length_take];rfl)) ?_;(with_reducible refine (shapesearchkeep_Src_Length.calls g s0_0 s0_1 t189 t190 w0 _ ?side1 ?side2 A2.out).mono ?_);(case side1=>repeat (first|(with_reducible first|exact HI0.out|apply IsS56.alloc|apply IsS56.drewN|apply IsS56.drew|apply IsS56.set_1)|exact HI0.out));(case side2=>repeat (first|(with_reducible first|exact HB.out|apply ba|apply bb|apply bc|refine below_set ?_ (IsS56.ge HI0.out))|exact HB.out));rintro e w7 ⟨rfl,hi,hb,hk⟩;refine ⟨_,rfl,?_⟩;have n0_:=A_ (KeepBut.trans (by repeat (first|(with_reducible first|exact HK.out|apply KeepBut.set_|apply keep_drewN|apply keep_drew|apply keep_alloc)|exact HK.out)) hk (.inl rfl));have n1_:=A_ (hb);have n2_:=A_ (hi);clear HK;clear HB;clear HI0;have HK:=n0_;have HB:=n1_;have HI0:=n2_;clear n0_ n1_ n2_;(try clear hb);(try clear hb2);(try clear hk);(try clear hi))|((with_reducible refine gate_callee (f:=20) rfl ?_);refine goesL_ (some 8) rfl rfl Try.func20 (by kernel_rfl) rfl #[.pointer (some ⟨g,0,none⟩),.int .i64 t189] rfl (by (try simp only [List.map_toArray,List.map_cons,List.map_nil]);first|done|rfl|(simp only [List.length_drop,List.length_take];rfl)) ?_;(with_reducible refine (shapesearchkeep_Src_List.calls k g s0_0 t190 t189 t191 t194 w0 _ ?side1 ?side2 A3.out).mono ?_);(case side1=>repeat (first|(with_reducible first|exact HI0.out|apply IsS56.alloc|apply IsS56.drewN|apply IsS56.drew|apply IsS56.set_1)|exact HI0.out));(case side2=>repeat (first|(with_reducible first|exact HB.out|apply ba|apply bb|apply bc|refine below_set ?_ (IsS56.ge HI0.out))|exact HB.out));rintro e w8 ⟨v192,rfl,ho0,hi,hb,hk⟩;refine ⟨_,rfl,?_⟩;have n0_:=A_ (Kd.R_lower ho0 (keep_size (w:=w) (g:=g) (row:=none) (by repeat (first|(with_reducible first|exact HK.out|apply KeepBut.set_|apply keep_drewN|apply keep_drew|apply keep_alloc)|exact HK.out))));have n1_:=A_ (KeepBut.trans (by repeat (first|(with_reducible first|exact HK.out|apply KeepBut.set_|apply keep_drewN|apply keep_drew|apply keep_alloc)|exact HK.out)) hk (.inl rfl));have n2_:=A_ (hb);have n3_:=A_ (hi);clear HK;clear HB;clear HI0;have HO193:=n0_;have HK:=n1_;have HB:=n2_;have HI0:=n3_;clear n0_ n1_ n2_ n3_;(try clear hb);(try clear hb2);(try clear hk);(try clear hi);(try clear ho0))|((with_reducible refine gate_callee (f:=24) rfl ?_);refine goesL_ (some 10) rfl rfl Try.func24 (by kernel_rfl) rfl #[.pointer (some ⟨g,0,none⟩),.int .i64 3] rfl (by (try simp only [List.map_toArray,List.map_cons,List.map_nil]);first|done|rfl|(simp only [List.length_drop,List.length_take];rfl)) ?_;(with_reducible refine (shapesearchkeep_Src_N.calls g s0_0 t194 3 t195 t196 w0 _ ?side1 ?side2 A4.out).mono ?_);(case side1=>repeat (first|(with_reducible first|exact HI0.out|apply IsS56.alloc|apply IsS56.drewN|apply IsS56.drew|apply IsS56.set_1)|exact HI0.out));(case side2=>repeat (first|(with_reducible first|exact HB.out|apply ba|apply bb|apply bc|refine below_set ?_ (IsS56.ge HI0.out))|exact HB.out));rintro e w9 ⟨rfl,hi,hb,hk⟩;refine ⟨_,rfl,?_⟩;have n0_:=A_ (rm (Kd.R_keep (IsS56.apart (show IsS56 w0 _ g s0_0 t194 from by repeat (first|(with_reducible first|exact HI0.out|apply IsS56.alloc|apply IsS56.drewN|apply IsS56.drew|apply IsS56.set_1)|exact HI0.out)) (by (with_reducible repeat (first|apply ra|apply rb|apply rc));exact HO193.out) (by decide)) hk (fun _ h=>h.2)) (fun _ h=>h.1));have n1_:=A_ (KeepBut.trans (by repeat (first|(with_reducible first|exact HK.out|apply KeepBut.set_|apply keep_drewN|apply keep_drew|apply keep_alloc)|exact HK.out)) hk (.inl rfl));have n2_:=A_ (hb);have n3_:=A_ (hi);clear HO193;clear HK;clear HB;clear HI0;have HO193:=n0_;have HK:=n1_;have HB:=n2_;have HI0:=n3_;clear n0_ n1_ n2_ n3_;(try clear hb);(try clear hb2);(try clear hk);(try clear hi);obtain ⟨Ao10,co10,eo10⟩:=Kd.R_slice HO193.out;subst eo10)|((with_reducible refine gate_callee (f:=20) rfl ?_);refine goesL_ (some 16) rfl rfl Try.func20 (by kernel_rfl) rfl #[.pointer (some ⟨g,0,none⟩),.int .i64 (t191.length : Int)] rfl (by (try simp only [List.map_toArray,List.map_cons,List.map_nil]);first|done|rfl|(simp only [List.length_drop,List.length_take];rfl)) ?_;(with_reducible refine (shapesearchkeep_Src_List.calls k g s0_0 t196 (t191.length : Int) t197 t200 w0 _ ?side1 ?side2 A6.out).mono ?_);(case side1=>repeat (first|(with_reducible first|exact HI0.out|apply IsS56.alloc|apply IsS56.drewN|apply IsS56.drew|apply IsS56.set_1)|exact HI0.out));(case side2=>repeat (first|(with_reducible first|exact HB.out|apply ba|apply bb|apply bc|refine below_set ?_ (IsS56.ge HI0.out))|exact HB.out));rintro e w11 ⟨v198,rfl,ho0,hi,hb,hk⟩;refine ⟨_,rfl,?_⟩;have n0_:=A_ (rm (Kd.R_told (Kd.R_oldK (IsS56.apart (show IsS56 w0 _ g s0_0 t196 from by repeat (first|(with_reducible first|exact HI0.out|apply IsS56.alloc|apply IsS56.drewN|apply IsS56.drew|apply IsS56.set_1)|exact HI0.out)) (by (with_reducible repeat (first|apply ra|apply rb|apply rc));exact HO193.out) (by decide)) hk) (rs ho0)) (fun _ h_=>h_.1));have n1_:=A_ (Kd.R_lower (rn ho0 (rl (by (with_reducible repeat (first|apply ra|apply rb|apply rc));exact HO193.out))) (keep_size (w:=w) (g:=g) (row:=none) (by repeat (first|(with_reducible first|exact HK.out|apply KeepBut.set_|apply keep_drewN|apply keep_drew|apply keep_alloc)|exact HK.out))));have n2_:=A_ (KeepBut.trans (by repeat (first|(with_reducible first|exact HK.out|apply KeepBut.set_|apply keep_drewN|apply keep_drew|apply keep_alloc)|exact HK.out)) hk (.inl rfl));have n3_:=A_ (hb);have n4_:=A_ (hi);clear HO193;clear HK;clear HB;clear HI0;have HO193:=n0_;have HO199:=n1_;have HK:=n2_;have HB:=n3_;have HI0:=n4_;clear n0_ n1_ n2_ n3_ n4_;(try clear hb);(try clear hb2);(try clear hk);(try clear hi);(try clear ho0)))
  go_ret2
  exact ⟨_,_,by first|rfl|(simp [errW_none,errW_some] <;> rfl)|(simp [*,errW_none,errW_some] <;> rfl),by (with_reducible repeat (first|apply ra|apply rb|apply rc));exact rm HO193.out (fun _ hk=>hk.2),by (with_reducible repeat (first|apply ra|apply rb|apply rc));exact rm HO199.out (fun _ hk=>hk.2),by repeat (first|(with_reducible first|exact HI0.out|apply IsS56.alloc|apply IsS56.drewN|apply IsS56.drew|apply IsS56.set_1)|exact HI0.out),by repeat (first|(with_reducible first|exact HB.out|apply ba|apply bb|apply bc|refine below_set ?_ (IsS56.ge HI0.out))|exact HB.out),by repeat (first|(with_reducible first|exact HK.out|apply KeepBut.set_|apply keep_drewN|apply keep_drew|apply keep_alloc)|exact HK.out)⟩
 ·
  rw [if_neg c5] at H
  have c5b0 : (t195 == 0) = false:=beq_eq_false_iff_ne.mpr c5
  have c5b1 : (t195 != 0) = true:=bne_iff_ne.mpr c5
  replace H:=Option.bind_eq_some_iff.mp H
  obtain ⟨⟨t201,t204⟩,A120,H⟩:=H
  replace H : (some (t191,t201,t204)) = some (r1,r2,r3):=H
  have A12:=A_ A120
  clear A120
  simp only [Option.some.injEq,Prod.mk.injEq] at H
  obtain ⟨rfl,rfl,rfl⟩:=H
  go_enter Try.func18,Try.ntmps18
  go_wp2_with (first|((with_reducible refine gate_callee (f:=44) rfl ?_);refine goesL_ (some 7) rfl rfl Try.func44 (by kernel_rfl) rfl #[.pointer (some ⟨g,0,none⟩)] rfl (by (try simp only [List.map_toArray,List.map_cons,List.map_nil]);first|done|rfl|(simp only [List.length_drop,List.length_take];rfl)) ?_;(with_reducible refine (shapesearchkeep_Src_Length.calls g s0_0 s0_1 t189 t190 w0 _ ?side1 ?side2 A2.out).mono ?_);(case side1=>repeat (first|(with_reducible first|exact HI0.out|apply IsS56.alloc|apply IsS56.drewN|apply IsS56.drew|apply IsS56.set_1)|exact HI0.out));(case side2=>repeat (first|(with_reducible first|exact HB.out|apply ba|apply bb|apply bc|refine below_set ?_ (IsS56.ge HI0.out))|exact HB.out));rintro e w13 ⟨rfl,hi,hb,hk⟩;refine ⟨_,rfl,?_⟩;have n0_:=A_ (KeepBut.trans (by repeat (first|(with_reducible first|exact HK.out|apply KeepBut.set_|apply keep_drewN|apply keep_drew|apply keep_alloc)|exact HK.out)) hk (.inl rfl));have n1_:=A_ (hb);have n2_:=A_ (hi);clear HK;clear HB;clear HI0;have HK:=n0_;have HB:=n1_;have HI0:=n2_;clear n0_ n1_ n2_;(try clear hb);(try clear hb2);(try clear hk);(try clear hi))|((with_reducible refine gate_callee (f:=20) rfl ?_);refine goesL_ (some 8) rfl rfl Try.func20 (by kernel_rfl) rfl #[.pointer (some ⟨g,0,none⟩),.int .i64 t189] rfl (by (try simp only [List.map_toArray,List.map_cons,List.map_nil]);first|done|rfl|(simp only [List.length_drop,List.length_take];rfl)) ?_;(with_reducible refine (shapesearchkeep_Src_List.calls k g s0_0 t190 t189 t191 t194 w0 _ ?side1 ?side2 A3.out).mono ?_);(case side1=>repeat (first|(with_reducible first|exact HI0.out|apply IsS56.alloc|apply IsS56.drewN|apply IsS56.drew|apply IsS56.set_1)|exact HI0.out));(case side2=>repeat (first|(with_reducible first|exact HB.out|apply ba|apply bb|apply bc|refine below_set ?_ (IsS56.ge HI0.out))|exact HB.out));rintro e w14 ⟨v192,rfl,ho0,hi,hb,hk⟩;refine ⟨_,rfl,?_⟩;have n0_:=A_ (Kd.R_lower ho0 (keep_size (w:=w) (g:=g) (row:=none) (by repeat (first|(with_reducible first|exact HK.out|apply KeepBut.set_|apply keep_drewN|apply keep_drew|apply keep_alloc)|exact HK.out))));have n1_:=A_ (KeepBut.trans (by repeat (first|(with_reducible first|exact HK.out|apply KeepBut.set_|apply keep_drewN|apply keep_drew|apply keep_alloc)|exact HK.out)) hk (.inl rfl));have n2_:=A_ (hb);have n3_:=A_ (hi);clear HK;clear HB;clear HI0;have HO193:=n0_;have HK:=n1_;have HB:=n2_;have HI0:=n3_;clear n0_ n1_ n2_ n3_;(try clear hb);(try clear hb2);(try clear hk);(try clear hi);(try clear ho0))|((with_reducible refine gate_callee (f:=24) rfl ?_);refine goesL_ (some 10) rfl rfl Try.func24 (by kernel_rfl) rfl #[.pointer (some ⟨g,0,none⟩),.int .i64 3] rfl (by (try simp only [List.map_toArray,List.map_cons,List.map_nil]);first|done|rfl|(simp only [List.length_drop,List.length_take];rfl)) ?_;(with_reducible refine (shapesearchkeep_Src_N.calls g s0_0 t194 3 t195 t196 w0 _ ?side1 ?side2 A4.out).mono ?_);(case side1=>repeat (first|(with_reducible first|exact HI0.out|apply IsS56.alloc|apply IsS56.drewN|apply IsS56.drew|apply IsS56.set_1)|exact HI0.out));(case side2=>repeat (first|(with_reducible first|exact HB.out|apply ba|apply bb|apply bc|refine below_set ?_ (IsS56.ge HI0.out))|exact HB.out));rintro e w15 ⟨rfl,hi,hb,hk⟩;refine ⟨_,rfl,?_⟩;have n0_:=A_ (rm (Kd.R_keep (IsS56.apart (show IsS56 w0 _ g s0_0 t194 from by repeat (first|(with_reducible first|exact HI0.out|apply IsS56.alloc|apply IsS56.drewN|apply IsS56.drew|apply IsS56.set_1)|exact HI0.out)) (by (with_reducible repeat (first|apply ra|apply rb|apply rc));exact HO193.out) (by decide)) hk (fun _ h=>h.2)) (fun _ h=>h.1));have n1_:=A_ (KeepBut.trans (by repeat (first|(with_reducible first|exact HK.out|apply KeepBut.set_|apply keep_drewN|apply keep_drew|apply keep_alloc)|exact HK.out)) hk (.inl rfl));have n2_:=A_ (hb);have n3_:=A_ (hi);clear HO193;clear HK;clear HB;clear HI0;have HO193:=n0_;have HK:=n1_;have HB:=n2_;have HI0:=n3_;clear n0_ n1_ n2_ n3_;(try clear hb);(try clear hb2);(try clear hk);(try clear hi);obtain ⟨Ao16,co16,eo16⟩:=Kd.R_slice HO193.out;subst eo16)|((with_reducible refine gate_callee (f:=19) rfl ?_);refine goesL_ (some 20) rfl rfl Try.func19 (by kernel_rfl) rfl #[.pointer (some ⟨g,0,none⟩),.slice Ao16 t191.length co16] rfl (by (try simp only [List.map_toArray,List.map_cons,List.map_nil]);first|done|rfl|(simp only [List.length_drop,List.length_take];rfl)) ?_;(with_reducible refine (shapesearchkeep_Src_Near.calls k g s0_0 t196 _ _ t191 t201 t204 w0 _ ?side1 ?side2 ?side3 ?side4 ?side5 A12.out).mono ?_);(case side1=>repeat (first|(with_reducible first|exact HI0.out|apply IsS56.alloc|apply IsS56.drewN|apply IsS56.drew|apply IsS56.set_1)|exact HI0.out));(case side2=>repeat (first|(with_reducible first|exact HB.out|apply ba|apply bb|apply bc|refine below_set ?_ (IsS56.ge HI0.out))|exact HB.out));(case side3=>repeat (first|exact (rd_ HO193.out).2.2|(with_reducible refine ca ?_ _)|(with_reducible refine cb ?_ _)|(with_reducible refine cc ?_)));(case side4=>exact (rd_ HO193.out).2.1);(case side5=>exact far_slice (IsS56.own_ne HI0.out HO193.out (by decide)));rintro e w17 ⟨v202,rfl,ho0,hi,hb,hk⟩;refine ⟨_,rfl,?_⟩;have n0_:=A_ (rm (Kd.R_told (Kd.R_oldK (IsS56.apart (show IsS56 w0 _ g s0_0 t196 from by repeat (first|(with_reducible first|exact HI0.out|apply IsS56.alloc|apply IsS56.drewN|apply IsS56.drew|apply IsS56.set_1)|exact HI0.out)) (by (with_reducible repeat (first|apply ra|apply rb|apply rc));exact HO193.out) (by decide)) hk) (rs ho0)) (fun _ h_=>h_.1));have n1_:=A_ (Kd.R_lower (rn ho0 (rl (by (with_reducible repeat (first|apply ra|apply rb|apply rc));exact HO193.out))) (keep_size (w:=w) (g:=g) (row:=none) (by repeat (first|(with_reducible first|exact HK.out|apply KeepBut.set_|apply keep_drewN|apply keep_drew|apply keep_alloc)|exact HK.out))));have n2_:=A_ (KeepBut.trans (by repeat (first|(with_reducible first|exact HK.out|apply KeepBut.set_|apply keep_drewN|apply keep_drew|apply keep_alloc)|exact HK.out)) hk (.inl rfl));have n3_:=A_ (hb);have n4_:=A_ (hi);clear HO193;clear HK;clear HB;clear HI0;have HO193:=n0_;have HO203:=n1_;have HK:=n2_;have HB:=n3_;have HI0:=n4_;clear n0_ n1_ n2_ n3_ n4_;(try clear hb);(try clear hb2);(try clear hk);(try clear hi);(try clear ho0)))
  go_ret2
  exact ⟨_,_,by first|rfl|(simp [errW_none,errW_some] <;> rfl)|(simp [*,errW_none,errW_some] <;> rfl),by (with_reducible repeat (first|apply ra|apply rb|apply rc));exact rm HO193.out (fun _ hk=>hk.2),by (with_reducible repeat (first|apply ra|apply rb|apply rc));exact rm HO203.out (fun _ hk=>hk.2),by repeat (first|(with_reducible first|exact HI0.out|apply IsS56.alloc|apply IsS56.drewN|apply IsS56.drew|apply IsS56.set_1)|exact HI0.out),by repeat (first|(with_reducible first|exact HB.out|apply ba|apply bb|apply bc|refine below_set ?_ (IsS56.ge HI0.out))|exact HB.out),by repeat (first|(with_reducible first|exact HK.out|apply KeepBut.set_|apply keep_drewN|apply keep_drew|apply keep_alloc)|exact HK.out)⟩

/-! ### shapesearchkeep_Src_Uneven: function 31 -/
def shapesearchkeep_Src_Uneven.j0 : Nat → List Int → List Int → List Int → Int → Option (List Int × List Int × Int × Int)
 | 0,_,_,_,_=>none
 | k + 1,x5,x6,x1000,x1001=>(shapesearchkeep_Src_N.f x1000 x1001 4).bind fun bt219=>((shapesearchkeep_Src_N.f x1000 bt219.2 5).bind fun bt221=>(if bt221.1 = 0 then ((shapesearchkeep_Src_N.f x1000 bt221.2 2).bind fun bt223=>(if bt223.1 = 0 then (some (x6,x5,32,bt223.2)) else (some (x5,x6,32,bt223.2)))) else ((shapesearchkeep_Src_N.f x1000 bt221.2 2).bind fun bt225=>(if bt225.1 = 0 then (some (x6,x5,mn 32 (wrap64 ((wrap64 ((x5.length : Int) - (x6.length : Int))) + bt219.1)),bt225.2)) else (some (x5,x6,mn 32 (wrap64 ((wrap64 ((x5.length : Int) - (x6.length : Int))) + bt219.1)),bt225.2))))))
def shapesearchkeep_Src_Uneven.f (k : Nat) (s0_0 : List Int) (s0_1 : Int) : Option (List Int × List Int × Int × Int):=(shapesearchkeep_Src_Pair.f k s0_0 s0_1).bind fun bt205=>((shapesearchkeep_Src_N.f s0_0 bt205.2.2 2).bind fun bt212=>(if bt212.1 = 0 then ((shapesearchkeep_Src_Range.f s0_0 bt212.2 2 (bt205.2.1.length : Int)).bind fun bt214=>(if 0 ≤ bt214.1 then (if bt214.1 ≤ (bt205.2.1.length : Int) then (shapesearchkeep_Src_Uneven.j0 k bt205.1 (bt205.2.1.take (bt214.1 : Int).toNat) s0_0 bt214.2) else (none)) else (none))) else (shapesearchkeep_Src_Uneven.j0 k bt205.1 bt205.2.1 s0_0 bt212.2)))
theorem shapesearchkeep_Src_Uneven.mono_l : ∀ k,(∀ y0 y1 y2 y3,LeO (shapesearchkeep_Src_Uneven.j0 k y0 y1 y2 y3) (shapesearchkeep_Src_Uneven.j0 (k + 1) y0 y1 y2 y3))
 | 0=>fun _ _ _ _ r h=>by simp [shapesearchkeep_Src_Uneven.j0] at h
 | k + 1=>by
  have ih0:=shapesearchkeep_Src_Uneven.mono_l k
  ·
   intro y0 y1 y2 y3
   unfold shapesearchkeep_Src_Uneven.j0
   repeat' first
   | (with_reducible exact ih0 _ _ _ _)
   | (with_reducible exact shapesearchkeep_Src_Pair.mono _ _ _)
   | (with_reducible exact LeO.refl _)
   | (with_reducible exact LeO.none _)
   | (with_reducible refine LeO.ite ?_ ?_)
   | (with_reducible refine LeO.bind ?_ (fun _=>?_))
   | exact ih0 _ _ _ _
   | exact shapesearchkeep_Src_Pair.mono _ _ _
   | exact LeO.none _
   | refine LeO.ite ?_ ?_
   | refine LeO.bind ?_ (fun _=>?_)
theorem shapesearchkeep_Src_Uneven.mono : ∀ a0 a1 k,LeO (shapesearchkeep_Src_Uneven.f k a0 a1) (shapesearchkeep_Src_Uneven.f (k + 1) a0 a1):=by
 intro a0 a1 k
 have ih0:=shapesearchkeep_Src_Uneven.mono_l k
 unfold shapesearchkeep_Src_Uneven.f
 repeat' first
   | (with_reducible exact ih0 _ _ _ _)
   | (with_reducible exact shapesearchkeep_Src_Pair.mono _ _ _)
   | (with_reducible exact LeO.refl _)
   | (with_reducible exact LeO.none _)
   | (with_reducible refine LeO.ite ?_ ?_)
   | (with_reducible refine LeO.bind ?_ (fun _=>?_))
   | exact ih0 _ _ _ _
   | exact shapesearchkeep_Src_Pair.mono _ _ _
   | exact LeO.none _
   | refine LeO.ite ?_ ?_
   | refine LeO.bind ?_ (fun _=>?_)
set_option maxHeartbeats 8000000 in
set_option maxRecDepth 100000 in
theorem shapesearchkeep_Src_Uneven.calls (k : Nat) (g : Nat) (s0_0 : List Int) (s0_1 : Int) (r1 : List Int) (r2 : List Int) (r3 : Int) (r4 : Int) (w0 w : World) (hI : IsS56 w0 w g s0_0 s0_1) (hB : Below w0.heap.size w0 w) (h : shapesearchkeep_Src_Uneven.f k s0_0 s0_1 = some (r1,r2,r3,r4)) :
  Calls Try.prog 31 #[.pointer (some ⟨g,0,none⟩)] w fun e w'=>∃ v0_ v1_ : Value,e = .returned (.tuple #[v0_,v1_,.int .i64 r3])∧Kd.R (Kd.int .i64) 3 w' w.heap.size (fun k_=>some k_≠(v1_ : Value).ownBlock) v0_ r1∧Kd.R (Kd.int .i64) 3 w' w.heap.size (fun k_=>some k_≠(v0_ : Value).ownBlock) v1_ r2∧IsS56 w0 w' g s0_0 r4∧Below w0.heap.size w0 w'∧KeepBut w w' g none:=by
 have HI0:=A_ hI
 have HK:=A_ (KeepBut.refl w g none)
 have HL:=A_ hB.size
 clear hI
 have HW0:=A_ hB.size
 have HB:=A_ hB
 clear hB
 have H : ((shapesearchkeep_Src_Pair.f k s0_0 s0_1).bind fun bt205=>((shapesearchkeep_Src_N.f s0_0 bt205.2.2 2).bind fun bt212=>(if bt212.1 = 0 then ((shapesearchkeep_Src_Range.f s0_0 bt212.2 2 (bt205.2.1.length : Int)).bind fun bt214=>(if 0 ≤ bt214.1 then (if bt214.1 ≤ (bt205.2.1.length : Int) then (shapesearchkeep_Src_Uneven.j0 k bt205.1 (bt205.2.1.take (bt214.1 : Int).toNat) s0_0 bt214.2) else (none)) else (none))) else (shapesearchkeep_Src_Uneven.j0 k bt205.1 bt205.2.1 s0_0 bt212.2)))) = some (r1,r2,r3,r4):=h
 clear h
 replace H:=Option.bind_eq_some_iff.mp H
 obtain ⟨⟨t205,t208,t211⟩,A20,H⟩:=H
 replace H : ((shapesearchkeep_Src_N.f s0_0 t211 2).bind fun bt212=>(if bt212.1 = 0 then ((shapesearchkeep_Src_Range.f s0_0 bt212.2 2 (t208.length : Int)).bind fun bt214=>(if 0 ≤ bt214.1 then (if bt214.1 ≤ (t208.length : Int) then (shapesearchkeep_Src_Uneven.j0 k t205 (t208.take (bt214.1 : Int).toNat) s0_0 bt214.2) else (none)) else (none))) else (shapesearchkeep_Src_Uneven.j0 k t205 t208 s0_0 bt212.2))) = some (r1,r2,r3,r4):=H
 have A2:=A_ A20
 clear A20
 replace H:=Option.bind_eq_some_iff.mp H
 obtain ⟨⟨t212,t213⟩,A30,H⟩:=H
 replace H : (if t212 = 0 then ((shapesearchkeep_Src_Range.f s0_0 t213 2 (t208.length : Int)).bind fun bt214=>(if 0 ≤ bt214.1 then (if bt214.1 ≤ (t208.length : Int) then (shapesearchkeep_Src_Uneven.j0 k t205 (t208.take (bt214.1 : Int).toNat) s0_0 bt214.2) else (none)) else (none))) else (shapesearchkeep_Src_Uneven.j0 k t205 t208 s0_0 t213)) = some (r1,r2,r3,r4):=H
 have A3:=A_ A30
 clear A30
 have HC4:=A_ H
 clear H
 go_enter Try.func31,Try.ntmps31
 go_upto_if 15 with (first|((with_reducible refine gate_callee (f:=18) rfl ?_);refine goesL_ (some 10) rfl rfl Try.func18 (by kernel_rfl) rfl #[.pointer (some ⟨g,0,none⟩)] rfl (by (try simp only [List.map_toArray,List.map_cons,List.map_nil]);first|done|rfl|(simp only [List.length_drop,List.length_take];rfl)) ?_;(with_reducible refine (shapesearchkeep_Src_Pair.calls k g s0_0 s0_1 t205 t208 t211 w0 _ ?side1 ?side2 A2.out).mono ?_);(case side1=>repeat (first|(with_reducible first|exact HI0.out|apply IsS56.alloc|apply IsS56.drewN|apply IsS56.drew|apply IsS56.set_1)|exact HI0.out));(case side2=>repeat (first|(with_reducible first|exact HB.out|apply ba|apply bb|apply bc|refine below_set ?_ (IsS56.ge HI0.out))|exact HB.out));rintro e w5 ⟨v206,v209,rfl,ho0,ho1,hi,hb,hk⟩;refine ⟨_,rfl,?_⟩;have n0_:=A_ (Kd.R_lower ho0 (keep_size (w:=w) (g:=g) (row:=none) (by repeat (first|(with_reducible first|exact HK.out|apply KeepBut.set_|apply keep_drewN|apply keep_drew|apply keep_alloc)|exact HK.out))));have n1_:=A_ (Kd.R_lower ho1 (keep_size (w:=w) (g:=g) (row:=none) (by repeat (first|(with_reducible first|exact HK.out|apply KeepBut.set_|apply keep_drewN|apply keep_drew|apply keep_alloc)|exact HK.out))));have n2_:=A_ (KeepBut.trans (by repeat (first|(with_reducible first|exact HK.out|apply KeepBut.set_|apply keep_drewN|apply keep_drew|apply keep_alloc)|exact HK.out)) hk (.inl rfl));have n3_:=A_ (hb);have n4_:=A_ (hi);clear HK;clear HB;clear HI0;have HO207:=n0_;have HO210:=n1_;have HK:=n2_;have HB:=n3_;have HI0:=n4_;clear n0_ n1_ n2_ n3_ n4_;(try clear hb);(try clear hb2);(try clear hk);(try clear hi);(try clear ho0);(try clear ho1))|((with_reducible refine gate_callee (f:=24) rfl ?_);refine goesL_ (some 14) rfl rfl Try.func24 (by kernel_rfl) rfl #[.pointer (some ⟨g,0,none⟩),.int .i64 2] rfl (by (try simp only [List.map_toArray,List.map_cons,List.map_nil]);first|done|rfl|(simp only [List.length_drop,List.length_take];rfl)) ?_;(with_reducible refine (shapesearchkeep_Src_N.calls g s0_0 t211 2 t212 t213 w0 _ ?side1 ?side2 A3.out).mono ?_);(case side1=>repeat (first|(with_reducible first|exact HI0.out|apply IsS56.alloc|apply IsS56.drewN|apply IsS56.drew|apply IsS56.set_1)|exact HI0.out));(case side2=>repeat (first|(with_reducible first|exact HB.out|apply ba|apply bb|apply bc|refine below_set ?_ (IsS56.ge HI0.out))|exact HB.out));rintro e w6 ⟨rfl,hi,hb,hk⟩;refine ⟨_,rfl,?_⟩;have n0_:=A_ (rm (Kd.R_keep (IsS56.apart (show IsS56 w0 _ g s0_0 t211 from by repeat (first|(with_reducible first|exact HI0.out|apply IsS56.alloc|apply IsS56.drewN|apply IsS56.drew|apply IsS56.set_1)|exact HI0.out)) (by (with_reducible repeat (first|apply ra|apply rb|apply rc));exact HO207.out) (by decide)) hk (fun _ h=>h.2)) (fun _ h=>h.1));have n1_:=A_ (rm (Kd.R_keep (IsS56.apart (show IsS56 w0 _ g s0_0 t211 from by repeat (first|(with_reducible first|exact HI0.out|apply IsS56.alloc|apply IsS56.drewN|apply IsS56.drew|apply IsS56.set_1)|exact HI0.out)) (by (with_reducible repeat (first|apply ra|apply rb|apply rc));exact HO210.out) (by decide)) hk (fun _ h=>h.2)) (fun _ h=>h.1));have n2_:=A_ (KeepBut.trans (by repeat (first|(with_reducible first|exact HK.out|apply KeepBut.set_|apply keep_drewN|apply keep_drew|apply keep_alloc)|exact HK.out)) hk (.inl rfl));have n3_:=A_ (hb);have n4_:=A_ (hi);clear HO207;clear HO210;clear HK;clear HB;clear HI0;have HO207:=n0_;have HO210:=n1_;have HK:=n2_;have HB:=n3_;have HI0:=n4_;clear n0_ n1_ n2_ n3_ n4_;(try clear hb);(try clear hb2);(try clear hk);(try clear hi)))
 (try simp only [Act.put,List.setIfInBounds_toArray,List.set_cons_zero,List.set_cons_succ])
 go_cut [6] (fun v6 wc=>∃ (kq : Nat) (x6_3 : List Int) (x1001_3 : Int),Aside0 (shapesearchkeep_Src_Uneven.j0 kq t205 x6_3 s0_0 x1001_3 = some (r1,r2,r3,r4))∧Aside0 (kq ≤ k)∧Aside0 (Kd.R (Kd.int .i64) 3 wc w.heap.size (fun k_=>nb k_ v6) v206 t205)∧Aside0 (Kd.R (Kd.int .i64) 3 wc w.heap.size (fun k_=>nb k_ v206) v6 x6_3)∧Aside0 (IsS56 w0 wc g s0_0 x1001_3)∧Aside0 (KeepBut w wc g none)∧Aside0 (Below w0.heap.size w0 wc))
 case first =>
  have H:=HC4.out
  clear HC4
  by_cases c7 : t212 = 0
  ·
   rw [if_pos c7] at H
   have c7b0 : (t212 == 0) = true:=beq_iff_eq.mpr c7
   have c7b1 : (t212 != 0) = false:=bne_eq_false_iff_eq.mpr c7
   clear c7
   (first|rw [c7b0]|(simp only [i64_w,i32_w];rw [c7b0])|skip)
   replace H:=Option.bind_eq_some_iff.mp H
   obtain ⟨⟨t214,t215⟩,A80,H⟩:=H
   replace H : (if 0 ≤ t214 then (if t214 ≤ (t208.length : Int) then (shapesearchkeep_Src_Uneven.j0 k t205 (t208.take (t214 : Int).toNat) s0_0 t215) else (none)) else (none)) = some (r1,r2,r3,r4):=H
   have A8:=A_ A80
   clear A80
   by_cases c9 : 0 ≤ t214
   ·
    rw [if_pos c9] at H
    have c9b0:=eq_true c9
    have c9b1 : decide (0 ≤ t214) = true:=decide_eq_true c9
    clear c9
    by_cases c10 : t214 ≤ (t208.length : Int)
    ·
     rw [if_pos c10] at H
     have c10b0:=eq_true c10
     have c10b1 : decide (t214 ≤ (t208.length : Int)) = true:=decide_eq_true c10
     clear c10
     obtain ⟨y216,hy216⟩ : ∃ y_ : List Int,y_ = (t208.take (t214 : Int).toNat):=⟨_,rfl⟩
     replace H : (shapesearchkeep_Src_Uneven.j0 k t205 y216 s0_0 t215) = some (r1,r2,r3,r4):=by first|(rw [hy216];with_reducible exact H)|(have H2_:=(Option.bind_some _ _).symm.trans H;rw [hy216];with_reducible exact H2_)|(have H2_:=(Option.bind_some _ _).symm.trans H;with_reducible exact H2_)|with_reducible exact H|(rw [hy216];exact H)|exact H
     have Ny216:=A_ hy216
     clear hy216
     have H':=A_ H
     clear H
     obtain ⟨Ao11,co11,eo11⟩:=Kd.R_slice HO210.out
     subst eo11
     go_wp2_with (first|((with_reducible refine gate_callee (f:=45) rfl ?_);refine goesL_ (some 20) rfl rfl Try.func45 (by kernel_rfl) rfl #[.pointer (some ⟨g,0,none⟩),.int .i64 2,.int .i64 (t208.length : Int)] rfl (by (try simp only [List.map_toArray,List.map_cons,List.map_nil]);first|done|rfl|(simp only [List.length_drop,List.length_take];rfl)) ?_;(with_reducible refine (shapesearchkeep_Src_Range.calls g s0_0 t213 2 (t208.length : Int) t214 t215 w0 _ ?side1 ?side2 A8.out).mono ?_);(case side1=>repeat (first|(with_reducible first|exact HI0.out|apply IsS56.alloc|apply IsS56.drewN|apply IsS56.drew|apply IsS56.set_1)|exact HI0.out));(case side2=>repeat (first|(with_reducible first|exact HB.out|apply ba|apply bb|apply bc|refine below_set ?_ (IsS56.ge HI0.out))|exact HB.out));rintro e w12 ⟨rfl,hi,hb,hk⟩;refine ⟨_,rfl,?_⟩;have n0_:=A_ (rm (Kd.R_keep (IsS56.apart (show IsS56 w0 _ g s0_0 t213 from by repeat (first|(with_reducible first|exact HI0.out|apply IsS56.alloc|apply IsS56.drewN|apply IsS56.drew|apply IsS56.set_1)|exact HI0.out)) (by (with_reducible repeat (first|apply ra|apply rb|apply rc));exact HO207.out) (by decide)) hk (fun _ h=>h.2)) (fun _ h=>h.1));have n1_:=A_ (rm (Kd.R_keep (IsS56.apart (show IsS56 w0 _ g s0_0 t213 from by repeat (first|(with_reducible first|exact HI0.out|apply IsS56.alloc|apply IsS56.drewN|apply IsS56.drew|apply IsS56.set_1)|exact HI0.out)) (by (with_reducible repeat (first|apply ra|apply rb|apply rc));exact HO210.out) (by decide)) hk (fun _ h=>h.2)) (fun _ h=>h.1));have n2_:=A_ (KeepBut.trans (by repeat (first|(with_reducible first|exact HK.out|apply KeepBut.set_|apply keep_drewN|apply keep_drew|apply keep_alloc)|exact HK.out)) hk (.inl rfl));have n3_:=A_ (hb);have n4_:=A_ (hi);clear HO207;clear HO210;clear HK;clear HB;clear HI0;have HO207:=n0_;have HO210:=n1_;have HK:=n2_;have HB:=n3_;have HI0:=n4_;clear n0_ n1_ n2_ n3_ n4_;(try clear hb);(try clear hb2);(try clear hk);(try clear hi);have q13 : (t214 : Int) ≤ ((t208.length : Int) : Int):=of_decide_eq_true (by first|(with_reducible assumption)|assumption);obtain ⟨i013,hi013,_,hsz13,_⟩:=info_parts info3;have hcut13:=cut_to (P:=Try.prog) 22 3 .i64 Try.underlying22 hi013 Ao11 t208.length co11 t214 (of_decide_eq_true (by first|(with_reducible assumption)|assumption)) q13 (rd_ HO210.out).2.1;have hr13:=Kd.R_take (m:=(t214 : Int).toNat) HO210.out (by omega);have hy13 : y216.length = (t214 : Int).toNat:=(by rw [Ny216.out,List.length_take];omega);rw [← Ny216.out] at hr13;rw [← hy13] at hr13 hcut13;clear hy13 hi013 hsz13 HO210;have HO218:=A_ hr13;clear hr13;replace q13:=eq_true q13))
     go_meet
     case rel=>exact ⟨_,(y216),(t215),H',⟨by first|omega|exact Nat.le_refl _⟩,⟨by (with_reducible repeat (first|apply ra|apply rb|apply rc));first|exact HO207.out|exact rm HO207.out (fun _ hk=>own_len_ne hk)⟩,⟨by (with_reducible repeat (first|apply ra|apply rb|apply rc));first|exact HO218.out|exact rm HO218.out (fun _ hk=>own_len_ne hk)⟩,⟨by repeat (first|(with_reducible first|exact HI0.out|apply IsS56.alloc|apply IsS56.drewN|apply IsS56.drew|apply IsS56.set_1)|exact HI0.out)⟩,⟨by repeat (first|(with_reducible first|exact HK.out|apply KeepBut.set_|apply keep_drewN|apply keep_drew|apply keep_alloc)|exact HK.out)⟩,⟨by repeat (first|(with_reducible first|exact HB.out|apply ba|apply bb|apply bc|refine below_set ?_ (IsS56.ge HI0.out))|exact HB.out)⟩⟩
    ·
     rw [if_neg c10] at H
     exact absurd H (by simp)
   ·
    rw [if_neg c9] at H
    exact absurd H (by simp)
  ·
   rw [if_neg c7] at H
   have c7b0 : (t212 == 0) = false:=beq_eq_false_iff_ne.mpr c7
   have c7b1 : (t212 != 0) = true:=bne_iff_ne.mpr c7
   (first|rw [c7b0]|(simp only [i64_w,i32_w];rw [c7b0])|skip)
   have H':=A_ H
   clear H
   go_wp2
   go_meet
   case rel=>exact ⟨_,(t208),(t213),H',⟨by first|omega|exact Nat.le_refl _⟩,⟨by (with_reducible repeat (first|apply ra|apply rb|apply rc));first|exact HO207.out|exact rm HO207.out (fun _ hk=>own_len_ne hk)⟩,⟨by (with_reducible repeat (first|apply ra|apply rb|apply rc));first|exact HO210.out|exact rm HO210.out (fun _ hk=>own_len_ne hk)⟩,⟨by repeat (first|(with_reducible first|exact HI0.out|apply IsS56.alloc|apply IsS56.drewN|apply IsS56.drew|apply IsS56.set_1)|exact HI0.out)⟩,⟨by repeat (first|(with_reducible first|exact HK.out|apply KeepBut.set_|apply keep_drewN|apply keep_drew|apply keep_alloc)|exact HK.out)⟩,⟨by repeat (first|(with_reducible first|exact HB.out|apply ba|apply bb|apply bc|refine below_set ?_ (IsS56.ge HI0.out))|exact HB.out)⟩⟩
 case rest =>
  clear HC4
  try clear c1
  try clear q1
  try clear c2
  try clear p2
  try clear c3
  try clear c4
  try clear c7
  try clear c7b0
  try clear c7b1
  try clear c9
  try clear c9b0
  try clear c9b1
  try clear c10
  try clear c10b0
  try clear c10b1
  try clear q13
  try clear q13
  obtain ⟨kq,x6_3,x1001_3,HA,HJ3,HO_5,HO_6,HI0,HK,HB⟩:=hcut
  cases kq with
  | zero=>exact absurd HA.out (by simp [shapesearchkeep_Src_Uneven.j0])
  | succ kj3 =>
   have H:=HA.out
   clear HA
   simp only [shapesearchkeep_Src_Uneven.j0] at H
   replace H:=Option.bind_eq_some_iff.mp H
   obtain ⟨⟨t219,t220⟩,A140,H⟩:=H
   replace H : ((shapesearchkeep_Src_N.f s0_0 t220 5).bind fun bt221=>(if bt221.1 = 0 then ((shapesearchkeep_Src_N.f s0_0 bt221.2 2).bind fun bt223=>(if bt223.1 = 0 then (some (x6_3,t205,32,bt223.2)) else (some (t205,x6_3,32,bt223.2)))) else ((shapesearchkeep_Src_N.f s0_0 bt221.2 2).bind fun bt225=>(if bt225.1 = 0 then (some (x6_3,t205,mn 32 (wrap64 ((wrap64 ((t205.length : Int) - (x6_3.length : Int))) + t219)),bt225.2)) else (some (t205,x6_3,mn 32 (wrap64 ((wrap64 ((t205.length : Int) - (x6_3.length : Int))) + t219)),bt225.2)))))) = some (r1,r2,r3,r4):=H
   have A14:=A_ A140
   clear A140
   obtain ⟨ji15,hji15⟩ : ∃ j_ : Int,(mn 32 (wrap64 ((wrap64 ((t205.length : Int) - (x6_3.length : Int))) + t219))) = j_:=⟨_,rfl⟩
   replace H : ((shapesearchkeep_Src_N.f s0_0 t220 5).bind fun bt221=>(if bt221.1 = 0 then ((shapesearchkeep_Src_N.f s0_0 bt221.2 2).bind fun bt223=>(if bt223.1 = 0 then (some (x6_3,t205,32,bt223.2)) else (some (t205,x6_3,32,bt223.2)))) else ((shapesearchkeep_Src_N.f s0_0 bt221.2 2).bind fun bt225=>(if bt225.1 = 0 then (some (x6_3,t205,ji15,bt225.2)) else (some (t205,x6_3,ji15,bt225.2)))))) = some (r1,r2,r3,r4):=by first|(rw [hji15] at H;exact H)|(simp only [hji15] at H ⊢;exact H)
   (try rw [hji15] at A14)
   have hji15_ : (if (wrap64 ((wrap64 ((t205.length : Int) - (x6_3.length : Int))) + t219)) < 32 then (wrap64 ((wrap64 ((t205.length : Int) - (x6_3.length : Int))) + t219)) else 32) = ji15:=hji15
   replace H:=Option.bind_eq_some_iff.mp H
   obtain ⟨⟨t221,t222⟩,A160,H⟩:=H
   replace H : (if t221 = 0 then ((shapesearchkeep_Src_N.f s0_0 t222 2).bind fun bt223=>(if bt223.1 = 0 then (some (x6_3,t205,32,bt223.2)) else (some (t205,x6_3,32,bt223.2)))) else ((shapesearchkeep_Src_N.f s0_0 t222 2).bind fun bt225=>(if bt225.1 = 0 then (some (x6_3,t205,ji15,bt225.2)) else (some (t205,x6_3,ji15,bt225.2))))) = some (r1,r2,r3,r4):=H
   have A16:=A_ A160
   clear A160
   by_cases c17 : t221 = 0
   ·
    rw [if_pos c17] at H
    have c17b0 : (t221 == 0) = true:=beq_iff_eq.mpr c17
    have c17b1 : (t221 != 0) = false:=bne_eq_false_iff_eq.mpr c17
    clear c17
    replace H:=Option.bind_eq_some_iff.mp H
    obtain ⟨⟨t223,t224⟩,A180,H⟩:=H
    replace H : (if t223 = 0 then (some (x6_3,t205,32,t224)) else (some (t205,x6_3,32,t224))) = some (r1,r2,r3,r4):=H
    have A18:=A_ A180
    clear A180
    by_cases c19 : t223 = 0
    ·
     rw [if_pos c19] at H
     have c19b0 : (t223 == 0) = true:=beq_iff_eq.mpr c19
     have c19b1 : (t223 != 0) = false:=bne_eq_false_iff_eq.mpr c19
     clear c19
     simp only [Option.some.injEq,Prod.mk.injEq] at H
     obtain ⟨rfl,rfl,rfl,rfl⟩:=H
     obtain ⟨Ao20,co20,eo20⟩:=Kd.R_slice HO_5.out
     subst eo20
     obtain ⟨Ao21,co21,eo21⟩:=Kd.R_slice HO_6.out
     subst eo21
     go_wp2_with (first|((with_reducible refine gate_callee (f:=24) rfl ?_);refine goesL_ (some 28) rfl rfl Try.func24 (by kernel_rfl) rfl #[.pointer (some ⟨g,0,none⟩),.int .i64 4] rfl (by (try simp only [List.map_toArray,List.map_cons,List.map_nil]);first|done|rfl|(simp only [List.length_drop,List.length_take];rfl)) ?_;(with_reducible refine (shapesearchkeep_Src_N.calls g s0_0 x1001_3 4 t219 t220 w0 _ ?side1 ?side2 A14.out).mono ?_);(case side1=>repeat (first|(with_reducible first|exact HI0.out|apply IsS56.alloc|apply IsS56.drewN|apply IsS56.drew|apply IsS56.set_1)|exact HI0.out));(case side2=>repeat (first|(with_reducible first|exact HB.out|apply ba|apply bb|apply bc|refine below_set ?_ (IsS56.ge HI0.out))|exact HB.out));rintro e w22 ⟨rfl,hi,hb,hk⟩;refine ⟨_,rfl,?_⟩;have n0_:=A_ (rm (Kd.R_keep (IsS56.apart (show IsS56 w0 _ g s0_0 x1001_3 from by repeat (first|(with_reducible first|exact HI0.out|apply IsS56.alloc|apply IsS56.drewN|apply IsS56.drew|apply IsS56.set_1)|exact HI0.out)) (by (with_reducible repeat (first|apply ra|apply rb|apply rc));exact HO_5.out) (by decide)) hk (fun _ h=>h.2)) (fun _ h=>h.1));have n1_:=A_ (rm (Kd.R_keep (IsS56.apart (show IsS56 w0 _ g s0_0 x1001_3 from by repeat (first|(with_reducible first|exact HI0.out|apply IsS56.alloc|apply IsS56.drewN|apply IsS56.drew|apply IsS56.set_1)|exact HI0.out)) (by (with_reducible repeat (first|apply ra|apply rb|apply rc));exact HO_6.out) (by decide)) hk (fun _ h=>h.2)) (fun _ h=>h.1));have n2_:=A_ (KeepBut.trans (by repeat (first|(with_reducible first|exact HK.out|apply KeepBut.set_|apply keep_drewN|apply keep_drew|apply keep_alloc)|exact HK.out)) hk (.inl rfl));have n3_:=A_ (hb);have n4_:=A_ (hi);clear HO_5;clear HO_6;clear HK;clear HB;clear HI0;have HO_5:=n0_;have HO_6:=n1_;have HK:=n2_;have HB:=n3_;have HI0:=n4_;clear n0_ n1_ n2_ n3_ n4_;(try clear hb);(try clear hb2);(try clear hk);(try clear hi))|((with_reducible refine gate_callee (f:=24) rfl ?_);refine goesL_ (some 32) rfl rfl Try.func24 (by kernel_rfl) rfl #[.pointer (some ⟨g,0,none⟩),.int .i64 5] rfl (by (try simp only [List.map_toArray,List.map_cons,List.map_nil]);first|done|rfl|(simp only [List.length_drop,List.length_take];rfl)) ?_;(with_reducible refine (shapesearchkeep_Src_N.calls g s0_0 t220 5 t221 t222 w0 _ ?side1 ?side2 A16.out).mono ?_);(case side1=>repeat (first|(with_reducible first|exact HI0.out|apply IsS56.alloc|apply IsS56.drewN|apply IsS56.drew|apply IsS56.set_1)|exact HI0.out));(case side2=>repeat (first|(with_reducible first|exact HB.out|apply ba|apply bb|apply bc|refine below_set ?_ (IsS56.ge HI0.out))|exact HB.out));rintro e w23 ⟨rfl,hi,hb,hk⟩;refine ⟨_,rfl,?_⟩;have n0_:=A_ (rm (Kd.R_keep (IsS56.apart (show IsS56 w0 _ g s0_0 t220 from by repeat (first|(with_reducible first|exact HI0.out|apply IsS56.alloc|apply IsS56.drewN|apply IsS56.drew|apply IsS56.set_1)|exact HI0.out)) (by (with_reducible repeat (first|apply ra|apply rb|apply rc));exact HO_5.out) (by decide)) hk (fun _ h=>h.2)) (fun _ h=>h.1));have n1_:=A_ (rm (Kd.R_keep (IsS56.apart (show IsS56 w0 _ g s0_0 t220 from by repeat (first|(with_reducible first|exact HI0.out|apply IsS56.alloc|apply IsS56.drewN|apply IsS56.drew|apply IsS56.set_1)|exact HI0.out)) (by (with_reducible repeat (first|apply ra|apply rb|apply rc));exact HO_6.out) (by decide)) hk (fun _ h=>h.2)) (fun _ h=>h.1));have n2_:=A_ (KeepBut.trans (by repeat (first|(with_reducible first|exact HK.out|apply KeepBut.set_|apply keep_drewN|apply keep_drew|apply keep_alloc)|exact HK.out)) hk (.inl rfl));have n3_:=A_ (hb);have n4_:=A_ (hi);clear HO_5;clear HO_6;clear HK;clear HB;clear HI0;have HO_5:=n0_;have HO_6:=n1_;have HK:=n2_;have HB:=n3_;have HI0:=n4_;clear n0_ n1_ n2_ n3_ n4_;(try clear hb);(try clear hb2);(try clear hk);(try clear hi))|((with_reducible refine gate_callee (f:=24) rfl ?_);refine goesL_ (some 35) rfl rfl Try.func24 (by kernel_rfl) rfl #[.pointer (some ⟨g,0,none⟩),.int .i64 2] rfl (by (try simp only [List.map_toArray,List.map_cons,List.map_nil]);first|done|rfl|(simp only [List.length_drop,List.length_take];rfl)) ?_;(with_reducible refine (shapesearchkeep_Src_N.calls g s0_0 t222 2 t223 t224 w0 _ ?side1 ?side2 A18.out).mono ?_);(case side1=>repeat (first|(with_reducible first|exact HI0.out|apply IsS56.alloc|apply IsS56.drewN|apply IsS56.drew|apply IsS56.set_1)|exact HI0.out));(case side2=>repeat (first|(with_reducible first|exact HB.out|apply ba|apply bb|apply bc|refine below_set ?_ (IsS56.ge HI0.out))|exact HB.out));rintro e w24 ⟨rfl,hi,hb,hk⟩;refine ⟨_,rfl,?_⟩;have n0_:=A_ (rm (Kd.R_keep (IsS56.apart (show IsS56 w0 _ g s0_0 t222 from by repeat (first|(with_reducible first|exact HI0.out|apply IsS56.alloc|apply IsS56.drewN|apply IsS56.drew|apply IsS56.set_1)|exact HI0.out)) (by (with_reducible repeat (first|apply ra|apply rb|apply rc));exact HO_5.out) (by decide)) hk (fun _ h=>h.2)) (fun _ h=>h.1));have n1_:=A_ (rm (Kd.R_keep (IsS56.apart (show IsS56 w0 _ g s0_0 t222 from by repeat (first|(with_reducible first|exact HI0.out|apply IsS56.alloc|apply IsS56.drewN|apply IsS56.drew|apply IsS56.set_1)|exact HI0.out)) (by (with_reducible repeat (first|apply ra|apply rb|apply rc));exact HO_6.out) (by decide)) hk (fun _ h=>h.2)) (fun _ h=>h.1));have n2_:=A_ (KeepBut.trans (by repeat (first|(with_reducible first|exact HK.out|apply KeepBut.set_|apply keep_drewN|apply keep_drew|apply keep_alloc)|exact HK.out)) hk (.inl rfl));have n3_:=A_ (hb);have n4_:=A_ (hi);clear HO_5;clear HO_6;clear HK;clear HB;clear HI0;have HO_5:=n0_;have HO_6:=n1_;have HK:=n2_;have HB:=n3_;have HI0:=n4_;clear n0_ n1_ n2_ n3_ n4_;(try clear hb);(try clear hb2);(try clear hk);(try clear hi)))
     go_ret3
     exact ⟨_,_,by first|rfl|(simp [errW_none,errW_some] <;> rfl)|(simp only [← hji15];first|rfl|(simp [errW_none,errW_some] <;> rfl))|(simp [*,errW_none,errW_some] <;> rfl),by (with_reducible repeat (first|apply ra|apply rb|apply rc));exact HO_6.out,by (with_reducible repeat (first|apply ra|apply rb|apply rc));exact HO_5.out,by repeat (first|(with_reducible first|exact HI0.out|apply IsS56.alloc|apply IsS56.drewN|apply IsS56.drew|apply IsS56.set_1)|exact HI0.out),by repeat (first|(with_reducible first|exact HB.out|apply ba|apply bb|apply bc|refine below_set ?_ (IsS56.ge HI0.out))|exact HB.out),by repeat (first|(with_reducible first|exact HK.out|apply KeepBut.set_|apply keep_drewN|apply keep_drew|apply keep_alloc)|exact HK.out)⟩
    ·
     rw [if_neg c19] at H
     have c19b0 : (t223 == 0) = false:=beq_eq_false_iff_ne.mpr c19
     have c19b1 : (t223 != 0) = true:=bne_iff_ne.mpr c19
     simp only [Option.some.injEq,Prod.mk.injEq] at H
     obtain ⟨rfl,rfl,rfl,rfl⟩:=H
     obtain ⟨Ao25,co25,eo25⟩:=Kd.R_slice HO_5.out
     subst eo25
     obtain ⟨Ao26,co26,eo26⟩:=Kd.R_slice HO_6.out
     subst eo26
     go_wp2_with (first|((with_reducible refine gate_callee (f:=24) rfl ?_);refine goesL_ (some 28) rfl rfl Try.func24 (by kernel_rfl) rfl #[.pointer (some ⟨g,0,none⟩),.int .i64 4] rfl (by (try simp only [List.map_toArray,List.map_cons,List.map_nil]);first|done|rfl|(simp only [List.length_drop,List.length_take];rfl)) ?_;(with_reducible refine (shapesearchkeep_Src_N.calls g s0_0 x1001_3 4 t219 t220 w0 _ ?side1 ?side2 A14.out).mono ?_);(case side1=>repeat (first|(with_reducible first|exact HI0.out|apply IsS56.alloc|apply IsS56.drewN|apply IsS56.drew|apply IsS56.set_1)|exact HI0.out));(case side2=>repeat (first|(with_reducible first|exact HB.out|apply ba|apply bb|apply bc|refine below_set ?_ (IsS56.ge HI0.out))|exact HB.out));rintro e w27 ⟨rfl,hi,hb,hk⟩;refine ⟨_,rfl,?_⟩;have n0_:=A_ (rm (Kd.R_keep (IsS56.apart (show IsS56 w0 _ g s0_0 x1001_3 from by repeat (first|(with_reducible first|exact HI0.out|apply IsS56.alloc|apply IsS56.drewN|apply IsS56.drew|apply IsS56.set_1)|exact HI0.out)) (by (with_reducible repeat (first|apply ra|apply rb|apply rc));exact HO_5.out) (by decide)) hk (fun _ h=>h.2)) (fun _ h=>h.1));have n1_:=A_ (rm (Kd.R_keep (IsS56.apart (show IsS56 w0 _ g s0_0 x1001_3 from by repeat (first|(with_reducible first|exact HI0.out|apply IsS56.alloc|apply IsS56.drewN|apply IsS56.drew|apply IsS56.set_1)|exact HI0.out)) (by (with_reducible repeat (first|apply ra|apply rb|apply rc));exact HO_6.out) (by decide)) hk (fun _ h=>h.2)) (fun _ h=>h.1));have n2_:=A_ (KeepBut.trans (by repeat (first|(with_reducible first|exact HK.out|apply KeepBut.set_|apply keep_drewN|apply keep_drew|apply keep_alloc)|exact HK.out)) hk (.inl rfl));have n3_:=A_ (hb);have n4_:=A_ (hi);clear HO_5;clear HO_6;clear HK;clear HB;clear HI0;have HO_5:=n0_;have HO_6:=n1_;have HK:=n2_;have HB:=n3_;have HI0:=n4_;clear n0_ n1_ n2_ n3_ n4_;(try clear hb);(try clear hb2);(try clear hk);(try clear hi))|((with_reducible refine gate_callee (f:=24) rfl ?_);refine goesL_ (some 32) rfl rfl Try.func24 (by kernel_rfl) rfl #[.pointer (some ⟨g,0,none⟩),.int .i64 5] rfl (by (try simp only [List.map_toArray,List.map_cons,List.map_nil]);first|done|rfl|(simp only [List.length_drop,List.length_take];rfl)) ?_;(with_reducible refine (shapesearchkeep_Src_N.calls g s0_0 t220 5 t221 t222 w0 _ ?side1 ?side2 A16.out).mono ?_);(case side1=>repeat (first|(with_reducible first|exact HI0.out|apply IsS56.alloc|apply IsS56.drewN|apply IsS56.drew|apply IsS56.set_1)|exact HI0.out));(case side2=>repeat (first|(with_reducible first|exact HB.out|apply ba|apply bb|apply bc|refine below_set ?_ (IsS56.ge HI0.out))|exact HB.out));rintro e w28 ⟨rfl,hi,hb,hk⟩;refine ⟨_,rfl,?_⟩;have n0_:=A_ (rm (Kd.R_keep (IsS56.apart (show IsS56 w0 _ g s0_0 t220 from by repeat (first|(with_reducible first|exact HI0.out|apply IsS56.alloc|apply IsS56.drewN|apply IsS56.drew|apply IsS56.set_1)|exact HI0.out)) (by (with_reducible repeat (first|apply ra|apply rb|apply rc));exact HO_5.out) (by decide)) hk (fun _ h=>h.2)) (fun _ h=>h.1));have n1_:=A_ (rm (Kd.R_keep (IsS56.apart (show IsS56 w0 _ g s0_0 t220 from by repeat (first|(with_reducible first|exact HI0.out|apply IsS56.alloc|apply IsS56.drewN|apply IsS56.drew|apply IsS56.set_1)|exact HI0.out)) (by (with_reducible repeat (first|apply ra|apply rb|apply rc));exact HO_6.out) (by decide)) hk (fun _ h=>h.2)) (fun _ h=>h.1));have n2_:=A_ (KeepBut.trans (by repeat (first|(with_reducible first|exact HK.out|apply KeepBut.set_|apply keep_drewN|apply keep_drew|apply keep_alloc)|exact HK.out)) hk (.inl rfl));have n3_:=A_ (hb);have n4_:=A_ (hi);clear HO_5;clear HO_6;clear HK;clear HB;clear HI0;have HO_5:=n0_;have HO_6:=n1_;have HK:=n2_;have HB:=n3_;have HI0:=n4_;clear n0_ n1_ n2_ n3_ n4_;(try clear hb);(try clear hb2);(try clear hk);(try clear hi))|((with_reducible refine gate_callee (f:=24) rfl ?_);refine goesL_ (some 35) rfl rfl Try.func24 (by kernel_rfl) rfl #[.pointer (some ⟨g,0,none⟩),.int .i64 2] rfl (by (try simp only [List.map_toArray,List.map_cons,List.map_nil]);first|done|rfl|(simp only [List.length_drop,List.length_take];rfl)) ?_;(with_reducible refine (shapesearchkeep_Src_N.calls g s0_0 t222 2 t223 t224 w0 _ ?side1 ?side2 A18.out).mono ?_);(case side1=>repeat (first|(with_reducible first|exact HI0.out|apply IsS56.alloc|apply IsS56.drewN|apply IsS56.drew|apply IsS56.set_1)|exact HI0.out));(case side2=>repeat (first|(with_reducible first|exact HB.out|apply ba|apply bb|apply bc|refine below_set ?_ (IsS56.ge HI0.out))|exact HB.out));rintro e w29 ⟨rfl,hi,hb,hk⟩;refine ⟨_,rfl,?_⟩;have n0_:=A_ (rm (Kd.R_keep (IsS56.apart (show IsS56 w0 _ g s0_0 t222 from by repeat (first|(with_reducible first|exact HI0.out|apply IsS56.alloc|apply IsS56.drewN|apply IsS56.drew|apply IsS56.set_1)|exact HI0.out)) (by (with_reducible repeat (first|apply ra|apply rb|apply rc));exact HO_5.out) (by decide)) hk (fun _ h=>h.2)) (fun _ h=>h.1));have n1_:=A_ (rm (Kd.R_keep (IsS56.apart (show IsS56 w0 _ g s0_0 t222 from by repeat (first|(with_reducible first|exact HI0.out|apply IsS56.alloc|apply IsS56.drewN|apply IsS56.drew|apply IsS56.set_1)|exact HI0.out)) (by (with_reducible repeat (first|apply ra|apply rb|apply rc));exact HO_6.out) (by decide)) hk (fun _ h=>h.2)) (fun _ h=>h.1));have n2_:=A_ (KeepBut.trans (by repeat (first|(with_reducible first|exact HK.out|apply KeepBut.set_|apply keep_drewN|apply keep_drew|apply keep_alloc)|exact HK.out)) hk (.inl rfl));have n3_:=A_ (hb);have n4_:=A_ (hi);clear HO_5;clear HO_6;clear HK;clear HB;clear HI0;have HO_5:=n0_;have HO_6:=n1_;have HK:=n2_;have HB:=n3_;have HI0:=n4_;clear n0_ n1_ n2_ n3_ n4_;(try clear hb);(try clear hb2);(try clear hk);(try clear hi)))
     go_ret3
     exact ⟨_,_,by first|rfl|(simp [errW_none,errW_some] <;> rfl)|(simp only [← hji15];first|rfl|(simp [errW_none,errW_some] <;> rfl))|(simp [*,errW_none,errW_some] <;> rfl),by (with_reducible repeat (first|apply ra|apply rb|apply rc));exact HO_5.out,by (with_reducible repeat (first|apply ra|apply rb|apply rc));exact HO_6.out,by repeat (first|(with_reducible first|exact HI0.out|apply IsS56.alloc|apply IsS56.drewN|apply IsS56.drew|apply IsS56.set_1)|exact HI0.out),by repeat (first|(with_reducible first|exact HB.out|apply ba|apply bb|apply bc|refine below_set ?_ (IsS56.ge HI0.out))|exact HB.out),by repeat (first|(with_reducible first|exact HK.out|apply KeepBut.set_|apply keep_drewN|apply keep_drew|apply keep_alloc)|exact HK.out)⟩
   ·
    rw [if_neg c17] at H
    have c17b0 : (t221 == 0) = false:=beq_eq_false_iff_ne.mpr c17
    have c17b1 : (t221 != 0) = true:=bne_iff_ne.mpr c17
    replace H:=Option.bind_eq_some_iff.mp H
    obtain ⟨⟨t225,t226⟩,A300,H⟩:=H
    replace H : (if t225 = 0 then (some (x6_3,t205,ji15,t226)) else (some (t205,x6_3,ji15,t226))) = some (r1,r2,r3,r4):=H
    have A30:=A_ A300
    clear A300
    by_cases c31 : t225 = 0
    ·
     rw [if_pos c31] at H
     have c31b0 : (t225 == 0) = true:=beq_iff_eq.mpr c31
     have c31b1 : (t225 != 0) = false:=bne_eq_false_iff_eq.mpr c31
     clear c31
     simp only [Option.some.injEq,Prod.mk.injEq] at H
     obtain ⟨rfl,rfl,rfl,rfl⟩:=H
     obtain ⟨Ao32,co32,eo32⟩:=Kd.R_slice HO_5.out
     subst eo32
     obtain ⟨Ao33,co33,eo33⟩:=Kd.R_slice HO_6.out
     subst eo33
     go_wp2_with (first|((with_reducible refine gate_callee (f:=24) rfl ?_);refine goesL_ (some 28) rfl rfl Try.func24 (by kernel_rfl) rfl #[.pointer (some ⟨g,0,none⟩),.int .i64 4] rfl (by (try simp only [List.map_toArray,List.map_cons,List.map_nil]);first|done|rfl|(simp only [List.length_drop,List.length_take];rfl)) ?_;(with_reducible refine (shapesearchkeep_Src_N.calls g s0_0 x1001_3 4 t219 t220 w0 _ ?side1 ?side2 A14.out).mono ?_);(case side1=>repeat (first|(with_reducible first|exact HI0.out|apply IsS56.alloc|apply IsS56.drewN|apply IsS56.drew|apply IsS56.set_1)|exact HI0.out));(case side2=>repeat (first|(with_reducible first|exact HB.out|apply ba|apply bb|apply bc|refine below_set ?_ (IsS56.ge HI0.out))|exact HB.out));rintro e w34 ⟨rfl,hi,hb,hk⟩;refine ⟨_,rfl,?_⟩;have n0_:=A_ (rm (Kd.R_keep (IsS56.apart (show IsS56 w0 _ g s0_0 x1001_3 from by repeat (first|(with_reducible first|exact HI0.out|apply IsS56.alloc|apply IsS56.drewN|apply IsS56.drew|apply IsS56.set_1)|exact HI0.out)) (by (with_reducible repeat (first|apply ra|apply rb|apply rc));exact HO_5.out) (by decide)) hk (fun _ h=>h.2)) (fun _ h=>h.1));have n1_:=A_ (rm (Kd.R_keep (IsS56.apart (show IsS56 w0 _ g s0_0 x1001_3 from by repeat (first|(with_reducible first|exact HI0.out|apply IsS56.alloc|apply IsS56.drewN|apply IsS56.drew|apply IsS56.set_1)|exact HI0.out)) (by (with_reducible repeat (first|apply ra|apply rb|apply rc));exact HO_6.out) (by decide)) hk (fun _ h=>h.2)) (fun _ h=>h.1));have n2_:=A_ (KeepBut.trans (by repeat (first|(with_reducible first|exact HK.out|apply KeepBut.set_|apply keep_drewN|apply keep_drew|apply keep_alloc)|exact HK.out)) hk (.inl rfl));have n3_:=A_ (hb);have n4_:=A_ (hi);clear HO_5;clear HO_6;clear HK;clear HB;clear HI0;have HO_5:=n0_;have HO_6:=n1_;have HK:=n2_;have HB:=n3_;have HI0:=n4_;clear n0_ n1_ n2_ n3_ n4_;(try clear hb);(try clear hb2);(try clear hk);(try clear hi))|((with_reducible refine gate_callee (f:=24) rfl ?_);refine goesL_ (some 32) rfl rfl Try.func24 (by kernel_rfl) rfl #[.pointer (some ⟨g,0,none⟩),.int .i64 5] rfl (by (try simp only [List.map_toArray,List.map_cons,List.map_nil]);first|done|rfl|(simp only [List.length_drop,List.length_take];rfl)) ?_;(with_reducible refine (shapesearchkeep_Src_N.calls g s0_0 t220 5 t221 t222 w0 _ ?side1 ?side2 A16.out).mono ?_);(case side1=>repeat (first|(with_reducible first|exact HI0.out|apply IsS56.alloc|apply IsS56.drewN|apply IsS56.drew|apply IsS56.set_1)|exact HI0.out));(case side2=>repeat (first|(with_reducible first|exact HB.out|apply ba|apply bb|apply bc|refine below_set ?_ (IsS56.ge HI0.out))|exact HB.out));rintro e w35 ⟨rfl,hi,hb,hk⟩;refine ⟨_,rfl,?_⟩;have n0_:=A_ (rm (Kd.R_keep (IsS56.apart (show IsS56 w0 _ g s0_0 t220 from by repeat (first|(with_reducible first|exact HI0.out|apply IsS56.alloc|apply IsS56.drewN|apply IsS56.drew|apply IsS56.set_1)|exact HI0.out)) (by (with_reducible repeat (first|apply ra|apply rb|apply rc));exact HO_5.out) (by decide)) hk (fun _ h=>h.2)) (fun _ h=>h.1));have n1_:=A_ (rm (Kd.R_keep (IsS56.apart (show IsS56 w0 _ g s0_0 t220 from by repeat (first|(with_reducible first|exact HI0.out|apply IsS56.alloc|apply IsS56.drewN|apply IsS56.drew|apply IsS56.set_1)|exact HI0.out)) (by (with_reducible repeat (first|apply ra|apply rb|apply rc));exact HO_6.out) (by decide)) hk (fun _ h=>h.2)) (fun _ h=>h.1));have n2_:=A_ (KeepBut.trans (by repeat (first|(with_reducible first|exact HK.out|apply KeepBut.set_|apply keep_drewN|apply keep_drew|apply keep_alloc)|exact HK.out)) hk (.inl rfl));have n3_:=A_ (hb);have n4_:=A_ (hi);clear HO_5;clear HO_6;clear HK;clear HB;clear HI0;have HO_5:=n0_;have HO_6:=n1_;have HK:=n2_;have HB:=n3_;have HI0:=n4_;clear n0_ n1_ n2_ n3_ n4_;(try clear hb);(try clear hb2);(try clear hk);(try clear hi))|((with_reducible refine gate_callee (f:=24) rfl ?_);refine goesL_ (some 35) rfl rfl Try.func24 (by kernel_rfl) rfl #[.pointer (some ⟨g,0,none⟩),.int .i64 2] rfl (by (try simp only [List.map_toArray,List.map_cons,List.map_nil]);first|done|rfl|(simp only [List.length_drop,List.length_take];rfl)) ?_;(with_reducible refine (shapesearchkeep_Src_N.calls g s0_0 t222 2 t225 t226 w0 _ ?side1 ?side2 A30.out).mono ?_);(case side1=>repeat (first|(with_reducible first|exact HI0.out|apply IsS56.alloc|apply IsS56.drewN|apply IsS56.drew|apply IsS56.set_1)|exact HI0.out));(case side2=>repeat (first|(with_reducible first|exact HB.out|apply ba|apply bb|apply bc|refine below_set ?_ (IsS56.ge HI0.out))|exact HB.out));rintro e w36 ⟨rfl,hi,hb,hk⟩;refine ⟨_,rfl,?_⟩;have n0_:=A_ (rm (Kd.R_keep (IsS56.apart (show IsS56 w0 _ g s0_0 t222 from by repeat (first|(with_reducible first|exact HI0.out|apply IsS56.alloc|apply IsS56.drewN|apply IsS56.drew|apply IsS56.set_1)|exact HI0.out)) (by (with_reducible repeat (first|apply ra|apply rb|apply rc));exact HO_5.out) (by decide)) hk (fun _ h=>h.2)) (fun _ h=>h.1));have n1_:=A_ (rm (Kd.R_keep (IsS56.apart (show IsS56 w0 _ g s0_0 t222 from by repeat (first|(with_reducible first|exact HI0.out|apply IsS56.alloc|apply IsS56.drewN|apply IsS56.drew|apply IsS56.set_1)|exact HI0.out)) (by (with_reducible repeat (first|apply ra|apply rb|apply rc));exact HO_6.out) (by decide)) hk (fun _ h=>h.2)) (fun _ h=>h.1));have n2_:=A_ (KeepBut.trans (by repeat (first|(with_reducible first|exact HK.out|apply KeepBut.set_|apply keep_drewN|apply keep_drew|apply keep_alloc)|exact HK.out)) hk (.inl rfl));have n3_:=A_ (hb);have n4_:=A_ (hi);clear HO_5;clear HO_6;clear HK;clear HB;clear HI0;have HO_5:=n0_;have HO_6:=n1_;have HK:=n2_;have HB:=n3_;have HI0:=n4_;clear n0_ n1_ n2_ n3_ n4_;(try clear hb);(try clear hb2);(try clear hk);(try clear hi)))
     go_ret3
     exact ⟨_,_,by first|rfl|(simp [errW_none,errW_some] <;> rfl)|(simp only [← hji15];first|rfl|(simp [errW_none,errW_some] <;> rfl))|(simp [*,errW_none,errW_some] <;> rfl),by (with_reducible repeat (first|apply ra|apply rb|apply rc));exact HO_6.out,by (with_reducible repeat (first|apply ra|apply rb|apply rc));exact HO_5.out,by repeat (first|(with_reducible first|exact HI0.out|apply IsS56.alloc|apply IsS56.drewN|apply IsS56.drew|apply IsS56.set_1)|exact HI0.out),by repeat (first|(with_reducible first|exact HB.out|apply ba|apply bb|apply bc|refine below_set ?_ (IsS56.ge HI0.out))|exact HB.out),by repeat (first|(with_reducible first|exact HK.out|apply KeepBut.set_|apply keep_drewN|apply keep_drew|apply keep_alloc)|exact HK.out)⟩
    ·
     rw [if_neg c31] at H
     have c31b0 : (t225 == 0) = false:=beq_eq_false_iff_ne.mpr c31
     have c31b1 : (t225 != 0) = true:=bne_iff_ne.mpr c31
     simp only [Option.some.injEq,Prod.mk.injEq] at H
     obtain ⟨rfl,rfl,rfl,rfl⟩:=H
     obtain ⟨Ao37,co37,eo37⟩:=Kd.R_slice HO_5.out
     subst eo37
     obtain ⟨Ao38,co38,eo38⟩:=Kd.R_slice HO_6.out
     subst eo38
     go_wp2_with (first|((with_reducible refine gate_callee (f:=24) rfl ?_);refine goesL_ (some 28) rfl rfl Try.func24 (by kernel_rfl) rfl #[.pointer (some ⟨g,0,none⟩),.int .i64 4] rfl (by (try simp only [List.map_toArray,List.map_cons,List.map_nil]);first|done|rfl|(simp only [List.length_drop,List.length_take];rfl)) ?_;(with_reducible refine (shapesearchkeep_Src_N.calls g s0_0 x1001_3 4 t219 t220 w0 _ ?side1 ?side2 A14.out).mono ?_);(case side1=>repeat (first|(with_reducible first|exact HI0.out|apply IsS56.alloc|apply IsS56.drewN|apply IsS56.drew|apply IsS56.set_1)|exact HI0.out));(case side2=>repeat (first|(with_reducible first|exact HB.out|apply ba|apply bb|apply bc|refine below_set ?_ (IsS56.ge HI0.out))|exact HB.out));rintro e w39 ⟨rfl,hi,hb,hk⟩;refine ⟨_,rfl,?_⟩;have n0_:=A_ (rm (Kd.R_keep (IsS56.apart (show IsS56 w0 _ g s0_0 x1001_3 from by repeat (first|(with_reducible first|exact HI0.out|apply IsS56.alloc|apply IsS56.drewN|apply IsS56.drew|apply IsS56.set_1)|exact HI0.out)) (by (with_reducible repeat (first|apply ra|apply rb|apply rc));exact HO_5.out) (by decide)) hk (fun _ h=>h.2)) (fun _ h=>h.1));have n1_:=A_ (rm (Kd.R_keep (IsS56.apart (show IsS56 w0 _ g s0_0 x1001_3 from by repeat (first|(with_reducible first|exact HI0.out|apply IsS56.alloc|apply IsS56.drewN|apply IsS56.drew|apply IsS56.set_1)|exact HI0.out)) (by (with_reducible repeat (first|apply ra|apply rb|apply rc));exact HO_6.out) (by decide)) hk (fun _ h=>h.2)) (fun _ h=>h.1));have n2_:=A_ (KeepBut.trans (by repeat (first|(with_reducible first|exact HK.out|apply KeepBut.set_|apply keep_drewN|apply keep_drew|apply keep_alloc)|exact HK.out)) hk (.inl rfl));have n3_:=A_ (hb);have n4_:=A_ (hi);clear HO_5;clear HO_6;clear HK;clear HB;clear HI0;have HO_5:=n0_;have HO_6:=n1_;have HK:=n2_;have HB:=n3_;have HI0:=n4_;clear n0_ n1_ n2_ n3_ n4_;(try clear hb);(try clear hb2);(try clear hk);(try clear hi))|((with_reducible refine gate_callee (f:=24) rfl ?_);refine goesL_ (some 32) rfl rfl Try.func24 (by kernel_rfl) rfl #[.pointer (some ⟨g,0,none⟩),.int .i64 5] rfl (by (try simp only [List.map_toArray,List.map_cons,List.map_nil]);first|done|rfl|(simp only [List.length_drop,List.length_take];rfl)) ?_;(with_reducible refine (shapesearchkeep_Src_N.calls g s0_0 t220 5 t221 t222 w0 _ ?side1 ?side2 A16.out).mono ?_);(case side1=>repeat (first|(with_reducible first|exact HI0.out|apply IsS56.alloc|apply IsS56.drewN|apply IsS56.drew|apply IsS56.set_1)|exact HI0.out));(case side2=>repeat (first|(with_reducible first|exact HB.out|apply ba|apply bb|apply bc|refine below_set ?_ (IsS56.ge HI0.out))|exact HB.out));rintro e w40 ⟨rfl,hi,hb,hk⟩;refine ⟨_,rfl,?_⟩;have n0_:=A_ (rm (Kd.R_keep (IsS56.apart (show IsS56 w0 _ g s0_0 t220 from by repeat (first|(with_reducible first|exact HI0.out|apply IsS56.alloc|apply IsS56.drewN|apply IsS56.drew|apply IsS56.set_1)|exact HI0.out)) (by (with_reducible repeat (first|apply ra|apply rb|apply rc));exact HO_5.out) (by decide)) hk (fun _ h=>h.2)) (fun _ h=>h.1));have n1_:=A_ (rm (Kd.R_keep (IsS56.apart (show IsS56 w0 _ g s0_0 t220 from by repeat (first|(with_reducible first|exact HI0.out|apply IsS56.alloc|apply IsS56.drewN|apply IsS56.drew|apply IsS56.set_1)|exact HI0.out)) (by (with_reducible repeat (first|apply ra|apply rb|apply rc));exact HO_6.out) (by decide)) hk (fun _ h=>h.2)) (fun _ h=>h.1));have n2_:=A_ (KeepBut.trans (by repeat (first|(with_reducible first|exact HK.out|apply KeepBut.set_|apply keep_drewN|apply keep_drew|apply keep_alloc)|exact HK.out)) hk (.inl rfl));have n3_:=A_ (hb);have n4_:=A_ (hi);clear HO_5;clear HO_6;clear HK;clear HB;clear HI0;have HO_5:=n0_;have HO_6:=n1_;have HK:=n2_;have HB:=n3_;have HI0:=n4_;clear n0_ n1_ n2_ n3_ n4_;(try clear hb);(try clear hb2);(try clear hk);(try clear hi))|((with_reducible refine gate_callee (f:=24) rfl ?_);refine goesL_ (some 35) rfl rfl Try.func24 (by kernel_rfl) rfl #[.pointer (some ⟨g,0,none⟩),.int .i64 2] rfl (by (try simp only [List.map_toArray,List.map_cons,List.map_nil]);first|done|rfl|(simp only [List.length_drop,List.length_take];rfl)) ?_;(with_reducible refine (shapesearchkeep_Src_N.calls g s0_0 t222 2 t225 t226 w0 _ ?side1 ?side2 A30.out).mono ?_);(case side1=>repeat (first|(with_reducible first|exact HI0.out|apply IsS56.alloc|apply IsS56.drewN|apply IsS56.drew|apply IsS56.set_1)|exact HI0.out));(case side2=>repeat (first|(with_reducible first|exact HB.out|apply ba|apply bb|apply bc|refine below_set ?_ (IsS56.ge HI0.out))|exact HB.out));rintro e w41 ⟨rfl,hi,hb,hk⟩;refine ⟨_,rfl,?_⟩;have n0_:=A_ (rm (Kd.R_keep (IsS56.apart (show IsS56 w0 _ g s0_0 t222 from by repeat (first|(with_reducible first|exact HI0.out|apply IsS56.alloc|apply IsS56.drewN|apply IsS56.drew|apply IsS56.set_1)|exact HI0.out)) (by (with_reducible repeat (first|apply ra|apply rb|apply rc));exact HO_5.out) (by decide)) hk (fun _ h=>h.2)) (fun _ h=>h.1));have n1_:=A_ (rm (Kd.R_keep (IsS56.apart (show IsS56 w0 _ g s0_0 t222 from by repeat (first|(with_reducible first|exact HI0.out|apply IsS56.alloc|apply IsS56.drewN|apply IsS56.drew|apply IsS56.set_1)|exact HI0.out)) (by (with_reducible repeat (first|apply ra|apply rb|apply rc));exact HO_6.out) (by decide)) hk (fun _ h=>h.2)) (fun _ h=>h.1));have n2_:=A_ (KeepBut.trans (by repeat (first|(with_reducible first|exact HK.out|apply KeepBut.set_|apply keep_drewN|apply keep_drew|apply keep_alloc)|exact HK.out)) hk (.inl rfl));have n3_:=A_ (hb);have n4_:=A_ (hi);clear HO_5;clear HO_6;clear HK;clear HB;clear HI0;have HO_5:=n0_;have HO_6:=n1_;have HK:=n2_;have HB:=n3_;have HI0:=n4_;clear n0_ n1_ n2_ n3_ n4_;(try clear hb);(try clear hb2);(try clear hk);(try clear hi)))
     go_ret3
     exact ⟨_,_,by first|rfl|(simp [errW_none,errW_some] <;> rfl)|(simp only [← hji15];first|rfl|(simp [errW_none,errW_some] <;> rfl))|(simp [*,errW_none,errW_some] <;> rfl),by (with_reducible repeat (first|apply ra|apply rb|apply rc));exact HO_5.out,by (with_reducible repeat (first|apply ra|apply rb|apply rc));exact HO_6.out,by repeat (first|(with_reducible first|exact HI0.out|apply IsS56.alloc|apply IsS56.drewN|apply IsS56.drew|apply IsS56.set_1)|exact HI0.out),by repeat (first|(with_reducible first|exact HB.out|apply ba|apply bb|apply bc|refine below_set ?_ (IsS56.ge HI0.out))|exact HB.out),by repeat (first|(with_reducible first|exact HK.out|apply KeepBut.set_|apply keep_drewN|apply keep_drew|apply keep_alloc)|exact HK.out)⟩

end Go.Proofs.Ytodipcfbgnljeaa.PChannelsPaths
