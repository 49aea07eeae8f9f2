/- This file proves, function by function, what the Go functions that one law uses compute; most of it was printed by a program (wip/tools of this session, over the kit's print). -/
import Derived.Test.YtmckmjpfcgmalaaPNormalRangex0
import Derived.Test.YtmckmjpfcgmalaaPNormalRangex2
namespace Go.Proofs.Ytmckmjpfcgmalaa.PNormalRange
open Go.RowKit Go.Proofs.YtmckmjpfcgmalaaW.PrintWords Go.Proofs.YtmckmjpfcgmalaaW.PrintLast Go.Proofs.YtmckmjpfcgmalaaW.PrintMore
attribute [local go_sem] max2_int min2_int max_two min_two max_three min_three max_four min_four   -- for this text's walks alone
set_option linter.unusedVariables false
set_option linter.unusedSimpArgs false

/-! ### shapesearchkeep_Src_Near: function 32 -/
def shapesearchkeep_Src_Near.l0 : Nat → List Int → Int → Int → Int → List Int → Int → Int → List Int → Int → Option (List Int × Int)
 | 0,_,_,_,_,_,_,_,_,_=>none
 | k + 1,x1,x5,x6,x7,x8,x20,x21,x1000,x1001=>if x21 < x20 then (if x5 = 1 then (if 0 ≤ x21 then (if x21 < (x8.length : Int) then ((shapesearchkeep_Src_Range.f x1000 x1001 (-2) 2).bind fun bt171=>((shapesearchkeep_clip.f (wrap64 ((rd x8 x21) + bt171.1))).bind fun t173=>(shapesearchkeep_Src_Near.l0 k x1 x5 x6 x7 (x8.set (x21 : Int).toNat t173) x20 (wrap64 (x21 + 1)) x1000 bt171.2))) else (none)) else (none)) else (if x5 = 2 then (if 0 ≤ x21 then (if x21 < (x8.length : Int) then ((shapesearchkeep_clip.f (wrap64 ((rd x8 x21) + x6))).bind fun t176=>(shapesearchkeep_Src_Near.l0 k x1 x5 x6 x7 (x8.set (x21 : Int).toNat t176) x20 (wrap64 (x21 + 1)) x1000 x1001)) else (none)) else (none)) else (if x5 = 3 then (if 0 ≤ x21 then (if x21 < (x8.length : Int) then ((shapesearchkeep_clip.f (wrap64 ((wrap64 ((rd x8 x21) * x7)) + x6))).bind fun t179=>(shapesearchkeep_Src_Near.l0 k x1 x5 x6 x7 (x8.set (x21 : Int).toNat t179) x20 (wrap64 (x21 + 1)) x1000 x1001)) else (none)) else (none)) else (if x5 = 4 then (if 0 ≤ (wrap64 ((wrap64 ((x1.length : Int) - 1)) - x21)) then (if (wrap64 ((wrap64 ((x1.length : Int) - 1)) - x21)) < (x1.length : Int) then (if 0 ≤ x21 then (if x21 < (x8.length : Int) then (shapesearchkeep_Src_Near.l0 k x1 x5 x6 x7 (x8.set (x21 : Int).toNat (rd x1 (wrap64 ((wrap64 ((x1.length : Int) - 1)) - x21)))) x20 (wrap64 (x21 + 1)) x1000 x1001) else (none)) else (none)) else (none)) else (none)) else (if x5 = 5 then ((shapesearchkeep_Src_Range.f x1000 x1001 (-1) 1).bind fun bt183=>((shapesearchkeep_Mod.f (wrap64 (x21 + bt183.1)) (x1.length : Int)).bind fun t185=>(if 0 ≤ t185 then (if t185 < (x1.length : Int) then (if 0 ≤ x21 then (if x21 < (x8.length : Int) then (shapesearchkeep_Src_Near.l0 k x1 x5 x6 x7 (x8.set (x21 : Int).toNat (rd x1 t185)) x20 (wrap64 (x21 + 1)) x1000 bt183.2) else (none)) else (none)) else (none)) else (none)))) else (if x5 = 6 then (if 0 ≤ x21 then (if x21 < (x8.length : Int) then ((shapesearchkeep_clip.f (wrap64 (x6 - (wrap64 ((rd x8 x21) * x7))))).bind fun t189=>(shapesearchkeep_Src_Near.l0 k x1 x5 x6 x7 (x8.set (x21 : Int).toNat t189) x20 (wrap64 (x21 + 1)) x1000 x1001)) else (none)) else (none)) else (shapesearchkeep_Src_Near.l0 k x1 x5 x6 x7 x8 x20 (wrap64 (x21 + 1)) x1000 x1001))))))) else (some (x8,x1001))
def shapesearchkeep_Src_Near.f (k : Nat) (s0_0 : List Int) (s0_1 : Int) (l1 : List Int) : Option (List Int × Int):=(shapesearchkeep_Src_N.f s0_0 s0_1 7).bind fun bt158=>((shapesearchkeep_Src_Range.f s0_0 bt158.2 (-20) 20).bind fun bt160=>((shapesearchkeep_Src_Range.f s0_0 bt160.2 1 3).bind fun bt162=>((some (([] : List Int) : List Int)).bind fun y164=>(if y164.length + l1.length < 17592186044416 then ((some (y164 ++ l1 : List Int)).bind fun y167=>(shapesearchkeep_Src_Near.l0 k l1 bt158.1 bt160.1 bt162.1 y167 (y167.length : Int) 0 s0_0 bt162.2)) else (none)))))
theorem shapesearchkeep_Src_Near.mono_l : ∀ k,(∀ y0 y1 y2 y3 y4 y5 y6 y7 y8,LeO (shapesearchkeep_Src_Near.l0 k y0 y1 y2 y3 y4 y5 y6 y7 y8) (shapesearchkeep_Src_Near.l0 (k + 1) y0 y1 y2 y3 y4 y5 y6 y7 y8))
 | 0=>fun _ _ _ _ _ _ _ _ _ r h=>by simp [shapesearchkeep_Src_Near.l0] at h
 | k + 1=>by
  have ih0:=shapesearchkeep_Src_Near.mono_l k
  ·
   intro y0 y1 y2 y3 y4 y5 y6 y7 y8
   unfold shapesearchkeep_Src_Near.l0
   repeat' first
   | (with_reducible exact ih0 _ _ _ _ _ _ _ _ _)
   | (with_reducible exact LeO.refl _)
   | (with_reducible exact LeO.none _)
   | (with_reducible refine LeO.ite ?_ ?_)
   | (with_reducible refine LeO.bind ?_ (fun _=>?_))
   | exact ih0 _ _ _ _ _ _ _ _ _
   | exact LeO.none _
   | refine LeO.ite ?_ ?_
   | refine LeO.bind ?_ (fun _=>?_)
theorem shapesearchkeep_Src_Near.mono : ∀ a0 a1 a2 k,LeO (shapesearchkeep_Src_Near.f k a0 a1 a2) (shapesearchkeep_Src_Near.f (k + 1) a0 a1 a2):=by
 intro a0 a1 a2 k
 have ih0:=shapesearchkeep_Src_Near.mono_l k
 unfold shapesearchkeep_Src_Near.f
 repeat' first
   | (with_reducible exact ih0 _ _ _ _ _ _ _ _ _)
   | (with_reducible exact LeO.refl _)
   | (with_reducible exact LeO.none _)
   | (with_reducible refine LeO.ite ?_ ?_)
   | (with_reducible refine LeO.bind ?_ (fun _=>?_))
   | exact ih0 _ _ _ _ _ _ _ _ _
   | exact LeO.none _
   | refine LeO.ite ?_ ?_
   | refine LeO.bind ?_ (fun _=>?_)
def shapesearchkeep_Src_Near.T8 : Bool × List (List Nat × List Nat):=(true,[([],[]),([],[]),([],[]),([],[]),([2,3],[2,3]),([4],[4]),([],[]),([6],[6]),([5,7],[5,7]),([8,7],[8]),([0,1,0,1,2,3,4,5,6,7,8,9],[0,1]),([10,9,9,0,1,2,3,4,5,6,7,8,9],[9,10])])
def shapesearchkeep_Src_Near.B8 : List Nat:=[0,0,0,0,12,28,0,64,252,508,1023,2047]
theorem shapesearchkeep_Src_Near.tab8 : rtab .any (opsOf Try.f32 8) = shapesearchkeep_Src_Near.T8:=by kernel_rfl
theorem shapesearchkeep_Src_Near.bits8 : waitsOk shapesearchkeep_Src_Near.T8.2 shapesearchkeep_Src_Near.B8 = true:=by kernel_rfl
set_option maxHeartbeats 8000000 in
set_option maxRecDepth 100000 in
theorem shapesearchkeep_Src_Near.calls (k : Nat) (g : Nat) (s0_0 : List Int) (s0_1 : Int) (A1 : Option Addr) (c1 : Nat) (l1 : List Int) (r1 : List Int) (r2 : Int) (w0 w : World) (hI : IsS58 w0 w g s0_0 s0_1) (hB : Below w0.heap.size w0 w) (hr1 : Kd.C (Kd.int .i64) w A1 l1.length l1) (hc1 : l1.length ≤ c1) (hf1 : ∀ ad,A1 = some ad → 0 < l1.length → ad.block≠g) (h : shapesearchkeep_Src_Near.f k s0_0 s0_1 l1 = some (r1,r2)) :
  Calls Try.prog 32 #[.pointer (some ⟨g,0,none⟩),.slice A1 l1.length c1] w fun e w'=>∃ v0_ : Value,e = .returned (v0_)∧Kd.R (Kd.int .i64) 3 w' w.heap.size (fun _=>True) v0_ r1∧IsS58 w0 w' g s0_0 r2∧Below w0.heap.size w0 w'∧KeepBut w w' g none:=by
 have HR1:=A_ hr1
 have HC1:=A_ hc1
 clear hr1 hc1
 have HI0:=A_ hI
 have HK:=A_ (KeepBut.refl w g none)
 have HL:=A_ hB.size
 clear hI
 have HW0:=A_ hB.size
 have HB:=A_ hB
 clear hB
 have H : ((shapesearchkeep_Src_N.f s0_0 s0_1 7).bind fun bt158=>((shapesearchkeep_Src_Range.f s0_0 bt158.2 (-20) 20).bind fun bt160=>((shapesearchkeep_Src_Range.f s0_0 bt160.2 1 3).bind fun bt162=>((some (([] : List Int) : List Int)).bind fun y164=>(if y164.length + l1.length < 17592186044416 then ((some (y164 ++ l1 : List Int)).bind fun y167=>(shapesearchkeep_Src_Near.l0 k l1 bt158.1 bt160.1 bt162.1 y167 (y167.length : Int) 0 s0_0 bt162.2)) else (none)))))) = some (r1,r2):=h
 clear h
 replace H:=Option.bind_eq_some_iff.mp H
 obtain ⟨⟨t158,t159⟩,A30,H⟩:=H
 replace H : ((shapesearchkeep_Src_Range.f s0_0 t159 (-20) 20).bind fun bt160=>((shapesearchkeep_Src_Range.f s0_0 bt160.2 1 3).bind fun bt162=>((some (([] : List Int) : List Int)).bind fun y164=>(if y164.length + l1.length < 17592186044416 then ((some (y164 ++ l1 : List Int)).bind fun y167=>(shapesearchkeep_Src_Near.l0 k l1 t158 bt160.1 bt162.1 y167 (y167.length : Int) 0 s0_0 bt162.2)) else (none))))) = some (r1,r2):=H
 have A3:=A_ A30
 clear A30
 replace H:=Option.bind_eq_some_iff.mp H
 obtain ⟨⟨t160,t161⟩,A40,H⟩:=H
 replace H : ((shapesearchkeep_Src_Range.f s0_0 t161 1 3).bind fun bt162=>((some (([] : List Int) : List Int)).bind fun y164=>(if y164.length + l1.length < 17592186044416 then ((some (y164 ++ l1 : List Int)).bind fun y167=>(shapesearchkeep_Src_Near.l0 k l1 t158 t160 bt162.1 y167 (y167.length : Int) 0 s0_0 bt162.2)) else (none)))) = some (r1,r2):=H
 have A4:=A_ A40
 clear A40
 replace H:=Option.bind_eq_some_iff.mp H
 obtain ⟨⟨t162,t163⟩,A50,H⟩:=H
 replace H : ((some (([] : List Int) : List Int)).bind fun y164=>(if y164.length + l1.length < 17592186044416 then ((some (y164 ++ l1 : List Int)).bind fun y167=>(shapesearchkeep_Src_Near.l0 k l1 t158 t160 t162 y167 (y167.length : Int) 0 s0_0 t163)) else (none))) = some (r1,r2):=H
 have A5:=A_ A50
 clear A50
 obtain ⟨y164,hy164⟩ : ∃ y_ : List Int,y_ = (([] : List Int)):=⟨_,rfl⟩
 replace H : (if y164.length + l1.length < 17592186044416 then ((some (y164 ++ l1 : List Int)).bind fun y167=>(shapesearchkeep_Src_Near.l0 k l1 t158 t160 t162 y167 (y167.length : Int) 0 s0_0 t163)) else (none)) = some (r1,r2):=by first|(rw [hy164];with_reducible exact H)|(have H2_:=(Option.bind_some _ _).symm.trans H;rw [hy164];with_reducible exact H2_)|(have H2_:=(Option.bind_some _ _).symm.trans H;with_reducible exact H2_)|with_reducible exact H|(rw [hy164];exact H)|exact H
 have Ny164:=A_ hy164
 clear hy164
 by_cases c6 : y164.length + l1.length < 17592186044416
 ·
  rw [if_pos c6] at H
  have LMc6:=A_ c6
  clear c6
  obtain ⟨y167,hy167⟩ : ∃ y_ : List Int,y_ = (y164 ++ l1):=⟨_,rfl⟩
  replace H : (shapesearchkeep_Src_Near.l0 k l1 t158 t160 t162 y167 (y167.length : Int) 0 s0_0 t163) = some (r1,r2):=by first|(rw [hy167];with_reducible exact H)|(have H2_:=(Option.bind_some _ _).symm.trans H;rw [hy167];with_reducible exact H2_)|(have H2_:=(Option.bind_some _ _).symm.trans H;with_reducible exact H2_)|with_reducible exact H|(rw [hy167];exact H)|exact H
  have Ny167:=A_ hy167
  clear hy167
  have H':=A_ H
  clear H
  go_enter Try.func32,Try.ntmps32
  go_wp2_with (first|((with_reducible refine gate_callee (f:=23) rfl ?_);refine goesL_ (some 11) rfl rfl Try.func23 (by kernel_rfl) rfl #[.pointer (some ⟨g,0,none⟩),.int .i64 7] rfl (by (try simp only [List.map_toArray,List.map_cons,List.map_nil]);first|done|rfl|(simp only [List.length_drop,List.length_take];rfl)) ?_;(with_reducible refine (shapesearchkeep_Src_N.calls g s0_0 s0_1 7 t158 t159 w0 _ ?side1 ?side2 A3.out).mono ?_);(case side1=>repeat (first|(with_reducible first|exact HI0.out|apply IsS58.alloc|apply IsS58.drewN|apply IsS58.drew|apply IsS58.set_1)|exact HI0.out));(case side2=>repeat (first|(with_reducible first|exact HB.out|apply ba|apply bb|apply bc|refine below_set ?_ (IsS58.ge HI0.out))|exact HB.out));rintro e w7 ⟨rfl,hi,hb,hk⟩;refine ⟨_,rfl,?_⟩;have n0_:=A_ (KeepBut.trans (by repeat (first|(with_reducible first|exact HK.out|apply KeepBut.set_|apply keep_drewN|apply keep_drew|apply keep_alloc)|exact HK.out)) hk (.inl rfl));have n1_:=A_ (hb);have n2_:=A_ (hi);clear HK;clear HB;clear HI0;have HK:=n0_;have HB:=n1_;have HI0:=n2_;clear n0_ n1_ n2_;(try clear hb);(try clear hb2);(try clear hk);(try clear hi))|((with_reducible refine gate_callee (f:=20) rfl ?_);refine goesL_ (some 13) rfl rfl Try.func20 (by kernel_rfl) rfl #[.pointer (some ⟨g,0,none⟩),.int .i64 (-20),.int .i64 20] rfl (by (try simp only [List.map_toArray,List.map_cons,List.map_nil]);first|done|rfl|(simp only [List.length_drop,List.length_take];rfl)) ?_;(with_reducible refine (shapesearchkeep_Src_Range.calls g s0_0 t159 (-20) 20 t160 t161 w0 _ ?side1 ?side2 A4.out).mono ?_);(case side1=>repeat (first|(with_reducible first|exact HI0.out|apply IsS58.alloc|apply IsS58.drewN|apply IsS58.drew|apply IsS58.set_1)|exact HI0.out));(case side2=>repeat (first|(with_reducible first|exact HB.out|apply ba|apply bb|apply bc|refine below_set ?_ (IsS58.ge HI0.out))|exact HB.out));rintro e w8 ⟨rfl,hi,hb,hk⟩;refine ⟨_,rfl,?_⟩;have n0_:=A_ (KeepBut.trans (by repeat (first|(with_reducible first|exact HK.out|apply KeepBut.set_|apply keep_drewN|apply keep_drew|apply keep_alloc)|exact HK.out)) hk (.inl rfl));have n1_:=A_ (hb);have n2_:=A_ (hi);clear HK;clear HB;clear HI0;have HK:=n0_;have HB:=n1_;have HI0:=n2_;clear n0_ n1_ n2_;(try clear hb);(try clear hb2);(try clear hk);(try clear hi))|((with_reducible refine gate_callee (f:=20) rfl ?_);refine goesL_ (some 15) rfl rfl Try.func20 (by kernel_rfl) rfl #[.pointer (some ⟨g,0,none⟩),.int .i64 1,.int .i64 3] rfl (by (try simp only [List.map_toArray,List.map_cons,List.map_nil]);first|done|rfl|(simp only [List.length_drop,List.length_take];rfl)) ?_;(with_reducible refine (shapesearchkeep_Src_Range.calls g s0_0 t161 1 3 t162 t163 w0 _ ?side1 ?side2 A5.out).mono ?_);(case side1=>repeat (first|(with_reducible first|exact HI0.out|apply IsS58.alloc|apply IsS58.drewN|apply IsS58.drew|apply IsS58.set_1)|exact HI0.out));(case side2=>repeat (first|(with_reducible first|exact HB.out|apply ba|apply bb|apply bc|refine below_set ?_ (IsS58.ge HI0.out))|exact HB.out));rintro e w9 ⟨rfl,hi,hb,hk⟩;refine ⟨_,rfl,?_⟩;have n0_:=A_ (KeepBut.trans (by repeat (first|(with_reducible first|exact HK.out|apply KeepBut.set_|apply keep_drewN|apply keep_drew|apply keep_alloc)|exact HK.out)) hk (.inl rfl));have n1_:=A_ (hb);have n2_:=A_ (hi);clear HK;clear HB;clear HI0;have HK:=n0_;have HB:=n1_;have HI0:=n2_;clear n0_ n1_ n2_;(try clear hb);(try clear hb2);(try clear hk);(try clear hi))|((with_reducible refine gate_dst (N:=16) rfl ?_);refine Kd.R_lit (Kd.int .i64) _ 3 ?hg (N:=16) ?hd (xs:=([] : List Int)) (inner:=[]) (ok:=fun _=>True) (okp:=fun _=>True) ?hr ?hp (fun _ hk=>hk) trivial (Below.refl _ _) (Nat.le_refl _) (by simp) ?_;(case hd=>rfl);(case hg=>rfl);(case hr=>first|(go_simp;done)|(go_simp;rfl));(case hp=>exact (Reps.none _ _));intro v165 w10 ho11 hb hg_ hnew_;clear hg_ hnew_;(first|rw [← Ny164.out] at ho11|(simp only [Int.reduceToNat] at ho11;rw [← Ny164.out] at ho11));have n0_:=A_ (Kd.R_lower ho11 (keep_size (w:=w) (g:=g) (row:=none) (by repeat (first|(with_reducible first|exact HK.out|apply KeepBut.set_|apply keep_drewN|apply keep_drew|apply keep_alloc)|exact HK.out))));have n1_:=A_ (IsS58.below (by repeat (first|(with_reducible first|exact HI0.out|apply IsS58.alloc|apply IsS58.drewN|apply IsS58.drew|apply IsS58.set_1)|exact HI0.out)) hb);have n2_:=A_ (KeepBut.trans (by repeat (first|(with_reducible first|exact HK.out|apply KeepBut.set_|apply keep_drewN|apply keep_drew|apply keep_alloc)|exact HK.out)) (KeepBut.of_below hb g none) (.inl rfl));have n3_:=A_ (below_step (by repeat (first|(with_reducible first|exact HB.out|apply ba|apply bb|apply bc|refine below_set ?_ (IsS58.ge HI0.out))|exact HB.out)) hb);clear HI0;clear HK;clear HB;have HO166:=n0_;have HI0:=n1_;have HK:=n2_;have HB:=n3_;clear n0_ n1_ n2_ n3_;clear hb ho11)|((with_reducible refine gate_builtin (b:=.append) (xs:=#[.tmp 16,.tmp 17]) rfl ?_);at_builtin;refine Kd.R_append_rows (Kd.int .i64) w.heap.size rfl (.tmp 16) (.tmp 17) 22 3 (.int .i64 0) 8 rfl Try.underlying22 info3 rfl (by decide) (by omega) v165 y164 l1 _ _ _ (fun _=>True) (fun _=>False) rfl rfl ?aO ?aR (fun _ _ h=>h) (fun _ h=>h.elim) ?aF (Below.refl _ _) ?aS ?aL ?_;(case aR=>exact Kd.C_keep 0 HR1.out (by repeat (first|(with_reducible first|exact HK.out|apply KeepBut.set_|apply keep_drewN|apply keep_drew|apply keep_alloc)|exact HK.out)) hf1);(case aF=>exact (fun _ _=>trivial));(case aO=>exact (by (with_reducible repeat (first|apply ra|apply rb|apply rc));exact HO166.out));(case aS=>exact (keep_size (w:=w) (g:=g) (row:=none) (by repeat (first|(with_reducible first|exact HK.out|apply KeepBut.set_|apply keep_drewN|apply keep_drew|apply keep_alloc)|exact HK.out))));(case aL=>have:=LMc6.out;omega);intro v168 w12 ho hb hg hat;rw [← Ny167.out] at ho;have n0_:=A_ (IsS58.grown (by repeat (first|(with_reducible first|exact HI0.out|apply IsS58.alloc|apply IsS58.drewN|apply IsS58.drew|apply IsS58.set_1)|exact HI0.out)) hg (IsS58.own_ne HI0.out HO166.out (by decide)));have n1_:=A_ (below_weaken (by repeat (first|(with_reducible first|exact HB.out|apply ba|apply bb|apply bc|refine below_set ?_ (IsS58.ge HI0.out))|exact HB.out)) HL.out hb);have n2_:=A_ (KeepBut.trans (by repeat (first|(with_reducible first|exact HK.out|apply KeepBut.set_|apply keep_drewN|apply keep_drew|apply keep_alloc)|exact HK.out)) (KeepBut.of_grown hg g) (Kd.R_base2 HO166.out));have n3_:=A_ (ho);clear HI0;clear HB;clear HK;clear HO166;have HI0:=n0_;have HB:=n1_;have HK:=n2_;have HO169:=n3_;clear n0_ n1_ n2_ n3_;clear ho hb hg hat;obtain ⟨Ao13,co13,eo13⟩:=Kd.R_slice HO169.out;subst eo13))
  go_loopg [21] k (fun kq v21 w'=>∃ (x8_1 : List Int) (x21_1 : Int) (x1001_1 : Int),v21 = .int .i64 x21_1∧Aside0 (shapesearchkeep_Src_Near.l0 kq l1 t158 t160 t162 x8_1 (y167.length : Int) x21_1 s0_0 x1001_1 = some (r1,r2))∧Aside0 (kq ≤ k)∧Aside0 (Kd.R (Kd.int .i64) 3 w' w.heap.size (fun _=>True) (.slice Ao13 y167.length co13) x8_1)∧Aside0 (IsS58 w0 w' g s0_0 x1001_1)∧Aside0 (KeepBut w w' g none)∧Aside0 (Below w0.heap.size w0 w'))
  case atStart=>exact ⟨(y167),(0),(t163),(by first|rfl|(simp;done)|(simp [*];done)),H',⟨Nat.le_refl _⟩,⟨by (with_reducible repeat (first|apply ra|apply rb|apply rc));exact HO169.out⟩,⟨by repeat (first|(with_reducible first|exact HI0.out|apply IsS58.alloc|apply IsS58.drewN|apply IsS58.drew|apply IsS58.set_1)|exact HI0.out)⟩,⟨by repeat (first|(with_reducible first|exact HK.out|apply KeepBut.set_|apply keep_drewN|apply keep_drew|apply keep_alloc)|exact HK.out)⟩,⟨by repeat (first|(with_reducible first|exact HB.out|apply ba|apply bb|apply bc|refine below_set ?_ (IsS58.ge HI0.out))|exact HB.out)⟩⟩
  case round =>
   clear H'
   try clear c1
   try clear c2
   try clear p2
   try clear c3
   try clear c6
   obtain ⟨x8_1,x21_1,x1001_1,rfl,HA,HK1,HO_8,HI0,HK,HB⟩:=hrel
   have hl8_1:=(rd_ HO_8.out).1
   rw [hl8_1] at HO_8
   (try simp only [hl8_1])
   cases gk with
   | zero=>exact absurd HA.out (by simp [shapesearchkeep_Src_Near.l0])
   | succ k1 =>
    have H:=HA.out
    clear HA
    simp only [shapesearchkeep_Src_Near.l0] at H
    by_cases c14 : x21_1 < (y167.length : Int)
    ·
     rw [if_pos c14] at H
     have c14b0 : decide (x21_1 < (y167.length : Int)) = true:=decide_eq_true c14
     (try (have c14b0h:=c14b0;simp only [hl8_1] at c14b0h))
     clear c14
     by_cases c15 : t158 = 1
     ·
      rw [if_pos c15] at H
      have c15b0 : (t158 == 1) = true:=beq_iff_eq.mpr c15
      have c15b1 : (t158 != 1) = false:=bne_eq_false_iff_eq.mpr c15
      clear c15
      by_cases c16 : 0 ≤ x21_1
      ·
       rw [if_pos c16] at H
       have c16b0 : decide (0 ≤ x21_1) = true:=decide_eq_true c16
       clear c16
       by_cases c17 : x21_1 < (x8_1.length : Int)
       ·
        rw [if_pos c17] at H
        have c17b0 : decide (x21_1 < (x8_1.length : Int)) = true:=decide_eq_true c17
        (try (have c17b0h:=c17b0;simp only [hl8_1] at c17b0h))
        clear c17
        replace H:=Option.bind_eq_some_iff.mp H
        obtain ⟨⟨t171,t172⟩,A180,H⟩:=H
        replace H : ((shapesearchkeep_clip.f (wrap64 ((rd x8_1 x21_1) + t171))).bind fun t173=>(shapesearchkeep_Src_Near.l0 k1 l1 t158 t160 t162 (x8_1.set (x21_1 : Int).toNat t173) (y167.length : Int) (wrap64 (x21_1 + 1)) s0_0 t172)) = some (r1,r2):=H
        have A18:=A_ A180
        clear A180
        replace H:=Option.bind_eq_some_iff.mp H
        obtain ⟨t173,A190,H⟩:=H
        replace H : (shapesearchkeep_Src_Near.l0 k1 l1 t158 t160 t162 (x8_1.set (x21_1 : Int).toNat t173) (y167.length : Int) (wrap64 (x21_1 + 1)) s0_0 t172) = some (r1,r2):=H
        have A19:=A_ A190
        clear A190
        obtain ⟨y174,hy174⟩ : ∃ y_ : List Int,y_ = (x8_1.set (x21_1 : Int).toNat t173):=⟨_,rfl⟩
        replace H : (shapesearchkeep_Src_Near.l0 k1 l1 t158 t160 t162 y174 (y167.length : Int) (wrap64 (x21_1 + 1)) s0_0 t172) = some (r1,r2):=by first|(rw [hy174];with_reducible exact H)|(have H2_:=(Option.bind_some _ _).symm.trans H;rw [hy174];with_reducible exact H2_)|(have H2_:=(Option.bind_some _ _).symm.trans H;with_reducible exact H2_)|with_reducible exact H|(rw [hy174];exact H)|exact H
        have Ny174:=A_ hy174
        clear hy174
        have H':=A_ H
        clear H
        try go_wp2
        have n0_:=A_ (Kd.R_drew HO_8.out)
        have n1_:=A_ (IsS58.drew HI0.out)
        have n2_:=A_ (keep_drew HK.out)
        have n3_:=A_ (below_drew1 HB.out)
        clear HO_8
        clear HI0
        clear HK
        clear HB
        have HO_8:=n0_
        have HI0:=n1_
        have HK:=n2_
        have HB:=n3_
        clear n0_ n1_ n2_ n3_
        have p170 : 0 ≤ (x21_1 : Int):=of_decide_eq_true (by first|(with_reducible assumption)|assumption)
        have q170 : x21_1 < (x8_1.length : Int):=of_decide_eq_true (by first|(with_reducible assumption)|assumption)
        obtain ⟨ad170,e170,hx170_0⟩:=Kd.at_int (rd_ HO_8.out).2.2 x21_1 p170 q170
        cases e170
        replace p170:=eq_true p170
        replace q170:=eq_true q170
        refine start_ (n:=12) (S:=fun w'=>w'.cell? (ad170.add (x21_1).toNat) = some (.int .i64 (rd x8_1 x21_1))) (ds:=[11]) #[false,false,false,false,false,false,false,false,false,false,false,false] (by kernel_rfl) rfl rfl (hx170_0) (fun hHeld=>?_);refine with_tabW shapesearchkeep_Src_Near.tab8 shapesearchkeep_Src_Near.bits8 (fun HT_ HW_=>?_)
        generalize wr.drew = w21 at HO_8 HI0 HK HB hx170_0 hHeld ⊢
        refine pure_ (i:=0) (N:=some 27) (v:=?_) (a':=?_) #[true,false,false,false,false,false,false,false,false,false,false,false] rfl rfl (any_of HT_.out (by kernel_rfl)) (fun _ _ _ h=>h) (Or.inl ⟨by rfl,?_⟩) ?_ ?_
        rotate_left
        ·
         intro w'
         go_simp
         with_reducible rfl
        rotate_left
        ·
         simp only [Act.put,sa,sb,sc,i64_w,i32_w]
         rfl
        refine pure_ (i:=1) (N:=some 28) (v:=?_) (a':=?_) #[true,true,false,false,false,false,false,false,false,false,false,false] rfl rfl (any_of HT_.out (by kernel_rfl)) (fun _ _ _ h=>h) (Or.inl ⟨by rfl,?_⟩) ?_ ?_
        rotate_left
        ·
         intro w'
         go_simp
         with_reducible rfl
        rotate_left
        ·
         simp only [Act.put,sa,sb,sc,i64_w,i32_w]
         rfl
        refine pure_ (i:=2) (N:=some 29) (v:=?_) (a':=?_) #[true,true,true,false,false,false,false,false,false,false,false,false] rfl rfl (any_of HT_.out (by kernel_rfl)) (fun _ _ _ h=>h) (Or.inl ⟨by rfl,?_⟩) ?_ ?_
        rotate_left
        ·
         intro w'
         go_simp
         with_reducible rfl
        rotate_left
        ·
         simp only [Act.put,sa,sb,sc,i64_w,i32_w]
         rfl
        refine pure_ (i:=3) (N:=some 30) (v:=?_) (a':=?_) #[true,true,true,true,false,false,false,false,false,false,false,false] rfl rfl (any_of HT_.out (by kernel_rfl)) (fun _ _ _ h=>h) (Or.inl ⟨by rfl,?_⟩) ?_ ?_
        rotate_left
        ·
         intro w'
         go_simp
         with_reducible rfl
        rotate_left
        ·
         simp only [Act.put,sa,sb,sc,i64_w,i32_w]
         rfl
        refine pure_ (i:=4) (N:=some 31) (v:=?_) (a':=?_) #[true,true,true,true,true,false,false,false,false,false,false,false] rfl rfl (any_of HT_.out (by kernel_rfl)) (fun _ _ _ h=>h) (Or.inl ⟨by rfl,?_⟩) ?_ ?_
        rotate_left
        ·
         intro w'
         go_simp
         with_reducible rfl
        rotate_left
        ·
         simp only [Act.put,sa,sb,sc,i64_w,i32_w]
         rfl
        refine pure_ (i:=6) (N:=some 33) (v:=?_) (a':=?_) #[true,true,true,true,true,false,true,false,false,false,false,false] rfl rfl (any_of HT_.out (by kernel_rfl)) (fun _ _ _ h=>h) (Or.inl ⟨by rfl,?_⟩) ?_ ?_
        rotate_left
        ·
         intro w'
         go_simp
         with_reducible rfl
        rotate_left
        ·
         simp only [Act.put,sa,sb,sc,i64_w,i32_w]
         rfl
        refine take_ (i:=5) (N:=some 32) (v:=?_) (a':=?_) #[true,true,true,true,true,true,true,false,false,false,false,false] rfl rfl (take_ofW HT_.out HW_.out (by kernel_rfl)) (fun _ _ _ h=>h) (Or.inl ⟨by rfl,?_⟩) hHeld ?_ ?_
        rotate_left
        ·
         intro w' s0
         go_simp
         with_reducible rfl
        rotate_left
        ·
         simp only [Act.put,sa,sb,sc,i64_w,i32_w]
         rfl
        refine one_ (i:=7) (N:=some 34) #[true,true,true,true,true,true,true,true,false,false,false,false] rfl rfl (one_of HT_.out (by kernel_rfl)) (by decide) (fun K hK=>?_)
        refine goes_ Try.func20 (by kernel_rfl) rfl #[.pointer (some ⟨g,0,none⟩),.int .i64 (-2),.int .i64 2] (by rfl) rfl rfl (by (try simp only [List.map_toArray,List.map_cons,List.map_nil]);first|done|rfl|(simp only [List.length_drop,List.length_take];rfl)) ?_
        with_reducible refine (shapesearchkeep_Src_Range.calls g s0_0 x1001_1 (-2) 2 t171 t172 w0 _ ?side1 ?side2 A18.out).mono ?_
        (case side1=>repeat (first|(with_reducible first|exact HI0.out|apply IsS58.alloc|apply IsS58.drewN|apply IsS58.drew|apply IsS58.set_1)|exact HI0.out))
        (case side2=>repeat (first|(with_reducible first|exact HB.out|apply ba|apply bb|apply bc|refine below_set ?_ (IsS58.ge HI0.out))|exact HB.out))
        rintro e w22 ⟨rfl,hi,hb,hk⟩
        have HS0_:=keep_cell hk (hHeld) (by first|(rw [add_block];exact Kd.own_blk (IsS58.own_ne HI0.out HO_8.out (by decide)))|(show (Addr.add _ _).block≠_;rw [add_block];exact Kd.own_blk (IsS58.own_ne HI0.out HO_8.out (by decide)))|exact Kd.own_blk (IsS58.own_ne HI0.out HO_8.out (by decide)))
        refine ⟨_,rfl,?_⟩
        have n0_:=A_ (rm (Kd.R_keep (IsS58.apart (show IsS58 w0 _ g s0_0 x1001_1 from by repeat (first|(with_reducible first|exact HI0.out|apply IsS58.alloc|apply IsS58.drewN|apply IsS58.drew|apply IsS58.set_1)|exact HI0.out)) (by (with_reducible repeat (first|apply ra|apply rb|apply rc));exact HO_8.out) (by decide)) hk (fun _ h=>h.2)) (fun _ h=>h.1))
        have n1_:=A_ (KeepBut.trans (by repeat (first|(with_reducible first|exact HK.out|apply KeepBut.set_|apply keep_drewN|apply keep_drew|apply keep_alloc)|exact HK.out)) hk (.inl rfl))
        have n2_:=A_ (hb)
        have n3_:=A_ (hi)
        clear HO_8
        clear HK
        clear HB
        clear HI0
        have HO_8:=n0_
        have HK:=n1_
        have HB:=n2_
        have HI0:=n3_
        clear n0_ n1_ n2_ n3_
        (try clear hb)
        (try clear hb2)
        (try clear hk)
        (try clear hi)
        refine hK.out _ _ (HS0_) (fun hHeld=>?_)
        clear hK K
        refine norm_ (a':=?_) ?_ ?_
        rotate_left
        ·
         show Act.put _ (some 34) _ = _
         simp only [Act.put,sa,sb,sc,i64_w,i32_w]
         rfl
        refine pure_ (i:=8) (N:=some 35) (v:=?_) (a':=?_) #[true,true,true,true,true,true,true,true,true,false,false,false] rfl rfl (any_of HT_.out (by kernel_rfl)) (fun _ _ _ h=>h) (Or.inl ⟨by rfl,?_⟩) ?_ ?_
        rotate_left
        ·
         intro w'
         go_simp
         with_reducible rfl
        rotate_left
        ·
         simp only [Act.put,sa,sb,sc,i64_w,i32_w]
         rfl
        refine one_ (i:=9) (N:=some 36) #[true,true,true,true,true,true,true,true,true,true,false,false] rfl rfl (one_of HT_.out (by kernel_rfl)) (by decide) (fun K hK=>?_)
        refine goes_ Try.func39 (by kernel_rfl) rfl #[.int .i64 (wrap64 ((rd x8_1 x21_1) + t171))] (by rfl) rfl rfl (by (try simp only [List.map_toArray,List.map_cons,List.map_nil]);first|done|rfl|(simp only [List.length_drop,List.length_take];rfl)) ?_
        with_reducible refine (shapesearchkeep_clip.calls (wrap64 ((rd x8_1 x21_1) + t171)) t173 _ A19.out).mono ?_
        rintro e w23 ⟨rfl,hb⟩
        have HS0_:=(hb.cell (World.block_lt_of_cell? _ _ (hHeld))).trans (hHeld)
        refine ⟨_,rfl,?_⟩
        have n0_:=A_ (rw_ (by (with_reducible repeat (first|apply ra|apply rb|apply rc));exact HO_8.out) hb)
        have n1_:=A_ (IsS58.below (by repeat (first|(with_reducible first|exact HI0.out|apply IsS58.alloc|apply IsS58.drewN|apply IsS58.drew|apply IsS58.set_1)|exact HI0.out)) hb)
        have n2_:=A_ (KeepBut.trans (by repeat (first|(with_reducible first|exact HK.out|apply KeepBut.set_|apply keep_drewN|apply keep_drew|apply keep_alloc)|exact HK.out)) (KeepBut.of_below hb g none) (.inl rfl))
        have n3_:=A_ (below_step (by repeat (first|(with_reducible first|exact HB.out|apply ba|apply bb|apply bc|refine below_set ?_ (IsS58.ge HI0.out))|exact HB.out)) hb)
        clear HO_8
        clear HI0
        clear HK
        clear HB
        have HO_8:=n0_
        have HI0:=n1_
        have HK:=n2_
        have HB:=n3_
        clear n0_ n1_ n2_ n3_
        (try clear hb)
        (try clear hb2)
        (try clear hk)
        (try clear hi)
        have p20 : 0 ≤ (x21_1 : Int):=of_decide_eq_true (by first|(with_reducible assumption)|assumption)
        have q20 : (x21_1 : Int) < ((x8_1.length : Int) : Int):=of_decide_eq_true (by first|(with_reducible assumption)|assumption)
        obtain ⟨go20,co20,eo20,gb20,gl20,cl20,HG20⟩:=Kd.R_form HO_8.out (by omega)
        (first|cases eo20|(injection eo20 with ea_ en_ ec_;(first|subst ea_|(injection ea_ with ea_;subst ea_));subst ec_;clear en_))
        have GB20:=A_ gb20
        have GG20:=A_ HG20
        clear gb20 gl20 HG20
        (first|simp only [add_plain] at hx170_0|skip)
        obtain ⟨hx20_0,hf20_0⟩:=Kd.R_celln 0 HO_8.out (x21_1 : Int) p20 q20
        replace p20:=eq_true p20
        replace q20:=eq_true q20
        have HN0_go20:=A_ (show g≠go20 from by have h_:=IsS58.own_ne HI0.out HO_8.out (by decide);intro e_;exact h_ (by rw [e_];rfl))
        have HP24:=Kd.R_putn HO_8.out (x21_1 : Int) t173
        rw [← Ny174.out] at HP24
        have HQ24:=A_ HP24
        clear HP24
        refine hK.out _ _ (HS0_) (fun hHeld=>?_)
        clear hK K
        refine norm_ (a':=?_) ?_ ?_
        rotate_left
        ·
         show Act.put _ (some 36) _ = _
         simp only [Act.put,sa,sb,sc,i64_w,i32_w]
         rfl
        refine pure_ (i:=10) (N:=some 37) (v:=?_) (a':=?_) #[true,true,true,true,true,true,true,true,true,true,true,false] rfl rfl (any_of HT_.out (by kernel_rfl)) (fun _ _ _ h=>h) (Or.inl ⟨by rfl,?_⟩) ?_ ?_
        rotate_left
        ·
         intro w'
         go_simp
         with_reducible rfl
        rotate_left
        ·
         simp only [Act.put,sa,sb,sc,i64_w,i32_w]
         rfl
        refine last_ (i:=11) (N:=none) #[true,true,true,true,true,true,true,true,true,true,true,true] rfl rfl (one_of HT_.out (by kernel_rfl)) (by decide) (fun K hK=>?_)
        refine skip_ (w1:=?_) (by rfl) rfl ?_ ?_
        rotate_left
        ·
         go_simp
         rfl
        refine hK.out _ _ ?_
        clear hK K
        refine done_ (done_of HT_.out (by kernel_rfl)) ?_
        try go_wp2
        (try simp only [← hl8_1])
        go_roundg k1
        case measure=>have:=HK1.out;omega
        case rel=>exact ⟨(y174),(wrap64 (x21_1 + 1)),(t172),(by first|rfl|(simp;done)|(simp [*];done)),H',⟨by have:=HK1.out;omega⟩,⟨by (try simp only [hl8_1]);(with_reducible repeat (first|apply ra|apply rb|apply rc));exact HQ24.out⟩,⟨by repeat (first|(with_reducible first|exact HI0.out|apply IsS58.alloc|apply IsS58.drewN|apply IsS58.drew|apply IsS58.set_1|refine IsS58.far ?_ HN0_go20.out _)|exact HI0.out)⟩,⟨by repeat (first|(with_reducible first|exact HK.out|apply KeepBut.set_|apply keep_drewN|apply keep_drew|apply keep_alloc|refine keep_far ?_ GB20.out _)|exact HK.out)⟩,⟨by repeat (first|(with_reducible first|exact HB.out|apply ba|apply bb|apply bc|refine below_set ?_ (Nat.le_trans HL.out GB20.out)|refine below_set ?_ (IsS58.ge HI0.out))|exact HB.out)⟩⟩
       ·
        rw [if_neg c17] at H
        exact absurd H (by simp)
      ·
       rw [if_neg c16] at H
       exact absurd H (by simp)
     ·
      rw [if_neg c15] at H
      have c15b0 : (t158 == 1) = false:=beq_eq_false_iff_ne.mpr c15
      have c15b1 : (t158 != 1) = true:=bne_iff_ne.mpr c15
      by_cases c25 : t158 = 2
      ·
       rw [if_pos c25] at H
       have c25b0 : (t158 == 2) = true:=beq_iff_eq.mpr c25
       have c25b1 : (t158 != 2) = false:=bne_eq_false_iff_eq.mpr c25
       clear c25
       by_cases c26 : 0 ≤ x21_1
       ·
        rw [if_pos c26] at H
        have c26b0 : decide (0 ≤ x21_1) = true:=decide_eq_true c26
        clear c26
        by_cases c27 : x21_1 < (x8_1.length : Int)
        ·
         rw [if_pos c27] at H
         have c27b0 : decide (x21_1 < (x8_1.length : Int)) = true:=decide_eq_true c27
         (try (have c27b0h:=c27b0;simp only [hl8_1] at c27b0h))
         clear c27
         replace H:=Option.bind_eq_some_iff.mp H
         obtain ⟨t176,A280,H⟩:=H
         replace H : (shapesearchkeep_Src_Near.l0 k1 l1 t158 t160 t162 (x8_1.set (x21_1 : Int).toNat t176) (y167.length : Int) (wrap64 (x21_1 + 1)) s0_0 x1001_1) = some (r1,r2):=H
         have A28:=A_ A280
         clear A280
         obtain ⟨y177,hy177⟩ : ∃ y_ : List Int,y_ = (x8_1.set (x21_1 : Int).toNat t176):=⟨_,rfl⟩
         replace H : (shapesearchkeep_Src_Near.l0 k1 l1 t158 t160 t162 y177 (y167.length : Int) (wrap64 (x21_1 + 1)) s0_0 x1001_1) = some (r1,r2):=by first|(rw [hy177];with_reducible exact H)|(have H2_:=(Option.bind_some _ _).symm.trans H;rw [hy177];with_reducible exact H2_)|(have H2_:=(Option.bind_some _ _).symm.trans H;with_reducible exact H2_)|with_reducible exact H|(rw [hy177];exact H)|exact H
         have Ny177:=A_ hy177
         clear hy177
         have H':=A_ H
         clear H
         have p175 : 0 ≤ (x21_1 : Int):=of_decide_eq_true (by first|(with_reducible assumption)|assumption)
         have q175 : x21_1 < (x8_1.length : Int):=of_decide_eq_true (by first|(with_reducible assumption)|assumption)
         obtain ⟨ad175,e175,hx175_0⟩:=Kd.at_int (rd_ HO_8.out).2.2 x21_1 p175 q175
         cases e175
         replace p175:=eq_true p175
         replace q175:=eq_true q175
         go_wp2_with (first|((with_reducible refine gate_callee (f:=39) rfl ?_);refine goesL_ (some 48) rfl rfl Try.func39 (by kernel_rfl) rfl #[.int .i64 (wrap64 ((rd x8_1 x21_1) + t160))] rfl (by (try simp only [List.map_toArray,List.map_cons,List.map_nil]);first|done|rfl|(simp only [List.length_drop,List.length_take];rfl)) ?_;(with_reducible refine (shapesearchkeep_clip.calls (wrap64 ((rd x8_1 x21_1) + t160)) t176 _ A28.out).mono ?_);rintro e w30 ⟨rfl,hb⟩;refine ⟨_,rfl,?_⟩;have n0_:=A_ (rw_ (by (with_reducible repeat (first|apply ra|apply rb|apply rc));exact HO_8.out) hb);have n1_:=A_ (IsS58.below (by repeat (first|(with_reducible first|exact HI0.out|apply IsS58.alloc|apply IsS58.drewN|apply IsS58.drew|apply IsS58.set_1)|exact HI0.out)) hb);have n2_:=A_ (KeepBut.trans (by repeat (first|(with_reducible first|exact HK.out|apply KeepBut.set_|apply keep_drewN|apply keep_drew|apply keep_alloc)|exact HK.out)) (KeepBut.of_below hb g none) (.inl rfl));have n3_:=A_ (below_step (by repeat (first|(with_reducible first|exact HB.out|apply ba|apply bb|apply bc|refine below_set ?_ (IsS58.ge HI0.out))|exact HB.out)) hb);clear HO_8;clear HI0;clear HK;clear HB;have HO_8:=n0_;have HI0:=n1_;have HK:=n2_;have HB:=n3_;clear n0_ n1_ n2_ n3_;(try clear hb);(try clear hb2);(try clear hk);(try clear hi);have p29 : 0 ≤ (x21_1 : Int):=of_decide_eq_true (by first|(with_reducible assumption)|assumption);have q29 : (x21_1 : Int) < ((x8_1.length : Int) : Int):=of_decide_eq_true (by first|(with_reducible assumption)|assumption);obtain ⟨go29,co29,eo29,gb29,gl29,cl29,HG29⟩:=Kd.R_form HO_8.out (by omega);(first|cases eo29|(injection eo29 with ea_ en_ ec_;(first|subst ea_|(injection ea_ with ea_;subst ea_));subst ec_;clear en_));have GB29:=A_ gb29;have GG29:=A_ HG29;clear gb29 gl29 HG29;(first|simp only [add_plain] at hx175_0|skip);obtain ⟨hx29_0,hf29_0⟩:=Kd.R_celln 0 HO_8.out (x21_1 : Int) p29 q29;replace p29:=eq_true p29;replace q29:=eq_true q29;obtain ⟨hy31_,hz31_⟩:=Kd.R_celln 0 HO_8.out (x21_1 : Int) (of_decide_eq_true (by first|(with_reducible assumption)|assumption)) (of_decide_eq_true (by first|(with_reducible assumption)|assumption));have HP31:=Kd.R_putg HO_8.out (x21_1 : Int) t176)|((with_reducible refine gate_store (t:=3) (p:=49) rfl ?_);refine store_event (t:=3) (p:=49) (v:=?vo_w32) (w1:=(w30.setCell ⟨go29,(x21_1 : Int).toNat,none⟩ (.int .i64 t176))) ?hg ?ho ?hn ?hr ?_;(case ho=>rfl);(case hg=>rfl);(case hn=>rfl);(case hr=>first|(go_simp;done)|(go_simp;rfl));intro w32 hw;have hg : w30.grownBy w32 (some go29):=(by rw [hw];exact HP31.2);have hp_ : Kd.R (Kd.int .i64) 3 w32 w.heap.size (fun _=>True) (.slice (some ⟨go29,0,none⟩) x8_1.length co13) y177:=(by rw [hw,Ny177.out];exact HP31.1);clear HP31;have n0_:=A_ (hp_);have n1_:=A_ (IsS58.grown (by repeat (first|(with_reducible first|exact HI0.out|apply IsS58.alloc|apply IsS58.drewN|apply IsS58.drew|apply IsS58.set_1)|exact HI0.out)) hg (IsS58.own_ne HI0.out HO_8.out (by decide)));have n2_:=A_ ((by rw [hw];exact below_set (HB.out) (Nat.le_trans HL.out GB29.out) : Below w0.heap.size w0 w32));have n3_:=A_ (KeepBut.trans (by repeat (first|(with_reducible first|exact HK.out|apply KeepBut.set_|apply keep_drewN|apply keep_drew|apply keep_alloc)|exact HK.out)) (KeepBut.of_grown hg g) (Kd.R_base2 HO_8.out));clear HO_8;clear HI0;clear HB;clear HK;have HO_8:=n0_;have HI0:=n1_;have HB:=n2_;have HK:=n3_;clear n0_ n1_ n2_ n3_;clear hg hw hp_))
         (try simp only [← hl8_1])
         go_roundg k1
         case measure=>have:=HK1.out;omega
         case rel=>exact ⟨(y177),(wrap64 (x21_1 + 1)),(x1001_1),(by first|rfl|(simp;done)|(simp [*];done)),H',⟨by have:=HK1.out;omega⟩,⟨by (try simp only [hl8_1]);(with_reducible repeat (first|apply ra|apply rb|apply rc));exact HO_8.out⟩,⟨by repeat (first|(with_reducible first|exact HI0.out|apply IsS58.alloc|apply IsS58.drewN|apply IsS58.drew|apply IsS58.set_1)|exact HI0.out)⟩,⟨by repeat (first|(with_reducible first|exact HK.out|apply KeepBut.set_|apply keep_drewN|apply keep_drew|apply keep_alloc)|exact HK.out)⟩,⟨by repeat (first|(with_reducible first|exact HB.out|apply ba|apply bb|apply bc|refine below_set ?_ (IsS58.ge HI0.out))|exact HB.out)⟩⟩
        ·
         rw [if_neg c27] at H
         exact absurd H (by simp)
       ·
        rw [if_neg c26] at H
        exact absurd H (by simp)
      ·
       rw [if_neg c25] at H
       have c25b0 : (t158 == 2) = false:=beq_eq_false_iff_ne.mpr c25
       have c25b1 : (t158 != 2) = true:=bne_iff_ne.mpr c25
       by_cases c33 : t158 = 3
       ·
        rw [if_pos c33] at H
        have c33b0 : (t158 == 3) = true:=beq_iff_eq.mpr c33
        have c33b1 : (t158 != 3) = false:=bne_eq_false_iff_eq.mpr c33
        clear c33
        by_cases c34 : 0 ≤ x21_1
        ·
         rw [if_pos c34] at H
         have c34b0 : decide (0 ≤ x21_1) = true:=decide_eq_true c34
         clear c34
         by_cases c35 : x21_1 < (x8_1.length : Int)
         ·
          rw [if_pos c35] at H
          have c35b0 : decide (x21_1 < (x8_1.length : Int)) = true:=decide_eq_true c35
          (try (have c35b0h:=c35b0;simp only [hl8_1] at c35b0h))
          clear c35
          replace H:=Option.bind_eq_some_iff.mp H
          obtain ⟨t179,A360,H⟩:=H
          replace H : (shapesearchkeep_Src_Near.l0 k1 l1 t158 t160 t162 (x8_1.set (x21_1 : Int).toNat t179) (y167.length : Int) (wrap64 (x21_1 + 1)) s0_0 x1001_1) = some (r1,r2):=H
          have A36:=A_ A360
          clear A360
          obtain ⟨y180,hy180⟩ : ∃ y_ : List Int,y_ = (x8_1.set (x21_1 : Int).toNat t179):=⟨_,rfl⟩
          replace H : (shapesearchkeep_Src_Near.l0 k1 l1 t158 t160 t162 y180 (y167.length : Int) (wrap64 (x21_1 + 1)) s0_0 x1001_1) = some (r1,r2):=by first|(rw [hy180];with_reducible exact H)|(have H2_:=(Option.bind_some _ _).symm.trans H;rw [hy180];with_reducible exact H2_)|(have H2_:=(Option.bind_some _ _).symm.trans H;with_reducible exact H2_)|with_reducible exact H|(rw [hy180];exact H)|exact H
          have Ny180:=A_ hy180
          clear hy180
          have H':=A_ H
          clear H
          have p178 : 0 ≤ (x21_1 : Int):=of_decide_eq_true (by first|(with_reducible assumption)|assumption)
          have q178 : x21_1 < (x8_1.length : Int):=of_decide_eq_true (by first|(with_reducible assumption)|assumption)
          obtain ⟨ad178,e178,hx178_0⟩:=Kd.at_int (rd_ HO_8.out).2.2 x21_1 p178 q178
          cases e178
          replace p178:=eq_true p178
          replace q178:=eq_true q178
          go_wp2_with (first|((with_reducible refine gate_callee (f:=39) rfl ?_);refine goesL_ (some 62) rfl rfl Try.func39 (by kernel_rfl) rfl #[.int .i64 (wrap64 ((wrap64 ((rd x8_1 x21_1) * t162)) + t160))] rfl (by (try simp only [List.map_toArray,List.map_cons,List.map_nil]);first|done|rfl|(simp only [List.length_drop,List.length_take];rfl)) ?_;(with_reducible refine (shapesearchkeep_clip.calls (wrap64 ((wrap64 ((rd x8_1 x21_1) * t162)) + t160)) t179 _ A36.out).mono ?_);rintro e w38 ⟨rfl,hb⟩;refine ⟨_,rfl,?_⟩;have n0_:=A_ (rw_ (by (with_reducible repeat (first|apply ra|apply rb|apply rc));exact HO_8.out) hb);have n1_:=A_ (IsS58.below (by repeat (first|(with_reducible first|exact HI0.out|apply IsS58.alloc|apply IsS58.drewN|apply IsS58.drew|apply IsS58.set_1)|exact HI0.out)) hb);have n2_:=A_ (KeepBut.trans (by repeat (first|(with_reducible first|exact HK.out|apply KeepBut.set_|apply keep_drewN|apply keep_drew|apply keep_alloc)|exact HK.out)) (KeepBut.of_below hb g none) (.inl rfl));have n3_:=A_ (below_step (by repeat (first|(with_reducible first|exact HB.out|apply ba|apply bb|apply bc|refine below_set ?_ (IsS58.ge HI0.out))|exact HB.out)) hb);clear HO_8;clear HI0;clear HK;clear HB;have HO_8:=n0_;have HI0:=n1_;have HK:=n2_;have HB:=n3_;clear n0_ n1_ n2_ n3_;(try clear hb);(try clear hb2);(try clear hk);(try clear hi);have p37 : 0 ≤ (x21_1 : Int):=of_decide_eq_true (by first|(with_reducible assumption)|assumption);have q37 : (x21_1 : Int) < ((x8_1.length : Int) : Int):=of_decide_eq_true (by first|(with_reducible assumption)|assumption);obtain ⟨go37,co37,eo37,gb37,gl37,cl37,HG37⟩:=Kd.R_form HO_8.out (by omega);(first|cases eo37|(injection eo37 with ea_ en_ ec_;(first|subst ea_|(injection ea_ with ea_;subst ea_));subst ec_;clear en_));have GB37:=A_ gb37;have GG37:=A_ HG37;clear gb37 gl37 HG37;(first|simp only [add_plain] at hx178_0|skip);obtain ⟨hx37_0,hf37_0⟩:=Kd.R_celln 0 HO_8.out (x21_1 : Int) p37 q37;replace p37:=eq_true p37;replace q37:=eq_true q37;obtain ⟨hy39_,hz39_⟩:=Kd.R_celln 0 HO_8.out (x21_1 : Int) (of_decide_eq_true (by first|(with_reducible assumption)|assumption)) (of_decide_eq_true (by first|(with_reducible assumption)|assumption));have HP39:=Kd.R_putg HO_8.out (x21_1 : Int) t179)|((with_reducible refine gate_store (t:=3) (p:=63) rfl ?_);refine store_event (t:=3) (p:=63) (v:=?vo_w40) (w1:=(w38.setCell ⟨go37,(x21_1 : Int).toNat,none⟩ (.int .i64 t179))) ?hg ?ho ?hn ?hr ?_;(case ho=>rfl);(case hg=>rfl);(case hn=>rfl);(case hr=>first|(go_simp;done)|(go_simp;rfl));intro w40 hw;have hg : w38.grownBy w40 (some go37):=(by rw [hw];exact HP39.2);have hp_ : Kd.R (Kd.int .i64) 3 w40 w.heap.size (fun _=>True) (.slice (some ⟨go37,0,none⟩) x8_1.length co13) y180:=(by rw [hw,Ny180.out];exact HP39.1);clear HP39;have n0_:=A_ (hp_);have n1_:=A_ (IsS58.grown (by repeat (first|(with_reducible first|exact HI0.out|apply IsS58.alloc|apply IsS58.drewN|apply IsS58.drew|apply IsS58.set_1)|exact HI0.out)) hg (IsS58.own_ne HI0.out HO_8.out (by decide)));have n2_:=A_ ((by rw [hw];exact below_set (HB.out) (Nat.le_trans HL.out GB37.out) : Below w0.heap.size w0 w40));have n3_:=A_ (KeepBut.trans (by repeat (first|(with_reducible first|exact HK.out|apply KeepBut.set_|apply keep_drewN|apply keep_drew|apply keep_alloc)|exact HK.out)) (KeepBut.of_grown hg g) (Kd.R_base2 HO_8.out));clear HO_8;clear HI0;clear HB;clear HK;have HO_8:=n0_;have HI0:=n1_;have HB:=n2_;have HK:=n3_;clear n0_ n1_ n2_ n3_;clear hg hw hp_))
          (try simp only [← hl8_1])
          go_roundg k1
          case measure=>have:=HK1.out;omega
          case rel=>exact ⟨(y180),(wrap64 (x21_1 + 1)),(x1001_1),(by first|rfl|(simp;done)|(simp [*];done)),H',⟨by have:=HK1.out;omega⟩,⟨by (try simp only [hl8_1]);(with_reducible repeat (first|apply ra|apply rb|apply rc));exact HO_8.out⟩,⟨by repeat (first|(with_reducible first|exact HI0.out|apply IsS58.alloc|apply IsS58.drewN|apply IsS58.drew|apply IsS58.set_1)|exact HI0.out)⟩,⟨by repeat (first|(with_reducible first|exact HK.out|apply KeepBut.set_|apply keep_drewN|apply keep_drew|apply keep_alloc)|exact HK.out)⟩,⟨by repeat (first|(with_reducible first|exact HB.out|apply ba|apply bb|apply bc|refine below_set ?_ (IsS58.ge HI0.out))|exact HB.out)⟩⟩
         ·
          rw [if_neg c35] at H
          exact absurd H (by simp)
        ·
         rw [if_neg c34] at H
         exact absurd H (by simp)
       ·
        rw [if_neg c33] at H
        have c33b0 : (t158 == 3) = false:=beq_eq_false_iff_ne.mpr c33
        have c33b1 : (t158 != 3) = true:=bne_iff_ne.mpr c33
        by_cases c41 : t158 = 4
        ·
         rw [if_pos c41] at H
         have c41b0 : (t158 == 4) = true:=beq_iff_eq.mpr c41
         have c41b1 : (t158 != 4) = false:=bne_eq_false_iff_eq.mpr c41
         clear c41
         obtain ⟨ji42,hji42⟩ : ∃ j_ : Int,(wrap64 ((wrap64 ((l1.length : Int) - 1)) - x21_1)) = j_:=⟨_,rfl⟩
         replace H : (if 0 ≤ (ji42) then (if (ji42) < (l1.length : Int) then (if 0 ≤ x21_1 then (if x21_1 < (x8_1.length : Int) then (shapesearchkeep_Src_Near.l0 k1 l1 t158 t160 t162 (x8_1.set (x21_1 : Int).toNat (rd l1 (ji42))) (y167.length : Int) (wrap64 (x21_1 + 1)) s0_0 x1001_1) else (none)) else (none)) else (none)) else (none)) = some (r1,r2):=by first|(rw [hji42] at H;exact H)|(simp only [hji42] at H ⊢;exact H)
         have hji42w : (IntKind.i64.wrap ((wrap64 ((l1.length : Int) - 1)) - x21_1)) = ji42:=(i64_w _).trans hji42
         by_cases c43 : 0 ≤ (ji42)
         ·
          rw [if_pos c43] at H
          have c43b0 : decide (0 ≤ (ji42)) = true:=decide_eq_true c43
          clear c43
          by_cases c44 : (ji42) < (l1.length : Int)
          ·
           rw [if_pos c44] at H
           have c44b0 : decide ((ji42) < (l1.length : Int)) = true:=decide_eq_true c44
           (try (have c44b0h:=c44b0;simp only [hl8_1] at c44b0h))
           clear c44
           by_cases c45 : 0 ≤ x21_1
           ·
            rw [if_pos c45] at H
            have c45b0 : decide (0 ≤ x21_1) = true:=decide_eq_true c45
            clear c45
            by_cases c46 : x21_1 < (x8_1.length : Int)
            ·
             rw [if_pos c46] at H
             have c46b0 : decide (x21_1 < (x8_1.length : Int)) = true:=decide_eq_true c46
             (try (have c46b0h:=c46b0;simp only [hl8_1] at c46b0h))
             clear c46
             obtain ⟨y182,hy182⟩ : ∃ y_ : List Int,y_ = (x8_1.set (x21_1 : Int).toNat (rd l1 (ji42))):=⟨_,rfl⟩
             replace H : (shapesearchkeep_Src_Near.l0 k1 l1 t158 t160 t162 y182 (y167.length : Int) (wrap64 (x21_1 + 1)) s0_0 x1001_1) = some (r1,r2):=by first|(rw [hy182];with_reducible exact H)|(have H2_:=(Option.bind_some _ _).symm.trans H;rw [hy182];with_reducible exact H2_)|(have H2_:=(Option.bind_some _ _).symm.trans H;with_reducible exact H2_)|with_reducible exact H|(rw [hy182];exact H)|exact H
             have Ny182:=A_ hy182
             clear hy182
             have H':=A_ H
             clear H
             have p181 : 0 ≤ ((ji42) : Int):=of_decide_eq_true (by first|(with_reducible assumption)|assumption)
             have q181 : (ji42) < (l1.length : Int):=of_decide_eq_true (by first|(with_reducible assumption)|assumption)
             obtain ⟨ad181,e181,hx181_0⟩:=Kd.at_int HR1.out (ji42) p181 q181
             cases e181
             replace hx181_0:=keep_cell HK.out hx181_0 (by first|(rw [add_block];exact hf1 _ rfl (by omega))|exact hf1 _ rfl (by omega)|exact hf1 ad181 rfl (by omega))
             replace p181:=eq_true p181
             replace q181:=eq_true q181
             have p47 : 0 ≤ (x21_1 : Int):=of_decide_eq_true (by first|(with_reducible assumption)|assumption)
             have q47 : (x21_1 : Int) < ((x8_1.length : Int) : Int):=of_decide_eq_true (by first|(with_reducible assumption)|assumption)
             obtain ⟨go47,co47,eo47,gb47,gl47,cl47,HG47⟩:=Kd.R_form HO_8.out (by omega)
             (first|cases eo47|(injection eo47 with ea_ en_ ec_;(first|subst ea_|(injection ea_ with ea_;subst ea_));subst ec_;clear en_))
             have GB47:=A_ gb47
             have GG47:=A_ HG47
             clear gb47 gl47 HG47
             obtain ⟨hx47_0,hf47_0⟩:=Kd.R_celln 0 HO_8.out (x21_1 : Int) p47 q47
             replace p47:=eq_true p47
             replace q47:=eq_true q47
             have HP48:=Kd.R_putg HO_8.out (x21_1 : Int) (rd l1 (ji42))
             go_wp2_with (first|((with_reducible refine gate_store (t:=3) (p:=76) rfl ?_);refine store_event (t:=3) (p:=76) (v:=?vo_w49) (w1:=(wr.setCell ⟨go47,(x21_1 : Int).toNat,none⟩ (.int .i64 (rd l1 (ji42))))) ?hg ?ho ?hn ?hr ?_;(case ho=>rfl);(case hg=>rfl);(case hn=>rfl);(case hr=>first|(go_simp;done)|(go_simp;rfl));intro w49 hw;have hg : wr.grownBy w49 (some go47):=(by rw [hw];exact HP48.2);have hp_ : Kd.R (Kd.int .i64) 3 w49 w.heap.size (fun _=>True) (.slice (some ⟨go47,0,none⟩) x8_1.length co13) y182:=(by rw [hw,Ny182.out];exact HP48.1);clear HP48;have n0_:=A_ (hp_);have n1_:=A_ (IsS58.grown (by repeat (first|(with_reducible first|exact HI0.out|apply IsS58.alloc|apply IsS58.drewN|apply IsS58.drew|apply IsS58.set_1)|exact HI0.out)) hg (IsS58.own_ne HI0.out HO_8.out (by decide)));have n2_:=A_ ((by rw [hw];exact below_set (HB.out) (Nat.le_trans HL.out GB47.out) : Below w0.heap.size w0 w49));have n3_:=A_ (KeepBut.trans (by repeat (first|(with_reducible first|exact HK.out|apply KeepBut.set_|apply keep_drewN|apply keep_drew|apply keep_alloc)|exact HK.out)) (KeepBut.of_grown hg g) (Kd.R_base2 HO_8.out));clear HO_8;clear HI0;clear HB;clear HK;have HO_8:=n0_;have HI0:=n1_;have HB:=n2_;have HK:=n3_;clear n0_ n1_ n2_ n3_;clear hg hw hp_))
             (try simp only [← hl8_1])
             go_roundg k1
             case measure=>have:=HK1.out;omega
             case rel=>exact ⟨(y182),(wrap64 (x21_1 + 1)),(x1001_1),(by first|rfl|(simp;done)|(simp [*];done)),H',⟨by have:=HK1.out;omega⟩,⟨by (try simp only [hl8_1]);(with_reducible repeat (first|apply ra|apply rb|apply rc));exact HO_8.out⟩,⟨by repeat (first|(with_reducible first|exact HI0.out|apply IsS58.alloc|apply IsS58.drewN|apply IsS58.drew|apply IsS58.set_1)|exact HI0.out)⟩,⟨by repeat (first|(with_reducible first|exact HK.out|apply KeepBut.set_|apply keep_drewN|apply keep_drew|apply keep_alloc)|exact HK.out)⟩,⟨by repeat (first|(with_reducible first|exact HB.out|apply ba|apply bb|apply bc|refine below_set ?_ (IsS58.ge HI0.out))|exact HB.out)⟩⟩
            ·
             rw [if_neg c46] at H
             exact absurd H (by simp)
           ·
            rw [if_neg c45] at H
            exact absurd H (by simp)
          ·
           rw [if_neg c44] at H
           exact absurd H (by simp)
         ·
          rw [if_neg c43] at H
          exact absurd H (by simp)
        ·
         rw [if_neg c41] at H
         have c41b0 : (t158 == 4) = false:=beq_eq_false_iff_ne.mpr c41
         have c41b1 : (t158 != 4) = true:=bne_iff_ne.mpr c41
         by_cases c50 : t158 = 5
         ·
          rw [if_pos c50] at H
          have c50b0 : (t158 == 5) = true:=beq_iff_eq.mpr c50
          have c50b1 : (t158 != 5) = false:=bne_eq_false_iff_eq.mpr c50
          clear c50
          replace H:=Option.bind_eq_some_iff.mp H
          obtain ⟨⟨t183,t184⟩,A510,H⟩:=H
          replace H : ((shapesearchkeep_Mod.f (wrap64 (x21_1 + t183)) (l1.length : Int)).bind fun t185=>(if 0 ≤ t185 then (if t185 < (l1.length : Int) then (if 0 ≤ x21_1 then (if x21_1 < (x8_1.length : Int) then (shapesearchkeep_Src_Near.l0 k1 l1 t158 t160 t162 (x8_1.set (x21_1 : Int).toNat (rd l1 t185)) (y167.length : Int) (wrap64 (x21_1 + 1)) s0_0 t184) else (none)) else (none)) else (none)) else (none))) = some (r1,r2):=H
          have A51:=A_ A510
          clear A510
          replace H:=Option.bind_eq_some_iff.mp H
          obtain ⟨t185,A520,H⟩:=H
          replace H : (if 0 ≤ t185 then (if t185 < (l1.length : Int) then (if 0 ≤ x21_1 then (if x21_1 < (x8_1.length : Int) then (shapesearchkeep_Src_Near.l0 k1 l1 t158 t160 t162 (x8_1.set (x21_1 : Int).toNat (rd l1 t185)) (y167.length : Int) (wrap64 (x21_1 + 1)) s0_0 t184) else (none)) else (none)) else (none)) else (none)) = some (r1,r2):=H
          have A52:=A_ A520
          clear A520
          by_cases c53 : 0 ≤ t185
          ·
           rw [if_pos c53] at H
           have c53b0 : decide (0 ≤ t185) = true:=decide_eq_true c53
           clear c53
           by_cases c54 : t185 < (l1.length : Int)
           ·
            rw [if_pos c54] at H
            have c54b0 : decide (t185 < (l1.length : Int)) = true:=decide_eq_true c54
            (try (have c54b0h:=c54b0;simp only [hl8_1] at c54b0h))
            clear c54
            by_cases c55 : 0 ≤ x21_1
            ·
             rw [if_pos c55] at H
             have c55b0 : decide (0 ≤ x21_1) = true:=decide_eq_true c55
             clear c55
             by_cases c56 : x21_1 < (x8_1.length : Int)
             ·
              rw [if_pos c56] at H
              have c56b0 : decide (x21_1 < (x8_1.length : Int)) = true:=decide_eq_true c56
              (try (have c56b0h:=c56b0;simp only [hl8_1] at c56b0h))
              clear c56
              obtain ⟨y187,hy187⟩ : ∃ y_ : List Int,y_ = (x8_1.set (x21_1 : Int).toNat (rd l1 t185)):=⟨_,rfl⟩
              replace H : (shapesearchkeep_Src_Near.l0 k1 l1 t158 t160 t162 y187 (y167.length : Int) (wrap64 (x21_1 + 1)) s0_0 t184) = some (r1,r2):=by first|(rw [hy187];with_reducible exact H)|(have H2_:=(Option.bind_some _ _).symm.trans H;rw [hy187];with_reducible exact H2_)|(have H2_:=(Option.bind_some _ _).symm.trans H;with_reducible exact H2_)|with_reducible exact H|(rw [hy187];exact H)|exact H
              have Ny187:=A_ hy187
              clear hy187
              have H':=A_ H
              clear H
              go_wp2_with (first|((with_reducible refine gate_callee (f:=20) rfl ?_);refine goesL_ (some 84) rfl rfl Try.func20 (by kernel_rfl) rfl #[.pointer (some ⟨g,0,none⟩),.int .i64 (-1),.int .i64 1] rfl (by (try simp only [List.map_toArray,List.map_cons,List.map_nil]);first|done|rfl|(simp only [List.length_drop,List.length_take];rfl)) ?_;(with_reducible refine (shapesearchkeep_Src_Range.calls g s0_0 x1001_1 (-1) 1 t183 t184 w0 _ ?side1 ?side2 A51.out).mono ?_);(case side1=>repeat (first|(with_reducible first|exact HI0.out|apply IsS58.alloc|apply IsS58.drewN|apply IsS58.drew|apply IsS58.set_1)|exact HI0.out));(case side2=>repeat (first|(with_reducible first|exact HB.out|apply ba|apply bb|apply bc|refine below_set ?_ (IsS58.ge HI0.out))|exact HB.out));rintro e w58 ⟨rfl,hi,hb,hk⟩;refine ⟨_,rfl,?_⟩;have n0_:=A_ (rm (Kd.R_keep (IsS58.apart (show IsS58 w0 _ g s0_0 x1001_1 from by repeat (first|(with_reducible first|exact HI0.out|apply IsS58.alloc|apply IsS58.drewN|apply IsS58.drew|apply IsS58.set_1)|exact HI0.out)) (by (with_reducible repeat (first|apply ra|apply rb|apply rc));exact HO_8.out) (by decide)) hk (fun _ h=>h.2)) (fun _ h=>h.1));have n1_:=A_ (KeepBut.trans (by repeat (first|(with_reducible first|exact HK.out|apply KeepBut.set_|apply keep_drewN|apply keep_drew|apply keep_alloc)|exact HK.out)) hk (.inl rfl));have n2_:=A_ (hb);have n3_:=A_ (hi);clear HO_8;clear HK;clear HB;clear HI0;have HO_8:=n0_;have HK:=n1_;have HB:=n2_;have HI0:=n3_;clear n0_ n1_ n2_ n3_;(try clear hb);(try clear hb2);(try clear hk);(try clear hi))|((with_reducible refine gate_callee (f:=21) rfl ?_);refine goesL_ (some 88) rfl rfl Try.func21 (by kernel_rfl) rfl #[.int .i64 (wrap64 (x21_1 + t183)),.int .i64 (l1.length : Int)] rfl (by (try simp only [List.map_toArray,List.map_cons,List.map_nil]);first|done|rfl|(simp only [List.length_drop,List.length_take];rfl)) ?_;(with_reducible refine (shapesearchkeep_Mod.calls (wrap64 (x21_1 + t183)) (l1.length : Int) t185 _ A52.out).mono ?_);rintro e w' ⟨rfl,⟨nd,rfl⟩⟩;refine ⟨_,rfl,?_⟩;(try (rw [drewN_self w58];generalize hq_ : World.drewN w58 _ = w58;have n0_ : Aside0 (Kd.R (Kd.int .i64) 3 w58 w.heap.size (fun _=>True) (.slice Ao13 x8_1.length co13) x8_1):=⟨by rw [← hq_];exact (by (with_reducible repeat (first|apply ra|apply rb|apply rc));exact HO_8.out)⟩;have n1_ : Aside0 (IsS58 w0 w58 g s0_0 t184):=⟨by rw [← hq_];exact (by repeat (first|(with_reducible first|exact HI0.out|apply IsS58.alloc|apply IsS58.drewN|apply IsS58.drew|apply IsS58.set_1)|exact HI0.out))⟩;have n2_ : Aside0 (KeepBut w w58 g none):=⟨by rw [← hq_];exact (by repeat (first|(with_reducible first|exact HK.out|apply KeepBut.set_|apply keep_drewN|apply keep_drew|apply keep_alloc)|exact HK.out))⟩;have n3_ : Aside0 (Below w0.heap.size w0 w58):=⟨by rw [← hq_];exact (by repeat (first|(with_reducible first|exact HB.out|apply ba|apply bb|apply bc|refine below_set ?_ (IsS58.ge HI0.out))|exact HB.out))⟩;clear HO_8 HI0 HK HB hq_;have HO_8:=n0_;have HI0:=n1_;have HK:=n2_;have HB:=n3_;clear n0_ n1_ n2_ n3_));have p186 : 0 ≤ (t185 : Int):=of_decide_eq_true (by first|(with_reducible assumption)|assumption);have q186 : t185 < (l1.length : Int):=of_decide_eq_true (by first|(with_reducible assumption)|assumption);obtain ⟨ad186,e186,hx186_0⟩:=Kd.at_int HR1.out t185 p186 q186;cases e186;replace hx186_0:=keep_cell HK.out hx186_0 (by first|(rw [add_block];exact hf1 _ rfl (by omega))|exact hf1 _ rfl (by omega)|exact hf1 ad186 rfl (by omega));replace p186:=eq_true p186;replace q186:=eq_true q186;have p57 : 0 ≤ (x21_1 : Int):=of_decide_eq_true (by first|(with_reducible assumption)|assumption);have q57 : (x21_1 : Int) < ((x8_1.length : Int) : Int):=of_decide_eq_true (by first|(with_reducible assumption)|assumption);obtain ⟨go57,co57,eo57,gb57,gl57,cl57,HG57⟩:=Kd.R_form HO_8.out (by omega);(first|cases eo57|(injection eo57 with ea_ en_ ec_;(first|subst ea_|(injection ea_ with ea_;subst ea_));subst ec_;clear en_));have GB57:=A_ gb57;have GG57:=A_ HG57;clear gb57 gl57 HG57;obtain ⟨hx57_0,hf57_0⟩:=Kd.R_celln 0 HO_8.out (x21_1 : Int) p57 q57;replace p57:=eq_true p57;replace q57:=eq_true q57;obtain ⟨hy59_,hz59_⟩:=Kd.R_celln 0 HO_8.out (x21_1 : Int) (of_decide_eq_true (by first|(with_reducible assumption)|assumption)) (of_decide_eq_true (by first|(with_reducible assumption)|assumption));have HP59:=Kd.R_putg HO_8.out (x21_1 : Int) (rd l1 t185))|((with_reducible refine gate_store (t:=3) (p:=91) rfl ?_);refine store_event (t:=3) (p:=91) (v:=?vo_w60) (w1:=(w58.setCell ⟨go57,(x21_1 : Int).toNat,none⟩ (.int .i64 (rd l1 t185)))) ?hg ?ho ?hn ?hr ?_;(case ho=>rfl);(case hg=>rfl);(case hn=>rfl);(case hr=>first|(go_simp;done)|(go_simp;rfl));intro w60 hw;have hg : w58.grownBy w60 (some go57):=(by rw [hw];exact HP59.2);have hp_ : Kd.R (Kd.int .i64) 3 w60 w.heap.size (fun _=>True) (.slice (some ⟨go57,0,none⟩) x8_1.length co13) y187:=(by rw [hw,Ny187.out];exact HP59.1);clear HP59;have n0_:=A_ (hp_);have n1_:=A_ (IsS58.grown (by repeat (first|(with_reducible first|exact HI0.out|apply IsS58.alloc|apply IsS58.drewN|apply IsS58.drew|apply IsS58.set_1)|exact HI0.out)) hg (IsS58.own_ne HI0.out HO_8.out (by decide)));have n2_:=A_ ((by rw [hw];exact below_set (HB.out) (Nat.le_trans HL.out GB57.out) : Below w0.heap.size w0 w60));have n3_:=A_ (KeepBut.trans (by repeat (first|(with_reducible first|exact HK.out|apply KeepBut.set_|apply keep_drewN|apply keep_drew|apply keep_alloc)|exact HK.out)) (KeepBut.of_grown hg g) (Kd.R_base2 HO_8.out));clear HO_8;clear HI0;clear HB;clear HK;have HO_8:=n0_;have HI0:=n1_;have HB:=n2_;have HK:=n3_;clear n0_ n1_ n2_ n3_;clear hg hw hp_))
              (try simp only [← hl8_1])
              go_roundg k1
              case measure=>have:=HK1.out;omega
              case rel=>exact ⟨(y187),(wrap64 (x21_1 + 1)),(t184),(by first|rfl|(simp;done)|(simp [*];done)),H',⟨by have:=HK1.out;omega⟩,⟨by (try simp only [hl8_1]);(with_reducible repeat (first|apply ra|apply rb|apply rc));exact HO_8.out⟩,⟨by repeat (first|(with_reducible first|exact HI0.out|apply IsS58.alloc|apply IsS58.drewN|apply IsS58.drew|apply IsS58.set_1)|exact HI0.out)⟩,⟨by repeat (first|(with_reducible first|exact HK.out|apply KeepBut.set_|apply keep_drewN|apply keep_drew|apply keep_alloc)|exact HK.out)⟩,⟨by repeat (first|(with_reducible first|exact HB.out|apply ba|apply bb|apply bc|refine below_set ?_ (IsS58.ge HI0.out))|exact HB.out)⟩⟩
             ·
              rw [if_neg c56] at H
              exact absurd H (by simp)
            ·
             rw [if_neg c55] at H
             exact absurd H (by simp)
           ·
            rw [if_neg c54] at H
            exact absurd H (by simp)
          ·
           rw [if_neg c53] at H
           exact absurd H (by simp)
         ·
          rw [if_neg c50] at H
          have c50b0 : (t158 == 5) = false:=beq_eq_false_iff_ne.mpr c50
          have c50b1 : (t158 != 5) = true:=bne_iff_ne.mpr c50
          by_cases c61 : t158 = 6
          ·
           rw [if_pos c61] at H
           have c61b0 : (t158 == 6) = true:=beq_iff_eq.mpr c61
           have c61b1 : (t158 != 6) = false:=bne_eq_false_iff_eq.mpr c61
           clear c61
           by_cases c62 : 0 ≤ x21_1
           ·
            rw [if_pos c62] at H
            have c62b0 : decide (0 ≤ x21_1) = true:=decide_eq_true c62
            clear c62
            by_cases c63 : x21_1 < (x8_1.length : Int)
            ·
             rw [if_pos c63] at H
             have c63b0 : decide (x21_1 < (x8_1.length : Int)) = true:=decide_eq_true c63
             (try (have c63b0h:=c63b0;simp only [hl8_1] at c63b0h))
             clear c63
             replace H:=Option.bind_eq_some_iff.mp H
             obtain ⟨t189,A640,H⟩:=H
             replace H : (shapesearchkeep_Src_Near.l0 k1 l1 t158 t160 t162 (x8_1.set (x21_1 : Int).toNat t189) (y167.length : Int) (wrap64 (x21_1 + 1)) s0_0 x1001_1) = some (r1,r2):=H
             have A64:=A_ A640
             clear A640
             obtain ⟨y190,hy190⟩ : ∃ y_ : List Int,y_ = (x8_1.set (x21_1 : Int).toNat t189):=⟨_,rfl⟩
             replace H : (shapesearchkeep_Src_Near.l0 k1 l1 t158 t160 t162 y190 (y167.length : Int) (wrap64 (x21_1 + 1)) s0_0 x1001_1) = some (r1,r2):=by first|(rw [hy190];with_reducible exact H)|(have H2_:=(Option.bind_some _ _).symm.trans H;rw [hy190];with_reducible exact H2_)|(have H2_:=(Option.bind_some _ _).symm.trans H;with_reducible exact H2_)|with_reducible exact H|(rw [hy190];exact H)|exact H
             have Ny190:=A_ hy190
             clear hy190
             have H':=A_ H
             clear H
             have p188 : 0 ≤ (x21_1 : Int):=of_decide_eq_true (by first|(with_reducible assumption)|assumption)
             have q188 : x21_1 < (x8_1.length : Int):=of_decide_eq_true (by first|(with_reducible assumption)|assumption)
             obtain ⟨ad188,e188,hx188_0⟩:=Kd.at_int (rd_ HO_8.out).2.2 x21_1 p188 q188
             cases e188
             replace p188:=eq_true p188
             replace q188:=eq_true q188
             go_wp2_with (first|((with_reducible refine gate_callee (f:=39) rfl ?_);refine goesL_ (some 104) rfl rfl Try.func39 (by kernel_rfl) rfl #[.int .i64 (wrap64 (t160 - (wrap64 ((rd x8_1 x21_1) * t162))))] rfl (by (try simp only [List.map_toArray,List.map_cons,List.map_nil]);first|done|rfl|(simp only [List.length_drop,List.length_take];rfl)) ?_;(with_reducible refine (shapesearchkeep_clip.calls (wrap64 (t160 - (wrap64 ((rd x8_1 x21_1) * t162)))) t189 _ A64.out).mono ?_);rintro e w66 ⟨rfl,hb⟩;refine ⟨_,rfl,?_⟩;have n0_:=A_ (rw_ (by (with_reducible repeat (first|apply ra|apply rb|apply rc));exact HO_8.out) hb);have n1_:=A_ (IsS58.below (by repeat (first|(with_reducible first|exact HI0.out|apply IsS58.alloc|apply IsS58.drewN|apply IsS58.drew|apply IsS58.set_1)|exact HI0.out)) hb);have n2_:=A_ (KeepBut.trans (by repeat (first|(with_reducible first|exact HK.out|apply KeepBut.set_|apply keep_drewN|apply keep_drew|apply keep_alloc)|exact HK.out)) (KeepBut.of_below hb g none) (.inl rfl));have n3_:=A_ (below_step (by repeat (first|(with_reducible first|exact HB.out|apply ba|apply bb|apply bc|refine below_set ?_ (IsS58.ge HI0.out))|exact HB.out)) hb);clear HO_8;clear HI0;clear HK;clear HB;have HO_8:=n0_;have HI0:=n1_;have HK:=n2_;have HB:=n3_;clear n0_ n1_ n2_ n3_;(try clear hb);(try clear hb2);(try clear hk);(try clear hi);have p65 : 0 ≤ (x21_1 : Int):=of_decide_eq_true (by first|(with_reducible assumption)|assumption);have q65 : (x21_1 : Int) < ((x8_1.length : Int) : Int):=of_decide_eq_true (by first|(with_reducible assumption)|assumption);obtain ⟨go65,co65,eo65,gb65,gl65,cl65,HG65⟩:=Kd.R_form HO_8.out (by omega);(first|cases eo65|(injection eo65 with ea_ en_ ec_;(first|subst ea_|(injection ea_ with ea_;subst ea_));subst ec_;clear en_));have GB65:=A_ gb65;have GG65:=A_ HG65;clear gb65 gl65 HG65;(first|simp only [add_plain] at hx188_0|skip);obtain ⟨hx65_0,hf65_0⟩:=Kd.R_celln 0 HO_8.out (x21_1 : Int) p65 q65;replace p65:=eq_true p65;replace q65:=eq_true q65;obtain ⟨hy67_,hz67_⟩:=Kd.R_celln 0 HO_8.out (x21_1 : Int) (of_decide_eq_true (by first|(with_reducible assumption)|assumption)) (of_decide_eq_true (by first|(with_reducible assumption)|assumption));have HP67:=Kd.R_putg HO_8.out (x21_1 : Int) t189)|((with_reducible refine gate_store (t:=3) (p:=105) rfl ?_);refine store_event (t:=3) (p:=105) (v:=?vo_w68) (w1:=(w66.setCell ⟨go65,(x21_1 : Int).toNat,none⟩ (.int .i64 t189))) ?hg ?ho ?hn ?hr ?_;(case ho=>rfl);(case hg=>rfl);(case hn=>rfl);(case hr=>first|(go_simp;done)|(go_simp;rfl));intro w68 hw;have hg : w66.grownBy w68 (some go65):=(by rw [hw];exact HP67.2);have hp_ : Kd.R (Kd.int .i64) 3 w68 w.heap.size (fun _=>True) (.slice (some ⟨go65,0,none⟩) x8_1.length co13) y190:=(by rw [hw,Ny190.out];exact HP67.1);clear HP67;have n0_:=A_ (hp_);have n1_:=A_ (IsS58.grown (by repeat (first|(with_reducible first|exact HI0.out|apply IsS58.alloc|apply IsS58.drewN|apply IsS58.drew|apply IsS58.set_1)|exact HI0.out)) hg (IsS58.own_ne HI0.out HO_8.out (by decide)));have n2_:=A_ ((by rw [hw];exact below_set (HB.out) (Nat.le_trans HL.out GB65.out) : Below w0.heap.size w0 w68));have n3_:=A_ (KeepBut.trans (by repeat (first|(with_reducible first|exact HK.out|apply KeepBut.set_|apply keep_drewN|apply keep_drew|apply keep_alloc)|exact HK.out)) (KeepBut.of_grown hg g) (Kd.R_base2 HO_8.out));clear HO_8;clear HI0;clear HB;clear HK;have HO_8:=n0_;have HI0:=n1_;have HB:=n2_;have HK:=n3_;clear n0_ n1_ n2_ n3_;clear hg hw hp_))
             (try simp only [← hl8_1])
             go_roundg k1
             case measure=>have:=HK1.out;omega
             case rel=>exact ⟨(y190),(wrap64 (x21_1 + 1)),(x1001_1),(by first|rfl|(simp;done)|(simp [*];done)),H',⟨by have:=HK1.out;omega⟩,⟨by (try simp only [hl8_1]);(with_reducible repeat (first|apply ra|apply rb|apply rc));exact HO_8.out⟩,⟨by repeat (first|(with_reducible first|exact HI0.out|apply IsS58.alloc|apply IsS58.drewN|apply IsS58.drew|apply IsS58.set_1)|exact HI0.out)⟩,⟨by repeat (first|(with_reducible first|exact HK.out|apply KeepBut.set_|apply keep_drewN|apply keep_drew|apply keep_alloc)|exact HK.out)⟩,⟨by repeat (first|(with_reducible first|exact HB.out|apply ba|apply bb|apply bc|refine below_set ?_ (IsS58.ge HI0.out))|exact HB.out)⟩⟩
            ·
             rw [if_neg c63] at H
             exact absurd H (by simp)
           ·
            rw [if_neg c62] at H
            exact absurd H (by simp)
          ·
           rw [if_neg c61] at H
           have c61b0 : (t158 == 6) = false:=beq_eq_false_iff_ne.mpr c61
           have c61b1 : (t158 != 6) = true:=bne_iff_ne.mpr c61
           have H':=A_ H
           clear H
           go_wp2
           (try simp only [← hl8_1])
           go_roundg k1
           case measure=>have:=HK1.out;omega
           case rel=>exact ⟨(x8_1),(wrap64 (x21_1 + 1)),(x1001_1),(by first|rfl|(simp;done)|(simp [*];done)),H',⟨by have:=HK1.out;omega⟩,⟨by (try simp only [hl8_1]);(with_reducible repeat (first|apply ra|apply rb|apply rc));exact HO_8.out⟩,⟨by repeat (first|(with_reducible first|exact HI0.out|apply IsS58.alloc|apply IsS58.drewN|apply IsS58.drew|apply IsS58.set_1)|exact HI0.out)⟩,⟨by repeat (first|(with_reducible first|exact HK.out|apply KeepBut.set_|apply keep_drewN|apply keep_drew|apply keep_alloc)|exact HK.out)⟩,⟨by repeat (first|(with_reducible first|exact HB.out|apply ba|apply bb|apply bc|refine below_set ?_ (IsS58.ge HI0.out))|exact HB.out)⟩⟩
    ·
     rw [if_neg c14] at H
     have c14b0 : decide (x21_1 < (y167.length : Int)) = false:=decide_eq_false c14
     (try (have c14b0h:=c14b0;simp only [hl8_1] at c14b0h))
     clear c14
     simp only [Option.some.injEq,Prod.mk.injEq] at H
     obtain ⟨rfl,rfl⟩:=H
     go_wp2
     go_ret
     exact ⟨_,by first|rfl|(simp [errW_none,errW_some] <;> rfl)|(simp [*,errW_none,errW_some] <;> rfl),by (with_reducible repeat (first|apply ra|apply rb|apply rc));exact HO_8.out,by repeat (first|(with_reducible first|exact HI0.out|apply IsS58.alloc|apply IsS58.drewN|apply IsS58.drew|apply IsS58.set_1)|exact HI0.out),by repeat (first|(with_reducible first|exact HB.out|apply ba|apply bb|apply bc|refine below_set ?_ (IsS58.ge HI0.out))|exact HB.out),by repeat (first|(with_reducible first|exact HK.out|apply KeepBut.set_|apply keep_drewN|apply keep_drew|apply keep_alloc)|exact HK.out)⟩
 ·
  rw [if_neg c6] at H
  exact absurd H (by simp)

/-! ### shapesearchkeep_Src_Pair: function 10 -/
def shapesearchkeep_Src_Pair.f (k : Nat) (s0_0 : List Int) (s0_1 : Int) : Option (List Int × List Int × Int):=(shapesearchkeep_Src_Length.f s0_0 s0_1).bind fun bt191=>((shapesearchkeep_Src_List.f k s0_0 bt191.2 bt191.1).bind fun bt193=>((shapesearchkeep_Src_N.f s0_0 bt193.2 3).bind fun bt197=>(if bt197.1 = 0 then ((shapesearchkeep_Src_List.f k s0_0 bt197.2 (bt193.1.length : Int)).bind fun bt199=>(some (bt193.1,bt199.1,bt199.2))) else ((shapesearchkeep_Src_Near.f k s0_0 bt197.2 bt193.1).bind fun bt203=>(some (bt193.1,bt203.1,bt203.2))))))
theorem shapesearchkeep_Src_Pair.mono : ∀ a0 a1 k,LeO (shapesearchkeep_Src_Pair.f k a0 a1) (shapesearchkeep_Src_Pair.f (k + 1) a0 a1):=by
 intro a0 a1 k
 unfold shapesearchkeep_Src_Pair.f
 repeat' first
   | (with_reducible exact shapesearchkeep_Src_List.mono _ _ _ _)
   | (with_reducible exact shapesearchkeep_Src_Near.mono _ _ _ _)
   | (with_reducible exact LeO.refl _)
   | (with_reducible exact LeO.none _)
   | (with_reducible refine LeO.ite ?_ ?_)
   | (with_reducible refine LeO.bind ?_ (fun _=>?_))
   | exact shapesearchkeep_Src_List.mono _ _ _ _
   | exact shapesearchkeep_Src_Near.mono _ _ _ _
   | exact LeO.none _
   | refine LeO.ite ?_ ?_
   | refine LeO.bind ?_ (fun _=>?_)
set_option maxHeartbeats 8000000 in
set_option maxRecDepth 100000 in
theorem shapesearchkeep_Src_Pair.calls (k : Nat) (g : Nat) (s0_0 : List Int) (s0_1 : Int) (r1 : List Int) (r2 : List Int) (r3 : Int) (w0 w : World) (hI : IsS58 w0 w g s0_0 s0_1) (hB : Below w0.heap.size w0 w) (h : shapesearchkeep_Src_Pair.f k s0_0 s0_1 = some (r1,r2,r3)) :
  Calls Try.prog 10 #[.pointer (some ⟨g,0,none⟩)] w fun e w'=>∃ v0_ v1_ : Value,e = .returned (.tuple #[v0_,v1_])∧Kd.R (Kd.int .i64) 3 w' w.heap.size (fun k_=>some k_≠(v1_ : Value).ownBlock) v0_ r1∧Kd.R (Kd.int .i64) 3 w' w.heap.size (fun k_=>some k_≠(v0_ : Value).ownBlock) v1_ r2∧IsS58 w0 w' g s0_0 r3∧Below w0.heap.size w0 w'∧KeepBut w w' g none:=by
 have HI0:=A_ hI
 have HK:=A_ (KeepBut.refl w g none)
 have HL:=A_ hB.size
 clear hI
 have HW0:=A_ hB.size
 have HB:=A_ hB
 clear hB
 have H : ((shapesearchkeep_Src_Length.f s0_0 s0_1).bind fun bt191=>((shapesearchkeep_Src_List.f k s0_0 bt191.2 bt191.1).bind fun bt193=>((shapesearchkeep_Src_N.f s0_0 bt193.2 3).bind fun bt197=>(if bt197.1 = 0 then ((shapesearchkeep_Src_List.f k s0_0 bt197.2 (bt193.1.length : Int)).bind fun bt199=>(some (bt193.1,bt199.1,bt199.2))) else ((shapesearchkeep_Src_Near.f k s0_0 bt197.2 bt193.1).bind fun bt203=>(some (bt193.1,bt203.1,bt203.2))))))) = some (r1,r2,r3):=h
 clear h
 replace H:=Option.bind_eq_some_iff.mp H
 obtain ⟨⟨t191,t192⟩,A20,H⟩:=H
 replace H : ((shapesearchkeep_Src_List.f k s0_0 t192 t191).bind fun bt193=>((shapesearchkeep_Src_N.f s0_0 bt193.2 3).bind fun bt197=>(if bt197.1 = 0 then ((shapesearchkeep_Src_List.f k s0_0 bt197.2 (bt193.1.length : Int)).bind fun bt199=>(some (bt193.1,bt199.1,bt199.2))) else ((shapesearchkeep_Src_Near.f k s0_0 bt197.2 bt193.1).bind fun bt203=>(some (bt193.1,bt203.1,bt203.2)))))) = some (r1,r2,r3):=H
 have A2:=A_ A20
 clear A20
 replace H:=Option.bind_eq_some_iff.mp H
 obtain ⟨⟨t193,t196⟩,A30,H⟩:=H
 replace H : ((shapesearchkeep_Src_N.f s0_0 t196 3).bind fun bt197=>(if bt197.1 = 0 then ((shapesearchkeep_Src_List.f k s0_0 bt197.2 (t193.length : Int)).bind fun bt199=>(some (t193,bt199.1,bt199.2))) else ((shapesearchkeep_Src_Near.f k s0_0 bt197.2 t193).bind fun bt203=>(some (t193,bt203.1,bt203.2))))) = some (r1,r2,r3):=H
 have A3:=A_ A30
 clear A30
 replace H:=Option.bind_eq_some_iff.mp H
 obtain ⟨⟨t197,t198⟩,A40,H⟩:=H
 replace H : (if t197 = 0 then ((shapesearchkeep_Src_List.f k s0_0 t198 (t193.length : Int)).bind fun bt199=>(some (t193,bt199.1,bt199.2))) else ((shapesearchkeep_Src_Near.f k s0_0 t198 t193).bind fun bt203=>(some (t193,bt203.1,bt203.2)))) = some (r1,r2,r3):=H
 have A4:=A_ A40
 clear A40
 by_cases c5 : t197 = 0
 ·
  rw [if_pos c5] at H
  have c5b0 : (t197 == 0) = true:=beq_iff_eq.mpr c5
  have c5b1 : (t197 != 0) = false:=bne_eq_false_iff_eq.mpr c5
  clear c5
  replace H:=Option.bind_eq_some_iff.mp H
  obtain ⟨⟨t199,t202⟩,A60,H⟩:=H
  replace H : (some (t193,t199,t202)) = some (r1,r2,r3):=H
  have A6:=A_ A60
  clear A60
  simp only [Option.some.injEq,Prod.mk.injEq] at H
  obtain ⟨rfl,rfl,rfl⟩:=H
  go_enter Try.func10,Try.ntmps10
  go_wp2_with (first|((with_reducible refine gate_callee (f:=31) rfl ?_);refine goesL_ (some 7) rfl rfl Try.func31 (by kernel_rfl) rfl #[.pointer (some ⟨g,0,none⟩)] rfl (by (try simp only [List.map_toArray,List.map_cons,List.map_nil]);first|done|rfl|(simp only [List.length_drop,List.length_take];rfl)) ?_;(with_reducible refine (shapesearchkeep_Src_Length.calls g s0_0 s0_1 t191 t192 w0 _ ?side1 ?side2 A2.out).mono ?_);(case side1=>repeat (first|(with_reducible first|exact HI0.out|apply IsS58.alloc|apply IsS58.drewN|apply IsS58.drew|apply IsS58.set_1)|exact HI0.out));(case side2=>repeat (first|(with_reducible first|exact HB.out|apply ba|apply bb|apply bc|refine below_set ?_ (IsS58.ge HI0.out))|exact HB.out));rintro e w7 ⟨rfl,hi,hb,hk⟩;refine ⟨_,rfl,?_⟩;have n0_:=A_ (KeepBut.trans (by repeat (first|(with_reducible first|exact HK.out|apply KeepBut.set_|apply keep_drewN|apply keep_drew|apply keep_alloc)|exact HK.out)) hk (.inl rfl));have n1_:=A_ (hb);have n2_:=A_ (hi);clear HK;clear HB;clear HI0;have HK:=n0_;have HB:=n1_;have HI0:=n2_;clear n0_ n1_ n2_;(try clear hb);(try clear hb2);(try clear hk);(try clear hi))|((with_reducible refine gate_callee (f:=19) rfl ?_);refine goesL_ (some 8) rfl rfl Try.func19 (by kernel_rfl) rfl #[.pointer (some ⟨g,0,none⟩),.int .i64 t191] rfl (by (try simp only [List.map_toArray,List.map_cons,List.map_nil]);first|done|rfl|(simp only [List.length_drop,List.length_take];rfl)) ?_;(with_reducible refine (shapesearchkeep_Src_List.calls k g s0_0 t192 t191 t193 t196 w0 _ ?side1 ?side2 A3.out).mono ?_);(case side1=>repeat (first|(with_reducible first|exact HI0.out|apply IsS58.alloc|apply IsS58.drewN|apply IsS58.drew|apply IsS58.set_1)|exact HI0.out));(case side2=>repeat (first|(with_reducible first|exact HB.out|apply ba|apply bb|apply bc|refine below_set ?_ (IsS58.ge HI0.out))|exact HB.out));rintro e w8 ⟨v194,rfl,ho0,hi,hb,hk⟩;refine ⟨_,rfl,?_⟩;have n0_:=A_ (Kd.R_lower ho0 (keep_size (w:=w) (g:=g) (row:=none) (by repeat (first|(with_reducible first|exact HK.out|apply KeepBut.set_|apply keep_drewN|apply keep_drew|apply keep_alloc)|exact HK.out))));have n1_:=A_ (KeepBut.trans (by repeat (first|(with_reducible first|exact HK.out|apply KeepBut.set_|apply keep_drewN|apply keep_drew|apply keep_alloc)|exact HK.out)) hk (.inl rfl));have n2_:=A_ (hb);have n3_:=A_ (hi);clear HK;clear HB;clear HI0;have HO195:=n0_;have HK:=n1_;have HB:=n2_;have HI0:=n3_;clear n0_ n1_ n2_ n3_;(try clear hb);(try clear hb2);(try clear hk);(try clear hi);(try clear ho0))|((with_reducible refine gate_callee (f:=23) rfl ?_);refine goesL_ (some 10) rfl rfl Try.func23 (by kernel_rfl) rfl #[.pointer (some ⟨g,0,none⟩),.int .i64 3] rfl (by (try simp only [List.map_toArray,List.map_cons,List.map_nil]);first|done|rfl|(simp only [List.length_drop,List.length_take];rfl)) ?_;(with_reducible refine (shapesearchkeep_Src_N.calls g s0_0 t196 3 t197 t198 w0 _ ?side1 ?side2 A4.out).mono ?_);(case side1=>repeat (first|(with_reducible first|exact HI0.out|apply IsS58.alloc|apply IsS58.drewN|apply IsS58.drew|apply IsS58.set_1)|exact HI0.out));(case side2=>repeat (first|(with_reducible first|exact HB.out|apply ba|apply bb|apply bc|refine below_set ?_ (IsS58.ge HI0.out))|exact HB.out));rintro e w9 ⟨rfl,hi,hb,hk⟩;refine ⟨_,rfl,?_⟩;have n0_:=A_ (rm (Kd.R_keep (IsS58.apart (show IsS58 w0 _ g s0_0 t196 from by repeat (first|(with_reducible first|exact HI0.out|apply IsS58.alloc|apply IsS58.drewN|apply IsS58.drew|apply IsS58.set_1)|exact HI0.out)) (by (with_reducible repeat (first|apply ra|apply rb|apply rc));exact HO195.out) (by decide)) hk (fun _ h=>h.2)) (fun _ h=>h.1));have n1_:=A_ (KeepBut.trans (by repeat (first|(with_reducible first|exact HK.out|apply KeepBut.set_|apply keep_drewN|apply keep_drew|apply keep_alloc)|exact HK.out)) hk (.inl rfl));have n2_:=A_ (hb);have n3_:=A_ (hi);clear HO195;clear HK;clear HB;clear HI0;have HO195:=n0_;have HK:=n1_;have HB:=n2_;have HI0:=n3_;clear n0_ n1_ n2_ n3_;(try clear hb);(try clear hb2);(try clear hk);(try clear hi);obtain ⟨Ao10,co10,eo10⟩:=Kd.R_slice HO195.out;subst eo10)|((with_reducible refine gate_callee (f:=19) rfl ?_);refine goesL_ (some 16) rfl rfl Try.func19 (by kernel_rfl) rfl #[.pointer (some ⟨g,0,none⟩),.int .i64 (t193.length : Int)] rfl (by (try simp only [List.map_toArray,List.map_cons,List.map_nil]);first|done|rfl|(simp only [List.length_drop,List.length_take];rfl)) ?_;(with_reducible refine (shapesearchkeep_Src_List.calls k g s0_0 t198 (t193.length : Int) t199 t202 w0 _ ?side1 ?side2 A6.out).mono ?_);(case side1=>repeat (first|(with_reducible first|exact HI0.out|apply IsS58.alloc|apply IsS58.drewN|apply IsS58.drew|apply IsS58.set_1)|exact HI0.out));(case side2=>repeat (first|(with_reducible first|exact HB.out|apply ba|apply bb|apply bc|refine below_set ?_ (IsS58.ge HI0.out))|exact HB.out));rintro e w11 ⟨v200,rfl,ho0,hi,hb,hk⟩;refine ⟨_,rfl,?_⟩;have n0_:=A_ (rm (Kd.R_told (Kd.R_oldK (IsS58.apart (show IsS58 w0 _ g s0_0 t198 from by repeat (first|(with_reducible first|exact HI0.out|apply IsS58.alloc|apply IsS58.drewN|apply IsS58.drew|apply IsS58.set_1)|exact HI0.out)) (by (with_reducible repeat (first|apply ra|apply rb|apply rc));exact HO195.out) (by decide)) hk) (rs ho0)) (fun _ h_=>h_.1));have n1_:=A_ (Kd.R_lower (rn ho0 (rl (by (with_reducible repeat (first|apply ra|apply rb|apply rc));exact HO195.out))) (keep_size (w:=w) (g:=g) (row:=none) (by repeat (first|(with_reducible first|exact HK.out|apply KeepBut.set_|apply keep_drewN|apply keep_drew|apply keep_alloc)|exact HK.out))));have n2_:=A_ (KeepBut.trans (by repeat (first|(with_reducible first|exact HK.out|apply KeepBut.set_|apply keep_drewN|apply keep_drew|apply keep_alloc)|exact HK.out)) hk (.inl rfl));have n3_:=A_ (hb);have n4_:=A_ (hi);clear HO195;clear HK;clear HB;clear HI0;have HO195:=n0_;have HO201:=n1_;have HK:=n2_;have HB:=n3_;have HI0:=n4_;clear n0_ n1_ n2_ n3_ n4_;(try clear hb);(try clear hb2);(try clear hk);(try clear hi);(try clear ho0)))
  go_ret2
  exact ⟨_,_,by first|rfl|(simp [errW_none,errW_some] <;> rfl)|(simp [*,errW_none,errW_some] <;> rfl),by (with_reducible repeat (first|apply ra|apply rb|apply rc));exact rm HO195.out (fun _ hk=>hk.2),by (with_reducible repeat (first|apply ra|apply rb|apply rc));exact rm HO201.out (fun _ hk=>hk.2),by repeat (first|(with_reducible first|exact HI0.out|apply IsS58.alloc|apply IsS58.drewN|apply IsS58.drew|apply IsS58.set_1)|exact HI0.out),by repeat (first|(with_reducible first|exact HB.out|apply ba|apply bb|apply bc|refine below_set ?_ (IsS58.ge HI0.out))|exact HB.out),by repeat (first|(with_reducible first|exact HK.out|apply KeepBut.set_|apply keep_drewN|apply keep_drew|apply keep_alloc)|exact HK.out)⟩
 ·
  rw [if_neg c5] at H
  have c5b0 : (t197 == 0) = false:=beq_eq_false_iff_ne.mpr c5
  have c5b1 : (t197 != 0) = true:=bne_iff_ne.mpr c5
  replace H:=Option.bind_eq_some_iff.mp H
  obtain ⟨⟨t203,t206⟩,A120,H⟩:=H
  replace H : (some (t193,t203,t206)) = some (r1,r2,r3):=H
  have A12:=A_ A120
  clear A120
  simp only [Option.some.injEq,Prod.mk.injEq] at H
  obtain ⟨rfl,rfl,rfl⟩:=H
  go_enter Try.func10,Try.ntmps10
  go_wp2_with (first|((with_reducible refine gate_callee (f:=31) rfl ?_);refine goesL_ (some 7) rfl rfl Try.func31 (by kernel_rfl) rfl #[.pointer (some ⟨g,0,none⟩)] rfl (by (try simp only [List.map_toArray,List.map_cons,List.map_nil]);first|done|rfl|(simp only [List.length_drop,List.length_take];rfl)) ?_;(with_reducible refine (shapesearchkeep_Src_Length.calls g s0_0 s0_1 t191 t192 w0 _ ?side1 ?side2 A2.out).mono ?_);(case side1=>repeat (first|(with_reducible first|exact HI0.out|apply IsS58.alloc|apply IsS58.drewN|apply IsS58.drew|apply IsS58.set_1)|exact HI0.out));(case side2=>repeat (first|(with_reducible first|exact HB.out|apply ba|apply bb|apply bc|refine below_set ?_ (IsS58.ge HI0.out))|exact HB.out));rintro e w13 ⟨rfl,hi,hb,hk⟩;refine ⟨_,rfl,?_⟩;have n0_:=A_ (KeepBut.trans (by repeat (first|(with_reducible first|exact HK.out|apply KeepBut.set_|apply keep_drewN|apply keep_drew|apply keep_alloc)|exact HK.out)) hk (.inl rfl));have n1_:=A_ (hb);have n2_:=A_ (hi);clear HK;clear HB;clear HI0;have HK:=n0_;have HB:=n1_;have HI0:=n2_;clear n0_ n1_ n2_;(try clear hb);(try clear hb2);(try clear hk);(try clear hi))|((with_reducible refine gate_callee (f:=19) rfl ?_);refine goesL_ (some 8) rfl rfl Try.func19 (by kernel_rfl) rfl #[.pointer (some ⟨g,0,none⟩),.int .i64 t191] rfl (by (try simp only [List.map_toArray,List.map_cons,List.map_nil]);first|done|rfl|(simp only [List.length_drop,List.length_take];rfl)) ?_;(with_reducible refine (shapesearchkeep_Src_List.calls k g s0_0 t192 t191 t193 t196 w0 _ ?side1 ?side2 A3.out).mono ?_);(case side1=>repeat (first|(with_reducible first|exact HI0.out|apply IsS58.alloc|apply IsS58.drewN|apply IsS58.drew|apply IsS58.set_1)|exact HI0.out));(case side2=>repeat (first|(with_reducible first|exact HB.out|apply ba|apply bb|apply bc|refine below_set ?_ (IsS58.ge HI0.out))|exact HB.out));rintro e w14 ⟨v194,rfl,ho0,hi,hb,hk⟩;refine ⟨_,rfl,?_⟩;have n0_:=A_ (Kd.R_lower ho0 (keep_size (w:=w) (g:=g) (row:=none) (by repeat (first|(with_reducible first|exact HK.out|apply KeepBut.set_|apply keep_drewN|apply keep_drew|apply keep_alloc)|exact HK.out))));have n1_:=A_ (KeepBut.trans (by repeat (first|(with_reducible first|exact HK.out|apply KeepBut.set_|apply keep_drewN|apply keep_drew|apply keep_alloc)|exact HK.out)) hk (.inl rfl));have n2_:=A_ (hb);have n3_:=A_ (hi);clear HK;clear HB;clear HI0;have HO195:=n0_;have HK:=n1_;have HB:=n2_;have HI0:=n3_;clear n0_ n1_ n2_ n3_;(try clear hb);(try clear hb2);(try clear hk);(try clear hi);(try clear ho0))|((with_reducible refine gate_callee (f:=23) rfl ?_);refine goesL_ (some 10) rfl rfl Try.func23 (by kernel_rfl) rfl #[.pointer (some ⟨g,0,none⟩),.int .i64 3] rfl (by (try simp only [List.map_toArray,List.map_cons,List.map_nil]);first|done|rfl|(simp only [List.length_drop,List.length_take];rfl)) ?_;(with_reducible refine (shapesearchkeep_Src_N.calls g s0_0 t196 3 t197 t198 w0 _ ?side1 ?side2 A4.out).mono ?_);(case side1=>repeat (first|(with_reducible first|exact HI0.out|apply IsS58.alloc|apply IsS58.drewN|apply IsS58.drew|apply IsS58.set_1)|exact HI0.out));(case side2=>repeat (first|(with_reducible first|exact HB.out|apply ba|apply bb|apply bc|refine below_set ?_ (IsS58.ge HI0.out))|exact HB.out));rintro e w15 ⟨rfl,hi,hb,hk⟩;refine ⟨_,rfl,?_⟩;have n0_:=A_ (rm (Kd.R_keep (IsS58.apart (show IsS58 w0 _ g s0_0 t196 from by repeat (first|(with_reducible first|exact HI0.out|apply IsS58.alloc|apply IsS58.drewN|apply IsS58.drew|apply IsS58.set_1)|exact HI0.out)) (by (with_reducible repeat (first|apply ra|apply rb|apply rc));exact HO195.out) (by decide)) hk (fun _ h=>h.2)) (fun _ h=>h.1));have n1_:=A_ (KeepBut.trans (by repeat (first|(with_reducible first|exact HK.out|apply KeepBut.set_|apply keep_drewN|apply keep_drew|apply keep_alloc)|exact HK.out)) hk (.inl rfl));have n2_:=A_ (hb);have n3_:=A_ (hi);clear HO195;clear HK;clear HB;clear HI0;have HO195:=n0_;have HK:=n1_;have HB:=n2_;have HI0:=n3_;clear n0_ n1_ n2_ n3_;(try clear hb);(try clear hb2);(try clear hk);(try clear hi);obtain ⟨Ao16,co16,eo16⟩:=Kd.R_slice HO195.out;subst eo16)|((with_reducible refine gate_callee (f:=32) rfl ?_);refine goesL_ (some 20) rfl rfl Try.func32 (by kernel_rfl) rfl #[.pointer (some ⟨g,0,none⟩),.slice Ao16 t193.length co16] rfl (by (try simp only [List.map_toArray,List.map_cons,List.map_nil]);first|done|rfl|(simp only [List.length_drop,List.length_take];rfl)) ?_;(with_reducible refine (shapesearchkeep_Src_Near.calls k g s0_0 t198 _ _ t193 t203 t206 w0 _ ?side1 ?side2 ?side3 ?side4 ?side5 A12.out).mono ?_);(case side1=>repeat (first|(with_reducible first|exact HI0.out|apply IsS58.alloc|apply IsS58.drewN|apply IsS58.drew|apply IsS58.set_1)|exact HI0.out));(case side2=>repeat (first|(with_reducible first|exact HB.out|apply ba|apply bb|apply bc|refine below_set ?_ (IsS58.ge HI0.out))|exact HB.out));(case side3=>repeat (first|exact (rd_ HO195.out).2.2|(with_reducible refine ca ?_ _)|(with_reducible refine cb ?_ _)|(with_reducible refine cc ?_)));(case side4=>exact (rd_ HO195.out).2.1);(case side5=>exact far_slice (IsS58.own_ne HI0.out HO195.out (by decide)));rintro e w17 ⟨v204,rfl,ho0,hi,hb,hk⟩;refine ⟨_,rfl,?_⟩;have n0_:=A_ (rm (Kd.R_told (Kd.R_oldK (IsS58.apart (show IsS58 w0 _ g s0_0 t198 from by repeat (first|(with_reducible first|exact HI0.out|apply IsS58.alloc|apply IsS58.drewN|apply IsS58.drew|apply IsS58.set_1)|exact HI0.out)) (by (with_reducible repeat (first|apply ra|apply rb|apply rc));exact HO195.out) (by decide)) hk) (rs ho0)) (fun _ h_=>h_.1));have n1_:=A_ (Kd.R_lower (rn ho0 (rl (by (with_reducible repeat (first|apply ra|apply rb|apply rc));exact HO195.out))) (keep_size (w:=w) (g:=g) (row:=none) (by repeat (first|(with_reducible first|exact HK.out|apply KeepBut.set_|apply keep_drewN|apply keep_drew|apply keep_alloc)|exact HK.out))));have n2_:=A_ (KeepBut.trans (by repeat (first|(with_reducible first|exact HK.out|apply KeepBut.set_|apply keep_drewN|apply keep_drew|apply keep_alloc)|exact HK.out)) hk (.inl rfl));have n3_:=A_ (hb);have n4_:=A_ (hi);clear HO195;clear HK;clear HB;clear HI0;have HO195:=n0_;have HO205:=n1_;have HK:=n2_;have HB:=n3_;have HI0:=n4_;clear n0_ n1_ n2_ n3_ n4_;(try clear hb);(try clear hb2);(try clear hk);(try clear hi);(try clear ho0)))
  go_ret2
  exact ⟨_,_,by first|rfl|(simp [errW_none,errW_some] <;> rfl)|(simp [*,errW_none,errW_some] <;> rfl),by (with_reducible repeat (first|apply ra|apply rb|apply rc));exact rm HO195.out (fun _ hk=>hk.2),by (with_reducible repeat (first|apply ra|apply rb|apply rc));exact rm HO205.out (fun _ hk=>hk.2),by repeat (first|(with_reducible first|exact HI0.out|apply IsS58.alloc|apply IsS58.drewN|apply IsS58.drew|apply IsS58.set_1)|exact HI0.out),by repeat (first|(with_reducible first|exact HB.out|apply ba|apply bb|apply bc|refine below_set ?_ (IsS58.ge HI0.out))|exact HB.out),by repeat (first|(with_reducible first|exact HK.out|apply KeepBut.set_|apply keep_drewN|apply keep_drew|apply keep_alloc)|exact HK.out)⟩

/-! ### euclid_length: function 55 -/
def euclid_length.f (l0 : List Int) : Option (Bool):=if (l0.length : Int) ≥ 2 then (some (decide ((l0.length : Int) ≤ 32))) else (some false)
set_option maxHeartbeats 8000000 in
set_option maxRecDepth 100000 in
theorem euclid_length.calls (A0 : Option Addr) (c0 : Nat) (l0 : List Int) (r : Bool) (w : World) (hr0 : Kd.C (Kd.int .i64) w A0 l0.length l0) (hc0 : l0.length ≤ c0) (h : euclid_length.f l0 = some r) :
  Calls Try.prog 55 #[.slice A0 l0.length c0] w fun e w'=>e = .returned (.bool r)∧Drawn0 w w':=by
 have HR0:=A_ hr0
 have HC0:=A_ hc0
 clear hr0 hc0
 have H : (if (l0.length : Int) ≥ 2 then (some (decide ((l0.length : Int) ≤ 32))) else (some false)) = some r:=h
 clear h
 by_cases c2 : (l0.length : Int) ≥ 2
 ·
  rw [if_pos c2] at H
  have c2b0 : decide (2 ≤ (l0.length : Int)) = true:=decide_eq_true c2
  have c2b1 : decide (2 ≤ l0.length) = true:=decide_eq_true (by omega)
  clear c2
  obtain rfl:=Option.some.inj H
  go_enter Try.func55,Try.ntmps55
  go_wp2
  go_ret
  exact ⟨by first|rfl|(simp;done)|(simp [*];done),by repeat (first|exact Drawn0.refl _|apply Drawn0.step)⟩
 ·
  rw [if_neg c2] at H
  have c2b0 : decide (2 ≤ (l0.length : Int)) = false:=decide_eq_false c2
  have c2b1 : decide (2 ≤ l0.length) = false:=decide_eq_false (by omega)
  clear c2
  obtain rfl:=Option.some.inj H
  go_enter Try.func55,Try.ntmps55
  go_wp2
  go_ret
  exact ⟨by first|rfl|(simp;done)|(simp [*];done),by repeat (first|exact Drawn0.refl _|apply Drawn0.step)⟩

/-! ### euclid_samples: function 56 -/
def euclid_samples.l0 : Nat → List Int → Int → Int → Option (Bool)
 | 0,_,_,_=>none
 | k + 1,x5,x6,x7=>if x7 < x6 then (if 0 ≤ x7 then (if x7 < (x5.length : Int) then (if (rd x5 x7) < (-1000) then (some false) else (if (rd x5 x7) > 1000 then (some false) else (euclid_samples.l0 k x5 x6 (wrap64 (x7 + 1))))) else (none)) else (none)) else (some true)
def euclid_samples.f (k : Nat) (l0 : List Int) : Option (Bool):=euclid_samples.l0 k l0 (l0.length : Int) 0
theorem euclid_samples.mono_l : ∀ k,(∀ y0 y1 y2,LeO (euclid_samples.l0 k y0 y1 y2) (euclid_samples.l0 (k + 1) y0 y1 y2))
 | 0=>fun _ _ _ r h=>by simp [euclid_samples.l0] at h
 | k + 1=>by
  have ih0:=euclid_samples.mono_l k
  ·
   intro y0 y1 y2
   unfold euclid_samples.l0
   repeat' first
   | (with_reducible exact ih0 _ _ _)
   | (with_reducible exact LeO.refl _)
   | (with_reducible exact LeO.none _)
   | (with_reducible refine LeO.ite ?_ ?_)
   | (with_reducible refine LeO.bind ?_ (fun _=>?_))
   | exact ih0 _ _ _
   | exact LeO.none _
   | refine LeO.ite ?_ ?_
   | refine LeO.bind ?_ (fun _=>?_)
theorem euclid_samples.mono : ∀ a0 k,LeO (euclid_samples.f k a0) (euclid_samples.f (k + 1) a0):=by
 intro a0 k
 have ih0:=euclid_samples.mono_l k
 unfold euclid_samples.f
 repeat' first
   | (with_reducible exact ih0 _ _ _)
   | (with_reducible exact LeO.refl _)
   | (with_reducible exact LeO.none _)
   | (with_reducible refine LeO.ite ?_ ?_)
   | (with_reducible refine LeO.bind ?_ (fun _=>?_))
   | exact ih0 _ _ _
   | exact LeO.none _
   | refine LeO.ite ?_ ?_
   | refine LeO.bind ?_ (fun _=>?_)
set_option maxHeartbeats 8000000 in
set_option maxRecDepth 100000 in
theorem euclid_samples.calls (k : Nat) (A0 : Option Addr) (c0 : Nat) (l0 : List Int) (r : Bool) (w : World) (hr0 : Kd.C (Kd.int .i64) w A0 l0.length l0) (hc0 : l0.length ≤ c0) (h : euclid_samples.f k l0 = some r) :
  Calls Try.prog 56 #[.slice A0 l0.length c0] w fun e w'=>e = .returned (.bool r)∧Drawn0 w w':=by
 have HR0:=A_ hr0
 have HC0:=A_ hc0
 clear hr0 hc0
 have H : (euclid_samples.l0 k l0 (l0.length : Int) 0) = some r:=h
 clear h
 have H':=A_ H
 clear H
 go_enter Try.func56,Try.ntmps56
 go_wp2
 go_loopg [7] k (fun kq v7 w'=>∃ (x7_1 : Int),v7 = .int .i64 x7_1∧Aside0 (euclid_samples.l0 kq l0 (l0.length : Int) x7_1 = some r)∧Aside0 (kq ≤ k)∧Drawn0 w w')
 case atStart=>exact ⟨(0),(by first|rfl|(simp;done)|(simp [*];done)),H',⟨Nat.le_refl _⟩,by repeat (first|exact Drawn0.refl _|apply Drawn0.step)⟩
 case round =>
  clear H'
  obtain ⟨x7_1,rfl,HA,HK1,⟨m1,rfl⟩⟩:=hrel
  cases gk with
  | zero=>exact absurd HA.out (by simp [euclid_samples.l0])
  | succ k1 =>
   have H:=HA.out
   clear HA
   simp only [euclid_samples.l0] at H
   by_cases c2 : x7_1 < (l0.length : Int)
   ·
    rw [if_pos c2] at H
    have c2b0 : decide (x7_1 < (l0.length : Int)) = true:=decide_eq_true c2
    clear c2
    by_cases c3 : 0 ≤ x7_1
    ·
     rw [if_pos c3] at H
     have c3b0 : decide (0 ≤ x7_1) = true:=decide_eq_true c3
     clear c3
     by_cases c4 : x7_1 < (l0.length : Int)
     ·
      rw [if_pos c4] at H
      have c4b0 : decide (x7_1 < (l0.length : Int)) = true:=decide_eq_true c4
      clear c4
      by_cases c5 : (rd l0 x7_1) < (-1000)
      ·
       rw [if_pos c5] at H
       have c5b0 : decide ((rd l0 x7_1) < (-1000)) = true:=decide_eq_true c5
       clear c5
       obtain rfl:=Option.some.inj H
       have p207 : 0 ≤ (x7_1 : Int):=of_decide_eq_true (by first|(with_reducible assumption)|assumption)
       have q207 : x7_1 < (l0.length : Int):=of_decide_eq_true (by first|(with_reducible assumption)|assumption)
       obtain ⟨ad207,e207,hx207_0⟩:=Kd.at_int HR0.out x7_1 p207 q207
       cases e207
       replace p207:=eq_true p207
       replace q207:=eq_true q207
       go_wp2
       go_ret
       exact ⟨by first|rfl|(simp;done)|(simp [*];done),by repeat (first|exact Drawn0.refl _|apply Drawn0.step)⟩
      ·
       rw [if_neg c5] at H
       have c5b0 : decide ((rd l0 x7_1) < (-1000)) = false:=decide_eq_false c5
       clear c5
       by_cases c6 : (rd l0 x7_1) > 1000
       ·
        rw [if_pos c6] at H
        have c6b0 : decide (1000 < (rd l0 x7_1)) = true:=decide_eq_true c6
        clear c6
        obtain rfl:=Option.some.inj H
        have p207 : 0 ≤ (x7_1 : Int):=of_decide_eq_true (by first|(with_reducible assumption)|assumption)
        have q207 : x7_1 < (l0.length : Int):=of_decide_eq_true (by first|(with_reducible assumption)|assumption)
        obtain ⟨ad207,e207,hx207_0⟩:=Kd.at_int HR0.out x7_1 p207 q207
        cases e207
        replace p207:=eq_true p207
        replace q207:=eq_true q207
        go_wp2
        go_ret
        exact ⟨by first|rfl|(simp;done)|(simp [*];done),by repeat (first|exact Drawn0.refl _|apply Drawn0.step)⟩
       ·
        rw [if_neg c6] at H
        have c6b0 : decide (1000 < (rd l0 x7_1)) = false:=decide_eq_false c6
        clear c6
        have H':=A_ H
        clear H
        have p207 : 0 ≤ (x7_1 : Int):=of_decide_eq_true (by first|(with_reducible assumption)|assumption)
        have q207 : x7_1 < (l0.length : Int):=of_decide_eq_true (by first|(with_reducible assumption)|assumption)
        obtain ⟨ad207,e207,hx207_0⟩:=Kd.at_int HR0.out x7_1 p207 q207
        cases e207
        replace p207:=eq_true p207
        replace q207:=eq_true q207
        go_wp2
        go_roundg k1
        case measure=>have:=HK1.out;omega
        case rel=>exact ⟨(wrap64 (x7_1 + 1)),(by first|rfl|(simp;done)|(simp [*];done)),H',⟨by have:=HK1.out;omega⟩,by repeat (first|exact Drawn0.refl _|apply Drawn0.step)⟩
     ·
      rw [if_neg c4] at H
      exact absurd H (by simp)
    ·
     rw [if_neg c3] at H
     exact absurd H (by simp)
   ·
    rw [if_neg c2] at H
    have c2b0 : decide (x7_1 < (l0.length : Int)) = false:=decide_eq_false c2
    clear c2
    obtain rfl:=Option.some.inj H
    go_wp2
    go_ret
    exact ⟨by first|rfl|(simp;done)|(simp [*];done),by repeat (first|exact Drawn0.refl _|apply Drawn0.step)⟩

end Go.Proofs.Ytmckmjpfcgmalaa.PNormalRange
