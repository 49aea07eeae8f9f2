/- This file proves, function by function, what the Go functions that one law uses compute; most of it was printed by a program (wip/tools of this session, over the kit's print). -/
import Derived.Test.YtdnhfofmfpgmmaaPSegmentBackx0
import Derived.Test.YtdnhfofmfpgmmaaPSegmentBackx4
import Derived.Test.YtdnhfofmfpgmmaaPSegmentBackx7
namespace Go.Proofs.Ytdnhfofmfpgmmaa.PSegmentBack
open Go.RowKit Go.Proofs.YtdnhfofmfpgmmaaW.PrintWords Go.Proofs.YtdnhfofmfpgmmaaW.PrintLast Go.Proofs.YtdnhfofmfpgmmaaW.PrintMore
attribute [local go_sem] max2_int min2_int max_two min_two max_three min_three max_four min_four   -- for this text's walks alone
set_option linter.unusedVariables false
set_option linter.unusedSimpArgs false

/-! ### segment_packed_decode: function 95 -/
def segment_packed_decode.l0 : Nat → List Int → Int → Int → Int → Int → Int → Int → Int → Option (List Int × Bool)
 | 0,_,_,_,_,_,_,_,_=>none
 | k + 1,x8,x28,x29,x241000,x241001,x241002,x241003,x241004=>if x29 < x28 then (if 0 ≤ x29 then (if x29 < (x8.length : Int) then (segment_packed_decode.l0 k (x8.set (x29 : Int).toNat (wrap64 ((rd x8 x29) + x241002))) x28 (wrap64 (x29 + 1)) x241000 x241001 x241002 x241003 x241004) else (none)) else (none)) else (some (x8,true))
def segment_packed_decode.f (k : Nat)  (l1 : List Int) (a2_0 : Int) (a2_1 : Int) (a2_2 : Int) (a2_3 : Int) (a2_4 : Int) : Option (List Int × Bool):=(codec_Width.f k (([wrap64 (a2_3 - a2_2)] : List Int))).bind fun t244=>((codec_Unpack.f l1 t244 a2_1).bind fun bt245=>(if bt245.2 = 0 then (segment_packed_decode.l0 k bt245.1 (bt245.1.length : Int) 0 a2_0 a2_1 a2_2 a2_3 a2_4) else (some (([] : List Int),false))))
theorem segment_packed_decode.mono_l : ∀ k,(∀ y0 y1 y2 y3 y4 y5 y6 y7,LeO (segment_packed_decode.l0 k y0 y1 y2 y3 y4 y5 y6 y7) (segment_packed_decode.l0 (k + 1) y0 y1 y2 y3 y4 y5 y6 y7))
 | 0=>fun _ _ _ _ _ _ _ _ r h=>by simp [segment_packed_decode.l0] at h
 | k + 1=>by
  have ih0:=segment_packed_decode.mono_l k
  ·
   intro y0 y1 y2 y3 y4 y5 y6 y7
   unfold segment_packed_decode.l0
   repeat' first|(with_reducible first|apply ih0|apply codec_Width.mono|exact lz|refine LeO.ite ?_ ?_|refine LeO.bind ?_ fun _=>?_)
theorem segment_packed_decode.mono : ∀ a0 a1 a2 a3 a4 a5 k,LeO (segment_packed_decode.f k a0 a1 a2 a3 a4 a5) (segment_packed_decode.f (k + 1) a0 a1 a2 a3 a4 a5):=by
 intro a0 a1 a2 a3 a4 a5 k
 have ih0:=segment_packed_decode.mono_l k
 unfold segment_packed_decode.f
 repeat' first|(with_reducible first|apply ih0|apply codec_Width.mono|exact lz|refine LeO.ite ?_ ?_|refine LeO.bind ?_ fun _=>?_)
def segment_packed_decode.T1 : Bool × List (List Nat × List Nat):=(true,[([],[]),([],[]),([1],[1]),([],[]),([3],[3]),([2,4],[2,4]),([5],[5]),([6],[6]),([],[]),([8],[8]),([0,7,9,7],[0,7,9]),([10],[10]),([11],[11]),([11],[11]),([12,10,0,1,2,3,4,5,6,7,8,9,10,11,12],[12]),([13,14,0,1,2,3,4,5,6,7,8,9,10,11,12,13,14],[13])])
def segment_packed_decode.B1 : List Nat:=[0,0,2,0,8,30,62,126,0,256,1023,2047,4095,4095,8191,32767]
theorem segment_packed_decode.tab1 : rtab .any (opsOf Try.f95 1) = segment_packed_decode.T1:=by kernel_rfl
theorem segment_packed_decode.bits1 : waitsOk segment_packed_decode.T1.2 segment_packed_decode.B1 = true:=by kernel_rfl
def segment_packed_decode.T7 : Bool × List (List Nat × List Nat):=(true,[([],[]),([],[]),([0,1],[0,1]),([2],[2]),([],[]),([4],[4]),([3,5],[3,5]),([0,1,0,1,2,3,4,5,6],[0,1]),([7,6,0,1,2,3,4,5,6],[6,7])])
def segment_packed_decode.B7 : List Nat:=[0,0,3,7,0,16,63,127,255]
theorem segment_packed_decode.tab7 : rtab .any (opsOf Try.f95 7) = segment_packed_decode.T7:=by kernel_rfl
theorem segment_packed_decode.bits7 : waitsOk segment_packed_decode.T7.2 segment_packed_decode.B7 = true:=by kernel_rfl
set_option maxHeartbeats 8000000 in
set_option maxRecDepth 100000 in
theorem segment_packed_decode.calls (k : Nat)  (A1 : Option Addr) (c1 : Nat) (l1 : List Int) (a2_0 : Int) (a2_1 : Int) (a2_2 : Int) (a2_3 : Int) (a2_4 : Int) (r1 : List Int) (r2 : Bool) (w : World) (hr1 : Kd.C (Kd.int .u8) w A1 l1.length l1) (hc1 : l1.length ≤ c1) (h : segment_packed_decode.f k l1 a2_0 a2_1 a2_2 a2_3 a2_4 = some (r1,r2)) :
  Calls Try.prog 95 #[.agg #[],.slice A1 l1.length c1,.agg #[.int .i64 a2_0,.int .i64 a2_1,.int .i64 a2_2,.int .i64 a2_3,.int .i64 a2_4]] w fun e w'=>∃ v0_ : Value,e = .returned (.tuple #[v0_,.bool r2])∧Kd.R (Kd.int .i64) 3 w' w.heap.size (fun _=>True) v0_ r1∧Below w.heap.size w w':=by
 have hu101:=Try.underlying101
 have hu27:=Try.underlying27
 have HR1:=A_ hr1
 have HC1:=A_ hc1
 clear hr1 hc1
 have HB:=A_ (Below.refl w.heap.size w)
 have H : ((codec_Width.f k (([wrap64 (a2_3 - a2_2)] : List Int))).bind fun t244=>((codec_Unpack.f l1 t244 a2_1).bind fun bt245=>(if bt245.2 = 0 then (segment_packed_decode.l0 k bt245.1 (bt245.1.length : Int) 0 a2_0 a2_1 a2_2 a2_3 a2_4) else (some (([] : List Int),false))))) = some (r1,r2):=h
 clear h
 obtain ⟨y241,hy241⟩ : ∃ y_ : List Int,y_ = (([wrap64 (a2_3 - a2_2)] : List Int)):=⟨_,rfl⟩
 replace H : ((codec_Width.f k y241).bind fun t244=>((codec_Unpack.f l1 t244 a2_1).bind fun bt245=>(if bt245.2 = 0 then (segment_packed_decode.l0 k bt245.1 (bt245.1.length : Int) 0 a2_0 a2_1 a2_2 a2_3 a2_4) else (some (([] : List Int),false))))) = some (r1,r2):=by first|(rw [hy241];with_reducible exact H)|(have H2_:=(Option.bind_some _ _).symm.trans H;rw [hy241];with_reducible exact H2_)|(have H2_:=(Option.bind_some _ _).symm.trans H;with_reducible exact H2_)|with_reducible exact H|(rw [hy241];exact H)|exact H
 have Ny241:=A_ hy241
 clear hy241
 replace H:=Option.bind_eq_some_iff.mp H
 obtain ⟨t244,A40,H⟩:=H
 replace H : ((codec_Unpack.f l1 t244 a2_1).bind fun bt245=>(if bt245.2 = 0 then (segment_packed_decode.l0 k bt245.1 (bt245.1.length : Int) 0 a2_0 a2_1 a2_2 a2_3 a2_4) else (some (([] : List Int),false)))) = some (r1,r2):=H
 have A4:=A_ A40
 clear A40
 replace H:=Option.bind_eq_some_iff.mp H
 obtain ⟨⟨t245,t246⟩,A50,H⟩:=H
 replace H : (if t246 = 0 then (segment_packed_decode.l0 k t245 (t245.length : Int) 0 a2_0 a2_1 a2_2 a2_3 a2_4) else (some (([] : List Int),false))) = some (r1,r2):=H
 have A5:=A_ A50
 clear A50
 by_cases c6 : t246 = 0
 ·
  rw [if_pos c6] at H
  have c6b0 : (t246 == 0) = true:=beq_iff_eq.mpr c6
  have c6b1 : (t246 != 0) = false:=bne_eq_false_iff_eq.mpr c6
  clear c6
  have H':=A_ H
  clear H
  go_enter Try.func95,Try.ntmps95
  try go_wp2_with (first|((with_reducible refine gate_dst (N:=3) rfl ?_);refine box_event ?hg (N:=3) ?hd (cs:=#[]) (t:=101) ?hr ?_;(case hd=>rfl);(case hg=>rfl);(case hr=>first|(go_simp;done)|(go_simp;rfl));intro gb239 hg w7 hbox hb;have n0_:=A_ (below_step uq0 hb);have n1_:=A_ (hbox);have n2_:=A_ ((uq8 : w.heap.size ≤ gb239));have n3_:=A_ ((uq8 : w.heap.size ≤ gb239));clear HB;have HB:=n0_;have BK239:=n1_;have GW239:=n2_;have GE239:=n3_;clear n0_ n1_ n2_ n3_;clear hb hbox hg)|((with_reducible refine gate_dst (N:=5) rfl ?_);refine box_event ?hg (N:=5) ?hd (cs:=#[.int .i64 a2_0,.int .i64 a2_1,.int .i64 a2_2,.int .i64 a2_3,.int .i64 a2_4]) (t:=27) ?hr ?_;(case hd=>rfl);(case hg=>rfl);(case hr=>first|(go_simp;done)|(go_simp;rfl));intro gb240 hg w8 hbox hb;have n0_:=A_ (blk_below (g:=gb239) (o:=.cells #[] 101 (0,0)) uq12 hb);have n1_:=A_ (below_step uq28 hb);have n2_:=A_ (hbox);have n3_:=A_ ((uq33 : w.heap.size ≤ gb240));have n4_:=A_ ((uq33 : w.heap.size ≤ gb240));have n5_:=A_ ((by rw [hg];exact Nat.ne_of_lt (blk_lt (g:=gb239) (o:=.cells #[] 101 (0,0)) uq12) : gb239≠gb240));have n6_:=A_ ((by rw [hg];exact Nat.ne_of_gt (blk_lt (g:=gb239) (o:=.cells #[] 101 (0,0)) uq12) : gb240≠gb239));clear BK239;clear HB;have BK239:=n0_;have HB:=n1_;have BK240:=n2_;have GW240:=n3_;have GE240:=n4_;have NB239_240:=n5_;have NB240_239:=n6_;clear n0_ n1_ n2_ n3_ n4_ n5_ n6_;clear hb hbox hg))
  have n0_:=A_ (blk_drew BK239.out)
  have n1_:=A_ (blk_drew BK240.out)
  have n2_:=A_ (below_drew1 HB.out)
  clear BK239
  clear BK240
  clear HB
  have BK239:=n0_
  have BK240:=n1_
  have HB:=n2_
  clear n0_ n1_ n2_
  refine start_ (n:=16) (S:=fun w'=>w'.cell? ⟨gb240,0,none⟩ = some (.int .i64 a2_0)∧w'.cell? ⟨gb240,1,none⟩ = some (.int .i64 a2_1)∧w'.cell? ⟨gb240,2,none⟩ = some (.int .i64 a2_2)∧w'.cell? ⟨gb240,3,none⟩ = some (.int .i64 a2_3)∧w'.cell? ⟨gb240,4,none⟩ = some (.int .i64 a2_4)) (ds:=[]) #[false,false,false,false,false,false,false,false,false,false,false,false,false,false,false,false] uq3 rfl rfl ⟨(blk_cell BK240.out 0).trans rfl,(blk_cell BK240.out 1).trans rfl,(blk_cell BK240.out 2).trans rfl,(blk_cell BK240.out 3).trans rfl,(blk_cell BK240.out 4).trans rfl⟩ (fun hHeld=>?_);refine with_tabW segment_packed_decode.tab1 segment_packed_decode.bits1 (fun HT_ HW_=>?_)
  generalize w8.drew = w9 at BK239 BK240 HB hHeld ⊢
  refine pu (i:=0) (N:=some 12) (v:=?_) (a':=?_) #[true,false,false,false,false,false,false,false,false,false,false,false,false,false,false,false] ?_ ?_ ?_
  rotate_left
  ·
   intro w'
   go_simp
   with_reducible rfl
  rotate_left
  ·
   simp only [Act.put,sa,sb,sc,i64_w,i32_w]
   rfl
  refine pu (i:=1) (N:=some 13) (v:=?_) (a':=?_) #[true,true,false,false,false,false,false,false,false,false,false,false,false,false,false,false] ?_ ?_ ?_
  rotate_left
  ·
   intro w'
   go_simp
   with_reducible rfl
  rotate_left
  ·
   simp only [Act.put,sa,sb,sc,i64_w,i32_w]
   rfl
  refine pu (i:=3) (N:=some 15) (v:=?_) (a':=?_) #[true,true,false,true,false,false,false,false,false,false,false,false,false,false,false,false] ?_ ?_ ?_
  rotate_left
  ·
   intro w'
   go_simp
   with_reducible rfl
  rotate_left
  ·
   simp only [Act.put,sa,sb,sc,i64_w,i32_w]
   rfl
  refine pu (i:=8) (N:=some 20) (v:=?_) (a':=?_) #[true,true,false,true,false,false,false,false,true,false,false,false,false,false,false,false] ?_ ?_ ?_
  rotate_left
  ·
   intro w'
   go_simp
   with_reducible rfl
  rotate_left
  ·
   simp only [Act.put,sa,sb,sc,i64_w,i32_w]
   rfl
  refine tk (i:=2) (N:=some 14) (v:=?_) (a':=?_) #[true,true,true,true,false,false,false,false,true,false,false,false,false,false,false,false] ?_ hHeld ?_ ?_
  rotate_left
  ·
   rintro w' ⟨s0,s1,s2,s3,s4⟩
   go_simp
   with_reducible rfl
  rotate_left
  ·
   simp only [Act.put,sa,sb,sc,i64_w,i32_w]
   rfl
  refine tk (i:=4) (N:=some 16) (v:=?_) (a':=?_) #[true,true,true,true,true,false,false,false,true,false,false,false,false,false,false,false] ?_ hHeld ?_ ?_
  rotate_left
  ·
   rintro w' ⟨s0,s1,s2,s3,s4⟩
   go_simp
   with_reducible rfl
  rotate_left
  ·
   simp only [Act.put,sa,sb,sc,i64_w,i32_w]
   rfl
  refine pu (i:=5) (N:=some 17) (v:=?_) (a':=?_) #[true,true,true,true,true,true,false,false,true,false,false,false,false,false,false,false] ?_ ?_ ?_
  rotate_left
  ·
   intro w'
   go_simp
   with_reducible rfl
  rotate_left
  ·
   simp only [Act.put,sa,sb,sc,i64_w,i32_w]
   rfl
  refine tk (i:=9) (N:=some 21) (v:=?_) (a':=?_) #[true,true,true,true,true,true,false,false,true,true,false,false,false,false,false,false] ?_ hHeld ?_ ?_
  rotate_left
  ·
   rintro w' ⟨s0,s1,s2,s3,s4⟩
   go_simp
   with_reducible rfl
  rotate_left
  ·
   simp only [Act.put,sa,sb,sc,i64_w,i32_w]
   rfl
  refine one_ (i:=6) (N:=some 18) #[true,true,true,true,true,true,true,false,true,true,false,false,false,false,false,false] rfl rfl (one_of HT_.out uq3) (by decide) (fun K hK=>?_)
  refine Kd.R_lit_step (Kd.int .i64) _ 3 ?hg (N:=18) ?hd (xs:=([wrap64 (a2_3 - a2_2)] : List Int)) (inner:=[.int .i64 (wrap64 (a2_3 - a2_2))]) (ok:=fun _=>True) (okp:=fun _=>True) ?hr ?hp (fun _ hk=>hk) trivial (Below.refl _ _) (Nat.le_refl _) (by simp) ?_;(case hd=>rfl);(case hg=>rfl);(case hr=>first|(go_simp;done)|(go_simp;rfl));(case hp=>exact (Reps.one (show Kd.M (Kd.int .i64) _ _ _ (wrap64 (a2_3 - a2_2)) [.int .i64 (wrap64 (a2_3 - a2_2))] from rfl) (Reps.none _ _)))
  intro v242 w10 ho11 hb hg_ hnew_
  clear hg_ hnew_
  (first|rw [← Ny241.out] at ho11|(simp only [Int.reduceToNat] at ho11;rw [← Ny241.out] at ho11))
  have n0_:=A_ (Kd.R_lower ho11 (below_size uq13))
  have n1_:=A_ (blk_below (g:=gb239) (o:=.cells #[] 101 (0,0)) uq12 hb)
  have n2_:=A_ (blk_below (g:=gb240) (o:=.cells #[.int .i64 a2_0,.int .i64 a2_1,.int .i64 a2_2,.int .i64 a2_3,.int .i64 a2_4] 27 (0,0)) uq23 hb)
  have n3_:=A_ (below_step uq13 hb)
  clear BK239
  clear BK240
  clear HB
  have HO243:=n0_
  have BK239:=n1_
  have BK240:=n2_
  have HB:=n3_
  clear n0_ n1_ n2_ n3_
  clear hb ho11
  obtain ⟨Ao12,co12,eo12⟩:=Kd.R_slice HO243.out
  (first|subst eo12|(injection eo12 with f1_ f2_ f3_;have f4_:=f1_.symm;have f5_:=f3_.symm;clear f1_ f2_ f3_;subst f4_;subst f5_))
  refine hK.out _ _ ⟨(blk_cell BK240.out 0).trans rfl,(blk_cell BK240.out 1).trans rfl,(blk_cell BK240.out 2).trans rfl,(blk_cell BK240.out 3).trans rfl,(blk_cell BK240.out 4).trans rfl⟩ (fun hHeld=>?_)
  clear hK K
  refine norm_ (a':=?_) ?_ ?_
  rotate_left
  ·
   show Act.put _ (some 18) _ = _
   simp only [Act.put,sa,sb,sc,i64_w,i32_w]
   rfl
  refine one_ (i:=7) (N:=some 19) #[true,true,true,true,true,true,true,true,true,true,false,false,false,false,false,false] rfl rfl (one_of HT_.out uq3) (by decide) (fun K hK=>?_)
  refine goes_ Try.func99 uq3 rfl #[.slice Ao12 y241.length co12] (by rfl) rfl rfl uq34 ?_
  with_reducible refine (codec_Width.calls k _ _ y241 t244 _ ?side1 ?side2 A4.out).mono ?_
  (case side1=>exact cx ((rd_ HO243.out).2.2))
  (case side2=>exact (rd_ HO243.out).2.1)
  rintro e w13 ⟨rfl,hb⟩
  refine ⟨_,rfl,?_⟩
  have n0_:=A_ (rw_ (rx HO243.out) hb)
  have n1_:=A_ (blk_below (g:=gb239) (o:=.cells #[] 101 (0,0)) uq12 hb)
  have n2_:=A_ (blk_below (g:=gb240) (o:=.cells #[.int .i64 a2_0,.int .i64 a2_1,.int .i64 a2_2,.int .i64 a2_3,.int .i64 a2_4] 27 (0,0)) uq23 hb)
  have n3_:=A_ (below_step uq13 hb)
  clear HO243
  clear BK239
  clear BK240
  clear HB
  have HO243:=n0_
  have BK239:=n1_
  have BK240:=n2_
  have HB:=n3_
  clear n0_ n1_ n2_ n3_
  (try clear hb)
  (try clear hb2)
  (try clear hk)
  (try clear hi)
  refine hK.out _ _ ⟨(blk_cell BK240.out 0).trans rfl,(blk_cell BK240.out 1).trans rfl,(blk_cell BK240.out 2).trans rfl,(blk_cell BK240.out 3).trans rfl,(blk_cell BK240.out 4).trans rfl⟩ (fun hHeld=>?_)
  clear hK K
  refine norm_ (a':=?_) ?_ ?_
  rotate_left
  ·
   show Act.put _ (some 19) _ = _
   simp only [Act.put,sa,sb,sc,i64_w,i32_w]
   rfl
  refine one_ (i:=10) (N:=some 22) #[true,true,true,true,true,true,true,true,true,true,true,false,false,false,false,false] rfl rfl (one_of HT_.out uq3) (by decide) (fun K hK=>?_)
  refine goes_ Try.func98 uq3 rfl #[.slice A1 l1.length c1,.int .i64 t244,.int .i64 a2_1] (by rfl) rfl rfl uq34 ?_
  with_reducible refine (codec_Unpack.calls _ _ l1 t244 a2_1 t245 t246 _ ?side1 ?side2 A5.out).mono ?_
  (case side1=>exact cx ((cl HR1.out HB.out)))
  (case side2=>exact HC1.out)
  rintro e w14 ⟨v247,rfl,ho0,hb⟩
  refine ⟨_,rfl,?_⟩
  have n0_:=A_ (re (rx HO243.out) (rs ho0) hb)
  have n1_:=A_ (Kd.R_lower (rn ho0 (rl (rx HO243.out))) (below_size uq13))
  have n2_:=A_ (blk_below (g:=gb239) (o:=.cells #[] 101 (0,0)) uq12 hb)
  have n3_:=A_ (blk_below (g:=gb240) (o:=.cells #[.int .i64 a2_0,.int .i64 a2_1,.int .i64 a2_2,.int .i64 a2_3,.int .i64 a2_4] 27 (0,0)) uq23 hb)
  have n4_:=A_ (below_step uq13 hb)
  clear HO243
  clear BK239
  clear BK240
  clear HB
  have HO243:=n0_
  have HO248:=n1_
  have BK239:=n2_
  have BK240:=n3_
  have HB:=n4_
  clear n0_ n1_ n2_ n3_ n4_
  (try clear hb)
  (try clear hb2)
  (try clear hk)
  (try clear hi)
  (try clear ho0)
  refine hK.out _ _ ⟨(blk_cell BK240.out 0).trans rfl,(blk_cell BK240.out 1).trans rfl,(blk_cell BK240.out 2).trans rfl,(blk_cell BK240.out 3).trans rfl,(blk_cell BK240.out 4).trans rfl⟩ (fun hHeld=>?_)
  clear hK K
  refine norm_ (a':=?_) ?_ ?_
  rotate_left
  ·
   show Act.put _ (some 22) _ = _
   simp only [Act.put,sa,sb,sc,i64_w,i32_w]
   rfl
  refine pu (i:=11) (N:=some 11) (v:=?_) (a':=?_) #[true,true,true,true,true,true,true,true,true,true,true,true,false,false,false,false] ?_ ?_ ?_
  rotate_left
  ·
   intro w'
   go_simp
   with_reducible rfl
  rotate_left
  ·
   simp only [Act.put,sa,sb,sc,i64_w,i32_w]
   rfl
  refine pu (i:=12) (N:=some 23) (v:=?_) (a':=?_) #[true,true,true,true,true,true,true,true,true,true,true,true,true,false,false,false] ?_ ?_ ?_
  rotate_left
  ·
   intro w'
   go_simp
   with_reducible rfl
  rotate_left
  ·
   simp only [Act.put,sa,sb,sc,i64_w,i32_w]
   rfl
  refine pu (i:=13) (N:=some 24) (v:=?_) (a':=?_) #[true,true,true,true,true,true,true,true,true,true,true,true,true,true,false,false] ?_ ?_ ?_
  rotate_left
  ·
   intro w'
   go_simp
   with_reducible rfl
  rotate_left
  ·
   simp only [Act.put,sa,sb,sc,i64_w,i32_w]
   rfl
  refine pu (i:=14) (N:=some 8) (v:=?_) (a':=?_) #[true,true,true,true,true,true,true,true,true,true,true,true,true,true,true,false] ?_ ?_ ?_
  rotate_left
  ·
   intro w'
   go_simp
   with_reducible rfl
  rotate_left
  ·
   simp only [Act.put,sa,sb,sc,i64_w,i32_w]
   rfl
  refine pu (i:=15) (N:=some 9) (v:=?_) (a':=?_) #[true,true,true,true,true,true,true,true,true,true,true,true,true,true,true,true] ?_ ?_ ?_
  rotate_left
  ·
   intro w'
   go_simp
   with_reducible rfl
  rotate_left
  ·
   simp only [Act.put,sa,sb,sc,i64_w,i32_w]
   rfl
  refine done_ (done_of HT_.out uq3) ?_
  obtain ⟨Ao15,co15,eo15⟩:=Kd.R_slice HO248.out
  subst eo15
  try go_wp2
  go_loopg [29] k (fun kq v29 w'=>∃ (x8_1 : List Int) (x29_1 : Int),v29 = .int .i64 x29_1∧Aside0 (segment_packed_decode.l0 kq x8_1 (t245.length : Int) x29_1 a2_0 a2_1 a2_2 a2_3 a2_4 = some (r1,r2))∧Aside0 (kq ≤ k)∧Aside0 (Kd.R (Kd.int .i64) 3 w' w.heap.size (fun _=>True) (.slice Ao15 t245.length co15) x8_1)∧Aside0 (w'.heap[gb239]? = some (.cells #[] 101 (0,0)))∧Aside0 (w'.heap[gb240]? = some (.cells #[.int .i64 a2_0,.int .i64 a2_1,.int .i64 a2_2,.int .i64 a2_3,.int .i64 a2_4] 27 (0,0)))∧Aside0 (Below w.heap.size w w'))
  case atStart=>exact ⟨(t245),(0),uq2,H',⟨Nat.le_refl _⟩,⟨by (with_reducible repeat (first|apply ra|apply rb|apply rc));exact rm HO248.out (fun _ hk=>trivial)⟩,⟨uq12⟩,⟨uq23⟩,⟨uq13⟩⟩
  case round =>
   clear H'
   try clear c1
   try clear p2
   try clear c6
   try clear c6b0
   try clear c6b1
   try clear p6
   try clear c9
   obtain ⟨x8_1,x29_1,rfl,HA,HK1,HO_8,BK239,BK240,HB⟩:=hrel
   have hl8_1:=(rd_ HO_8.out).1
   rw [hl8_1] at HO_8
   (try simp only [hl8_1])
   (try simp only [hl8_1] at BK239)
   (try simp only [hl8_1] at BK240)
   cases gk with
   | zero=>exact absurd HA.out (by simp [segment_packed_decode.l0])
   | succ k1 =>
    have H:=HA.out
    clear HA
    simp only [segment_packed_decode.l0] at H
    by_cases c16 : x29_1 < (t245.length : Int)
    ·
     rw [if_pos c16] at H
     have c16b0 : decide (x29_1 < (t245.length : Int)) = true:=decide_eq_true c16
     (try (have c16b0h:=c16b0;simp only [hl8_1] at c16b0h))
     clear c16
     by_cases c17 : 0 ≤ x29_1
     ·
      rw [if_pos c17] at H
      have c17b0 : decide (0 ≤ x29_1) = true:=decide_eq_true c17
      clear c17
      by_cases c18 : x29_1 < (x8_1.length : Int)
      ·
       rw [if_pos c18] at H
       have c18b0 : decide (x29_1 < (x8_1.length : Int)) = true:=decide_eq_true c18
       (try (have c18b0h:=c18b0;simp only [hl8_1] at c18b0h))
       clear c18
       obtain ⟨y250,hy250⟩ : ∃ y_ : List Int,y_ = (x8_1.set (x29_1 : Int).toNat (wrap64 ((rd x8_1 x29_1) + a2_2))):=⟨_,rfl⟩
       replace H : (segment_packed_decode.l0 k1 y250 (t245.length : Int) (wrap64 (x29_1 + 1)) a2_0 a2_1 a2_2 a2_3 a2_4) = some (r1,r2):=by first|(rw [hy250];with_reducible exact H)|(have H2_:=(Option.bind_some _ _).symm.trans H;rw [hy250];with_reducible exact H2_)|(have H2_:=(Option.bind_some _ _).symm.trans H;with_reducible exact H2_)|with_reducible exact H|(rw [hy250];exact H)|exact H
       have Ny250:=A_ hy250
       clear hy250
       have H':=A_ H
       clear H
       try go_wp2
       have n0_:=A_ (Kd.R_drew HO_8.out)
       have n1_:=A_ (blk_drew BK239.out)
       have n2_:=A_ (blk_drew BK240.out)
       have n3_:=A_ (below_drew1 HB.out)
       clear HO_8
       clear BK239
       clear BK240
       clear HB
       have HO_8:=n0_
       have BK239:=n1_
       have BK240:=n2_
       have HB:=n3_
       clear n0_ n1_ n2_ n3_
       have p249 : 0 ≤ (x29_1 : Int):=of_decide_eq_true uq1
       have q249 : x29_1 < (x8_1.length : Int):=of_decide_eq_true uq1
       obtain ⟨ad249,e249,hx249_0⟩:=Kd.at_int (rd_ HO_8.out).2.2 x29_1 p249 q249
       cases e249
       replace p249:=eq_true p249
       replace q249:=eq_true q249
       have p19 : 0 ≤ (x29_1 : Int):=of_decide_eq_true uq1
       have q19 : (x29_1 : Int) < ((x8_1.length : Int) : Int):=of_decide_eq_true uq1
       obtain ⟨go19,co19,eo19,gb19,gl19,cl19,HG19⟩:=Kd.R_form HO_8.out (by omega)
       (first|cases eo19|(injection eo19 with ea_ en_ ec_;(first|subst ea_|(injection ea_ with ea_;subst ea_));subst ec_;clear en_))
       have GB19:=A_ gb19
       have GG19:=A_ HG19
       clear gb19 gl19 HG19
       (first|simp only [add_plain] at hx249_0|skip)
       obtain ⟨hx19_0,hf19_0⟩:=Kd.R_celln 0 HO_8.out (x29_1 : Int) p19 q19
       replace p19:=eq_true p19
       replace q19:=eq_true q19
       have HP21:=Kd.R_putn HO_8.out (x29_1 : Int) (wrap64 ((rd x8_1 x29_1) + a2_2))
       rw [← Ny250.out] at HP21
       have HQ21:=A_ HP21
       clear HP21
       refine start_ (n:=9) (S:=fun w'=>w'.cell? ⟨gb240,0,none⟩ = some (.int .i64 a2_0)∧w'.cell? ⟨gb240,1,none⟩ = some (.int .i64 a2_1)∧w'.cell? ⟨gb240,2,none⟩ = some (.int .i64 a2_2)∧w'.cell? ⟨gb240,3,none⟩ = some (.int .i64 a2_3)∧w'.cell? ⟨gb240,4,none⟩ = some (.int .i64 a2_4)∧w'.cell? ⟨go19,(x29_1).toNat,none⟩ = some (.int .i64 (rd x8_1 x29_1))) (ds:=[8]) #[false,false,false,false,false,false,false,false,false] uq3 rfl rfl ⟨(blk_cell BK240.out 0).trans rfl,(blk_cell BK240.out 1).trans rfl,(blk_cell BK240.out 2).trans rfl,(blk_cell BK240.out 3).trans rfl,(blk_cell BK240.out 4).trans rfl,hx249_0⟩ (fun hHeld=>?_);refine with_tabW segment_packed_decode.tab7 segment_packed_decode.bits7 (fun HT_ HW_=>?_)
       generalize wr.drew = w20 at HO_8 BK239 BK240 HB GG19 HQ21 hf19_0 hx19_0 hx249_0 hHeld ⊢
       refine pu (i:=0) (N:=some 32) (v:=?_) (a':=?_) #[true,false,false,false,false,false,false,false,false] ?_ ?_ ?_
       rotate_left
       ·
        intro w'
        go_simp
        with_reducible rfl
       rotate_left
       ·
        simp only [Act.put,sa,sb,sc,i64_w,i32_w]
        rfl
       refine pu (i:=1) (N:=some 33) (v:=?_) (a':=?_) #[true,true,false,false,false,false,false,false,false] ?_ ?_ ?_
       rotate_left
       ·
        intro w'
        go_simp
        with_reducible rfl
       rotate_left
       ·
        simp only [Act.put,sa,sb,sc,i64_w,i32_w]
        rfl
       refine pu (i:=2) (N:=some 34) (v:=?_) (a':=?_) #[true,true,true,false,false,false,false,false,false] ?_ ?_ ?_
       rotate_left
       ·
        intro w'
        go_simp
        with_reducible rfl
       rotate_left
       ·
        simp only [Act.put,sa,sb,sc,i64_w,i32_w]
        rfl
       refine pu (i:=4) (N:=some 36) (v:=?_) (a':=?_) #[true,true,true,false,true,false,false,false,false] ?_ ?_ ?_
       rotate_left
       ·
        intro w'
        go_simp
        with_reducible rfl
       rotate_left
       ·
        simp only [Act.put,sa,sb,sc,i64_w,i32_w]
        rfl
       refine tk (i:=3) (N:=some 35) (v:=?_) (a':=?_) #[true,true,true,true,true,false,false,false,false] ?_ hHeld ?_ ?_
       rotate_left
       ·
        rintro w' ⟨s0,s1,s2,s3,s4,s5⟩
        go_simp
        with_reducible rfl
       rotate_left
       ·
        simp only [Act.put,sa,sb,sc,i64_w,i32_w]
        rfl
       refine tk (i:=5) (N:=some 37) (v:=?_) (a':=?_) #[true,true,true,true,true,true,false,false,false] ?_ hHeld ?_ ?_
       rotate_left
       ·
        rintro w' ⟨s0,s1,s2,s3,s4,s5⟩
        go_simp
        with_reducible rfl
       rotate_left
       ·
        simp only [Act.put,sa,sb,sc,i64_w,i32_w]
        rfl
       refine pu (i:=6) (N:=some 38) (v:=?_) (a':=?_) #[true,true,true,true,true,true,true,false,false] ?_ ?_ ?_
       rotate_left
       ·
        intro w'
        go_simp
        with_reducible rfl
       rotate_left
       ·
        simp only [Act.put,sa,sb,sc,i64_w,i32_w]
        rfl
       refine pu (i:=7) (N:=some 39) (v:=?_) (a':=?_) #[true,true,true,true,true,true,true,true,false] ?_ ?_ ?_
       rotate_left
       ·
        intro w'
        go_simp
        with_reducible rfl
       rotate_left
       ·
        simp only [Act.put,sa,sb,sc,i64_w,i32_w]
        rfl
       refine last_ (i:=8) (N:=none) #[true,true,true,true,true,true,true,true,true] rfl rfl (one_of HT_.out uq3) (by decide) (fun K hK=>?_)
       refine skip_ (w1:=?_) (by rfl) rfl ?_ ?_
       rotate_left
       ·
        go_simp
        rfl
       refine hK.out _ _ ?_
       clear hK K
       refine done_ (done_of HT_.out uq3) ?_
       try go_wp2
       (try simp only [← hl8_1])
       go_roundg k1
       case measure=>have:=HK1.out;omega
       case rel=>exact ⟨(y250),(wrap64 (x29_1 + 1)),uq2,H',⟨by have:=HK1.out;omega⟩,⟨by (try simp only [hl8_1]);(with_reducible repeat (first|apply ra|apply rb|apply rc));exact HQ21.out⟩,⟨by (try simp only [hl8_1]);(with_reducible repeat (first|refine blk_drewN ?_ _|refine blk_drew ?_|refine blk_alloc ?_ _));refine blk_far ?_ (by have h_:=Kd.R_ne HO_8.out BK239.out (by decide);intro e_;exact h_ (by rw [e_];rfl)) _;(with_reducible repeat (first|refine blk_drewN ?_ _|refine blk_drew ?_|refine blk_alloc ?_ _));exact BK239.out⟩,⟨by (try simp only [hl8_1]);(with_reducible repeat (first|refine blk_drewN ?_ _|refine blk_drew ?_|refine blk_alloc ?_ _));refine blk_far ?_ (by have h_:=Kd.R_ne HO_8.out BK240.out (by decide);intro e_;exact h_ (by rw [e_];rfl)) _;(with_reducible repeat (first|refine blk_drewN ?_ _|refine blk_drew ?_|refine blk_alloc ?_ _));exact BK240.out⟩,⟨by repeat (first|(with_reducible first|exact HB.out|apply ba|apply bb|apply bc|refine below_set ?_ GB19.out|refine below_set ?_ GE239.out|refine below_set ?_ GE240.out)|exact HB.out)⟩⟩
      ·
       rw [if_neg c18] at H
       exact absurd H (by simp)
     ·
      rw [if_neg c17] at H
      exact absurd H (by simp)
    ·
     rw [if_neg c16] at H
     have c16b0 : decide (x29_1 < (t245.length : Int)) = false:=decide_eq_false c16
     (try (have c16b0h:=c16b0;simp only [hl8_1] at c16b0h))
     clear c16
     simp only [Option.some.injEq,Prod.mk.injEq] at H
     obtain ⟨rfl,rfl⟩:=H
     go_wp2
     go_ret2
     exact ⟨_,by first|rfl|(simp [errW_none,errW_some] <;> rfl)|(simp [*,errW_none,errW_some] <;> rfl),rx HO_8.out,uq13⟩
 ·
  rw [if_neg c6] at H
  have c6b0 : (t246 == 0) = false:=beq_eq_false_iff_ne.mpr c6
  have c6b1 : (t246 != 0) = true:=bne_iff_ne.mpr c6
  simp only [Option.some.injEq,Prod.mk.injEq] at H
  obtain ⟨rfl,rfl⟩:=H
  go_enter Try.func95,Try.ntmps95
  try go_wp2_with (first|((with_reducible refine gate_dst (N:=3) rfl ?_);refine box_event ?hg (N:=3) ?hd (cs:=#[]) (t:=101) ?hr ?_;(case hd=>rfl);(case hg=>rfl);(case hr=>first|(go_simp;done)|(go_simp;rfl));intro gb239 hg w22 hbox hb;have n0_:=A_ (below_step uq0 hb);have n1_:=A_ (hbox);have n2_:=A_ ((uq8 : w.heap.size ≤ gb239));have n3_:=A_ ((uq8 : w.heap.size ≤ gb239));clear HB;have HB:=n0_;have BK239:=n1_;have GW239:=n2_;have GE239:=n3_;clear n0_ n1_ n2_ n3_;clear hb hbox hg)|((with_reducible refine gate_dst (N:=5) rfl ?_);refine box_event ?hg (N:=5) ?hd (cs:=#[.int .i64 a2_0,.int .i64 a2_1,.int .i64 a2_2,.int .i64 a2_3,.int .i64 a2_4]) (t:=27) ?hr ?_;(case hd=>rfl);(case hg=>rfl);(case hr=>first|(go_simp;done)|(go_simp;rfl));intro gb240 hg w23 hbox hb;have n0_:=A_ (blk_below (g:=gb239) (o:=.cells #[] 101 (0,0)) uq12 hb);have n1_:=A_ (below_step uq28 hb);have n2_:=A_ (hbox);have n3_:=A_ ((uq33 : w.heap.size ≤ gb240));have n4_:=A_ ((uq33 : w.heap.size ≤ gb240));have n5_:=A_ ((by rw [hg];exact Nat.ne_of_lt (blk_lt (g:=gb239) (o:=.cells #[] 101 (0,0)) uq12) : gb239≠gb240));have n6_:=A_ ((by rw [hg];exact Nat.ne_of_gt (blk_lt (g:=gb239) (o:=.cells #[] 101 (0,0)) uq12) : gb240≠gb239));clear BK239;clear HB;have BK239:=n0_;have HB:=n1_;have BK240:=n2_;have GW240:=n3_;have GE240:=n4_;have NB239_240:=n5_;have NB240_239:=n6_;clear n0_ n1_ n2_ n3_ n4_ n5_ n6_;clear hb hbox hg))
  have n0_:=A_ (blk_drew BK239.out)
  have n1_:=A_ (blk_drew BK240.out)
  have n2_:=A_ (below_drew1 HB.out)
  clear BK239
  clear BK240
  clear HB
  have BK239:=n0_
  have BK240:=n1_
  have HB:=n2_
  clear n0_ n1_ n2_
  refine start_ (n:=16) (S:=fun w'=>w'.cell? ⟨gb240,0,none⟩ = some (.int .i64 a2_0)∧w'.cell? ⟨gb240,1,none⟩ = some (.int .i64 a2_1)∧w'.cell? ⟨gb240,2,none⟩ = some (.int .i64 a2_2)∧w'.cell? ⟨gb240,3,none⟩ = some (.int .i64 a2_3)∧w'.cell? ⟨gb240,4,none⟩ = some (.int .i64 a2_4)) (ds:=[]) #[false,false,false,false,false,false,false,false,false,false,false,false,false,false,false,false] uq3 rfl rfl ⟨(blk_cell BK240.out 0).trans rfl,(blk_cell BK240.out 1).trans rfl,(blk_cell BK240.out 2).trans rfl,(blk_cell BK240.out 3).trans rfl,(blk_cell BK240.out 4).trans rfl⟩ (fun hHeld=>?_);refine with_tabW segment_packed_decode.tab1 segment_packed_decode.bits1 (fun HT_ HW_=>?_)
  generalize w23.drew = w24 at BK239 BK240 HB hHeld ⊢
  refine pu (i:=0) (N:=some 12) (v:=?_) (a':=?_) #[true,false,false,false,false,false,false,false,false,false,false,false,false,false,false,false] ?_ ?_ ?_
  rotate_left
  ·
   intro w'
   go_simp
   with_reducible rfl
  rotate_left
  ·
   simp only [Act.put,sa,sb,sc,i64_w,i32_w]
   rfl
  refine pu (i:=1) (N:=some 13) (v:=?_) (a':=?_) #[true,true,false,false,false,false,false,false,false,false,false,false,false,false,false,false] ?_ ?_ ?_
  rotate_left
  ·
   intro w'
   go_simp
   with_reducible rfl
  rotate_left
  ·
   simp only [Act.put,sa,sb,sc,i64_w,i32_w]
   rfl
  refine pu (i:=3) (N:=some 15) (v:=?_) (a':=?_) #[true,true,false,true,false,false,false,false,false,false,false,false,false,false,false,false] ?_ ?_ ?_
  rotate_left
  ·
   intro w'
   go_simp
   with_reducible rfl
  rotate_left
  ·
   simp only [Act.put,sa,sb,sc,i64_w,i32_w]
   rfl
  refine pu (i:=8) (N:=some 20) (v:=?_) (a':=?_) #[true,true,false,true,false,false,false,false,true,false,false,false,false,false,false,false] ?_ ?_ ?_
  rotate_left
  ·
   intro w'
   go_simp
   with_reducible rfl
  rotate_left
  ·
   simp only [Act.put,sa,sb,sc,i64_w,i32_w]
   rfl
  refine tk (i:=2) (N:=some 14) (v:=?_) (a':=?_) #[true,true,true,true,false,false,false,false,true,false,false,false,false,false,false,false] ?_ hHeld ?_ ?_
  rotate_left
  ·
   rintro w' ⟨s0,s1,s2,s3,s4⟩
   go_simp
   with_reducible rfl
  rotate_left
  ·
   simp only [Act.put,sa,sb,sc,i64_w,i32_w]
   rfl
  refine tk (i:=4) (N:=some 16) (v:=?_) (a':=?_) #[true,true,true,true,true,false,false,false,true,false,false,false,false,false,false,false] ?_ hHeld ?_ ?_
  rotate_left
  ·
   rintro w' ⟨s0,s1,s2,s3,s4⟩
   go_simp
   with_reducible rfl
  rotate_left
  ·
   simp only [Act.put,sa,sb,sc,i64_w,i32_w]
   rfl
  refine pu (i:=5) (N:=some 17) (v:=?_) (a':=?_) #[true,true,true,true,true,true,false,false,true,false,false,false,false,false,false,false] ?_ ?_ ?_
  rotate_left
  ·
   intro w'
   go_simp
   with_reducible rfl
  rotate_left
  ·
   simp only [Act.put,sa,sb,sc,i64_w,i32_w]
   rfl
  refine tk (i:=9) (N:=some 21) (v:=?_) (a':=?_) #[true,true,true,true,true,true,false,false,true,true,false,false,false,false,false,false] ?_ hHeld ?_ ?_
  rotate_left
  ·
   rintro w' ⟨s0,s1,s2,s3,s4⟩
   go_simp
   with_reducible rfl
  rotate_left
  ·
   simp only [Act.put,sa,sb,sc,i64_w,i32_w]
   rfl
  refine one_ (i:=6) (N:=some 18) #[true,true,true,true,true,true,true,false,true,true,false,false,false,false,false,false] rfl rfl (one_of HT_.out uq3) (by decide) (fun K hK=>?_)
  refine Kd.R_lit_step (Kd.int .i64) _ 3 ?hg (N:=18) ?hd (xs:=([wrap64 (a2_3 - a2_2)] : List Int)) (inner:=[.int .i64 (wrap64 (a2_3 - a2_2))]) (ok:=fun _=>True) (okp:=fun _=>True) ?hr ?hp (fun _ hk=>hk) trivial (Below.refl _ _) (Nat.le_refl _) (by simp) ?_;(case hd=>rfl);(case hg=>rfl);(case hr=>first|(go_simp;done)|(go_simp;rfl));(case hp=>exact (Reps.one (show Kd.M (Kd.int .i64) _ _ _ (wrap64 (a2_3 - a2_2)) [.int .i64 (wrap64 (a2_3 - a2_2))] from rfl) (Reps.none _ _)))
  intro v242 w25 ho26 hb hg_ hnew_
  clear hg_ hnew_
  (first|rw [← Ny241.out] at ho26|(simp only [Int.reduceToNat] at ho26;rw [← Ny241.out] at ho26))
  have n0_:=A_ (Kd.R_lower ho26 (below_size uq13))
  have n1_:=A_ (blk_below (g:=gb239) (o:=.cells #[] 101 (0,0)) uq12 hb)
  have n2_:=A_ (blk_below (g:=gb240) (o:=.cells #[.int .i64 a2_0,.int .i64 a2_1,.int .i64 a2_2,.int .i64 a2_3,.int .i64 a2_4] 27 (0,0)) uq23 hb)
  have n3_:=A_ (below_step uq13 hb)
  clear BK239
  clear BK240
  clear HB
  have HO243:=n0_
  have BK239:=n1_
  have BK240:=n2_
  have HB:=n3_
  clear n0_ n1_ n2_ n3_
  clear hb ho26
  obtain ⟨Ao27,co27,eo27⟩:=Kd.R_slice HO243.out
  (first|subst eo27|(injection eo27 with f1_ f2_ f3_;have f4_:=f1_.symm;have f5_:=f3_.symm;clear f1_ f2_ f3_;subst f4_;subst f5_))
  refine hK.out _ _ ⟨(blk_cell BK240.out 0).trans rfl,(blk_cell BK240.out 1).trans rfl,(blk_cell BK240.out 2).trans rfl,(blk_cell BK240.out 3).trans rfl,(blk_cell BK240.out 4).trans rfl⟩ (fun hHeld=>?_)
  clear hK K
  refine norm_ (a':=?_) ?_ ?_
  rotate_left
  ·
   show Act.put _ (some 18) _ = _
   simp only [Act.put,sa,sb,sc,i64_w,i32_w]
   rfl
  refine one_ (i:=7) (N:=some 19) #[true,true,true,true,true,true,true,true,true,true,false,false,false,false,false,false] rfl rfl (one_of HT_.out uq3) (by decide) (fun K hK=>?_)
  refine goes_ Try.func99 uq3 rfl #[.slice Ao27 y241.length co27] (by rfl) rfl rfl uq34 ?_
  with_reducible refine (codec_Width.calls k _ _ y241 t244 _ ?side1 ?side2 A4.out).mono ?_
  (case side1=>exact cx ((rd_ HO243.out).2.2))
  (case side2=>exact (rd_ HO243.out).2.1)
  rintro e w28 ⟨rfl,hb⟩
  refine ⟨_,rfl,?_⟩
  have n0_:=A_ (rw_ (rx HO243.out) hb)
  have n1_:=A_ (blk_below (g:=gb239) (o:=.cells #[] 101 (0,0)) uq12 hb)
  have n2_:=A_ (blk_below (g:=gb240) (o:=.cells #[.int .i64 a2_0,.int .i64 a2_1,.int .i64 a2_2,.int .i64 a2_3,.int .i64 a2_4] 27 (0,0)) uq23 hb)
  have n3_:=A_ (below_step uq13 hb)
  clear HO243
  clear BK239
  clear BK240
  clear HB
  have HO243:=n0_
  have BK239:=n1_
  have BK240:=n2_
  have HB:=n3_
  clear n0_ n1_ n2_ n3_
  (try clear hb)
  (try clear hb2)
  (try clear hk)
  (try clear hi)
  refine hK.out _ _ ⟨(blk_cell BK240.out 0).trans rfl,(blk_cell BK240.out 1).trans rfl,(blk_cell BK240.out 2).trans rfl,(blk_cell BK240.out 3).trans rfl,(blk_cell BK240.out 4).trans rfl⟩ (fun hHeld=>?_)
  clear hK K
  refine norm_ (a':=?_) ?_ ?_
  rotate_left
  ·
   show Act.put _ (some 19) _ = _
   simp only [Act.put,sa,sb,sc,i64_w,i32_w]
   rfl
  refine one_ (i:=10) (N:=some 22) #[true,true,true,true,true,true,true,true,true,true,true,false,false,false,false,false] rfl rfl (one_of HT_.out uq3) (by decide) (fun K hK=>?_)
  refine goes_ Try.func98 uq3 rfl #[.slice A1 l1.length c1,.int .i64 t244,.int .i64 a2_1] (by rfl) rfl rfl uq34 ?_
  with_reducible refine (codec_Unpack.calls _ _ l1 t244 a2_1 t245 t246 _ ?side1 ?side2 A5.out).mono ?_
  (case side1=>exact cx ((cl HR1.out HB.out)))
  (case side2=>exact HC1.out)
  rintro e w29 ⟨v247,rfl,ho0,hb⟩
  refine ⟨_,rfl,?_⟩
  have n0_:=A_ (re (rx HO243.out) (rs ho0) hb)
  have n1_:=A_ (Kd.R_lower (rn ho0 (rl (rx HO243.out))) (below_size uq13))
  have n2_:=A_ (blk_below (g:=gb239) (o:=.cells #[] 101 (0,0)) uq12 hb)
  have n3_:=A_ (blk_below (g:=gb240) (o:=.cells #[.int .i64 a2_0,.int .i64 a2_1,.int .i64 a2_2,.int .i64 a2_3,.int .i64 a2_4] 27 (0,0)) uq23 hb)
  have n4_:=A_ (below_step uq13 hb)
  clear HO243
  clear BK239
  clear BK240
  clear HB
  have HO243:=n0_
  have HO248:=n1_
  have BK239:=n2_
  have BK240:=n3_
  have HB:=n4_
  clear n0_ n1_ n2_ n3_ n4_
  (try clear hb)
  (try clear hb2)
  (try clear hk)
  (try clear hi)
  (try clear ho0)
  refine hK.out _ _ ⟨(blk_cell BK240.out 0).trans rfl,(blk_cell BK240.out 1).trans rfl,(blk_cell BK240.out 2).trans rfl,(blk_cell BK240.out 3).trans rfl,(blk_cell BK240.out 4).trans rfl⟩ (fun hHeld=>?_)
  clear hK K
  refine norm_ (a':=?_) ?_ ?_
  rotate_left
  ·
   show Act.put _ (some 22) _ = _
   simp only [Act.put,sa,sb,sc,i64_w,i32_w]
   rfl
  refine pu (i:=11) (N:=some 11) (v:=?_) (a':=?_) #[true,true,true,true,true,true,true,true,true,true,true,true,false,false,false,false] ?_ ?_ ?_
  rotate_left
  ·
   intro w'
   go_simp
   with_reducible rfl
  rotate_left
  ·
   simp only [Act.put,sa,sb,sc,i64_w,i32_w]
   rfl
  refine pu (i:=12) (N:=some 23) (v:=?_) (a':=?_) #[true,true,true,true,true,true,true,true,true,true,true,true,true,false,false,false] ?_ ?_ ?_
  rotate_left
  ·
   intro w'
   go_simp
   with_reducible rfl
  rotate_left
  ·
   simp only [Act.put,sa,sb,sc,i64_w,i32_w]
   rfl
  refine pu (i:=13) (N:=some 24) (v:=?_) (a':=?_) #[true,true,true,true,true,true,true,true,true,true,true,true,true,true,false,false] ?_ ?_ ?_
  rotate_left
  ·
   intro w'
   go_simp
   with_reducible rfl
  rotate_left
  ·
   simp only [Act.put,sa,sb,sc,i64_w,i32_w]
   rfl
  refine pu (i:=14) (N:=some 8) (v:=?_) (a':=?_) #[true,true,true,true,true,true,true,true,true,true,true,true,true,true,true,false] ?_ ?_ ?_
  rotate_left
  ·
   intro w'
   go_simp
   with_reducible rfl
  rotate_left
  ·
   simp only [Act.put,sa,sb,sc,i64_w,i32_w]
   rfl
  refine pu (i:=15) (N:=some 9) (v:=?_) (a':=?_) #[true,true,true,true,true,true,true,true,true,true,true,true,true,true,true,true] ?_ ?_ ?_
  rotate_left
  ·
   intro w'
   go_simp
   with_reducible rfl
  rotate_left
  ·
   simp only [Act.put,sa,sb,sc,i64_w,i32_w]
   rfl
  refine done_ (done_of HT_.out uq3) ?_
  try go_wp2
  go_ret2
  exact ⟨_,by first|rfl|(simp [errW_none,errW_some] <;> rfl)|(simp [*,errW_none,errW_some] <;> rfl),by first|exact Kd.R_nil _ _ _ _ _|exact Kd.N_nil _ _ _ _ _|exact Kd.V_nil _ _ _ _ _|exact Kd.Q_nil _ _ _ _ _|exact Kd.S_nil _ _ _ _ _,uq13⟩

end Go.Proofs.Ytdnhfofmfpgmmaa.PSegmentBack
