/- This file proves, function by function, what the Go functions that one law uses compute; most of it was printed by a program (wip/tools of this session, over the kit's print). -/
import Derived.Test.YtdnhfofmfpgmmaaPSegmentBackx0
import Derived.Test.YtdnhfofmfpgmmaaPSegmentBackx7
namespace Go.Proofs.Ytdnhfofmfpgmmaa.PSegmentBack
open Go.RowKit Go.Proofs.YtdnhfofmfpgmmaaW.PrintWords Go.Proofs.YtdnhfofmfpgmmaaW.PrintLast Go.Proofs.YtdnhfofmfpgmmaaW.PrintMore
attribute [local go_sem] max2_int min2_int max_two min_two max_three min_three max_four min_four   -- for this text's walks alone
set_option linter.unusedVariables false
set_option linter.unusedSimpArgs false

/-! ### segment_delta_decode: function 107 -/
mutual
def segment_delta_decode.j0 : Nat → List Int → Int → Int → Bool → Int → Int → Int → Int → Int → Option (List Int × Bool)
 | 0,_,_,_,_,_,_,_,_,_=>none
 | k + 1,x1,x8,x9,x36,x253000,x253001,x253002,x253003,x253004=>if x36 = true then (some (([] : List Int),false)) else (if 0 ≤ (wrap64 (x9 + 1)) then (if (wrap64 (x9 + 1)) ≤ (x1.length : Int) then (if 0 ≤ x9 then (if x9 < (x1.length : Int) then ((codec_Unpack.f (x1.drop ((wrap64 (x9 + 1)) : Int).toNat) (wrap64 (rd x1 x9)) (wrap64 (x253001 - 1))).bind fun bt258=>(if bt258.2 = 0 then (segment_delta_decode.l0 k (([x8] : List Int)) bt258.1 (bt258.1.length : Int) 0) else (some (([] : List Int),false)))) else (none)) else (none)) else (none)) else (none))
def segment_delta_decode.l0 : Nat → List Int → List Int → Int → Int → Option (List Int × Bool)
 | 0,_,_,_,_=>none
 | k + 1,x12,x57,x58,x59=>if x59 < x58 then (if 0 ≤ x59 then (if x59 < (x57.length : Int) then (if 0 ≤ (wrap64 ((x12.length : Int) - 1)) then (if (wrap64 ((x12.length : Int) - 1)) < (x12.length : Int) then (if x12.length < 17592186044416 then (segment_delta_decode.l0 k (x12 ++ [wrap64 ((rd x12 (wrap64 ((x12.length : Int) - 1))) + (Go.bits .xor .i64 ((rd x57 x59) / 2) (wrap64 (-(Go.bits .and .i64 (rd x57 x59) 1)))))]) x57 x58 (wrap64 (x59 + 1))) else (none)) else (none)) else (none)) else (none)) else (none)) else (some (x12,true))
end
def segment_delta_decode.f (k : Nat)  (l1 : List Int) (a2_0 : Int) (a2_1 : Int) (a2_2 : Int) (a2_3 : Int) (a2_4 : Int) : Option (List Int × Bool):=(codec_Int.f k l1 0).bind fun bt253=>(if bt253.2.2 = 0 then (if bt253.2.1 = (l1.length : Int) then (segment_delta_decode.j0 k l1 bt253.1 bt253.2.1 true a2_0 a2_1 a2_2 a2_3 a2_4) else (if bt253.1 < (-1000) then (segment_delta_decode.j0 k l1 bt253.1 bt253.2.1 true a2_0 a2_1 a2_2 a2_3 a2_4) else (segment_delta_decode.j0 k l1 bt253.1 bt253.2.1 (decide (bt253.1 > 1000)) a2_0 a2_1 a2_2 a2_3 a2_4))) else (segment_delta_decode.j0 k l1 bt253.1 bt253.2.1 true a2_0 a2_1 a2_2 a2_3 a2_4))
theorem segment_delta_decode.mono_l : ∀ k,(∀ y0 y1 y2 y3 y4 y5 y6 y7 y8,LeO (segment_delta_decode.j0 k y0 y1 y2 y3 y4 y5 y6 y7 y8) (segment_delta_decode.j0 (k + 1) y0 y1 y2 y3 y4 y5 y6 y7 y8))∧(∀ y0 y1 y2 y3,LeO (segment_delta_decode.l0 k y0 y1 y2 y3) (segment_delta_decode.l0 (k + 1) y0 y1 y2 y3))
 | 0=>⟨fun _ _ _ _ _ _ _ _ _ r h=>by simp [segment_delta_decode.j0] at h,fun _ _ _ _ r h=>by simp [segment_delta_decode.l0] at h⟩
 | k + 1=>by
  obtain ⟨ih0,ih1⟩:=segment_delta_decode.mono_l k
  refine ⟨?_,?_⟩
  ·
   intro y0 y1 y2 y3 y4 y5 y6 y7 y8
   unfold segment_delta_decode.j0
   repeat' first|(with_reducible first|apply ih0|apply ih1|apply codec_Int.mono|exact lz|refine LeO.ite ?_ ?_|refine LeO.bind ?_ fun _=>?_)
  ·
   intro y0 y1 y2 y3
   unfold segment_delta_decode.l0
   repeat' first|(with_reducible first|apply ih0|apply ih1|apply codec_Int.mono|exact lz|refine LeO.ite ?_ ?_|refine LeO.bind ?_ fun _=>?_)
theorem segment_delta_decode.mono : ∀ a0 a1 a2 a3 a4 a5 k,LeO (segment_delta_decode.f k a0 a1 a2 a3 a4 a5) (segment_delta_decode.f (k + 1) a0 a1 a2 a3 a4 a5):=by
 intro a0 a1 a2 a3 a4 a5 k
 obtain ⟨ih0,ih1⟩:=segment_delta_decode.mono_l k
 unfold segment_delta_decode.f
 repeat' first|(with_reducible first|apply ih0|apply ih1|apply codec_Int.mono|exact lz|refine LeO.ite ?_ ?_|refine LeO.bind ?_ fun _=>?_)
def segment_delta_decode.T4 : Bool × List (List Nat × List Nat):=(true,[([],[]),([],[]),([1],[1]),([0,2],[0,2]),([],[]),([],[]),([4,5],[4,5]),([6],[6]),([7],[7]),([],[]),([9],[9]),([10],[10]),([3,8,11],[3,8,11]),([12],[12]),([13],[13]),([13],[13]),([14,12,0,1,2,3,4,5,6,7,8,9,10,11,12,13,14],[14]),([15,16,0,1,2,3,4,5,6,7,8,9,10,11,12,13,14,15,16],[15])])
def segment_delta_decode.B4 : List Nat:=[0,0,2,7,0,0,48,112,240,0,512,1536,4095,8191,16383,16383,32767,131071]
theorem segment_delta_decode.tab4 : rtab .any (opsOf Try.f107 4) = segment_delta_decode.T4:=by kernel_rfl
theorem segment_delta_decode.bits4 : waitsOk segment_delta_decode.T4.2 segment_delta_decode.B4 = true:=by kernel_rfl
set_option maxHeartbeats 8000000 in
set_option maxRecDepth 100000 in
theorem segment_delta_decode.calls (k : Nat)  (A1 : Option Addr) (c1 : Nat) (l1 : List Int) (a2_0 : Int) (a2_1 : Int) (a2_2 : Int) (a2_3 : Int) (a2_4 : Int) (r1 : List Int) (r2 : Bool) (w : World) (hr1 : Kd.C (Kd.int .u8) w A1 l1.length l1) (hc1 : l1.length ≤ c1) (h : segment_delta_decode.f k l1 a2_0 a2_1 a2_2 a2_3 a2_4 = some (r1,r2)) :
  Calls Try.prog 107 #[.agg #[],.slice A1 l1.length c1,.agg #[.int .i64 a2_0,.int .i64 a2_1,.int .i64 a2_2,.int .i64 a2_3,.int .i64 a2_4]] w fun e w'=>∃ v0_ : Value,e = .returned (.tuple #[v0_,.bool r2])∧Kd.R (Kd.int .i64) 3 w' w.heap.size (fun _=>True) v0_ r1∧Below w.heap.size w w':=by
 have hu102:=Try.underlying102
 have hu27:=Try.underlying27
 have HR1:=A_ hr1
 have HC1:=A_ hc1
 clear hr1 hc1
 have HB:=A_ (Below.refl w.heap.size w)
 have H : ((codec_Int.f k l1 0).bind fun bt253=>(if bt253.2.2 = 0 then (if bt253.2.1 = (l1.length : Int) then (segment_delta_decode.j0 k l1 bt253.1 bt253.2.1 true a2_0 a2_1 a2_2 a2_3 a2_4) else (if bt253.1 < (-1000) then (segment_delta_decode.j0 k l1 bt253.1 bt253.2.1 true a2_0 a2_1 a2_2 a2_3 a2_4) else (segment_delta_decode.j0 k l1 bt253.1 bt253.2.1 (decide (bt253.1 > 1000)) a2_0 a2_1 a2_2 a2_3 a2_4))) else (segment_delta_decode.j0 k l1 bt253.1 bt253.2.1 true a2_0 a2_1 a2_2 a2_3 a2_4))) = some (r1,r2):=h
 clear h
 replace H:=Option.bind_eq_some_iff.mp H
 obtain ⟨⟨t253,t254,t255⟩,A40,H⟩:=H
 replace H : (if t255 = 0 then (if t254 = (l1.length : Int) then (segment_delta_decode.j0 k l1 t253 t254 true a2_0 a2_1 a2_2 a2_3 a2_4) else (if t253 < (-1000) then (segment_delta_decode.j0 k l1 t253 t254 true a2_0 a2_1 a2_2 a2_3 a2_4) else (segment_delta_decode.j0 k l1 t253 t254 (decide (t253 > 1000)) a2_0 a2_1 a2_2 a2_3 a2_4))) else (segment_delta_decode.j0 k l1 t253 t254 true a2_0 a2_1 a2_2 a2_3 a2_4)) = some (r1,r2):=H
 have A4:=A_ A40
 clear A40
 have HC5:=A_ H
 clear H
 go_enter Try.func107,Try.ntmps107
 go_upto_region 2 with (first|((with_reducible refine gate_dst (N:=3) rfl ?_);(try (refine gate_guard (by rfl) ?_;dsimp only));refine box_event ?hg (N:=3) ?hd (cs:=#[]) (t:=102) ?hr ?_;(case hd=>rfl);(case hg=>rfl);(case hr=>first|(go_simp;done)|(go_simp;rfl));intro gb251 hg w6 hbox hb;have n0_:=A_ (below_step uq0 hb);have n1_:=A_ (hbox);have n2_:=A_ ((uq8 : w.heap.size ≤ gb251));have n3_:=A_ ((uq8 : w.heap.size ≤ gb251));clear HB;have HB:=n0_;have BK251:=n1_;have GW251:=n2_;have GE251:=n3_;clear n0_ n1_ n2_ n3_;clear hb hbox hg)|((with_reducible refine gate_dst (N:=5) rfl ?_);(try (refine gate_guard (by rfl) ?_;dsimp only));refine box_event ?hg (N:=5) ?hd (cs:=#[.int .i64 a2_0,.int .i64 a2_1,.int .i64 a2_2,.int .i64 a2_3,.int .i64 a2_4]) (t:=27) ?hr ?_;(case hd=>rfl);(case hg=>rfl);(case hr=>first|(go_simp;done)|(go_simp;rfl));intro gb252 hg w7 hbox hb;have n0_:=A_ (blk_below (g:=gb251) (o:=.cells #[] 102 (0,0)) uq14 hb);have n1_:=A_ (below_step uq40 hb);have n2_:=A_ (hbox);have n3_:=A_ ((by rw [hg];exact (below_size uq40) : w.heap.size ≤ gb252));have n4_:=A_ ((by rw [hg];exact (below_size uq40) : w.heap.size ≤ gb252));have n5_:=A_ ((by rw [hg];exact Nat.ne_of_lt (blk_lt (g:=gb251) (o:=.cells #[] 102 (0,0)) uq14) : gb251≠gb252));have n6_:=A_ ((by rw [hg];exact Nat.ne_of_gt (blk_lt (g:=gb251) (o:=.cells #[] 102 (0,0)) uq14) : gb252≠gb251));clear BK251;clear HB;have BK251:=n0_;have HB:=n1_;have BK252:=n2_;have GW252:=n3_;have GE252:=n4_;have NB251_252:=n5_;have NB252_251:=n6_;clear n0_ n1_ n2_ n3_ n4_ n5_ n6_;clear hb hbox hg)|((with_reducible refine gate_callee (f:=71) rfl ?_);refine gl (some 17) Try.func71 #[.slice A1 l1.length c1,.int .i64 0] ?_;(with_reducible refine (codec_Int.calls k _ _ l1 0 t253 t254 t255 _ ?side1 ?side2 A4.out).mono ?_);(case side1=>exact cx ((cl HR1.out HB.out)));(case side2=>exact HC1.out);rintro e w' ⟨rfl,⟨nd,rfl⟩⟩;refine ⟨_,rfl,?_⟩))
 (try simp only [Act.put,List.setIfInBounds_toArray,List.set_cons_zero,List.set_cons_succ])
 go_cut [36] (fun v36 wc=>∃ (kq : Nat) (x36_4 : Bool),v36 = .bool x36_4∧Aside0 (segment_delta_decode.j0 kq l1 t253 t254 x36_4 a2_0 a2_1 a2_2 a2_3 a2_4 = some (r1,r2))∧Aside0 (kq ≤ k)∧Aside0 (wc.heap[gb251]? = some (.cells #[] 102 (0,0)))∧Aside0 (wc.heap[gb252]? = some (.cells #[.int .i64 a2_0,.int .i64 a2_1,.int .i64 a2_2,.int .i64 a2_3,.int .i64 a2_4] 27 (0,0)))∧Aside0 (Below w.heap.size w wc))
 case first =>
  have H:=HC5.out
  clear HC5
  by_cases c8 : t255 = 0
  ·
   rw [if_pos c8] at H
   have c8b0 : (t255 == 0) = true:=beq_iff_eq.mpr c8
   have c8b1 : (t255 != 0) = false:=bne_eq_false_iff_eq.mpr c8
   clear c8
   (first|rw [c8b0]|(simp only [i64_w,i32_w];rw [c8b0])|skip)
   by_cases c9 : t254 = (l1.length : Int)
   ·
    rw [if_pos c9] at H
    have c9b0 : (t254 == (l1.length : Int)) = true:=beq_iff_eq.mpr c9
    have c9b1 : (t254 != (l1.length : Int)) = false:=bne_eq_false_iff_eq.mpr c9
    clear c9
    have H':=A_ H
    clear H
    go_wp2
    go_meet
    case rel=>exact ⟨_,(true),uq2,H',⟨by first|omega|exact Nat.le_refl _⟩,⟨uq14⟩,⟨uq17⟩,⟨uq11⟩⟩
   ·
    rw [if_neg c9] at H
    have c9b0 : (t254 == (l1.length : Int)) = false:=beq_eq_false_iff_ne.mpr c9
    have c9b1 : (t254 != (l1.length : Int)) = true:=bne_iff_ne.mpr c9
    by_cases c10 : t253 < (-1000)
    ·
     rw [if_pos c10] at H
     have c10b0 : decide (t253 < (-1000)) = true:=decide_eq_true c10
     clear c10
     have H':=A_ H
     clear H
     go_wp2
     go_meet
     case rel=>exact ⟨_,(true),uq2,H',⟨by first|omega|exact Nat.le_refl _⟩,⟨uq14⟩,⟨uq17⟩,⟨uq11⟩⟩
    ·
     rw [if_neg c10] at H
     have c10b0 : decide (t253 < (-1000)) = false:=decide_eq_false c10
     clear c10
     have H':=A_ H
     clear H
     go_wp2
     go_meet
     case rel=>exact ⟨_,(decide (t253 > 1000)),uq2,H',⟨by first|omega|exact Nat.le_refl _⟩,⟨uq14⟩,⟨uq17⟩,⟨uq11⟩⟩
  ·
   rw [if_neg c8] at H
   have c8b0 : (t255 == 0) = false:=beq_eq_false_iff_ne.mpr c8
   have c8b1 : (t255 != 0) = true:=bne_iff_ne.mpr c8
   (first|rw [c8b0]|(simp only [i64_w,i32_w];rw [c8b0])|skip)
   have H':=A_ H
   clear H
   go_wp2
   go_meet
   case rel=>exact ⟨_,(true),uq2,H',⟨by first|omega|exact Nat.le_refl _⟩,⟨uq14⟩,⟨uq17⟩,⟨uq11⟩⟩
 case rest =>
  clear HC5
  try clear c1
  try clear p2
  try clear c7
  try clear c8
  try clear c8b0
  try clear c8b1
  try clear c9
  try clear c9b0
  try clear c9b1
  try clear c10
  try clear c10b0
  obtain ⟨kq,x36_4,rfl,HA,HJ4,BK251,BK252,HB⟩:=hcut
  cases kq with
  | zero=>exact absurd HA.out (by simp [segment_delta_decode.j0])
  | succ kj4 =>
   have H:=HA.out
   clear HA
   simp only [segment_delta_decode.j0] at H
   by_cases c11 : x36_4 = true
   ·
    subst c11
    have H1 : (some (([] : List Int),false)) = some (r1,r2):=by rw [if_pos rfl] at H;exact H
    clear H
    have H:=H1
    clear H1
    simp only [Option.some.injEq,Prod.mk.injEq] at H
    obtain ⟨rfl,rfl⟩:=H
    go_wp2
    go_ret2
    exact ⟨_,by first|rfl|(simp [errW_none,errW_some] <;> rfl)|(simp [*,errW_none,errW_some] <;> rfl),by first|exact Kd.R_nil _ _ _ _ _|exact Kd.N_nil _ _ _ _ _|exact Kd.V_nil _ _ _ _ _|exact Kd.Q_nil _ _ _ _ _|exact Kd.S_nil _ _ _ _ _,uq11⟩
   ·
    replace c11:=Bool.eq_false_iff.mpr c11
    subst c11
    have H1 : (if 0 ≤ (wrap64 (t254 + 1)) then (if (wrap64 (t254 + 1)) ≤ (l1.length : Int) then (if 0 ≤ t254 then (if t254 < (l1.length : Int) then ((codec_Unpack.f (l1.drop ((wrap64 (t254 + 1)) : Int).toNat) (wrap64 (rd l1 t254)) (wrap64 (a2_1 - 1))).bind fun bt258=>(if bt258.2 = 0 then (segment_delta_decode.l0 kj4 (([t253] : List Int)) bt258.1 (bt258.1.length : Int) 0) else (some (([] : List Int),false)))) else (none)) else (none)) else (none)) else (none)) = some (r1,r2):=by rw [if_neg (show ¬ (false = true) by decide)] at H;exact H
    clear H
    have H:=H1
    clear H1
    obtain ⟨ji12,hji12⟩ : ∃ j_ : Int,(wrap64 (t254 + 1)) = j_:=⟨_,rfl⟩
    replace H : (if 0 ≤ (ji12) then (if (ji12) ≤ (l1.length : Int) then (if 0 ≤ t254 then (if t254 < (l1.length : Int) then ((codec_Unpack.f (l1.drop ((ji12) : Int).toNat) (wrap64 (rd l1 t254)) (wrap64 (a2_1 - 1))).bind fun bt258=>(if bt258.2 = 0 then (segment_delta_decode.l0 kj4 (([t253] : List Int)) bt258.1 (bt258.1.length : Int) 0) else (some (([] : List Int),false)))) else (none)) else (none)) else (none)) else (none)) = some (r1,r2):=by first|(rw [hji12] at H;exact H)|(simp only [hji12] at H ⊢;exact H)
    have hji12w : (IntKind.i64.wrap (t254 + 1)) = ji12:=(i64_w _).trans hji12
    by_cases c13 : 0 ≤ (ji12)
    ·
     rw [if_pos c13] at H
     have c13b0:=eq_true c13
     have c13b1 : decide (0 ≤ (ji12)) = true:=decide_eq_true c13
     clear c13
     by_cases c14 : (ji12) ≤ (l1.length : Int)
     ·
      rw [if_pos c14] at H
      have c14b0:=eq_true c14
      have c14b1 : decide ((ji12) ≤ (l1.length : Int)) = true:=decide_eq_true c14
      clear c14
      by_cases c15 : 0 ≤ t254
      ·
       rw [if_pos c15] at H
       have c15b0 : decide (0 ≤ t254) = true:=decide_eq_true c15
       clear c15
       by_cases c16 : t254 < (l1.length : Int)
       ·
        rw [if_pos c16] at H
        have c16b0 : decide (t254 < (l1.length : Int)) = true:=decide_eq_true c16
        clear c16
        replace H:=Option.bind_eq_some_iff.mp H
        obtain ⟨⟨t258,t259⟩,A170,H⟩:=H
        replace H : (if t259 = 0 then (segment_delta_decode.l0 kj4 (([t253] : List Int)) t258 (t258.length : Int) 0) else (some (([] : List Int),false))) = some (r1,r2):=H
        have A17:=A_ A170
        clear A170
        by_cases c18 : t259 = 0
        ·
         rw [if_pos c18] at H
         have c18b0 : (t259 == 0) = true:=beq_iff_eq.mpr c18
         have c18b1 : (t259 != 0) = false:=bne_eq_false_iff_eq.mpr c18
         clear c18
         obtain ⟨y262,hy262⟩ : ∃ y_ : List Int,y_ = (([t253] : List Int)):=⟨_,rfl⟩
         replace H : (segment_delta_decode.l0 kj4 y262 t258 (t258.length : Int) 0) = some (r1,r2):=by first|(rw [hy262];with_reducible exact H)|(have H2_:=(Option.bind_some _ _).symm.trans H;rw [hy262];with_reducible exact H2_)|(have H2_:=(Option.bind_some _ _).symm.trans H;with_reducible exact H2_)|with_reducible exact H|(rw [hy262];exact H)|exact H
         have Ny262:=A_ hy262
         clear hy262
         have H':=A_ H
         clear H
         try go_wp2
         have n0_:=A_ (blk_drew BK251.out)
         have n1_:=A_ (blk_drew BK252.out)
         have n2_:=A_ (below_drew1 HB.out)
         clear BK251
         clear BK252
         clear HB
         have BK251:=n0_
         have BK252:=n1_
         have HB:=n2_
         clear n0_ n1_ n2_
         obtain ⟨i020,hi020,_,hsz20,_⟩:=info_parts info5
         obtain ⟨A20,hcut20,hA20,hC20⟩:=print_drop_of (P:=Try.prog) (Value.int .u8) 0 29 5 .i64 Try.underlying29 hi020 hsz20 A1 c1 l1 (ji12) (of_decide_eq_true uq1) (of_decide_eq_true uq1) HC1.out
         have HR256:=A_ (Kd.C_of_reads (h1:=fun _=>rfl) (hA20 _ (Kd.reads_of_C HR1.out)))
         have HC256:=A_ hC20
         clear hA20 hC20 hi020 hsz20
         have p257 : 0 ≤ (t254 : Int):=of_decide_eq_true uq1
         have q257 : t254 < (l1.length : Int):=of_decide_eq_true uq1
         obtain ⟨ad257,e257,hx257_0⟩:=Kd.at_int HR1.out t254 p257 q257
         have hw257_0:=hx257_0
         cases e257
         replace hx257_0:=(HB.out.cell (World.block_lt_of_cell? w _ hx257_0)).trans hx257_0
         replace p257:=eq_true p257
         replace q257:=eq_true q257
         refine start_ (n:=18) (S:=fun w'=>w'.cell? ⟨gb252,0,none⟩ = some (.int .i64 a2_0)∧w'.cell? ⟨gb252,1,none⟩ = some (.int .i64 a2_1)∧w'.cell? ⟨gb252,2,none⟩ = some (.int .i64 a2_2)∧w'.cell? ⟨gb252,3,none⟩ = some (.int .i64 a2_3)∧w'.cell? ⟨gb252,4,none⟩ = some (.int .i64 a2_4)∧w'.cell? (ad257.add (t254).toNat) = some (.int .u8 (rd l1 t254))) (ds:=[]) #[false,false,false,false,false,false,false,false,false,false,false,false,false,false,false,false,false,false] uq3 rfl rfl ⟨(blk_cell BK252.out 0).trans rfl,(blk_cell BK252.out 1).trans rfl,(blk_cell BK252.out 2).trans rfl,(blk_cell BK252.out 3).trans rfl,(blk_cell BK252.out 4).trans rfl,((HB.out.cell (World.block_lt_of_cell? w _ hw257_0)).trans hw257_0)⟩ (fun hHeld=>?_);refine with_tabW segment_delta_decode.tab4 segment_delta_decode.bits4 (fun HT_ HW_=>?_)
         generalize wc.drew = w19 at BK251 BK252 HB HR256 hx257_0 hHeld ⊢
         refine pu (i:=0) (N:=some 38) (v:=?_) (a':=?_) #[true,false,false,false,false,false,false,false,false,false,false,false,false,false,false,false,false,false] ?_ ?_ ?_
         rotate_left
         ·
          intro w'
          go_simp
          with_reducible rfl
         rotate_left
         ·
          simp only [Act.put,sa,sb,sc,i64_w,i32_w]
          rfl
         refine pu (i:=1) (N:=some 39) (v:=?_) (a':=?_) #[true,true,false,false,false,false,false,false,false,false,false,false,false,false,false,false,false,false] ?_ ?_ ?_
         rotate_left
         ·
          intro w'
          go_simp
          with_reducible rfl
         rotate_left
         ·
          simp only [Act.put,sa,sb,sc,i64_w,i32_w]
          rfl
         refine pu (i:=2) (N:=some 40) (v:=?_) (a':=?_) #[true,true,true,false,false,false,false,false,false,false,false,false,false,false,false,false,false,false] ?_ ?_ ?_
         rotate_left
         ·
          intro w'
          go_simp
          with_reducible rfl
         rotate_left
         ·
          simp only [Act.put,sa,sb,sc,i64_w,i32_w]
          rfl
         refine pu (i:=3) (N:=some 41) (v:=?_) (a':=?_) #[true,true,true,true,false,false,false,false,false,false,false,false,false,false,false,false,false,false] ?_ ?_ ?_
         rotate_left
         ·
          intro w'
          go_simp
          with_reducible rfl
         rotate_left
         ·
          simp only [Act.put,sa,sb,sc,i64_w,i32_w]
          rfl
         refine pu (i:=4) (N:=some 42) (v:=?_) (a':=?_) #[true,true,true,true,true,false,false,false,false,false,false,false,false,false,false,false,false,false] ?_ ?_ ?_
         rotate_left
         ·
          intro w'
          go_simp
          with_reducible rfl
         rotate_left
         ·
          simp only [Act.put,sa,sb,sc,i64_w,i32_w]
          rfl
         refine pu (i:=5) (N:=some 43) (v:=?_) (a':=?_) #[true,true,true,true,true,true,false,false,false,false,false,false,false,false,false,false,false,false] ?_ ?_ ?_
         rotate_left
         ·
          intro w'
          go_simp
          with_reducible rfl
         rotate_left
         ·
          simp only [Act.put,sa,sb,sc,i64_w,i32_w]
          rfl
         refine pu (i:=6) (N:=some 44) (v:=?_) (a':=?_) #[true,true,true,true,true,true,true,false,false,false,false,false,false,false,false,false,false,false] ?_ ?_ ?_
         rotate_left
         ·
          intro w'
          go_simp
          with_reducible rfl
         rotate_left
         ·
          simp only [Act.put,sa,sb,sc,i64_w,i32_w]
          rfl
         refine pu (i:=9) (N:=some 47) (v:=?_) (a':=?_) #[true,true,true,true,true,true,true,false,false,true,false,false,false,false,false,false,false,false] ?_ ?_ ?_
         rotate_left
         ·
          intro w'
          go_simp
          with_reducible rfl
         rotate_left
         ·
          simp only [Act.put,sa,sb,sc,i64_w,i32_w]
          rfl
         refine tk (i:=7) (N:=some 45) (v:=?_) (a':=?_) #[true,true,true,true,true,true,true,true,false,true,false,false,false,false,false,false,false,false] ?_ hHeld ?_ ?_
         rotate_left
         ·
          rintro w' ⟨s0,s1,s2,s3,s4,s5⟩
          go_simp
          with_reducible rfl
         rotate_left
         ·
          simp only [Act.put,sa,sb,sc,i64_w,i32_w]
          rfl
         refine pu (i:=8) (N:=some 46) (v:=?_) (a':=?_) #[true,true,true,true,true,true,true,true,true,true,false,false,false,false,false,false,false,false] ?_ ?_ ?_
         rotate_left
         ·
          intro w'
          go_simp
          with_reducible rfl
         rotate_left
         ·
          simp only [Act.put,sa,sb,sc,i64_w,i32_w]
          rfl
         refine tk (i:=10) (N:=some 48) (v:=?_) (a':=?_) #[true,true,true,true,true,true,true,true,true,true,true,false,false,false,false,false,false,false] ?_ hHeld ?_ ?_
         rotate_left
         ·
          rintro w' ⟨s0,s1,s2,s3,s4,s5⟩
          go_simp
          with_reducible rfl
         rotate_left
         ·
          simp only [Act.put,sa,sb,sc,i64_w,i32_w]
          rfl
         refine pu (i:=11) (N:=some 49) (v:=?_) (a':=?_) #[true,true,true,true,true,true,true,true,true,true,true,true,false,false,false,false,false,false] ?_ ?_ ?_
         rotate_left
         ·
          intro w'
          go_simp
          with_reducible rfl
         rotate_left
         ·
          simp only [Act.put,sa,sb,sc,i64_w,i32_w]
          rfl
         refine one_ (i:=12) (N:=some 50) #[true,true,true,true,true,true,true,true,true,true,true,true,true,false,false,false,false,false] rfl rfl (one_of HT_.out uq3) (by decide) (fun K hK=>?_)
         refine goes_ Try.func98 uq3 rfl #[.slice A20 (l1.drop ((ji12) : Int).toNat).length (c1 - (ji12).toNat),.int .i64 (wrap64 (rd l1 t254)),.int .i64 (wrap64 (a2_1 - 1))] (by rfl) rfl rfl (by (try simp only [List.map_toArray,List.map_cons,List.map_nil]);first|done|(rw [show (l1.drop ((ji12) : Int).toNat).length = (l1.length - (ji12).toNat) from List.length_drop] <;> rfl)|(simp only [hji12];rfl)|rfl|(simp only [List.length_drop,List.length_take];rfl)) ?_
         with_reducible refine (codec_Unpack.calls _ _ (l1.drop ((ji12) : Int).toNat) (wrap64 (rd l1 t254)) (wrap64 (a2_1 - 1)) t258 t259 _ ?side1 ?side2 A17.out).mono ?_
         (case side1=>exact cx ((cl HR256.out HB.out)))
         (case side2=>exact HC256.out)
         rintro e w21 ⟨v260,rfl,ho0,hb⟩
         refine ⟨_,rfl,?_⟩
         have n0_:=A_ (Kd.R_lower ho0 (below_size uq11))
         have n1_:=A_ (blk_below (g:=gb251) (o:=.cells #[] 102 (0,0)) uq14 hb)
         have n2_:=A_ (blk_below (g:=gb252) (o:=.cells #[.int .i64 a2_0,.int .i64 a2_1,.int .i64 a2_2,.int .i64 a2_3,.int .i64 a2_4] 27 (0,0)) uq17 hb)
         have n3_:=A_ (below_step uq11 hb)
         clear BK251
         clear BK252
         clear HB
         have HO261:=n0_
         have BK251:=n1_
         have BK252:=n2_
         have HB:=n3_
         clear n0_ n1_ n2_ n3_
         (try clear hb)
         (try clear hb2)
         (try clear hk)
         (try clear hi)
         (try clear ho0)
         refine hK.out _ _ ⟨(blk_cell BK252.out 0).trans rfl,(blk_cell BK252.out 1).trans rfl,(blk_cell BK252.out 2).trans rfl,(blk_cell BK252.out 3).trans rfl,(blk_cell BK252.out 4).trans rfl,((HB.out.cell (World.block_lt_of_cell? w _ hw257_0)).trans hw257_0)⟩ (fun hHeld=>?_)
         clear hK K
         refine norm_ (a':=?_) ?_ ?_
         rotate_left
         ·
          show Act.put _ (some 50) _ = _
          simp only [Act.put,sa,sb,sc,i64_w,i32_w]
          rfl
         refine pu (i:=13) (N:=some 37) (v:=?_) (a':=?_) #[true,true,true,true,true,true,true,true,true,true,true,true,true,true,false,false,false,false] ?_ ?_ ?_
         rotate_left
         ·
          intro w'
          go_simp
          with_reducible rfl
         rotate_left
         ·
          simp only [Act.put,sa,sb,sc,i64_w,i32_w]
          rfl
         refine pu (i:=14) (N:=some 51) (v:=?_) (a':=?_) #[true,true,true,true,true,true,true,true,true,true,true,true,true,true,true,false,false,false] ?_ ?_ ?_
         rotate_left
         ·
          intro w'
          go_simp
          with_reducible rfl
         rotate_left
         ·
          simp only [Act.put,sa,sb,sc,i64_w,i32_w]
          rfl
         refine pu (i:=15) (N:=some 52) (v:=?_) (a':=?_) #[true,true,true,true,true,true,true,true,true,true,true,true,true,true,true,true,false,false] ?_ ?_ ?_
         rotate_left
         ·
          intro w'
          go_simp
          with_reducible rfl
         rotate_left
         ·
          simp only [Act.put,sa,sb,sc,i64_w,i32_w]
          rfl
         refine pu (i:=16) (N:=some 11) (v:=?_) (a':=?_) #[true,true,true,true,true,true,true,true,true,true,true,true,true,true,true,true,true,false] ?_ ?_ ?_
         rotate_left
         ·
          intro w'
          go_simp
          with_reducible rfl
         rotate_left
         ·
          simp only [Act.put,sa,sb,sc,i64_w,i32_w]
          rfl
         refine pu (i:=17) (N:=some 10) (v:=?_) (a':=?_) #[true,true,true,true,true,true,true,true,true,true,true,true,true,true,true,true,true,true] ?_ ?_ ?_
         rotate_left
         ·
          intro w'
          go_simp
          with_reducible rfl
         rotate_left
         ·
          simp only [Act.put,sa,sb,sc,i64_w,i32_w]
          rfl
         refine done_ (done_of HT_.out uq3) ?_
         try go_wp2_with (first|((with_reducible refine gate_dst (N:=56) rfl ?_);(try (refine gate_guard (by rfl) ?_;dsimp only));refine Kd.R_lit (Kd.int .i64) _ 3 ?hg (N:=56) ?hd (xs:=([t253] : List Int)) (inner:=[.int .i64 t253]) (ok:=fun _=>True) (okp:=fun _=>True) ?hr ?hp (fun _ hk=>hk) trivial (Below.refl _ _) (Nat.le_refl _) (by simp) ?_;(case hd=>rfl);(case hg=>rfl);(case hr=>first|(go_simp;done)|(go_simp;rfl));(case hp=>exact (Reps.one (show Kd.M (Kd.int .i64) _ _ _ t253 [.int .i64 t253] from rfl) (Reps.none _ _)));intro v263 w22 ho23 hb hg_ hnew_;clear hg_ hnew_;(first|rw [← Ny262.out] at ho23|(simp only [Int.reduceToNat] at ho23;rw [← Ny262.out] at ho23));have n0_:=A_ (re (rx HO261.out) (rs ho23) hb);have n1_:=A_ (Kd.R_lower (rn ho23 (rl (rx HO261.out))) (below_size uq11));have n2_:=A_ (blk_below (g:=gb251) (o:=.cells #[] 102 (0,0)) uq14 hb);have n3_:=A_ (blk_below (g:=gb252) (o:=.cells #[.int .i64 a2_0,.int .i64 a2_1,.int .i64 a2_2,.int .i64 a2_3,.int .i64 a2_4] 27 (0,0)) uq17 hb);have n4_:=A_ (below_step uq11 hb);clear HO261;clear BK251;clear BK252;clear HB;have HO261:=n0_;have HO264:=n1_;have BK251:=n2_;have BK252:=n3_;have HB:=n4_;clear n0_ n1_ n2_ n3_ n4_;clear hb ho23;obtain ⟨Ao24,co24,eo24⟩:=Kd.R_slice HO261.out;subst eo24))
         go_loopg [12,59] kj4 (fun kq v12 v59 w'=>∃ (x12_2 : List Int) (x59_2 : Int),v59 = .int .i64 x59_2∧Aside0 (segment_delta_decode.l0 kq x12_2 t258 (t258.length : Int) x59_2 = some (r1,r2))∧Aside0 (kq ≤ kj4)∧Aside0 (Kd.R (Kd.int .i64) 3 w' w.heap.size (fun k_=>some k_≠((.slice Ao24 t258.length co24) : Value).ownBlock) v12 x12_2)∧Aside0 (Kd.R (Kd.int .i64) 3 w' w.heap.size (fun k_=>nb k_ v12) (.slice Ao24 t258.length co24) t258)∧Aside0 (w'.heap[gb251]? = some (.cells #[] 102 (0,0)))∧Aside0 (w'.heap[gb252]? = some (.cells #[.int .i64 a2_0,.int .i64 a2_1,.int .i64 a2_2,.int .i64 a2_3,.int .i64 a2_4] 27 (0,0)))∧Aside0 (Below w.heap.size w w'))
         case atStart=>exact ⟨(y262),(0),uq2,H',⟨Nat.le_refl _⟩,⟨by (with_reducible repeat (first|apply ra|apply rb|apply rc));exact rm HO264.out (fun _ hk=>hk.2)⟩,⟨by (with_reducible repeat (first|apply ra|apply rb|apply rc));exact rm HO261.out (fun _ hk=>hk.2)⟩,⟨uq14⟩,⟨uq17⟩,⟨uq11⟩⟩
         case round =>
          clear H'
          try clear c1
          try clear p2
          try clear q2
          try clear hx2
          try clear p6
          try clear c7
          try clear c8
          try clear c8b0
          try clear c8b1
          try clear c9
          try clear c9b0
          try clear c9b1
          try clear c10
          try clear c10b0
          try clear c11
          try clear c13
          try clear c13b0
          try clear c13b1
          try clear c14
          try clear c14b0
          try clear c14b1
          try clear c15
          try clear c15b0
          try clear c16
          try clear c16b0
          try clear c18
          try clear c18b0
          try clear c18b1
          try clear hx257_0
          try clear p2
          try clear p257
          try clear q257
          obtain ⟨x12_2,x59_2,rfl,HA,HK2,HO_12,HO_57,BK251,BK252,HB⟩:=hrel
          cases gk with
          | zero=>exact absurd HA.out (by simp [segment_delta_decode.l0])
          | succ k2 =>
           have H:=HA.out
           clear HA
           simp only [segment_delta_decode.l0] at H
           by_cases c25 : x59_2 < (t258.length : Int)
           ·
            rw [if_pos c25] at H
            have c25b0 : decide (x59_2 < (t258.length : Int)) = true:=decide_eq_true c25
            clear c25
            by_cases c26 : 0 ≤ x59_2
            ·
             rw [if_pos c26] at H
             have c26b0 : decide (0 ≤ x59_2) = true:=decide_eq_true c26
             clear c26
             by_cases c27 : x59_2 < (t258.length : Int)
             ·
              rw [if_pos c27] at H
              have c27b0 : decide (x59_2 < (t258.length : Int)) = true:=decide_eq_true c27
              clear c27
              obtain ⟨ji28,hji28⟩ : ∃ j_ : Int,(wrap64 ((x12_2.length : Int) - 1)) = j_:=⟨_,rfl⟩
              replace H : (if 0 ≤ (ji28) then (if (ji28) < (x12_2.length : Int) then (if x12_2.length < 17592186044416 then (segment_delta_decode.l0 k2 (x12_2 ++ [wrap64 ((rd x12_2 (ji28)) + (Go.bits .xor .i64 ((rd t258 x59_2) / 2) (wrap64 (-(Go.bits .and .i64 (rd t258 x59_2) 1)))))]) t258 (t258.length : Int) (wrap64 (x59_2 + 1))) else (none)) else (none)) else (none)) = some (r1,r2):=by first|(rw [hji28] at H;exact H)|(simp only [hji28] at H ⊢;exact H)
              have hji28w : (IntKind.i64.wrap ((x12_2.length : Int) - 1)) = ji28:=(i64_w _).trans hji28
              by_cases c29 : 0 ≤ (ji28)
              ·
               rw [if_pos c29] at H
               have c29b0 : decide (0 ≤ (ji28)) = true:=decide_eq_true c29
               clear c29
               by_cases c30 : (ji28) < (x12_2.length : Int)
               ·
                rw [if_pos c30] at H
                have c30b0 : decide ((ji28) < (x12_2.length : Int)) = true:=decide_eq_true c30
                clear c30
                by_cases c31 : x12_2.length < 17592186044416
                ·
                 rw [if_pos c31] at H
                 have LMc31:=A_ c31
                 clear c31
                 obtain ⟨y267,hy267⟩ : ∃ y_ : List Int,y_ = (x12_2 ++ [wrap64 ((rd x12_2 (ji28)) + (Go.bits .xor .i64 ((rd t258 x59_2) / 2) (wrap64 (-(Go.bits .and .i64 (rd t258 x59_2) 1)))))]):=⟨_,rfl⟩
                 replace H : (segment_delta_decode.l0 k2 y267 t258 (t258.length : Int) (wrap64 (x59_2 + 1))) = some (r1,r2):=by first|(rw [hy267];with_reducible exact H)|(have H2_:=(Option.bind_some _ _).symm.trans H;rw [hy267];with_reducible exact H2_)|(have H2_:=(Option.bind_some _ _).symm.trans H;with_reducible exact H2_)|with_reducible exact H|(rw [hy267];exact H)|exact H
                 have Ny267:=A_ hy267
                 clear hy267
                 have H':=A_ H
                 clear H
                 have p265 : 0 ≤ (x59_2 : Int):=of_decide_eq_true uq1
                 have q265 : x59_2 < (t258.length : Int):=of_decide_eq_true uq1
                 obtain ⟨ad265,e265,hx265_0⟩:=Kd.at_int (rd_ HO_57.out).2.2 x59_2 p265 q265
                 cases e265
                 replace p265:=eq_true p265
                 replace q265:=eq_true q265
                 obtain ⟨Ao32,co32,eo32⟩:=Kd.R_slice HO_12.out
                 subst eo32
                 have p266 : 0 ≤ ((ji28) : Int):=of_decide_eq_true uq1
                 have q266 : (ji28) < (x12_2.length : Int):=of_decide_eq_true uq1
                 obtain ⟨ad266,e266,hx266_0⟩:=Kd.at_int (rd_ HO_12.out).2.2 (ji28) p266 q266
                 cases e266
                 replace p266:=eq_true p266
                 replace q266:=eq_true q266
                 go_wp2_with (first|((with_reducible refine gate_builtin (b:=.append) (xs:=#[.tmp 63,.tmp 77]) rfl ?_);(try (refine gate_guard (by rfl) ?_;dsimp only));at_builtin;refine Kd.R_append (Kd.int .i64) (w0:=w) w.heap.size rfl (.tmp 63) (.tmp 77) 22 3 (.int .i64 0) 8 rfl Try.underlying22 info3 rfl (by decide) (by omega) (.slice (some ad266) x12_2.length co32) x12_2 (wrap64 ((rd x12_2 (ji28)) + (Go.bits .xor .i64 ((rd t258 x59_2) / 2) (wrap64 (-(Go.bits .and .i64 (rd t258 x59_2) 1)))))) [.int .i64 (wrap64 ((rd x12_2 (ji28)) + (Go.bits .xor .i64 ((rd t258 x59_2) / 2) (wrap64 (-(Go.bits .and .i64 (rd t258 x59_2) 1))))))] (fun k_=>some k_≠(.slice (some ad265) t258.length co24 : Value).ownBlock) (fun _=>False) rfl rfl ?aP (fun _ hk=>hk.elim) ?aF ?aO ?aB ?aS ?aL ?_;(case aP=>exact rfl);(case aB=>exact uq11);(case aF=>exact (fun k_ hk=>rh (rl (rx HO_57.out)) k_ hk));(case aO=>exact (rx HO_12.out));(case aS=>exact (below_size uq11));(case aL=>have:=LMc31.out;omega);intro v268 w33 ho hb hg hat;rw [← Ny267.out] at ho;replace HO_57:=A_ (rf (ok:=(fun _=>True)) (by (with_reducible repeat (first|apply ra|apply rb|apply rc));exact rm HO_57.out (fun _ hk=>⟨trivial,hk⟩)) hg hat);replace BK251:=A_ (blk_grown (g:=gb251) (o:=.cells #[] 102 (0,0)) uq14 hg (Kd.R_ne HO_12.out BK251.out (by decide)));replace BK252:=A_ (blk_grown (g:=gb252) (o:=.cells #[.int .i64 a2_0,.int .i64 a2_1,.int .i64 a2_2,.int .i64 a2_3,.int .i64 a2_4] 27 (0,0)) uq17 hg (Kd.R_ne HO_12.out BK252.out (by decide)));replace HB:=A_ (hb);have HO269:=A_ (ho);clear HO_12;clear ho hb hg hat))
                 go_roundg k2
                 case measure=>have:=HJ4.out;have:=HK2.out;omega
                 case rel=>exact ⟨(y267),(wrap64 (x59_2 + 1)),uq2,H',⟨by have:=HJ4.out;have:=HK2.out;omega⟩,⟨rx HO269.out⟩,⟨by (with_reducible repeat (first|apply ra|apply rb|apply rc));exact rm HO_57.out (fun _ hk=>hk.2)⟩,⟨uq14⟩,⟨uq17⟩,⟨uq11⟩⟩
                ·
                 rw [if_neg c31] at H
                 exact absurd H (by simp)
               ·
                rw [if_neg c30] at H
                exact absurd H (by simp)
              ·
               rw [if_neg c29] at H
               exact absurd H (by simp)
             ·
              rw [if_neg c27] at H
              exact absurd H (by simp)
            ·
             rw [if_neg c26] at H
             exact absurd H (by simp)
           ·
            rw [if_neg c25] at H
            have c25b0 : decide (x59_2 < (t258.length : Int)) = false:=decide_eq_false c25
            clear c25
            simp only [Option.some.injEq,Prod.mk.injEq] at H
            obtain ⟨rfl,rfl⟩:=H
            go_wp2
            go_ret2
            exact ⟨_,by first|rfl|(simp [errW_none,errW_some] <;> rfl)|(simp only [← hji12];first|rfl|(simp [errW_none,errW_some] <;> rfl))|(simp [*,errW_none,errW_some] <;> rfl),by (with_reducible repeat (first|apply ra|apply rb|apply rc));exact rm HO_12.out (fun _ hk=>trivial),uq11⟩
        ·
         rw [if_neg c18] at H
         have c18b0 : (t259 == 0) = false:=beq_eq_false_iff_ne.mpr c18
         have c18b1 : (t259 != 0) = true:=bne_iff_ne.mpr c18
         simp only [Option.some.injEq,Prod.mk.injEq] at H
         obtain ⟨rfl,rfl⟩:=H
         try go_wp2
         have n0_:=A_ (blk_drew BK251.out)
         have n1_:=A_ (blk_drew BK252.out)
         have n2_:=A_ (below_drew1 HB.out)
         clear BK251
         clear BK252
         clear HB
         have BK251:=n0_
         have BK252:=n1_
         have HB:=n2_
         clear n0_ n1_ n2_
         obtain ⟨i035,hi035,_,hsz35,_⟩:=info_parts info5
         obtain ⟨A35,hcut35,hA35,hC35⟩:=print_drop_of (P:=Try.prog) (Value.int .u8) 0 29 5 .i64 Try.underlying29 hi035 hsz35 A1 c1 l1 (ji12) (of_decide_eq_true uq1) (of_decide_eq_true uq1) HC1.out
         have HR256:=A_ (Kd.C_of_reads (h1:=fun _=>rfl) (hA35 _ (Kd.reads_of_C HR1.out)))
         have HC256:=A_ hC35
         clear hA35 hC35 hi035 hsz35
         have p257 : 0 ≤ (t254 : Int):=of_decide_eq_true uq1
         have q257 : t254 < (l1.length : Int):=of_decide_eq_true uq1
         obtain ⟨ad257,e257,hx257_0⟩:=Kd.at_int HR1.out t254 p257 q257
         have hw257_0:=hx257_0
         cases e257
         replace hx257_0:=(HB.out.cell (World.block_lt_of_cell? w _ hx257_0)).trans hx257_0
         replace p257:=eq_true p257
         replace q257:=eq_true q257
         refine start_ (n:=18) (S:=fun w'=>w'.cell? ⟨gb252,0,none⟩ = some (.int .i64 a2_0)∧w'.cell? ⟨gb252,1,none⟩ = some (.int .i64 a2_1)∧w'.cell? ⟨gb252,2,none⟩ = some (.int .i64 a2_2)∧w'.cell? ⟨gb252,3,none⟩ = some (.int .i64 a2_3)∧w'.cell? ⟨gb252,4,none⟩ = some (.int .i64 a2_4)∧w'.cell? (ad257.add (t254).toNat) = some (.int .u8 (rd l1 t254))) (ds:=[]) #[false,false,false,false,false,false,false,false,false,false,false,false,false,false,false,false,false,false] uq3 rfl rfl ⟨(blk_cell BK252.out 0).trans rfl,(blk_cell BK252.out 1).trans rfl,(blk_cell BK252.out 2).trans rfl,(blk_cell BK252.out 3).trans rfl,(blk_cell BK252.out 4).trans rfl,((HB.out.cell (World.block_lt_of_cell? w _ hw257_0)).trans hw257_0)⟩ (fun hHeld=>?_);refine with_tabW segment_delta_decode.tab4 segment_delta_decode.bits4 (fun HT_ HW_=>?_)
         generalize wc.drew = w34 at BK251 BK252 HB HR256 hx257_0 hHeld ⊢
         refine pu (i:=0) (N:=some 38) (v:=?_) (a':=?_) #[true,false,false,false,false,false,false,false,false,false,false,false,false,false,false,false,false,false] ?_ ?_ ?_
         rotate_left
         ·
          intro w'
          go_simp
          with_reducible rfl
         rotate_left
         ·
          simp only [Act.put,sa,sb,sc,i64_w,i32_w]
          rfl
         refine pu (i:=1) (N:=some 39) (v:=?_) (a':=?_) #[true,true,false,false,false,false,false,false,false,false,false,false,false,false,false,false,false,false] ?_ ?_ ?_
         rotate_left
         ·
          intro w'
          go_simp
          with_reducible rfl
         rotate_left
         ·
          simp only [Act.put,sa,sb,sc,i64_w,i32_w]
          rfl
         refine pu (i:=2) (N:=some 40) (v:=?_) (a':=?_) #[true,true,true,false,false,false,false,false,false,false,false,false,false,false,false,false,false,false] ?_ ?_ ?_
         rotate_left
         ·
          intro w'
          go_simp
          with_reducible rfl
         rotate_left
         ·
          simp only [Act.put,sa,sb,sc,i64_w,i32_w]
          rfl
         refine pu (i:=3) (N:=some 41) (v:=?_) (a':=?_) #[true,true,true,true,false,false,false,false,false,false,false,false,false,false,false,false,false,false] ?_ ?_ ?_
         rotate_left
         ·
          intro w'
          go_simp
          with_reducible rfl
         rotate_left
         ·
          simp only [Act.put,sa,sb,sc,i64_w,i32_w]
          rfl
         refine pu (i:=4) (N:=some 42) (v:=?_) (a':=?_) #[true,true,true,true,true,false,false,false,false,false,false,false,false,false,false,false,false,false] ?_ ?_ ?_
         rotate_left
         ·
          intro w'
          go_simp
          with_reducible rfl
         rotate_left
         ·
          simp only [Act.put,sa,sb,sc,i64_w,i32_w]
          rfl
         refine pu (i:=5) (N:=some 43) (v:=?_) (a':=?_) #[true,true,true,true,true,true,false,false,false,false,false,false,false,false,false,false,false,false] ?_ ?_ ?_
         rotate_left
         ·
          intro w'
          go_simp
          with_reducible rfl
         rotate_left
         ·
          simp only [Act.put,sa,sb,sc,i64_w,i32_w]
          rfl
         refine pu (i:=6) (N:=some 44) (v:=?_) (a':=?_) #[true,true,true,true,true,true,true,false,false,false,false,false,false,false,false,false,false,false] ?_ ?_ ?_
         rotate_left
         ·
          intro w'
          go_simp
          with_reducible rfl
         rotate_left
         ·
          simp only [Act.put,sa,sb,sc,i64_w,i32_w]
          rfl
         refine pu (i:=9) (N:=some 47) (v:=?_) (a':=?_) #[true,true,true,true,true,true,true,false,false,true,false,false,false,false,false,false,false,false] ?_ ?_ ?_
         rotate_left
         ·
          intro w'
          go_simp
          with_reducible rfl
         rotate_left
         ·
          simp only [Act.put,sa,sb,sc,i64_w,i32_w]
          rfl
         refine tk (i:=7) (N:=some 45) (v:=?_) (a':=?_) #[true,true,true,true,true,true,true,true,false,true,false,false,false,false,false,false,false,false] ?_ hHeld ?_ ?_
         rotate_left
         ·
          rintro w' ⟨s0,s1,s2,s3,s4,s5⟩
          go_simp
          with_reducible rfl
         rotate_left
         ·
          simp only [Act.put,sa,sb,sc,i64_w,i32_w]
          rfl
         refine pu (i:=8) (N:=some 46) (v:=?_) (a':=?_) #[true,true,true,true,true,true,true,true,true,true,false,false,false,false,false,false,false,false] ?_ ?_ ?_
         rotate_left
         ·
          intro w'
          go_simp
          with_reducible rfl
         rotate_left
         ·
          simp only [Act.put,sa,sb,sc,i64_w,i32_w]
          rfl
         refine tk (i:=10) (N:=some 48) (v:=?_) (a':=?_) #[true,true,true,true,true,true,true,true,true,true,true,false,false,false,false,false,false,false] ?_ hHeld ?_ ?_
         rotate_left
         ·
          rintro w' ⟨s0,s1,s2,s3,s4,s5⟩
          go_simp
          with_reducible rfl
         rotate_left
         ·
          simp only [Act.put,sa,sb,sc,i64_w,i32_w]
          rfl
         refine pu (i:=11) (N:=some 49) (v:=?_) (a':=?_) #[true,true,true,true,true,true,true,true,true,true,true,true,false,false,false,false,false,false] ?_ ?_ ?_
         rotate_left
         ·
          intro w'
          go_simp
          with_reducible rfl
         rotate_left
         ·
          simp only [Act.put,sa,sb,sc,i64_w,i32_w]
          rfl
         refine one_ (i:=12) (N:=some 50) #[true,true,true,true,true,true,true,true,true,true,true,true,true,false,false,false,false,false] rfl rfl (one_of HT_.out uq3) (by decide) (fun K hK=>?_)
         refine goes_ Try.func98 uq3 rfl #[.slice A35 (l1.drop ((ji12) : Int).toNat).length (c1 - (ji12).toNat),.int .i64 (wrap64 (rd l1 t254)),.int .i64 (wrap64 (a2_1 - 1))] (by rfl) rfl rfl (by (try simp only [List.map_toArray,List.map_cons,List.map_nil]);first|done|(rw [show (l1.drop ((ji12) : Int).toNat).length = (l1.length - (ji12).toNat) from List.length_drop] <;> rfl)|(simp only [hji12];rfl)|rfl|(simp only [List.length_drop,List.length_take];rfl)) ?_
         with_reducible refine (codec_Unpack.calls _ _ (l1.drop ((ji12) : Int).toNat) (wrap64 (rd l1 t254)) (wrap64 (a2_1 - 1)) t258 t259 _ ?side1 ?side2 A17.out).mono ?_
         (case side1=>exact cx ((cl HR256.out HB.out)))
         (case side2=>exact HC256.out)
         rintro e w36 ⟨v260,rfl,ho0,hb⟩
         refine ⟨_,rfl,?_⟩
         have n0_:=A_ (Kd.R_lower ho0 (below_size uq11))
         have n1_:=A_ (blk_below (g:=gb251) (o:=.cells #[] 102 (0,0)) uq14 hb)
         have n2_:=A_ (blk_below (g:=gb252) (o:=.cells #[.int .i64 a2_0,.int .i64 a2_1,.int .i64 a2_2,.int .i64 a2_3,.int .i64 a2_4] 27 (0,0)) uq17 hb)
         have n3_:=A_ (below_step uq11 hb)
         clear BK251
         clear BK252
         clear HB
         have HO261:=n0_
         have BK251:=n1_
         have BK252:=n2_
         have HB:=n3_
         clear n0_ n1_ n2_ n3_
         (try clear hb)
         (try clear hb2)
         (try clear hk)
         (try clear hi)
         (try clear ho0)
         refine hK.out _ _ ⟨(blk_cell BK252.out 0).trans rfl,(blk_cell BK252.out 1).trans rfl,(blk_cell BK252.out 2).trans rfl,(blk_cell BK252.out 3).trans rfl,(blk_cell BK252.out 4).trans rfl,((HB.out.cell (World.block_lt_of_cell? w _ hw257_0)).trans hw257_0)⟩ (fun hHeld=>?_)
         clear hK K
         refine norm_ (a':=?_) ?_ ?_
         rotate_left
         ·
          show Act.put _ (some 50) _ = _
          simp only [Act.put,sa,sb,sc,i64_w,i32_w]
          rfl
         refine pu (i:=13) (N:=some 37) (v:=?_) (a':=?_) #[true,true,true,true,true,true,true,true,true,true,true,true,true,true,false,false,false,false] ?_ ?_ ?_
         rotate_left
         ·
          intro w'
          go_simp
          with_reducible rfl
         rotate_left
         ·
          simp only [Act.put,sa,sb,sc,i64_w,i32_w]
          rfl
         refine pu (i:=14) (N:=some 51) (v:=?_) (a':=?_) #[true,true,true,true,true,true,true,true,true,true,true,true,true,true,true,false,false,false] ?_ ?_ ?_
         rotate_left
         ·
          intro w'
          go_simp
          with_reducible rfl
         rotate_left
         ·
          simp only [Act.put,sa,sb,sc,i64_w,i32_w]
          rfl
         refine pu (i:=15) (N:=some 52) (v:=?_) (a':=?_) #[true,true,true,true,true,true,true,true,true,true,true,true,true,true,true,true,false,false] ?_ ?_ ?_
         rotate_left
         ·
          intro w'
          go_simp
          with_reducible rfl
         rotate_left
         ·
          simp only [Act.put,sa,sb,sc,i64_w,i32_w]
          rfl
         refine pu (i:=16) (N:=some 11) (v:=?_) (a':=?_) #[true,true,true,true,true,true,true,true,true,true,true,true,true,true,true,true,true,false] ?_ ?_ ?_
         rotate_left
         ·
          intro w'
          go_simp
          with_reducible rfl
         rotate_left
         ·
          simp only [Act.put,sa,sb,sc,i64_w,i32_w]
          rfl
         refine pu (i:=17) (N:=some 10) (v:=?_) (a':=?_) #[true,true,true,true,true,true,true,true,true,true,true,true,true,true,true,true,true,true] ?_ ?_ ?_
         rotate_left
         ·
          intro w'
          go_simp
          with_reducible rfl
         rotate_left
         ·
          simp only [Act.put,sa,sb,sc,i64_w,i32_w]
          rfl
         refine done_ (done_of HT_.out uq3) ?_
         try go_wp2
         go_ret2
         exact ⟨_,by first|rfl|(simp [errW_none,errW_some] <;> rfl)|(simp only [← hji12];first|rfl|(simp [errW_none,errW_some] <;> rfl))|(simp [*,errW_none,errW_some] <;> rfl),by first|exact Kd.R_nil _ _ _ _ _|exact Kd.N_nil _ _ _ _ _|exact Kd.V_nil _ _ _ _ _|exact Kd.Q_nil _ _ _ _ _|exact Kd.S_nil _ _ _ _ _,uq11⟩
       ·
        rw [if_neg c16] at H
        exact absurd H (by simp)
      ·
       rw [if_neg c15] at H
       exact absurd H (by simp)
     ·
      rw [if_neg c14] at H
      exact absurd H (by simp)
    ·
     rw [if_neg c13] at H
     exact absurd H (by simp)

end Go.Proofs.Ytdnhfofmfpgmmaa.PSegmentBack
