/- This file proves, function by function, what the Go functions that one law uses compute; most of it was printed by a program (wip/tools of this session, over the kit's print). -/
import Derived.Test.YtdnhfofmfpgmmaaPSegmentBackx0
import Derived.Test.YtdnhfofmfpgmmaaPSegmentBackx3
import Derived.Test.YtdnhfofmfpgmmaaPSegmentBackx4
import Derived.Test.YtdnhfofmfpgmmaaPSegmentBackx5
namespace Go.Proofs.Ytdnhfofmfpgmmaa.PSegmentBack
open Go.RowKit Go.Proofs.YtdnhfofmfpgmmaaW.PrintWords Go.Proofs.YtdnhfofmfpgmmaaW.PrintLast Go.Proofs.YtdnhfofmfpgmmaaW.PrintMore
attribute [local go_sem] max2_int min2_int max_two min_two max_three min_three max_four min_four   -- for this text's walks alone
set_option linter.unusedVariables false
set_option linter.unusedSimpArgs false

/-! ### segment_delta_encode: function 108 -/
def segment_delta_encode.l0 : Nat → List Int → List Int → Int → Option (List Int × Bool)
 | 0,_,_,_=>none
 | k + 1,x1,x6,x7=>if x7 < (x1.length : Int) then (if 0 ≤ x7 then (if 0 ≤ (wrap64 (x7 - 1)) then (if (wrap64 (x7 - 1)) < (x1.length : Int) then (if x6.length < 17592186044416 then (segment_delta_encode.l0 k x1 (x6 ++ [mx (wrap64 (2 * (wrap64 ((rd x1 x7) - (rd x1 (wrap64 (x7 - 1))))))) (wrap64 ((wrap64 ((-2) * (wrap64 ((rd x1 x7) - (rd x1 (wrap64 (x7 - 1))))))) - 1))]) (wrap64 (x7 + 1))) else (none)) else (none)) else (none)) else (none)) else ((codec_Width.f k x6).bind fun t212=>((codec_Pack.f k x6 t212).bind fun bt213=>(if 0 < (x1.length : Int) then ((codec_PutInt.f k ([] : List Int) (rd x1 0)).bind fun t218=>(if t218.length < 140737488355328 then ((some (t218 ++ [(t212) % 256] : List Int)).bind fun y221=>(if y221.length + bt213.1.length < 140737488355328 then (some ((y221 ++ bt213.1),(bt213.2 == 0))) else (none))) else (none))) else (none))))
def segment_delta_encode.f (k : Nat)  (l1 : List Int) : Option (List Int × Bool):=segment_delta_encode.l0 k l1 ([] : List Int) 1
theorem segment_delta_encode.mono_l : ∀ k,(∀ y0 y1 y2,LeO (segment_delta_encode.l0 k y0 y1 y2) (segment_delta_encode.l0 (k + 1) y0 y1 y2))
 | 0=>fun _ _ _ r h=>by simp [segment_delta_encode.l0] at h
 | k + 1=>by
  have ih0:=segment_delta_encode.mono_l k
  ·
   intro y0 y1 y2
   unfold segment_delta_encode.l0
   repeat' first|(with_reducible first|apply ih0|apply codec_Pack.mono|apply codec_PutInt.mono|apply codec_Width.mono|exact lz|refine LeO.ite ?_ ?_|refine LeO.bind ?_ fun _=>?_)
theorem segment_delta_encode.mono : ∀ a0 k,LeO (segment_delta_encode.f k a0) (segment_delta_encode.f (k + 1) a0):=by
 intro a0 k
 have ih0:=segment_delta_encode.mono_l k
 unfold segment_delta_encode.f
 repeat' first|(with_reducible first|apply ih0|apply codec_Pack.mono|apply codec_PutInt.mono|apply codec_Width.mono|exact lz|refine LeO.ite ?_ ?_|refine LeO.bind ?_ fun _=>?_)
set_option maxHeartbeats 8000000 in
set_option maxRecDepth 100000 in
theorem segment_delta_encode.calls (k : Nat)  (A1 : Option Addr) (c1 : Nat) (l1 : List Int) (r1 : List Int) (r2 : Bool) (w : World) (hr1 : Kd.C (Kd.int .i64) w A1 l1.length l1) (hc1 : l1.length ≤ c1) (h : segment_delta_encode.f k l1 = some (r1,r2)) :
  Calls Try.prog 108 #[.agg #[],.slice A1 l1.length c1] w fun e w'=>∃ v0_ : Value,e = .returned (.tuple #[v0_,.bool r2])∧Kd.R (Kd.int .u8) 5 w' w.heap.size (fun _=>True) v0_ r1∧Below w.heap.size w w':=by
 have hu102:=Try.underlying102
 have HR1:=A_ hr1
 have HC1:=A_ hc1
 clear hr1 hc1
 have HB:=A_ (Below.refl w.heap.size w)
 have H : (segment_delta_encode.l0 k l1 ([] : List Int) 1) = some (r1,r2):=h
 clear h
 have H':=A_ H
 clear H
 go_enter Try.func108,Try.ntmps108
 go_wp2_with (first|((with_reducible refine gate_dst (N:=2) rfl ?_);refine box_event ?hg (N:=2) ?hd (cs:=#[]) (t:=102) ?hr ?_;(case hd=>rfl);(case hg=>rfl);(case hr=>first|(go_simp;done)|(go_simp;rfl));intro gb206 hg w3 hbox hb;have n0_:=A_ (below_step uq0 hb);have n1_:=A_ (hbox);have n2_:=A_ ((uq8 : w.heap.size ≤ gb206));have n3_:=A_ ((uq8 : w.heap.size ≤ gb206));clear HB;have HB:=n0_;have BK206:=n1_;have GW206:=n2_;have GE206:=n3_;clear n0_ n1_ n2_ n3_;clear hb hbox hg))
 repeat (go_quiet (first|((with_reducible refine gate_dst (N:=2) rfl ?_);refine box_event ?hg (N:=2) ?hd (cs:=#[]) (t:=102) ?hr ?_;(case hd=>rfl);(case hg=>rfl);(case hr=>first|(go_simp;done)|(go_simp;rfl));intro gb206 hg w3 hbox hb;have n0_:=A_ (below_step uq0 hb);have n1_:=A_ (hbox);have n2_:=A_ ((uq8 : w.heap.size ≤ gb206));have n3_:=A_ ((uq8 : w.heap.size ≤ gb206));clear HB;have HB:=n0_;have BK206:=n1_;have GW206:=n2_;have GE206:=n3_;clear n0_ n1_ n2_ n3_;clear hb hbox hg));try go_wp2_with (first|((with_reducible refine gate_dst (N:=2) rfl ?_);refine box_event ?hg (N:=2) ?hd (cs:=#[]) (t:=102) ?hr ?_;(case hd=>rfl);(case hg=>rfl);(case hr=>first|(go_simp;done)|(go_simp;rfl));intro gb206 hg w3 hbox hb;have n0_:=A_ (below_step uq0 hb);have n1_:=A_ (hbox);have n2_:=A_ ((uq8 : w.heap.size ≤ gb206));have n3_:=A_ ((uq8 : w.heap.size ≤ gb206));clear HB;have HB:=n0_;have BK206:=n1_;have GW206:=n2_;have GE206:=n3_;clear n0_ n1_ n2_ n3_;clear hb hbox hg)))
 go_loopg [6,7] k (fun kq v6 v7 w'=>∃ (x6_1 : List Int) (x7_1 : Int),v7 = .int .i64 x7_1∧Aside0 (segment_delta_encode.l0 kq l1 x6_1 x7_1 = some (r1,r2))∧Aside0 (kq ≤ k)∧Aside0 (Kd.R (Kd.int .i64) 3 w' w.heap.size (fun _=>True) v6 x6_1)∧Aside0 (w'.heap[gb206]? = some (.cells #[] 102 (0,0)))∧Aside0 (Below w.heap.size w w'))
 case atStart=>exact ⟨(([] : List Int)),(1),uq2,H',⟨Nat.le_refl _⟩,⟨by first|exact Kd.R_nil _ _ _ _ _|exact Kd.N_nil _ _ _ _ _|exact Kd.V_nil _ _ _ _ _|exact Kd.Q_nil _ _ _ _ _|exact Kd.S_nil _ _ _ _ _⟩,⟨uq10⟩,⟨uq9⟩⟩
 case round =>
  clear H'
  try clear c1
  try clear p2
  obtain ⟨x6_1,x7_1,rfl,HA,HK1,HO_6,BK206,HB⟩:=hrel
  cases gk with
  | zero=>exact absurd HA.out (by simp [segment_delta_encode.l0])
  | succ k1 =>
   have H:=HA.out
   clear HA
   simp only [segment_delta_encode.l0] at H
   by_cases c4 : x7_1 < (l1.length : Int)
   ·
    rw [if_pos c4] at H
    have c4b0 : decide (x7_1 < (l1.length : Int)) = true:=decide_eq_true c4
    clear c4
    by_cases c5 : 0 ≤ x7_1
    ·
     rw [if_pos c5] at H
     have c5b0 : decide (0 ≤ x7_1) = true:=decide_eq_true c5
     clear c5
     obtain ⟨ji6,hji6⟩ : ∃ j_ : Int,(wrap64 (x7_1 - 1)) = j_:=⟨_,rfl⟩
     replace H : (if 0 ≤ (ji6) then (if (ji6) < (l1.length : Int) then (if x6_1.length < 17592186044416 then (segment_delta_encode.l0 k1 l1 (x6_1 ++ [mx (wrap64 (2 * (wrap64 ((rd l1 x7_1) - (rd l1 (ji6)))))) (wrap64 ((wrap64 ((-2) * (wrap64 ((rd l1 x7_1) - (rd l1 (ji6)))))) - 1))]) (wrap64 (x7_1 + 1))) else (none)) else (none)) else (none)) = some (r1,r2):=by first|(rw [hji6] at H;exact H)|(simp only [hji6] at H ⊢;exact H)
     have hji6w : (IntKind.i64.wrap (x7_1 - 1)) = ji6:=(i64_w _).trans hji6
     by_cases c7 : 0 ≤ (ji6)
     ·
      rw [if_pos c7] at H
      have c7b0 : decide (0 ≤ (ji6)) = true:=decide_eq_true c7
      clear c7
      by_cases c8 : (ji6) < (l1.length : Int)
      ·
       rw [if_pos c8] at H
       have c8b0 : decide ((ji6) < (l1.length : Int)) = true:=decide_eq_true c8
       clear c8
       obtain ⟨ji9,hji9⟩ : ∃ j_ : Int,(mx (wrap64 (2 * (wrap64 ((rd l1 x7_1) - (rd l1 (ji6)))))) (wrap64 ((wrap64 ((-2) * (wrap64 ((rd l1 x7_1) - (rd l1 (ji6)))))) - 1))) = j_:=⟨_,rfl⟩
       replace H : (if x6_1.length < 17592186044416 then (segment_delta_encode.l0 k1 l1 (x6_1 ++ [ji9]) (wrap64 (x7_1 + 1))) else (none)) = some (r1,r2):=by first|(rw [hji9] at H;exact H)|(simp only [hji9] at H ⊢;exact H)
       have hji9_ : (if (wrap64 (2 * (wrap64 ((rd l1 x7_1) - (rd l1 (ji6)))))) < (wrap64 ((wrap64 ((-2) * (wrap64 ((rd l1 x7_1) - (rd l1 (ji6)))))) - 1)) then (wrap64 ((wrap64 ((-2) * (wrap64 ((rd l1 x7_1) - (rd l1 (ji6)))))) - 1)) else (wrap64 (2 * (wrap64 ((rd l1 x7_1) - (rd l1 (ji6))))))) = ji9:=hji9
       by_cases c10 : x6_1.length < 17592186044416
       ·
        rw [if_pos c10] at H
        have LMc10:=A_ c10
        clear c10
        obtain ⟨y209,hy209⟩ : ∃ y_ : List Int,y_ = (x6_1 ++ [ji9]):=⟨_,rfl⟩
        replace H : (segment_delta_encode.l0 k1 l1 y209 (wrap64 (x7_1 + 1))) = some (r1,r2):=by first|(rw [hy209];with_reducible exact H)|(have H2_:=(Option.bind_some _ _).symm.trans H;rw [hy209];with_reducible exact H2_)|(have H2_:=(Option.bind_some _ _).symm.trans H;with_reducible exact H2_)|with_reducible exact H|(rw [hy209];exact H)|exact H
        have Ny209:=A_ hy209
        clear hy209
        have H':=A_ H
        clear H
        have p207 : 0 ≤ (x7_1 : Int):=of_decide_eq_true uq1
        have q207 : x7_1 < (l1.length : Int):=of_decide_eq_true uq1
        obtain ⟨ad207,e207,hx207_0⟩:=Kd.at_int HR1.out x7_1 p207 q207
        cases e207
        replace hx207_0:=(HB.out.cell (World.block_lt_of_cell? w _ hx207_0)).trans hx207_0
        replace p207:=eq_true p207
        replace q207:=eq_true q207
        have p208 : 0 ≤ ((ji6) : Int):=of_decide_eq_true uq1
        have q208 : (ji6) < (l1.length : Int):=of_decide_eq_true uq1
        obtain ⟨ad208,e208,hx208_0⟩:=Kd.at_int HR1.out (ji6) p208 q208
        obtain rfl : ad207 = ad208:=(by injection e208)
        replace hx208_0:=(HB.out.cell (World.block_lt_of_cell? w _ hx208_0)).trans hx208_0
        replace p208:=eq_true p208
        replace q208:=eq_true q208
        go_wp2_with (first|((with_reducible refine gate_builtin (b:=.append) (xs:=#[.tmp 28,.tmp 35]) rfl ?_);at_builtin;refine Kd.R_append (Kd.int .i64) (w0:=w) w.heap.size rfl (.tmp 28) (.tmp 35) 22 3 (.int .i64 0) 8 rfl Try.underlying22 info3 rfl (by decide) (by omega) u6 x6_1 ji9 [.int .i64 ji9] (fun _=>True) (fun _=>False) rfl rfl ?aP (fun _ hk=>hk.elim) ?aF ?aO ?aB ?aS ?aL ?_;(case aP=>exact rfl);(case aB=>exact uq9);(case aF=>exact (fun _ _=>trivial));(case aO=>exact (rx HO_6.out));(case aS=>exact (below_size uq9));(case aL=>have:=LMc10.out;omega);intro v210 w11 ho hb hg hat;rw [← Ny209.out] at ho;replace BK206:=A_ (blk_grown (g:=gb206) (o:=.cells #[] 102 (0,0)) uq10 hg (Kd.R_ne HO_6.out BK206.out (by decide)));replace HB:=A_ (hb);have HO211:=A_ (ho);clear HO_6;clear ho hb hg hat))
        repeat (go_quiet (first|((with_reducible refine gate_builtin (b:=.append) (xs:=#[.tmp 28,.tmp 35]) rfl ?_);at_builtin;refine Kd.R_append (Kd.int .i64) (w0:=w) w.heap.size rfl (.tmp 28) (.tmp 35) 22 3 (.int .i64 0) 8 rfl Try.underlying22 info3 rfl (by decide) (by omega) u6 x6_1 ji9 [.int .i64 ji9] (fun _=>True) (fun _=>False) rfl rfl ?aP (fun _ hk=>hk.elim) ?aF ?aO ?aB ?aS ?aL ?_;(case aP=>exact rfl);(case aB=>exact uq9);(case aF=>exact (fun _ _=>trivial));(case aO=>exact (rx HO_6.out));(case aS=>exact (below_size uq9));(case aL=>have:=LMc10.out;omega);intro v210 w11 ho hb hg hat;rw [← Ny209.out] at ho;replace BK206:=A_ (blk_grown (g:=gb206) (o:=.cells #[] 102 (0,0)) uq10 hg (Kd.R_ne HO_6.out BK206.out (by decide)));replace HB:=A_ (hb);have HO211:=A_ (ho);clear HO_6;clear ho hb hg hat));try go_wp2_with (first|((with_reducible refine gate_builtin (b:=.append) (xs:=#[.tmp 28,.tmp 35]) rfl ?_);at_builtin;refine Kd.R_append (Kd.int .i64) (w0:=w) w.heap.size rfl (.tmp 28) (.tmp 35) 22 3 (.int .i64 0) 8 rfl Try.underlying22 info3 rfl (by decide) (by omega) u6 x6_1 ji9 [.int .i64 ji9] (fun _=>True) (fun _=>False) rfl rfl ?aP (fun _ hk=>hk.elim) ?aF ?aO ?aB ?aS ?aL ?_;(case aP=>exact rfl);(case aB=>exact uq9);(case aF=>exact (fun _ _=>trivial));(case aO=>exact (rx HO_6.out));(case aS=>exact (below_size uq9));(case aL=>have:=LMc10.out;omega);intro v210 w11 ho hb hg hat;rw [← Ny209.out] at ho;replace BK206:=A_ (blk_grown (g:=gb206) (o:=.cells #[] 102 (0,0)) uq10 hg (Kd.R_ne HO_6.out BK206.out (by decide)));replace HB:=A_ (hb);have HO211:=A_ (ho);clear HO_6;clear ho hb hg hat)))
        go_roundg k1
        case measure=>have:=HK1.out;omega
        case rel=>exact ⟨(y209),(wrap64 (x7_1 + 1)),uq2,H',⟨by have:=HK1.out;omega⟩,⟨rx HO211.out⟩,⟨uq10⟩,⟨uq9⟩⟩
       ·
        rw [if_neg c10] at H
        exact absurd H (by simp)
      ·
       rw [if_neg c8] at H
       exact absurd H (by simp)
     ·
      rw [if_neg c7] at H
      exact absurd H (by simp)
    ·
     rw [if_neg c5] at H
     exact absurd H (by simp)
   ·
    rw [if_neg c4] at H
    have c4b0 : decide (x7_1 < (l1.length : Int)) = false:=decide_eq_false c4
    clear c4
    replace H:=Option.bind_eq_some_iff.mp H
    obtain ⟨t212,A120,H⟩:=H
    replace H : ((codec_Pack.f k1 x6_1 t212).bind fun bt213=>(if 0 < (l1.length : Int) then ((codec_PutInt.f k1 ([] : List Int) (rd l1 0)).bind fun t218=>(if t218.length < 140737488355328 then ((some (t218 ++ [(t212) % 256] : List Int)).bind fun y221=>(if y221.length + bt213.1.length < 140737488355328 then (some ((y221 ++ bt213.1),(bt213.2 == 0))) else (none))) else (none))) else (none))) = some (r1,r2):=H
    have A12:=A_ A120
    clear A120
    replace H:=Option.bind_eq_some_iff.mp H
    obtain ⟨⟨t213,t214⟩,A130,H⟩:=H
    replace H : (if 0 < (l1.length : Int) then ((codec_PutInt.f k1 ([] : List Int) (rd l1 0)).bind fun t218=>(if t218.length < 140737488355328 then ((some (t218 ++ [(t212) % 256] : List Int)).bind fun y221=>(if y221.length + t213.length < 140737488355328 then (some ((y221 ++ t213),(t214 == 0))) else (none))) else (none))) else (none)) = some (r1,r2):=H
    have A13:=A_ A130
    clear A130
    by_cases c14 : 0 < (l1.length : Int)
    ·
     rw [if_pos c14] at H
     have c14b0 : decide (0 < (l1.length : Int)) = true:=decide_eq_true c14
     have c14b1 : decide (0 < l1.length) = true:=decide_eq_true (by omega)
     clear c14
     replace H:=Option.bind_eq_some_iff.mp H
     obtain ⟨t218,A150,H⟩:=H
     replace H : (if t218.length < 140737488355328 then ((some (t218 ++ [(t212) % 256] : List Int)).bind fun y221=>(if y221.length + t213.length < 140737488355328 then (some ((y221 ++ t213),(t214 == 0))) else (none))) else (none)) = some (r1,r2):=H
     have A15:=A_ A150
     clear A150
     by_cases c16 : t218.length < 140737488355328
     ·
      rw [if_pos c16] at H
      have LMc16:=A_ c16
      clear c16
      obtain ⟨y221,hy221⟩ : ∃ y_ : List Int,y_ = (t218 ++ [(t212) % 256]):=⟨_,rfl⟩
      replace H : (if y221.length + t213.length < 140737488355328 then (some ((y221 ++ t213),(t214 == 0))) else (none)) = some (r1,r2):=by first|(rw [hy221];with_reducible exact H)|(have H2_:=(Option.bind_some _ _).symm.trans H;rw [hy221];with_reducible exact H2_)|(have H2_:=(Option.bind_some _ _).symm.trans H;with_reducible exact H2_)|with_reducible exact H|(rw [hy221];exact H)|exact H
      have Ny221:=A_ hy221
      clear hy221
      by_cases c17 : y221.length + t213.length < 140737488355328
      ·
       rw [if_pos c17] at H
       have LMc17:=A_ c17
       clear c17
       obtain ⟨y224,hy224⟩ : ∃ y_ : List Int,y_ = (y221 ++ t213):=⟨_,rfl⟩
       replace H : (some (y224,(t214 == 0))) = some (r1,r2):=by first|(rw [hy224];with_reducible exact H)|(have H2_:=(Option.bind_some _ _).symm.trans H;rw [hy224];with_reducible exact H2_)|(have H2_:=(Option.bind_some _ _).symm.trans H;with_reducible exact H2_)|with_reducible exact H|(rw [hy224];exact H)|exact H
       have Ny224:=A_ hy224
       clear hy224
       simp only [Option.some.injEq,Prod.mk.injEq] at H
       obtain ⟨rfl,rfl⟩:=H
       obtain ⟨Ao18,co18,eo18⟩:=Kd.R_slice HO_6.out
       subst eo18
       go_wp2_with (first|(go_at_call 99;(with_reducible refine (codec_Width.calls k1 _ _ x6_1 t212 _ ?side1 ?side2 A12.out).mono ?_);(case side1=>exact cx ((rd_ HO_6.out).2.2));(case side2=>exact (rd_ HO_6.out).2.1);rintro e w19 ⟨rfl,hb⟩;replace HO_6:=A_ (rw_ (rx HO_6.out) hb);replace BK206:=A_ (blk_below (g:=gb206) (o:=.cells #[] 102 (0,0)) uq10 hb);replace HB:=A_ (below_step uq9 hb);(try clear hb);(try clear hb2);(try clear hk);(try clear hi))|(go_at_call 101;(with_reducible refine (codec_Pack.calls k1 _ _ x6_1 t212 t213 t214 _ ?side1 ?side2 A13.out).mono ?_);(case side1=>exact cx ((rd_ HO_6.out).2.2));(case side2=>exact (rd_ HO_6.out).2.1);rintro e w20 ⟨v215,rfl,ho0,hb⟩;replace HO_6:=A_ (rw_ (rx HO_6.out) hb);have HO216:=A_ (Kd.R_lower ho0 (below_size uq9));replace BK206:=A_ (blk_below (g:=gb206) (o:=.cells #[] 102 (0,0)) uq10 hb);replace HB:=A_ (below_step uq9 hb);(try clear hb);(try clear hb2);(try clear hk);(try clear hi);(try clear ho0);have p217 : 0 ≤ (0 : Int):=(by omega);have q217 : 0 < (l1.length : Int):=of_decide_eq_true uq1;obtain ⟨ad217,e217,hx217_0⟩:=Kd.at_int HR1.out 0 p217 q217;cases e217;have qi217 : (0 < l1.length) = True:=eq_true (by omega);(try rw [show ((0 : Int)).toNat = 0 from rfl] at hx217_0);(try rw [Addr.add_zero'] at hx217_0);replace hx217_0:=(HB.out.cell (World.block_lt_of_cell? w _ hx217_0)).trans hx217_0;replace p217:=eq_true p217;replace q217:=eq_true q217)|(go_at_call 46;(refine (codec_PutInt.calls k1 _ _ ([] : List Int) (rd l1 0) t218 _ ?side1 ?side2 A15.out).mono ?_);(case side1=>exact Kd.C_nil _ _);(case side2=>exact Nat.le_refl _);rintro e w21 ⟨v219,rfl,ho0,hb⟩;have n0_:=A_ (rw_ (rx HO_6.out) hb);have n1_:=A_ (re (rx HO216.out) (rs ho0) hb);have n2_:=A_ (Kd.R_lower (rn ho0 (rl (rx HO216.out))) (below_size uq9));have n3_:=A_ (blk_below (g:=gb206) (o:=.cells #[] 102 (0,0)) uq10 hb);have n4_:=A_ (below_step uq9 hb);clear HO_6;clear HO216;clear BK206;clear HB;have HO_6:=n0_;have HO216:=n1_;have HO220:=n2_;have BK206:=n3_;have HB:=n4_;clear n0_ n1_ n2_ n3_ n4_;(try clear hb);(try clear hb2);(try clear hk);(try clear hi);(try clear ho0))|((with_reducible refine gate_builtin (b:=.append) (xs:=#[.tmp 48,.tmp 51]) rfl ?_);at_builtin;refine Kd.R_append (Kd.int .u8) (w0:=w) w.heap.size rfl (.tmp 48) (.tmp 51) 29 5 (.int .u8 0) 1 rfl Try.underlying29 info5 rfl (by decide) (by omega) v219 t218 ((t212) % 256) [.int .u8 ((t212) % 256)] (fun k_=>nb k_ v215) (fun _=>False) rfl rfl ?aP (fun _ hk=>hk.elim) ?aF ?aO ?aB ?aS ?aL ?_;(case aP=>exact rfl);(case aB=>exact uq9);(case aF=>exact (fun k_ hk=>rh (rl (rx HO216.out)) k_ hk));(case aO=>exact uq38);(case aS=>exact (below_size uq9));(case aL=>have:=LMc16.out;omega);intro v222 w22 ho hb hg hat;rw [← Ny221.out] at ho;replace HO_6:=A_ (Kd.R_over' (rx HO_6.out) (Kd.R_typed (rx HO220.out)) (by decide) hg);replace BK206:=A_ (blk_grown (g:=gb206) (o:=.cells #[] 102 (0,0)) uq10 hg (Kd.R_ne HO220.out BK206.out (by decide)));replace HO216:=A_ (rf (ok:=(fun _=>True)) uq27 hg hat);replace HB:=A_ (hb);have HO223:=A_ (ho);clear HO220;clear ho hb hg hat;obtain ⟨Ao24,co24,eo24⟩:=Kd.R_slice HO216.out;subst eo24)|((with_reducible refine gate_builtin (b:=.append) (xs:=#[.tmp 52,.tmp 53]) rfl ?_);at_builtin;refine Kd.R_append_rows (Kd.int .u8) (w0:=w) w.heap.size rfl (.tmp 52) (.tmp 53) 29 5 (.int .u8 0) 1 rfl Try.underlying29 info5 rfl (by decide) (by omega) v222 y221 t213 _ _ _ (fun k_=>nb k_ (.slice Ao24 t213.length co24)) (fun _=>False) rfl rfl ?aO ?aR (fun _ _ h=>h) (fun _ h=>h.elim) ?aF ?aB ?aS ?aL ?_;(case aR=>exact cx ((rd_ HO216.out).2.2));(case aB=>exact uq9);(case aF=>exact (fun k_ hk=>rh (rl (rx HO216.out)) k_ hk));(case aO=>exact (rx HO223.out));(case aS=>exact (below_size uq9));(case aL=>have:=LMc17.out;omega);intro v225 w23 ho hb hg hat;rw [← Ny224.out] at ho;replace HO_6:=A_ (Kd.R_over' (rx HO_6.out) (Kd.R_typed (rx HO223.out)) (by decide) hg);replace BK206:=A_ (blk_grown (g:=gb206) (o:=.cells #[] 102 (0,0)) uq10 hg (Kd.R_ne HO223.out BK206.out (by decide)));replace HO216:=A_ (rf (ok:=(fun _=>True)) uq27 hg hat);replace HB:=A_ (hb);have HO226:=A_ (ho);clear HO223;clear ho hb hg hat))
       repeat (go_quiet (first|(go_at_call 99;(with_reducible refine (codec_Width.calls k1 _ _ x6_1 t212 _ ?side1 ?side2 A12.out).mono ?_);(case side1=>exact cx ((rd_ HO_6.out).2.2));(case side2=>exact (rd_ HO_6.out).2.1);rintro e w19 ⟨rfl,hb⟩;replace HO_6:=A_ (rw_ (rx HO_6.out) hb);replace BK206:=A_ (blk_below (g:=gb206) (o:=.cells #[] 102 (0,0)) uq10 hb);replace HB:=A_ (below_step uq9 hb);(try clear hb);(try clear hb2);(try clear hk);(try clear hi))|(go_at_call 101;(with_reducible refine (codec_Pack.calls k1 _ _ x6_1 t212 t213 t214 _ ?side1 ?side2 A13.out).mono ?_);(case side1=>exact cx ((rd_ HO_6.out).2.2));(case side2=>exact (rd_ HO_6.out).2.1);rintro e w20 ⟨v215,rfl,ho0,hb⟩;replace HO_6:=A_ (rw_ (rx HO_6.out) hb);have HO216:=A_ (Kd.R_lower ho0 (below_size uq9));replace BK206:=A_ (blk_below (g:=gb206) (o:=.cells #[] 102 (0,0)) uq10 hb);replace HB:=A_ (below_step uq9 hb);(try clear hb);(try clear hb2);(try clear hk);(try clear hi);(try clear ho0);have p217 : 0 ≤ (0 : Int):=(by omega);have q217 : 0 < (l1.length : Int):=of_decide_eq_true uq1;obtain ⟨ad217,e217,hx217_0⟩:=Kd.at_int HR1.out 0 p217 q217;cases e217;have qi217 : (0 < l1.length) = True:=eq_true (by omega);(try rw [show ((0 : Int)).toNat = 0 from rfl] at hx217_0);(try rw [Addr.add_zero'] at hx217_0);replace hx217_0:=(HB.out.cell (World.block_lt_of_cell? w _ hx217_0)).trans hx217_0;replace p217:=eq_true p217;replace q217:=eq_true q217)|(go_at_call 46;(refine (codec_PutInt.calls k1 _ _ ([] : List Int) (rd l1 0) t218 _ ?side1 ?side2 A15.out).mono ?_);(case side1=>exact Kd.C_nil _ _);(case side2=>exact Nat.le_refl _);rintro e w21 ⟨v219,rfl,ho0,hb⟩;have n0_:=A_ (rw_ (rx HO_6.out) hb);have n1_:=A_ (re (rx HO216.out) (rs ho0) hb);have n2_:=A_ (Kd.R_lower (rn ho0 (rl (rx HO216.out))) (below_size uq9));have n3_:=A_ (blk_below (g:=gb206) (o:=.cells #[] 102 (0,0)) uq10 hb);have n4_:=A_ (below_step uq9 hb);clear HO_6;clear HO216;clear BK206;clear HB;have HO_6:=n0_;have HO216:=n1_;have HO220:=n2_;have BK206:=n3_;have HB:=n4_;clear n0_ n1_ n2_ n3_ n4_;(try clear hb);(try clear hb2);(try clear hk);(try clear hi);(try clear ho0))|((with_reducible refine gate_builtin (b:=.append) (xs:=#[.tmp 48,.tmp 51]) rfl ?_);at_builtin;refine Kd.R_append (Kd.int .u8) (w0:=w) w.heap.size rfl (.tmp 48) (.tmp 51) 29 5 (.int .u8 0) 1 rfl Try.underlying29 info5 rfl (by decide) (by omega) v219 t218 ((t212) % 256) [.int .u8 ((t212) % 256)] (fun k_=>nb k_ v215) (fun _=>False) rfl rfl ?aP (fun _ hk=>hk.elim) ?aF ?aO ?aB ?aS ?aL ?_;(case aP=>exact rfl);(case aB=>exact uq9);(case aF=>exact (fun k_ hk=>rh (rl (rx HO216.out)) k_ hk));(case aO=>exact uq38);(case aS=>exact (below_size uq9));(case aL=>have:=LMc16.out;omega);intro v222 w22 ho hb hg hat;rw [← Ny221.out] at ho;replace HO_6:=A_ (Kd.R_over' (rx HO_6.out) (Kd.R_typed (rx HO220.out)) (by decide) hg);replace BK206:=A_ (blk_grown (g:=gb206) (o:=.cells #[] 102 (0,0)) uq10 hg (Kd.R_ne HO220.out BK206.out (by decide)));replace HO216:=A_ (rf (ok:=(fun _=>True)) uq27 hg hat);replace HB:=A_ (hb);have HO223:=A_ (ho);clear HO220;clear ho hb hg hat;obtain ⟨Ao24,co24,eo24⟩:=Kd.R_slice HO216.out;subst eo24)|((with_reducible refine gate_builtin (b:=.append) (xs:=#[.tmp 52,.tmp 53]) rfl ?_);at_builtin;refine Kd.R_append_rows (Kd.int .u8) (w0:=w) w.heap.size rfl (.tmp 52) (.tmp 53) 29 5 (.int .u8 0) 1 rfl Try.underlying29 info5 rfl (by decide) (by omega) v222 y221 t213 _ _ _ (fun k_=>nb k_ (.slice Ao24 t213.length co24)) (fun _=>False) rfl rfl ?aO ?aR (fun _ _ h=>h) (fun _ h=>h.elim) ?aF ?aB ?aS ?aL ?_;(case aR=>exact cx ((rd_ HO216.out).2.2));(case aB=>exact uq9);(case aF=>exact (fun k_ hk=>rh (rl (rx HO216.out)) k_ hk));(case aO=>exact (rx HO223.out));(case aS=>exact (below_size uq9));(case aL=>have:=LMc17.out;omega);intro v225 w23 ho hb hg hat;rw [← Ny224.out] at ho;replace HO_6:=A_ (Kd.R_over' (rx HO_6.out) (Kd.R_typed (rx HO223.out)) (by decide) hg);replace BK206:=A_ (blk_grown (g:=gb206) (o:=.cells #[] 102 (0,0)) uq10 hg (Kd.R_ne HO223.out BK206.out (by decide)));replace HO216:=A_ (rf (ok:=(fun _=>True)) uq27 hg hat);replace HB:=A_ (hb);have HO226:=A_ (ho);clear HO223;clear ho hb hg hat));try go_wp2_with (first|(go_at_call 99;(with_reducible refine (codec_Width.calls k1 _ _ x6_1 t212 _ ?side1 ?side2 A12.out).mono ?_);(case side1=>exact cx ((rd_ HO_6.out).2.2));(case side2=>exact (rd_ HO_6.out).2.1);rintro e w19 ⟨rfl,hb⟩;replace HO_6:=A_ (rw_ (rx HO_6.out) hb);replace BK206:=A_ (blk_below (g:=gb206) (o:=.cells #[] 102 (0,0)) uq10 hb);replace HB:=A_ (below_step uq9 hb);(try clear hb);(try clear hb2);(try clear hk);(try clear hi))|(go_at_call 101;(with_reducible refine (codec_Pack.calls k1 _ _ x6_1 t212 t213 t214 _ ?side1 ?side2 A13.out).mono ?_);(case side1=>exact cx ((rd_ HO_6.out).2.2));(case side2=>exact (rd_ HO_6.out).2.1);rintro e w20 ⟨v215,rfl,ho0,hb⟩;replace HO_6:=A_ (rw_ (rx HO_6.out) hb);have HO216:=A_ (Kd.R_lower ho0 (below_size uq9));replace BK206:=A_ (blk_below (g:=gb206) (o:=.cells #[] 102 (0,0)) uq10 hb);replace HB:=A_ (below_step uq9 hb);(try clear hb);(try clear hb2);(try clear hk);(try clear hi);(try clear ho0);have p217 : 0 ≤ (0 : Int):=(by omega);have q217 : 0 < (l1.length : Int):=of_decide_eq_true uq1;obtain ⟨ad217,e217,hx217_0⟩:=Kd.at_int HR1.out 0 p217 q217;cases e217;have qi217 : (0 < l1.length) = True:=eq_true (by omega);(try rw [show ((0 : Int)).toNat = 0 from rfl] at hx217_0);(try rw [Addr.add_zero'] at hx217_0);replace hx217_0:=(HB.out.cell (World.block_lt_of_cell? w _ hx217_0)).trans hx217_0;replace p217:=eq_true p217;replace q217:=eq_true q217)|(go_at_call 46;(refine (codec_PutInt.calls k1 _ _ ([] : List Int) (rd l1 0) t218 _ ?side1 ?side2 A15.out).mono ?_);(case side1=>exact Kd.C_nil _ _);(case side2=>exact Nat.le_refl _);rintro e w21 ⟨v219,rfl,ho0,hb⟩;have n0_:=A_ (rw_ (rx HO_6.out) hb);have n1_:=A_ (re (rx HO216.out) (rs ho0) hb);have n2_:=A_ (Kd.R_lower (rn ho0 (rl (rx HO216.out))) (below_size uq9));have n3_:=A_ (blk_below (g:=gb206) (o:=.cells #[] 102 (0,0)) uq10 hb);have n4_:=A_ (below_step uq9 hb);clear HO_6;clear HO216;clear BK206;clear HB;have HO_6:=n0_;have HO216:=n1_;have HO220:=n2_;have BK206:=n3_;have HB:=n4_;clear n0_ n1_ n2_ n3_ n4_;(try clear hb);(try clear hb2);(try clear hk);(try clear hi);(try clear ho0))|((with_reducible refine gate_builtin (b:=.append) (xs:=#[.tmp 48,.tmp 51]) rfl ?_);at_builtin;refine Kd.R_append (Kd.int .u8) (w0:=w) w.heap.size rfl (.tmp 48) (.tmp 51) 29 5 (.int .u8 0) 1 rfl Try.underlying29 info5 rfl (by decide) (by omega) v219 t218 ((t212) % 256) [.int .u8 ((t212) % 256)] (fun k_=>nb k_ v215) (fun _=>False) rfl rfl ?aP (fun _ hk=>hk.elim) ?aF ?aO ?aB ?aS ?aL ?_;(case aP=>exact rfl);(case aB=>exact uq9);(case aF=>exact (fun k_ hk=>rh (rl (rx HO216.out)) k_ hk));(case aO=>exact uq38);(case aS=>exact (below_size uq9));(case aL=>have:=LMc16.out;omega);intro v222 w22 ho hb hg hat;rw [← Ny221.out] at ho;replace HO_6:=A_ (Kd.R_over' (rx HO_6.out) (Kd.R_typed (rx HO220.out)) (by decide) hg);replace BK206:=A_ (blk_grown (g:=gb206) (o:=.cells #[] 102 (0,0)) uq10 hg (Kd.R_ne HO220.out BK206.out (by decide)));replace HO216:=A_ (rf (ok:=(fun _=>True)) uq27 hg hat);replace HB:=A_ (hb);have HO223:=A_ (ho);clear HO220;clear ho hb hg hat;obtain ⟨Ao24,co24,eo24⟩:=Kd.R_slice HO216.out;subst eo24)|((with_reducible refine gate_builtin (b:=.append) (xs:=#[.tmp 52,.tmp 53]) rfl ?_);at_builtin;refine Kd.R_append_rows (Kd.int .u8) (w0:=w) w.heap.size rfl (.tmp 52) (.tmp 53) 29 5 (.int .u8 0) 1 rfl Try.underlying29 info5 rfl (by decide) (by omega) v222 y221 t213 _ _ _ (fun k_=>nb k_ (.slice Ao24 t213.length co24)) (fun _=>False) rfl rfl ?aO ?aR (fun _ _ h=>h) (fun _ h=>h.elim) ?aF ?aB ?aS ?aL ?_;(case aR=>exact cx ((rd_ HO216.out).2.2));(case aB=>exact uq9);(case aF=>exact (fun k_ hk=>rh (rl (rx HO216.out)) k_ hk));(case aO=>exact (rx HO223.out));(case aS=>exact (below_size uq9));(case aL=>have:=LMc17.out;omega);intro v225 w23 ho hb hg hat;rw [← Ny224.out] at ho;replace HO_6:=A_ (Kd.R_over' (rx HO_6.out) (Kd.R_typed (rx HO223.out)) (by decide) hg);replace BK206:=A_ (blk_grown (g:=gb206) (o:=.cells #[] 102 (0,0)) uq10 hg (Kd.R_ne HO223.out BK206.out (by decide)));replace HO216:=A_ (rf (ok:=(fun _=>True)) uq27 hg hat);replace HB:=A_ (hb);have HO226:=A_ (ho);clear HO223;clear ho hb hg hat)))
       go_ret2
       exact ⟨_,by first|rfl|(simp [errW_none,errW_some] <;> rfl)|(simp [*,errW_none,errW_some] <;> rfl),by (with_reducible repeat (first|apply ra|apply rb|apply rc));exact rm HO226.out (fun _ hk=>trivial),uq9⟩
      ·
       rw [if_neg c17] at H
       exact absurd H (by simp)
     ·
      rw [if_neg c16] at H
      exact absurd H (by simp)
    ·
     rw [if_neg c14] at H
     exact absurd H (by simp)

/-! ### segment_delta_kind: function 109 -/
def segment_delta_kind.f  : Option (Int):=some 2
set_option maxHeartbeats 8000000 in
set_option maxRecDepth 100000 in
theorem segment_delta_kind.calls  (r : Int) (w : World) (h : segment_delta_kind.f  = some r) :
  Calls Try.prog 109 #[.agg #[]] w fun e w'=>e = .returned (.int .i64 r)∧Below w.heap.size w w':=by
 have hu102:=Try.underlying102
 have HB:=A_ (Below.refl w.heap.size w)
 have H : (some 2) = some r:=h
 clear h
 obtain rfl:=Option.some.inj H
 go_enter Try.func109,Try.ntmps109
 go_wp2_with (first|((with_reducible refine gate_dst (N:=1) rfl ?_);refine box_event ?hg (N:=1) ?hd (cs:=#[]) (t:=102) ?hr ?_;(case hd=>rfl);(case hg=>rfl);(case hr=>first|(go_simp;done)|(go_simp;rfl));intro gb227 hg w2 hbox hb;have n0_:=A_ (below_step uq0 hb);have n1_:=A_ (hbox);have n2_:=A_ ((uq8 : w.heap.size ≤ gb227));have n3_:=A_ ((uq8 : w.heap.size ≤ gb227));clear HB;have HB:=n0_;have BK227:=n1_;have GW227:=n2_;have GE227:=n3_;clear n0_ n1_ n2_ n3_;clear hb hbox hg))
 go_ret
 exact ⟨by first|rfl|(simp [errW_none,errW_some] <;> rfl)|(simp [*,errW_none,errW_some] <;> rfl),by repeat (first|(with_reducible first|exact HB.out|apply ba|apply bb|apply bc|refine below_set ?_ GE227.out)|exact HB.out)⟩

/-! ### segment_Encode: function 13 -/
-- @calls (shapesearch/segment.constant).encode (shapesearch/segment.packed).encode (shapesearch/segment.delta).encode (shapesearch/segment.constant).kind (shapesearch/segment.packed).kind (shapesearch/segment.delta).kind
set_option maxHeartbeats 8000000 in
set_option maxRecDepth 100000 in
theorem segment_Encode.forms (w : World) : Calls Try.prog 42 #[] w fun e w'=>e = .returned (.slice (some ⟨w.heap.size,0,none⟩) 3 3)∧w' = w.alloc (.cells #[.iface 100 (.agg #[]),.iface 101 (.agg #[]),.iface 102 (.agg #[])] 79):=by
 go_enter Try.func42,Try.ntmps42
 go_wp2_with fail
 go_ret
 exact ⟨rfl,rfl⟩
/-- What is best so far: the kind's number and the data. -/
abbrev segment_Encode.Best := Option (Int × List Int)
def segment_Encode.pick (o : segment_Encode.Best) (kd : Int) (b : List Int) (ok : Bool) : segment_Encode.Best :=
 if ok = true then (match o with|none=>some (kd,b)|some (kd',d)=>if b.length < d.length then some (kd,b) else some (kd',d)) else o
def segment_Encode.puts (k : Nat) : List Int → List Int → Option (List Int)
 | [],o=>some o
 | n :: t,o=>(codec_PutInt.f k o n).bind fun o'=>segment_Encode.puts k t o'
def segment_Encode.seal (k : Nat) (o d : List Int) : Option (List Int × Int):=if o.length + d.length < 140737488351232 then (codec_Sum.f (o ++ d)).bind fun s=>some (o ++ d ++ [s % 256,s / 256 % 256,s / 65536 % 256,s / 16777216 % 256],0) else none
def segment_Encode.rest (k : Nat) (l : List Int) : segment_Encode.Best → Option (List Int × Int)
 | none=>none
 | some (kd,d)=>(slices_Min_int_int.f k l).bind fun lo=>(slices_Max_int_int.f k l).bind fun hi=>(segment_total.f k l).bind fun t =>
   (segment_Encode.puts k [(l.length : Int),lo,wrap64 (hi - lo),t] [kd]).bind fun o=>segment_Encode.seal k o d
def segment_Encode.f (k : Nat) (l : List Int) : Option (List Int × Int):=(segment_proper.f k l).bind fun e=>if e = 0 then
 ((segment_constant_encode.f k l).bind fun c=>(segment_packed_encode.f k l).bind fun p=>(segment_delta_encode.f k l).bind fun d =>
  segment_Encode.rest k l (segment_Encode.pick (segment_Encode.pick (segment_Encode.pick none 0 c.1 c.2) 1 p.1 p.2) 2 d.1 d.2)) else some ([],e)
theorem segment_Encode.mono_p (k : Nat) : ∀ xs o,LeO (segment_Encode.puts k xs o) (segment_Encode.puts (k + 1) xs o)
 | [],o=>LeO.refl _
 | n :: t,o=>LeO.bind (codec_PutInt.mono _ _ _) fun _=>segment_Encode.mono_p k t _
theorem segment_Encode.mono_rest (k : Nat) (l : List Int) : ∀ o,LeO (segment_Encode.rest k l o) (segment_Encode.rest (k + 1) l o)
 | none=>LeO.refl _
 | some (kd,d)=>LeO.bind (slices_Min_int_int.mono _ _) fun _=>LeO.bind (slices_Max_int_int.mono _ _) fun _=>LeO.bind (segment_total.mono _ _) fun _=>LeO.bind (segment_Encode.mono_p k _ _) fun _=>LeO.refl _
theorem segment_Encode.mono : ∀ a0 k,LeO (segment_Encode.f k a0) (segment_Encode.f (k + 1) a0):=fun a0 k =>
 LeO.bind (segment_proper.mono _ _) fun _=>LeO.ite (LeO.bind (segment_constant_encode.mono _ _) fun _=>LeO.bind (segment_packed_encode.mono _ _) fun _=>LeO.bind (segment_delta_encode.mono _ _) fun _=>segment_Encode.mono_rest k a0 _) (LeO.refl _)
theorem segment_Encode.own8 (w : World) (base g : Nat) (hb : base ≤ g) (xs : List Int) (m : Nat) (hm : xs.length = m) (hl : m ≤ 1000000) (h : w.heap[g]? = some (.cells (nums .u8 xs).toArray 5 (0,0))) :
  Kd.R (Kd.int .u8) 5 w base (fun _=>True) (.slice (some ⟨g,0,none⟩) m m) xs:=by
 subst hm
 refine Kd.R_of_own (e:=5) ⟨by simp [encs],.inr ⟨g,xs.length,_,rfl,hb,h,Nat.le_refl _,by unfold maxLen;omega,by simp [nums],?_⟩⟩ (fun _ _=>trivial)
 rw [Nat.mul_one,List.take_of_length_le (by simp [nums])]
 rfl
theorem segment_Encode.own64 (w : World) (base g : Nat) (hb : base ≤ g) (xs : List Int) (m : Nat) (hm : xs.length = m) (hl : m ≤ 1000000) (h : w.heap[g]? = some (.cells (nums .i64 xs).toArray 3 (0,0))) :
  Kd.R (Kd.int .i64) 3 w base (fun _=>True) (.slice (some ⟨g,0,none⟩) m m) xs:=by
 subst hm
 refine Kd.R_of_own (e:=3) ⟨by simp [encs],.inr ⟨g,xs.length,_,rfl,hb,h,Nat.le_refl _,by unfold maxLen;omega,by simp [nums],?_⟩⟩ (fun _ _=>trivial)
 rw [Nat.mul_one,List.take_of_length_le (by simp [nums])]
 rfl
/-- What is best so far, in memory. -/
def segment_Encode.Tr (w W : World) (o : segment_Encode.Best) (s5 s6 : Value) : Prop :=
 match o with
 | none=>s5 = .nilIface∧s6 = .slice none 0 0
 | some (kd,d)=>∃ t A c,(t,kd) ∈ [(100,(0 : Int)),(101,1),(102,2)]∧s5 = .iface t (.agg #[])∧s6 = .slice A d.length c∧Kd.R (Kd.int .u8) 5 W w.heap.size (fun _=>True) (.slice A d.length c) d
theorem segment_Encode.Tr.step {w W W1 : World} {o : segment_Encode.Best} {s5 s6 : Value} (h : segment_Encode.Tr w W o s5 s6) (hb : Below W.heap.size W W1) : segment_Encode.Tr w W1 o s5 s6:=by
 cases o with
 | none=>exact h
 | some x =>
  obtain ⟨t,A,c,h1,h2,h3,h4⟩:=h
  exact ⟨t,A,c,h1,h2,h3,rw_ h4 hb⟩
set_option maxHeartbeats 8000000 in
set_option maxRecDepth 100000 in
theorem segment_Encode.calls (k : Nat) (A0 : Option Addr) (c0 : Nat) (l0 : List Int) (r1 : List Int) (r2 : Int) (w : World) (hr0 : Kd.C (Kd.int .i64) w A0 l0.length l0) (hc0 : l0.length ≤ c0) (h : segment_Encode.f k l0 = some (r1,r2)) :
  Calls Try.prog 13 #[.slice A0 l0.length c0] w fun e w'=>∃ v0_ : Value,e = .returned (.tuple #[v0_,.int .i64 r2])∧Kd.R (Kd.int .u8) 5 w' w.heap.size (fun _=>True) v0_ r1∧Below w.heap.size w w':=by
 have HR0:=A_ hr0
 have HC0:=A_ hc0
 clear hr0 hc0
 unfold segment_Encode.f at h
 obtain ⟨e0,he0,H⟩:=Option.bind_eq_some_iff.mp h
 have HE0:=A_ he0
 clear h he0
 go_enter Try.func13,Try.ntmps13
 go_wp2_with fail
 go_at_call 41
 refine (segment_proper.calls k A0 c0 l0 e0 _ HR0.out HC0.out HE0.out).mono ?_
 rintro e w1 ⟨rfl,hb⟩
 have HB:=A_ hb
 clear hb HE0
 by_cases h0 : e0 = 0
 case neg =>
  rw [if_neg h0] at H
  have hn : (e0 != 0) = true:=bne_iff_ne.mpr h0
  simp only [Option.some.injEq,Prod.mk.injEq] at H
  obtain ⟨rfl,rfl⟩:=H
  clear h0
  go_wp2_with fail
  go_ret2
  exact ⟨_,rfl,Kd.R_nil _ _ _ _ _,HB.out⟩
 case pos =>
 rw [if_pos h0] at H
 have hn : (e0 != 0) = false:=bne_eq_false_iff_eq.mpr h0
 obtain ⟨⟨c1,c2⟩,hcc,H1⟩:=Option.bind_eq_some_iff.mp H
 obtain ⟨⟨p1,p2⟩,hpp,H2⟩:=Option.bind_eq_some_iff.mp H1
 obtain ⟨⟨d1,d2⟩,hdd,H3⟩:=Option.bind_eq_some_iff.mp H2
 have HCC:=A_ hcc
 have HPP:=A_ hpp
 have HDD:=A_ hdd
 have HH:=A_ H3
 clear H H1 H2 H3 hcc hpp hdd h0
 go_wp2_with fail
 go_at_call 42
 refine (segment_Encode.forms _).mono ?_
 rintro e w2 ⟨rfl,hw2⟩
 have HX0:=A_ (show w2.heap[w1.heap.size]? = some (.cells #[.iface 100 (.agg #[]),.iface 101 (.agg #[]),.iface 102 (.agg #[])] 79 (0,0)) from by rw [hw2];exact heap_alloc_new w1 _)
 have HB2:=A_ (show Below w.heap.size w w2 from by rw [hw2];exact HB.out.alloc HB.out.size _)
 clear hw2 hn HB
 generalize w1.heap.size = gx at HX0 ⊢
 clear w1
 go_wp2_with fail
 go_loopg [5,6,23] 3 (fun gk s5 s6 s23 wx=>∃ (z : Int) (o : segment_Encode.Best),s23 = .int .i64 z∧Aside0 (segment_Encode.Tr w wx o s5 s6) ∧
   Aside0 ((z = 0∧gk = 3∧o = none) ∨ (z = 1∧gk = 2∧o = segment_Encode.pick none 0 c1 c2) ∨ (z = 2∧gk = 1∧o = segment_Encode.pick (segment_Encode.pick none 0 c1 c2) 1 p1 p2) ∨ (z = 3∧gk = 0∧o = segment_Encode.pick (segment_Encode.pick (segment_Encode.pick none 0 c1 c2) 1 p1 p2) 2 d1 d2)) ∧
   Aside0 (wx.heap[gx]? = some (.cells #[.iface 100 (.agg #[]),.iface 101 (.agg #[]),.iface 102 (.agg #[])] 79 (0,0)))∧Aside0 (Below w.heap.size w wx))
 case atStart=>exact ⟨0,none,rfl,⟨rfl,rfl⟩,⟨Or.inl ⟨rfl,rfl,rfl⟩⟩,HX0,HB2⟩
 case round =>
  clear HX0 HB2
  obtain ⟨z,o,rfl,HT,HZ,HX,HB⟩:=hrel
  rcases HZ.out with ⟨rfl,rfl,ho⟩|⟨rfl,rfl,ho⟩|⟨rfl,rfl,ho⟩|⟨rfl,rfl,ho⟩
  case inl =>
   have x0 : wr.cell? ⟨gx,0,none⟩ = some (.iface 100 (.agg #[])):=(blk_cell HX.out 0).trans rfl
   have hm : ∀ W,(method 243 100 (.agg #[]) "shapesearch/segment.encode").run Try.prog W = .ok (93,.agg #[]) W:=fun _=>by kernel_rfl
   clear HZ
   go_upto_region 10 with (go_at_call 93;refine (segment_constant_encode.calls k A0 c0 l0 c1 c2 _ (cl HR0.out HB.out) HC0.out HCC.out).mono ?_;rintro e w3 ⟨v,rfl,hr,hb3⟩)
   obtain ⟨Ab,cb,rfl⟩:=Kd.R_slice hr
   have HR3:=A_ (Kd.R_lower hr HB.out.size)
   have HX3:=A_ (blk_below HX.out hb3)
   have HB3:=A_ (below_step HB.out hb3)
   have HT3:=A_ (HT.out.step hb3)
   clear hr hb3 HX HB HT x0 hm
   cases c2 with
   | false =>
    go_wp2_with fail
    go_roundg 2
    case measure=>omega
    case rel=>exact ⟨_,o,rfl,⟨HT3.out⟩,⟨Or.inr (Or.inl ⟨by first|rfl|simp,rfl,by rw [ho];simp [segment_Encode.pick]⟩)⟩,HX3,HB3⟩
   | true =>
    cases o with
    | none =>
     obtain ⟨rfl,rfl⟩:=HT3.out
     have hq : ∀ W,(binOp .eql 79 .nilIface .nilIface).run Try.prog W = .ok (.bool true) W:=fun _=>rfl
     clear HT3
     go_wp2_with fail
     go_roundg 2
     case measure=>omega
     case rel=>exact ⟨_,some (0,c1),rfl,⟨⟨_,Ab,cb,by simp,rfl,rfl,HR3.out⟩⟩,⟨Or.inr (Or.inl ⟨by first|rfl|simp,rfl,by first|rfl|(rw [← ho];rfl)⟩)⟩,HX3,HB3⟩
    | some bd=>cases ho
  case inr.inl =>
   have x0 : wr.cell? ⟨gx,1,none⟩ = some (.iface 101 (.agg #[])):=(blk_cell HX.out 1).trans rfl
   have hm : ∀ W,(method 243 101 (.agg #[]) "shapesearch/segment.encode").run Try.prog W = .ok (96,.agg #[]) W:=fun _=>by kernel_rfl
   clear HZ
   go_upto_region 10 with (go_at_call 96;refine (segment_packed_encode.calls k A0 c0 l0 p1 p2 _ (cl HR0.out HB.out) HC0.out HPP.out).mono ?_;rintro e w3 ⟨v,rfl,hr,hb3⟩)
   obtain ⟨Ab,cb,rfl⟩:=Kd.R_slice hr
   have HR3:=A_ (Kd.R_lower hr HB.out.size)
   have HX3:=A_ (blk_below HX.out hb3)
   have HB3:=A_ (below_step HB.out hb3)
   have HT3:=A_ (HT.out.step hb3)
   clear hr hb3 HX HB HT x0 hm
   cases p2 with
   | false =>
    go_wp2_with fail
    go_roundg 1
    case measure=>omega
    case rel=>exact ⟨_,o,rfl,⟨HT3.out⟩,⟨Or.inr (Or.inr (Or.inl ⟨by first|rfl|simp,rfl,by rw [ho];simp [segment_Encode.pick]⟩))⟩,HX3,HB3⟩
   | true =>
    cases o with
    | none =>
     obtain ⟨rfl,rfl⟩:=HT3.out
     have hq : ∀ W,(binOp .eql 79 .nilIface .nilIface).run Try.prog W = .ok (.bool true) W:=fun _=>rfl
     clear HT3
     go_wp2_with fail
     go_roundg 1
     case measure=>omega
     case rel=>exact ⟨_,some (1,p1),rfl,⟨⟨_,Ab,cb,by simp,rfl,rfl,HR3.out⟩⟩,⟨Or.inr (Or.inr (Or.inl ⟨by first|rfl|simp,rfl,by first|rfl|(rw [← ho];rfl)⟩))⟩,HX3,HB3⟩
    | some bd =>
     obtain ⟨kd,d⟩:=bd
     obtain ⟨tb,Ad,cd,hmem,rfl,rfl,hrd⟩:=HT3.out
     have HRD:=A_ hrd
     have HM:=A_ hmem
     have hq : ∀ W,(binOp .eql 79 (.iface tb (.agg #[])) .nilIface).run Try.prog W = .ok (.bool false) W:=fun _=>rfl
     clear HT3 hrd hmem
     by_cases hl : p1.length < d.length
     case pos =>
      have hd : decide ((p1.length : Int) < (d.length : Int)) = true:=decide_eq_true (by omega)
      go_wp2_with fail
      go_roundg 1
      case measure=>omega
      case rel=>exact ⟨_,some (1,p1),rfl,⟨⟨_,Ab,cb,by simp,rfl,rfl,HR3.out⟩⟩,⟨Or.inr (Or.inr (Or.inl ⟨by first|rfl|simp,rfl,by rw [← ho];simp [segment_Encode.pick,hl]⟩))⟩,HX3,HB3⟩
     case neg =>
      have hd : decide ((p1.length : Int) < (d.length : Int)) = false:=decide_eq_false (by omega)
      go_wp2_with fail
      go_roundg 1
      case measure=>omega
      case rel=>exact ⟨_,some (kd,d),rfl,⟨⟨tb,Ad,cd,HM.out,rfl,rfl,HRD.out⟩⟩,⟨Or.inr (Or.inr (Or.inl ⟨by first|rfl|simp,rfl,by rw [← ho];simp [segment_Encode.pick,hl]⟩))⟩,HX3,HB3⟩
  case inr.inr.inl =>
   have x0 : wr.cell? ⟨gx,2,none⟩ = some (.iface 102 (.agg #[])):=(blk_cell HX.out 2).trans rfl
   have hm : ∀ W,(method 243 102 (.agg #[]) "shapesearch/segment.encode").run Try.prog W = .ok (108,.agg #[]) W:=fun _=>by kernel_rfl
   clear HZ
   go_upto_region 10 with (go_at_call 108;refine (segment_delta_encode.calls k A0 c0 l0 d1 d2 _ (cl HR0.out HB.out) HC0.out HDD.out).mono ?_;rintro e w3 ⟨v,rfl,hr,hb3⟩)
   obtain ⟨Ab,cb,rfl⟩:=Kd.R_slice hr
   have HR3:=A_ (Kd.R_lower hr HB.out.size)
   have HX3:=A_ (blk_below HX.out hb3)
   have HB3:=A_ (below_step HB.out hb3)
   have HT3:=A_ (HT.out.step hb3)
   clear hr hb3 HX HB HT x0 hm
   cases d2 with
   | false =>
    go_wp2_with fail
    go_roundg 0
    case measure=>omega
    case rel=>exact ⟨_,o,rfl,⟨HT3.out⟩,⟨Or.inr (Or.inr (Or.inr ⟨by first|rfl|simp,rfl,by rw [ho];simp [segment_Encode.pick]⟩))⟩,HX3,HB3⟩
   | true =>
    cases o with
    | none =>
     obtain ⟨rfl,rfl⟩:=HT3.out
     have hq : ∀ W,(binOp .eql 79 .nilIface .nilIface).run Try.prog W = .ok (.bool true) W:=fun _=>rfl
     clear HT3
     go_wp2_with fail
     go_roundg 0
     case measure=>omega
     case rel=>exact ⟨_,some (2,d1),rfl,⟨⟨_,Ab,cb,by simp,rfl,rfl,HR3.out⟩⟩,⟨Or.inr (Or.inr (Or.inr ⟨by first|rfl|simp,rfl,by first|rfl|(rw [← ho];rfl)⟩))⟩,HX3,HB3⟩
    | some bd =>
     obtain ⟨kd,d⟩:=bd
     obtain ⟨tb,Ad,cd,hmem,rfl,rfl,hrd⟩:=HT3.out
     have HRD:=A_ hrd
     have HM:=A_ hmem
     have hq : ∀ W,(binOp .eql 79 (.iface tb (.agg #[])) .nilIface).run Try.prog W = .ok (.bool false) W:=fun _=>rfl
     clear HT3 hrd hmem
     by_cases hl : d1.length < d.length
     case pos =>
      have hd : decide ((d1.length : Int) < (d.length : Int)) = true:=decide_eq_true (by omega)
      go_wp2_with fail
      go_roundg 0
      case measure=>omega
      case rel=>exact ⟨_,some (2,d1),rfl,⟨⟨_,Ab,cb,by simp,rfl,rfl,HR3.out⟩⟩,⟨Or.inr (Or.inr (Or.inr ⟨by first|rfl|simp,rfl,by rw [← ho];simp [segment_Encode.pick,hl]⟩))⟩,HX3,HB3⟩
     case neg =>
      have hd : decide ((d1.length : Int) < (d.length : Int)) = false:=decide_eq_false (by omega)
      go_wp2_with fail
      go_roundg 0
      case measure=>omega
      case rel=>exact ⟨_,some (kd,d),rfl,⟨⟨tb,Ad,cd,HM.out,rfl,rfl,HRD.out⟩⟩,⟨Or.inr (Or.inr (Or.inr ⟨by first|rfl|simp,rfl,by rw [← ho];simp [segment_Encode.pick,hl]⟩))⟩,HX3,HB3⟩
  case inr.inr.inr =>
   have H:=HH.out
   rw [← ho] at H
   clear HH HCC HPP HDD HX HZ
   cases o with
   | none=>cases H
   | some bd =>
   obtain ⟨kd,d⟩:=bd
   obtain ⟨tb,Ad,cd,hmem,rfl,rfl,hrd⟩:=HT.out
   have HRD:=A_ hrd
   have HM:=A_ hmem
   have hk02 : 0 ≤ kd∧kd ≤ 2:=by
    simp only [List.mem_cons,Prod.mk.injEq,List.mem_nil_iff,or_false] at hmem
    omega
   clear HT hrd hmem ho
   simp only [segment_Encode.rest] at H
   obtain ⟨lo,hlo,H⟩:=Option.bind_eq_some_iff.mp H
   obtain ⟨hi,hhi,H⟩:=Option.bind_eq_some_iff.mp H
   obtain ⟨tt,htt,H⟩:=Option.bind_eq_some_iff.mp H
   obtain ⟨oo,hoo,H⟩:=Option.bind_eq_some_iff.mp H
   have HLO:=A_ hlo
   have HHI:=A_ hhi
   have HTT:=A_ htt
   have HOO:=A_ hoo
   have HS:=A_ H
   clear H hlo hhi htt hoo
   go_wp2_with fail
   go_at_call 43
   refine (slices_Min_int_int.calls k A0 c0 l0 lo _ (cl HR0.out HB.out) HC0.out HLO.out).mono ?_
   rintro e w3 ⟨rfl,hb3⟩
   have HB3:=A_ (below_step HB.out hb3)
   have HRD3:=A_ (rw_ HRD.out hb3)
   clear hb3 HB HRD HLO
   have hk8 : kd % 256 = kd:=by omega
   go_upto_region 14 with (fail)
   go_cut [12] (fun s12 wx=>∃ A c,s12 = .slice A 1 c∧Aside0 (Kd.R (Kd.int .u8) 5 wx w.heap.size (fun _=>True) (.slice A 1 c) [kd])∧Aside0 (Kd.R (Kd.int .u8) 5 wx w.heap.size (fun _=>True) (.slice Ad d.length cd) d)∧Aside0 (Below w.heap.size w wx))
   case first =>
    have hmem:=HM.out
    clear HM
    simp only [List.mem_cons,Prod.mk.injEq,List.mem_nil_iff,or_false] at hmem
    rcases hmem with ⟨rfl,rfl⟩|⟨rfl,rfl⟩|⟨rfl,rfl⟩
    ·
     have hm : ∀ W,(method 243 100 (.agg #[]) "shapesearch/segment.kind").run Try.prog W = .ok (94,.agg #[]) W:=fun _=>by kernel_rfl
     go_wp2_with fail
     go_at_call 94
     refine (segment_constant_kind.calls 0 _ rfl).mono ?_
     rintro e w4 ⟨rfl,hb4⟩
     have HB4:=A_ (below_step HB3.out hb4)
     have HRD4:=A_ (rw_ HRD3.out hb4)
     clear hb4 HB3 HRD3 hm
     go_wp2_with fail
     go_meet
     exact ⟨some ⟨_,0,none⟩,1,rfl,⟨segment_Encode.own8 _ _ _ HB4.out.size [0] 1 rfl (by omega) (heap_alloc_new _ _)⟩,⟨rw_ HRD4.out (Below.alloc (Below.refl _ _) (Nat.le_refl _) _)⟩,⟨HB4.out.alloc HB4.out.size _⟩⟩
    ·
     have hm : ∀ W,(method 243 101 (.agg #[]) "shapesearch/segment.kind").run Try.prog W = .ok (97,.agg #[]) W:=fun _=>by kernel_rfl
     go_wp2_with fail
     go_at_call 97
     refine (segment_packed_kind.calls 1 _ rfl).mono ?_
     rintro e w4 ⟨rfl,hb4⟩
     have HB4:=A_ (below_step HB3.out hb4)
     have HRD4:=A_ (rw_ HRD3.out hb4)
     clear hb4 HB3 HRD3 hm
     go_wp2_with fail
     go_meet
     exact ⟨some ⟨_,0,none⟩,1,rfl,⟨segment_Encode.own8 _ _ _ HB4.out.size [1] 1 rfl (by omega) (heap_alloc_new _ _)⟩,⟨rw_ HRD4.out (Below.alloc (Below.refl _ _) (Nat.le_refl _) _)⟩,⟨HB4.out.alloc HB4.out.size _⟩⟩
    ·
     have hm : ∀ W,(method 243 102 (.agg #[]) "shapesearch/segment.kind").run Try.prog W = .ok (109,.agg #[]) W:=fun _=>by kernel_rfl
     go_wp2_with fail
     go_at_call 109
     refine (segment_delta_kind.calls 2 _ rfl).mono ?_
     rintro e w4 ⟨rfl,hb4⟩
     have HB4:=A_ (below_step HB3.out hb4)
     have HRD4:=A_ (rw_ HRD3.out hb4)
     clear hb4 HB3 HRD3 hm
     go_wp2_with fail
     go_meet
     exact ⟨some ⟨_,0,none⟩,1,rfl,⟨segment_Encode.own8 _ _ _ HB4.out.size [2] 1 rfl (by omega) (heap_alloc_new _ _)⟩,⟨rw_ HRD4.out (Below.alloc (Below.refl _ _) (Nat.le_refl _) _)⟩,⟨HB4.out.alloc HB4.out.size _⟩⟩
   case rest =>
    obtain ⟨Ao,co,rfl,HO,HD,HB1⟩:=hcut
    clear HRD3 HB3 HM hk8 hk02
    go_upto_region 15 with (fail)
    go_wp2_with fail
    go_at_call 44
    refine (slices_Max_int_int.calls k A0 c0 l0 hi _ (cl HR0.out HB1.out) HC0.out HHI.out).mono ?_
    rintro e w5 ⟨rfl,hb5⟩
    have HB5:=A_ (below_step HB1.out hb5)
    have HD5:=A_ (rw_ HD.out hb5)
    have HO5:=A_ (rw_ HO.out hb5)
    clear hb5 HHI HB1 HD HO
    go_wp2_with fail
    go_at_call 45
    refine (segment_total.calls k A0 c0 l0 tt _ (cl HR0.out HB5.out) HC0.out HTT.out).mono ?_
    rintro e w6 ⟨rfl,⟨nd,rfl⟩⟩
    have HB6:=A_ (pw_below_drewN HB5.out nd)
    have HD6:=A_ (Kd.R_drewN HD5.out nd)
    have HO6:=A_ (Kd.R_drewN HO5.out nd)
    clear HB5 HD5 HO5 HTT
    generalize w5.drewN nd = w6 at HB6 HD6 HO6 ⊢
    clear w5
    obtain ⟨df,hdf⟩ : ∃ df,wrap64 (hi - lo) = df:=⟨_,rfl⟩
    have hdf2 : IntKind.i64.wrap (hi - lo) = df:=(i64_w _).trans hdf
    have HOP:=A_ (show segment_Encode.puts k [(l0.length : Int),lo,df,tt] [kd] = some oo from by rw [← hdf];exact HOO.out)
    clear HOO
    go_wp2_with fail
    have HQ:=A_ (show Kd.C (Kd.int .i64) _ (some ⟨w6.heap.size,0,none⟩) 4 [(l0.length : Int),lo,df,tt] from (rd_ (segment_Encode.own64 (w6.alloc (Obj.cells #[.int .i64 l0.length,.int .i64 lo,.int .i64 df,.int .i64 tt] 3)) w.heap.size w6.heap.size HB6.out.size [(l0.length : Int),lo,df,tt] 4 rfl (by omega) (heap_alloc_new _ _))).2.2)
    have HB7:=A_ (HB6.out.alloc HB6.out.size (Obj.cells #[.int .i64 l0.length,.int .i64 lo,.int .i64 df,.int .i64 tt] 3))
    have HD7:=A_ (rw_ HD6.out (Below.alloc (Below.refl _ _) (Nat.le_refl _) (Obj.cells #[.int .i64 l0.length,.int .i64 lo,.int .i64 df,.int .i64 tt] 3)))
    have HO7:=A_ (rw_ HO6.out (Below.alloc (Below.refl _ _) (Nat.le_refl _) (Obj.cells #[.int .i64 l0.length,.int .i64 lo,.int .i64 df,.int .i64 tt] 3)))
    generalize w6.alloc (Obj.cells #[.int .i64 l0.length,.int .i64 lo,.int .i64 df,.int .i64 tt] 3) = w7 at HQ HB7 HD7 HO7 ⊢
    generalize w6.heap.size = gq at HQ ⊢
    clear hdf hdf2 HB6 HD6 HO6 w6
    obtain ⟨xs,hxs⟩ : ∃ xs,xs = [(l0.length : Int),lo,df,tt]:=⟨_,rfl⟩
    rw [← hxs] at HQ HOP
    have hxl : xs.length = 4:=by rw [hxs];rfl
    have HXL:=A_ hxl
    clear hxs hxl
    go_loopg [12,65] 4 (fun gk s12 s65 wx=>∃ (i : Nat) (z : Int) (o : List Int) (A : Option Addr) (c : Nat),s12 = .slice A o.length c∧s65 = .int .i64 z∧Aside0 (z = (i : Int))∧Aside0 (i + gk = 4)∧Aside0 (segment_Encode.puts k (xs.drop i) o = some oo) ∧
     Aside0 (Kd.R (Kd.int .u8) 5 wx w.heap.size (fun _=>True) (.slice A o.length c) o)∧Aside0 (Kd.R (Kd.int .u8) 5 wx w.heap.size (fun _=>True) (.slice Ad d.length cd) d)∧Aside0 (Kd.C (Kd.int .i64) wx (some ⟨gq,0,none⟩) 4 xs)∧Aside0 (Below w.heap.size w wx))
    case atStart=>exact ⟨0,0,[kd],Ao,co,rfl,rfl,⟨rfl⟩,⟨rfl⟩,⟨HOP.out⟩,HO7,HD7,HQ,HB7⟩
    case round =>
     clear HOP HO7 HD7 HQ HB7
     obtain ⟨i,z,o,A,c,rfl,rfl,hz,hi,HP,HO,HD,HQ,HB⟩:=hrel
     cases gk with
     | succ gk =>
      have hp:=HP.out
      rw [show xs.drop i = rd xs z :: xs.drop (i + 1) by
       have:=hi.out
       have h1:=HXL.out
       have h2 : z.toNat = i:=by rw [hz.out];simp
       rw [List.drop_eq_getElem_cons (by omega)]
       congr 1
       unfold rd
       rw [h2,List.getD_eq_getElem?_getD,List.getElem?_eq_getElem (by omega),Option.getD_some]] at hp
      simp only [segment_Encode.puts] at hp
      obtain ⟨o',hput,hp2⟩:=Option.bind_eq_some_iff.mp hp
      have HPUT:=A_ hput
      have HP2:=A_ hp2
      have d4 : decide (z < 4) = true:=decide_eq_true uq22
      have n0 : (0 ≤ z) = True:=eq_true (by rw [hz.out];omega)
      have n4 : (z < 4) = True:=eq_true uq22
      obtain ⟨Aq,eq1,hcq⟩:=Kd.at_int HQ.out z (by rw [hz.out];omega) uq22
      cases eq1
      have hcq : wr.cell? ⟨gq,z.toNat,none⟩ = some (.int .i64 (rd xs z)):=by
       rw [add_plain] at hcq
       exact hcq
      clear hp hput hp2 HP
      go_wp2_with fail
      go_at_call 46
      refine (codec_PutInt.calls k A c o (rd xs z) o' _ (rd_ HO.out).2.2 (rd_ HO.out).2.1 HPUT.out).mono ?_
      rintro e w8 ⟨v,rfl,hr,hb8⟩
      obtain ⟨A8,c8,rfl⟩:=Kd.R_slice hr
      have HB8:=A_ (below_step HB.out hb8)
      have HO8:=A_ (Kd.R_lower hr HB.out.size)
      have HD8:=A_ (rw_ HD.out hb8)
      have HQ8:=A_ (cl HQ.out hb8)
      clear hr hb8 HB HO HD HQ HPUT d4 n0 n4 hcq
      go_wp2_with fail
      go_roundg gk
      case measure=>omega
      case rel=>exact ⟨i + 1,wrap64 (z + 1),o',A8,c8,rfl,by first|rfl|simp,⟨by have:=hz.out;have:=hi.out;unfold wrap64;omega⟩,⟨by have:=hi.out;omega⟩,HP2,HO8,HD8,HQ8,HB8⟩
     | zero =>
      have hoo : o = oo:=by
       have:=HP.out
       have hi4:=hi.out
       have h1:=HXL.out
       rw [List.drop_of_length_le (by omega)] at this
       exact Option.some.inj this
      subst hoo
      have d4 : decide (z < 4) = false:=decide_eq_false uq22
      clear HP HQ HXL hi hz
      have H:=HS.out
      unfold segment_Encode.seal at H
      by_cases hlen : o.length + d.length < 140737488351232
      case neg=>rw [if_neg hlen] at H;cases H
      rw [if_pos hlen] at H
      have HLEN:=A_ hlen
      obtain ⟨sm,hsm,H⟩:=Option.bind_eq_some_iff.mp H
      obtain ⟨q,hq⟩ : ∃ q,q = o ++ d:=⟨_,rfl⟩
      rw [← hq] at hsm H
      simp only [Option.some.injEq,Prod.mk.injEq] at H
      obtain ⟨rfl,rfl⟩:=H
      have HSM:=A_ hsm
      have HQ:=A_ hq
      clear hlen hsm HS hq
      go_wp2_with (first|((with_reducible refine gate_builtin (b:=.append) (xs:=#[.tmp 73,.tmp 74]) rfl ?_);at_builtin;refine Kd.R_append_rows (Kd.int .u8) (w0:=w) w.heap.size rfl (.tmp 73) (.tmp 74) 29 5 (.int .u8 0) 1 rfl Try.underlying29 info5 rfl (by decide) (by omega) (.slice A o.length c) o d _ _ _ (fun _=>True) (fun _=>False) rfl rfl ?aO ?aR (fun _ _ h=>h) (fun _ h=>h.elim) ?aF ?aB ?aS ?aL ?_;(case aR=>exact (rd_ HD.out).2.2);(case aB=>exact HB.out);(case aF=>exact fun _ _=>trivial);(case aO=>exact HO.out);(case aS=>exact HB.out.size);(case aL=>have:=HLEN.out;omega);intro v9 w9 ho hb hg hat;rw [← HQ.out] at ho;obtain ⟨A9,c9,rfl⟩:=Kd.R_slice ho;have HO9:=A_ ho;have HB9:=A_ hb;clear ho hb hg hat))
      go_at_call 47
      refine (codec_Sum.calls A9 c9 q sm _ (rd_ HO9.out).2.2 (rd_ HO9.out).2.1 HSM.out).mono ?_
      rintro e w10 ⟨rfl,hb10⟩
      have HB10:=A_ (below_step HB9.out hb10)
      have HO10:=A_ (rw_ HO9.out hb10)
      have hql : q.length + 4 < 140737488355328:=by rw [HQ.out,List.length_append];have:=HLEN.out;omega
      have HQL:=A_ hql
      clear hb10 HB9 HO9 HB HO HD HSM hql HLEN HQ
      go_upto_region 22 with (fail)
      have HBL:=fun o=>HB10.out.alloc HB10.out.size o
      go_wp2_with (first|((with_reducible refine gate_builtin (b:=.append) (xs:=#[.tmp 78,.tmp 90]) rfl ?_);at_builtin;refine Kd.R_append_rows (Kd.int .u8) (w0:=w) w.heap.size rfl (.tmp 78) (.tmp 90) 29 5 (.int .u8 0) 1 rfl Try.underlying29 info5 rfl (by decide) (by omega) (.slice A9 q.length c9) q [sm % 256,sm / 256 % 256,sm / 65536 % 256,sm / 16777216 % 256] (some ⟨w10.heap.size,0,none⟩) 4 4 (fun _=>True) (fun _=>False) rfl rfl ?aO ?aR (fun _ _ h=>h) (fun _ h=>h.elim) ?aF ?aB ?aS ?aL ?_;(case aR=>exact (show Kd.C (Kd.int .u8) _ (some ⟨w10.heap.size,0,none⟩) 4 [sm % 256,sm / 256 % 256,sm / 65536 % 256,sm / 16777216 % 256] from (rd_ (segment_Encode.own8 _ w.heap.size w10.heap.size HB10.out.size [sm % 256,sm / 256 % 256,sm / 65536 % 256,sm / 16777216 % 256] 4 rfl (by omega) (heap_alloc_new _ _))).2.2));(case aB=>exact HBL _);(case aF=>exact fun _ _=>trivial);(case aO=>exact rw_ HO10.out (Below.alloc (Below.refl _ _) (Nat.le_refl _) _));(case aS=>exact (HBL _).size);(case aL=>have:=HQL.out;omega);intro v11 w11 ho hb hg hat;have HO11:=A_ ho;have HB11:=A_ hb;clear ho hb hg hat))
      go_ret2
      exact ⟨_,rfl,HO11.out,HB11.out⟩

/-! ### bytes_Equal: function 64 -/
def bytes_Equal.f (l0 : List Int) (l1 : List Int) : Option (Bool):=some ((strOfNums l0).toList == (strOfNums l1).toList)
set_option maxHeartbeats 8000000 in
set_option maxRecDepth 100000 in
theorem bytes_Equal.calls (A0 : Option Addr) (c0 : Nat) (l0 : List Int) (A1 : Option Addr) (c1 : Nat) (l1 : List Int) (r : Bool) (w : World) (hr0 : Kd.C (Kd.int .u8) w A0 l0.length l0) (hc0 : l0.length ≤ c0) (hr1 : Kd.C (Kd.int .u8) w A1 l1.length l1) (hc1 : l1.length ≤ c1) (h : bytes_Equal.f l0 l1 = some r) :
  Calls Try.prog 64 #[.slice A0 l0.length c0,.slice A1 l1.length c1] w fun e w'=>e = .returned (.bool r)∧Drawn0 w w':=by
 have HR0:=A_ hr0
 have HC0:=A_ hc0
 clear hr0 hc0
 have HR1:=A_ hr1
 have HC1:=A_ hc1
 clear hr1 hc1
 have H : (some ((strOfNums l0).toList == (strOfNums l1).toList)) = some r:=h
 clear h
 obtain rfl:=Option.some.inj H
 have hcv3:=Kd.C_string (P:=Try.prog) (A:=A0) (c:=c0) Try.underlying29 Try.underlying5 Try.underlying9 HR0.out
 have hcv4:=Kd.C_string (P:=Try.prog) (A:=A1) (c:=c1) Try.underlying29 Try.underlying5 Try.underlying9 HR1.out
 go_enter Try.func64,Try.ntmps64
 go_wp2
 go_ret
 exact ⟨by first|rfl|(simp;done)|(simp [*];done),uq7⟩

end Go.Proofs.Ytdnhfofmfpgmmaa.PSegmentBack
