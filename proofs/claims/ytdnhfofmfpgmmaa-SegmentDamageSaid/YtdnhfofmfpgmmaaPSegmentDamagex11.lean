/- This file proves, function by function, what the Go functions that one law uses compute; most of it was printed by a program (wip/tools of this session, over the kit's print). -/
import Derived.Test.YtdnhfofmfpgmmaaPSegmentDamagex0
import Derived.Test.YtdnhfofmfpgmmaaPSegmentDamagex2
import Derived.Test.YtdnhfofmfpgmmaaPSegmentDamagex6
import Derived.Test.YtdnhfofmfpgmmaaPSegmentDamagex10
namespace Go.Proofs.Ytdnhfofmfpgmmaa.PSegmentDamage
open Go.RowKit Go.Proofs.YtdnhfofmfpgmmaaW.PrintWords Go.Proofs.YtdnhfofmfpgmmaaW.PrintLast Go.Proofs.YtdnhfofmfpgmmaaW.PrintMore
attribute [local go_sem] max2_int min2_int max_two min_two max_three min_three max_four min_four   -- for this text's walks alone
set_option linter.unusedVariables false
set_option linter.unusedSimpArgs false

/-! ### shapesearchlaw10_SegmentDamage: function 6 -/
def shapesearchlaw10_SegmentDamage.j0 : Nat → Int → Int → List Int → Bool → Option (Bool)
 | 0,_,_,_,_=>none
 | k + 1,x1,x2,x7,x25=>if x25 = true then (some false) else ((some (([] : List Int) : List Int)).bind fun y320=>(if y320.length + x7.length < 140737488355328 then ((some (y320 ++ x7 : List Int)).bind fun y323=>((shapesearchkeep_Mod.f x1 (y323.length : Int)).bind fun t326=>(if 0 ≤ t326 then (if t326 < (y323.length : Int) then ((segment_Decode.f k (y323.set (t326 : Int).toNat (Go.bits .xor .u8 (rd y323 t326) (mx x2 1)))).bind fun bt329=>(if bt329.2 = 0 then (some false) else ((shapesearchlaw10_awake.f k).bind fun t333=>(some t333)))) else (none)) else (none)))) else (none)))
def shapesearchlaw10_SegmentDamage.f (k : Nat) (l0 : List Int) (a1 : Int) (a2 : Int) : Option (Bool):=(shapesearchkeep_New.f l0).bind fun bt309=>((shapesearchlaw10_made.f k bt309.1 bt309.2).bind fun bt312=>((segment_Encode.f k bt312.1).bind fun bt316=>(if bt316.2 = 0 then (shapesearchlaw10_SegmentDamage.j0 k a1 a2 bt316.1 (decide ((bt316.1.length : Int) < 9))) else (shapesearchlaw10_SegmentDamage.j0 k a1 a2 bt316.1 true))))
theorem shapesearchlaw10_SegmentDamage.mono_l : ∀ k,(∀ y0 y1 y2 y3,LeO (shapesearchlaw10_SegmentDamage.j0 k y0 y1 y2 y3) (shapesearchlaw10_SegmentDamage.j0 (k + 1) y0 y1 y2 y3))
 | 0=>fun _ _ _ _ r h=>by simp [shapesearchlaw10_SegmentDamage.j0] at h
 | k + 1=>by
  have ih0:=shapesearchlaw10_SegmentDamage.mono_l k
  ·
   intro y0 y1 y2 y3
   unfold shapesearchlaw10_SegmentDamage.j0
   repeat' first|(with_reducible first|apply ih0|apply segment_Decode.mono|apply segment_Encode.mono|apply shapesearchlaw10_awake.mono|apply shapesearchlaw10_made.mono|exact lz|refine LeO.ite ?_ ?_|refine LeO.bind ?_ fun _=>?_)
theorem shapesearchlaw10_SegmentDamage.mono : ∀ a0 a1 a2 k,LeO (shapesearchlaw10_SegmentDamage.f k a0 a1 a2) (shapesearchlaw10_SegmentDamage.f (k + 1) a0 a1 a2):=by
 intro a0 a1 a2 k
 have ih0:=shapesearchlaw10_SegmentDamage.mono_l k
 unfold shapesearchlaw10_SegmentDamage.f
 repeat' first|(with_reducible first|apply ih0|apply segment_Decode.mono|apply segment_Encode.mono|apply shapesearchlaw10_awake.mono|apply shapesearchlaw10_made.mono|exact lz|refine LeO.ite ?_ ?_|refine LeO.bind ?_ fun _=>?_)
set_option maxHeartbeats 8000000 in
set_option maxRecDepth 100000 in
theorem shapesearchlaw10_SegmentDamage.calls (k : Nat) (A0 : Option Addr) (c0 : Nat) (l0 : List Int) (a1 : Int) (a2 : Int) (r : Bool) (w : World) (hr0 : Kd.C (Kd.int .i64) w A0 l0.length l0) (hc0 : l0.length ≤ c0) (h : shapesearchlaw10_SegmentDamage.f k l0 a1 a2 = some r) (hT_ : r = true) :
  Calls Try.prog 6 #[.slice A0 l0.length c0,.int .i64 a1,.int .u8 a2] w fun e w'=>e = .returned (.bool r)∧Below w.heap.size w w':=by
 have HTR_:=A_ hT_
 clear hT_
 have HR0:=A_ hr0
 have HC0:=A_ hc0
 clear hr0 hc0
 have HB:=A_ (Below.refl w.heap.size w)
 have H : ((shapesearchkeep_New.f l0).bind fun bt309=>((shapesearchlaw10_made.f k bt309.1 bt309.2).bind fun bt312=>((segment_Encode.f k bt312.1).bind fun bt316=>(if bt316.2 = 0 then (shapesearchlaw10_SegmentDamage.j0 k a1 a2 bt316.1 (decide ((bt316.1.length : Int) < 9))) else (shapesearchlaw10_SegmentDamage.j0 k a1 a2 bt316.1 true))))) = some r:=h
 clear h
 replace H:=Option.bind_eq_some_iff.mp H
 obtain ⟨⟨t309,t310⟩,A40,H⟩:=H
 replace H : ((shapesearchlaw10_made.f k t309 t310).bind fun bt312=>((segment_Encode.f k bt312.1).bind fun bt316=>(if bt316.2 = 0 then (shapesearchlaw10_SegmentDamage.j0 k a1 a2 bt316.1 (decide ((bt316.1.length : Int) < 9))) else (shapesearchlaw10_SegmentDamage.j0 k a1 a2 bt316.1 true)))) = some r:=H
 have A4:=A_ A40
 clear A40
 replace H:=Option.bind_eq_some_iff.mp H
 obtain ⟨⟨t312,t315⟩,A50,H⟩:=H
 replace H : ((segment_Encode.f k t312).bind fun bt316=>(if bt316.2 = 0 then (shapesearchlaw10_SegmentDamage.j0 k a1 a2 bt316.1 (decide ((bt316.1.length : Int) < 9))) else (shapesearchlaw10_SegmentDamage.j0 k a1 a2 bt316.1 true))) = some r:=H
 have A5:=A_ A50
 clear A50
 replace H:=Option.bind_eq_some_iff.mp H
 obtain ⟨⟨t316,t317⟩,A60,H⟩:=H
 replace H : (if t317 = 0 then (shapesearchlaw10_SegmentDamage.j0 k a1 a2 t316 (decide ((t316.length : Int) < 9))) else (shapesearchlaw10_SegmentDamage.j0 k a1 a2 t316 true)) = some r:=H
 have A6:=A_ A60
 clear A60
 have HC7:=A_ H
 clear H
 go_enter Try.func6,Try.ntmps6
 go_upto_region 2 with (first|((with_reducible refine gate_callee (f:=11) rfl ?_);refine gl (some 14) Try.func11 #[.slice A0 l0.length c0] ?_;(with_reducible refine (shapesearchkeep_New.calls _ _ l0 t309 t310 w _ ?side1 ?side2 ?side3 A4.out).mono ?_);(case side1=>exact uq0);(case side2=>exact HR0.out);(case side3=>exact HC0.out);rintro e w8 ⟨g311,rfl,hi,hb,hb2⟩;refine ⟨_,rfl,?_⟩;replace HB:=A_ (hb);have HI311:=A_ (hi);(try clear hb);(try clear hb2);(try clear hk);(try clear hi))|((with_reducible refine gate_callee (f:=10) rfl ?_);refine gl (some 15) Try.func10 #[.pointer (some ⟨g311,0,none⟩)] ?_;(with_reducible refine (shapesearchlaw10_made.calls k g311 t309 t310 t312 t315 w _ ?side1 ?side2 A5.out).mono ?_);(case side1=>repeat (first|(with_reducible first|exact HI311.out|apply IsS76.alloc|apply IsS76.drewN|apply IsS76.drew|apply IsS76.set_1)|exact HI311.out));(case side2=>exact uq25);rintro e w9 ⟨v313,rfl,ho0,hi,hb,hk⟩;refine ⟨_,rfl,?_⟩;have HO314:=A_ (Kd.R_lower ho0 (below_size uq25));replace HB:=A_ (hb);replace HI311:=A_ (hi);(try clear hb);(try clear hb2);(try clear hk);(try clear hi);(try clear ho0);obtain ⟨Ao10,co10,eo10⟩:=Kd.R_slice HO314.out;subst eo10)|((with_reducible refine gate_callee (f:=13) rfl ?_);refine gl (some 16) Try.func13 #[.slice Ao10 t312.length co10] ?_;(with_reducible refine (segment_Encode.calls k _ _ t312 t316 t317 _ ?side1 ?side2 A6.out).mono ?_);(case side1=>exact cx ((rd_ HO314.out).2.2));(case side2=>exact (rd_ HO314.out).2.1);rintro e w11 ⟨v318,rfl,ho0,hb⟩;refine ⟨_,rfl,?_⟩;replace HO314:=A_ (rw_ (rx HO314.out) hb);have HO319:=A_ (Kd.R_lower ho0 (below_size uq25));replace HI311:=A_ (IsS76.below (by repeat (first|(with_reducible first|exact HI311.out|apply IsS76.alloc|apply IsS76.drewN|apply IsS76.drew|apply IsS76.set_1)|exact HI311.out)) hb);replace HB:=A_ (below_step uq25 hb);(try clear hb);(try clear hb2);(try clear hk);(try clear hi);(try clear ho0)))
 (try simp only [Act.put,List.setIfInBounds_toArray,List.set_cons_zero,List.set_cons_succ])
 go_cut [25] (fun v25 wc=>∃ (kq : Nat) (x25_6 : Bool),v25 = .bool x25_6∧Aside0 (shapesearchlaw10_SegmentDamage.j0 kq a1 a2 t316 x25_6 = some r)∧Aside0 (kq ≤ k)∧Aside0 (Kd.R (Kd.int .u8) 5 wc w.heap.size (fun _=>True) v318 t316)∧Aside0 (Below w.heap.size w wc))
 case first =>
  have H:=HC7.out
  clear HC7
  by_cases c12 : t317 = 0
  ·
   rw [if_pos c12] at H
   have c12b0 : (t317 == 0) = true:=beq_iff_eq.mpr c12
   have c12b1 : (t317 != 0) = false:=bne_eq_false_iff_eq.mpr c12
   clear c12
   (first|rw [c12b0]|(simp only [i64_w,i32_w];rw [c12b0])|skip)
   have H':=A_ H
   clear H
   obtain ⟨Ao13,co13,eo13⟩:=Kd.R_slice HO319.out
   subst eo13
   go_wp2
   go_meet
   case rel=>exact ⟨_,(decide ((t316.length : Int) < 9)),uq3,H',⟨by first|omega|exact Nat.le_refl _⟩,⟨rx HO319.out⟩,⟨uq25⟩⟩
  ·
   rw [if_neg c12] at H
   have c12b0 : (t317 == 0) = false:=beq_eq_false_iff_ne.mpr c12
   have c12b1 : (t317 != 0) = true:=bne_iff_ne.mpr c12
   (first|rw [c12b0]|(simp only [i64_w,i32_w];rw [c12b0])|skip)
   have H':=A_ H
   clear H
   go_wp2
   go_meet
   case rel=>exact ⟨_,(true),uq3,H',⟨by first|omega|exact Nat.le_refl _⟩,⟨rx HO319.out⟩,⟨uq25⟩⟩
 case rest =>
  clear HC7
  try clear c1
  try clear p2
  try clear c6
  try clear c10
  try clear c11
  try clear c12
  try clear c12b0
  try clear c12b1
  try clear c13
  obtain ⟨kq,x25_6,rfl,HA,HJ6,HO_7,HB⟩:=hcut
  cases kq with
  | zero=>exact absurd HA.out (by simp [shapesearchlaw10_SegmentDamage.j0])
  | succ kj6 =>
   have H:=HA.out
   clear HA
   simp only [shapesearchlaw10_SegmentDamage.j0] at H
   by_cases c14 : x25_6 = true
   ·
    subst c14
    have H1 : (some false) = some r:=by rw [if_pos rfl] at H;exact H
    clear H
    have H:=H1
    clear H1
    exact absurd ((Option.some.inj H).trans HTR_.out) (by decide)
   ·
    replace c14:=Bool.eq_false_iff.mpr c14
    subst c14
    have H1 : ((some (([] : List Int) : List Int)).bind fun y320=>(if y320.length + t316.length < 140737488355328 then ((some (y320 ++ t316 : List Int)).bind fun y323=>((shapesearchkeep_Mod.f a1 (y323.length : Int)).bind fun t326=>(if 0 ≤ t326 then (if t326 < (y323.length : Int) then ((segment_Decode.f kj6 (y323.set (t326 : Int).toNat (Go.bits .xor .u8 (rd y323 t326) (mx a2 1)))).bind fun bt329=>(if bt329.2 = 0 then (some false) else ((shapesearchlaw10_awake.f kj6).bind fun t333=>(some t333)))) else (none)) else (none)))) else (none))) = some r:=by rw [if_neg (show ¬ (false = true) by decide)] at H;exact H
    clear H
    have H:=H1
    clear H1
    obtain ⟨y320,hy320⟩ : ∃ y_ : List Int,y_ = (([] : List Int)):=⟨_,rfl⟩
    replace H : (if y320.length + t316.length < 140737488355328 then ((some (y320 ++ t316 : List Int)).bind fun y323=>((shapesearchkeep_Mod.f a1 (y323.length : Int)).bind fun t326=>(if 0 ≤ t326 then (if t326 < (y323.length : Int) then ((segment_Decode.f kj6 (y323.set (t326 : Int).toNat (Go.bits .xor .u8 (rd y323 t326) (mx a2 1)))).bind fun bt329=>(if bt329.2 = 0 then (some false) else ((shapesearchlaw10_awake.f kj6).bind fun t333=>(some t333)))) else (none)) else (none)))) else (none)) = some r:=by first|(rw [hy320];with_reducible exact H)|(have H2_:=(Option.bind_some _ _).symm.trans H;rw [hy320];with_reducible exact H2_)|(have H2_:=(Option.bind_some _ _).symm.trans H;with_reducible exact H2_)|with_reducible exact H|(rw [hy320];exact H)|exact H
    have Ny320:=A_ hy320
    clear hy320
    by_cases c15 : y320.length + t316.length < 140737488355328
    ·
     rw [if_pos c15] at H
     have LMc15:=A_ c15
     clear c15
     obtain ⟨y323,hy323⟩ : ∃ y_ : List Int,y_ = (y320 ++ t316):=⟨_,rfl⟩
     replace H : ((shapesearchkeep_Mod.f a1 (y323.length : Int)).bind fun t326=>(if 0 ≤ t326 then (if t326 < (y323.length : Int) then ((segment_Decode.f kj6 (y323.set (t326 : Int).toNat (Go.bits .xor .u8 (rd y323 t326) (mx a2 1)))).bind fun bt329=>(if bt329.2 = 0 then (some false) else ((shapesearchlaw10_awake.f kj6).bind fun t333=>(some t333)))) else (none)) else (none))) = some r:=by first|(rw [hy323];with_reducible exact H)|(have H2_:=(Option.bind_some _ _).symm.trans H;rw [hy323];with_reducible exact H2_)|(have H2_:=(Option.bind_some _ _).symm.trans H;with_reducible exact H2_)|with_reducible exact H|(rw [hy323];exact H)|exact H
     have Ny323:=A_ hy323
     clear hy323
     replace H:=Option.bind_eq_some_iff.mp H
     obtain ⟨t326,A160,H⟩:=H
     replace H : (if 0 ≤ t326 then (if t326 < (y323.length : Int) then ((segment_Decode.f kj6 (y323.set (t326 : Int).toNat (Go.bits .xor .u8 (rd y323 t326) (mx a2 1)))).bind fun bt329=>(if bt329.2 = 0 then (some false) else ((shapesearchlaw10_awake.f kj6).bind fun t333=>(some t333)))) else (none)) else (none)) = some r:=H
     have A16:=A_ A160
     clear A160
     by_cases c17 : 0 ≤ t326
     ·
      rw [if_pos c17] at H
      have c17b0 : decide (0 ≤ t326) = true:=decide_eq_true c17
      clear c17
      by_cases c18 : t326 < (y323.length : Int)
      ·
       rw [if_pos c18] at H
       have c18b0 : decide (t326 < (y323.length : Int)) = true:=decide_eq_true c18
       clear c18
       obtain ⟨ji19,hji19⟩ : ∃ j_ : Int,(mx a2 1) = j_:=⟨_,rfl⟩
       replace H : ((segment_Decode.f kj6 (y323.set (t326 : Int).toNat (Go.bits .xor .u8 (rd y323 t326) (ji19)))).bind fun bt329=>(if bt329.2 = 0 then (some false) else ((shapesearchlaw10_awake.f kj6).bind fun t333=>(some t333)))) = some r:=by first|(rw [hji19] at H;exact H)|(simp only [hji19] at H ⊢;exact H)
       (try rw [hji19] at A16)
       have hji19_ : (if a2 < 1 then 1 else a2) = ji19:=hji19
       obtain ⟨y328,hy328⟩ : ∃ y_ : List Int,y_ = (y323.set (t326 : Int).toNat (Go.bits .xor .u8 (rd y323 t326) (ji19))):=⟨_,rfl⟩
       replace H : ((segment_Decode.f kj6 y328).bind fun bt329=>(if bt329.2 = 0 then (some false) else ((shapesearchlaw10_awake.f kj6).bind fun t333=>(some t333)))) = some r:=by first|(rw [hy328];with_reducible exact H)|(have H2_:=(Option.bind_some _ _).symm.trans H;rw [hy328];with_reducible exact H2_)|(have H2_:=(Option.bind_some _ _).symm.trans H;with_reducible exact H2_)|with_reducible exact H|(rw [hy328];exact H)|exact H
       have Ny328:=A_ hy328
       clear hy328
       replace H:=Option.bind_eq_some_iff.mp H
       obtain ⟨⟨t329,t330⟩,A210,H⟩:=H
       replace H : (if t330 = 0 then (some false) else ((shapesearchlaw10_awake.f kj6).bind fun t333=>(some t333))) = some r:=H
       have A21:=A_ A210
       clear A210
       have HC22:=A_ H
       clear H
       go_upto_region 7 with (first|((with_reducible refine gate_dst (N:=26) rfl ?_);(try (refine gate_guard (by rfl) ?_;dsimp only));refine Kd.R_lit (Kd.int .u8) _ 5 ?hg (N:=26) ?hd (xs:=([] : List Int)) (inner:=[]) (ok:=fun _=>True) (okp:=fun _=>True) ?hr ?hp (fun _ hk=>hk) trivial (Below.refl _ _) (Nat.le_refl _) (by simp) ?_;(case hd=>rfl);(case hg=>rfl);(case hr=>first|(go_simp;done)|(go_simp;rfl));(case hp=>exact (Reps.none _ _));intro v321 w23 ho24 hb hg_ hnew_;clear hg_ hnew_;(first|rw [← Ny320.out] at ho24|(simp only [Int.reduceToNat] at ho24;rw [← Ny320.out] at ho24));have n0_:=A_ (re (rx HO_7.out) (rs ho24) hb);have n1_:=A_ (Kd.R_lower (rn ho24 (rl (rx HO_7.out))) (below_size uq0));have n2_:=A_ (below_step uq0 hb);clear HO_7;clear HB;have HO_7:=n0_;have HO322:=n1_;have HB:=n2_;clear n0_ n1_ n2_;clear hb ho24;obtain ⟨Ao26,co26,eo26⟩:=Kd.R_slice HO_7.out;subst eo26)|((with_reducible refine gate_builtin (b:=.append) (xs:=#[.tmp 26,.tmp 27]) rfl ?_);(try (refine gate_guard (by rfl) ?_;dsimp only));at_builtin;refine Kd.R_append_rows (Kd.int .u8) (w0:=w) w.heap.size rfl (.tmp 26) (.tmp 27) 29 5 (.int .u8 0) 1 rfl Try.underlying29 info5 rfl (by decide) (by omega) v321 y320 t316 _ _ _ (fun k_=>nb k_ (.slice Ao26 t316.length co26)) (fun _=>False) rfl rfl ?aO ?aR (fun _ _ h=>h) (fun _ h=>h.elim) ?aF ?aB ?aS ?aL ?_;(case aR=>exact cx ((rd_ HO_7.out).2.2));(case aB=>exact uq0);(case aF=>exact (fun k_ hk=>rh (rl (rx HO_7.out)) k_ hk));(case aO=>exact (by (with_reducible repeat (first|apply ra|apply rb|apply rc));exact rm HO322.out (fun _ hk=>hk.2)));(case aS=>exact (below_size uq0));(case aL=>have:=LMc15.out;omega);intro v324 w25 ho hb hg hat;rw [← Ny323.out] at ho;replace HO_7:=A_ (rf (ok:=(fun _=>True)) (by (with_reducible repeat (first|apply ra|apply rb|apply rc));first|exact HO_7.out|exact rm HO_7.out (fun _ h_=>⟨trivial,h_⟩)) hg hat);replace HB:=A_ (hb);have HO325:=A_ (ho);clear HO322;clear ho hb hg hat;obtain ⟨Ao27,co27,eo27⟩:=Kd.R_slice HO325.out;subst eo27)|((with_reducible refine gate_callee (f:=26) rfl ?_);refine gl (some 33) Try.func26 #[.int .i64 a1,.int .i64 (y323.length : Int)] ?_;(with_reducible refine (shapesearchkeep_Mod.calls a1 (y323.length : Int) t326 _ A16.out).mono ?_);rintro e w' ⟨rfl,⟨nd,rfl⟩⟩;refine ⟨_,rfl,?_⟩;(try (rw [drewN_self w25];generalize hq_ : World.drewN w25 _ = w25;have n0_ : Aside0 (Kd.R (Kd.int .u8) 5 w25 w.heap.size (fun k_=>nb k_ (.slice Ao26 t316.length co26)) (.slice Ao27 y323.length co27) y323):=⟨by rw [← hq_];exact (rx HO325.out)⟩;have n1_ : Aside0 (Kd.R (Kd.int .u8) 5 w25 w.heap.size (fun k_=>nb k_ (.slice Ao27 y323.length co27)) (.slice Ao26 t316.length co26) t316):=⟨by rw [← hq_];exact (by (with_reducible repeat (first|apply ra|apply rb|apply rc));exact rm HO_7.out (fun _ hk=>hk.2))⟩;have n2_ : Aside0 (Below w.heap.size w w25):=⟨by rw [← hq_];exact uq0⟩;clear HO325 HO_7 HB hq_;have HO325:=n0_;have HO_7:=n1_;have HB:=n2_;clear n0_ n1_ n2_));have p327 : 0 ≤ (t326 : Int):=of_decide_eq_true uq1;have q327 : t326 < (y323.length : Int):=of_decide_eq_true uq1;obtain ⟨ad327,e327,hx327_0⟩:=Kd.at_int (rd_ HO325.out).2.2 t326 p327 q327;cases e327;replace p327:=eq_true p327;replace q327:=eq_true q327;have p20 : 0 ≤ (t326 : Int):=of_decide_eq_true uq1;have q20 : (t326 : Int) < ((y323.length : Int) : Int):=of_decide_eq_true uq1;obtain ⟨go20,co20,eo20,gb20,gl20,cl20,HG20⟩:=Kd.R_form HO325.out (by omega);(first|cases eo20|(injection eo20 with ea_ en_ ec_;(first|subst ea_|(injection ea_ with ea_;subst ea_));subst ec_;clear en_));have GB20:=A_ gb20;have GG20:=A_ HG20;clear gb20 gl20 HG20;(first|simp only [add_plain] at hx327_0|skip);obtain ⟨hx20_0,hf20_0⟩:=Kd.R_celln 0 HO325.out (t326 : Int) p20 q20;replace p20:=eq_true p20;replace q20:=eq_true q20;obtain ⟨hy28_,hz28_⟩:=Kd.R_celln 0 HO325.out (t326 : Int) (of_decide_eq_true uq1) (of_decide_eq_true uq1);have HP28:=Kd.R_putg HO325.out (t326 : Int) (Go.bits .xor .u8 (rd y323 t326) (ji19)))|((with_reducible refine gate_store (t:=5) (p:=39) rfl ?_);refine store_event (t:=5) (p:=39) (v:=?vo_w29) (w1:=(w25.setCell ⟨go20,(t326 : Int).toNat,none⟩ (.int .u8 (Go.bits .xor .u8 (rd y323 t326) (ji19))))) ?hg ?ho ?hn ?hr ?_;(case ho=>rfl);(case hg=>rfl);(case hn=>rfl);(case hr=>first|(go_simp;done)|(go_simp;rfl));intro w29 hw;have hg : w25.grownBy w29 (some go20):=(by rw [hw];exact HP28.2);have hp_ : Kd.R (Kd.int .u8) 5 w29 w.heap.size (fun k_=>nb k_ (.slice Ao26 t316.length co26)) (.slice (some ⟨go20,0,none⟩) y323.length co27) y328:=(by rw [hw,Ny328.out];exact HP28.1);clear HP28;replace HO_7:=A_ (rf (v:=(.slice (some ⟨go20,0,none⟩) y323.length co27)) (v1:=(.slice (some ⟨go20,0,none⟩) y323.length co27)) (ok:=(fun _=>True)) (by (with_reducible repeat (first|apply ra|apply rb|apply rc));first|exact HO_7.out|exact rm HO_7.out (fun _ h_=>⟨trivial,h_⟩)) hg (.inl rfl));replace HO325:=A_ (hp_);replace HB:=A_ ((by rw [hw];exact below_set (HB.out) GB20.out : Below w.heap.size w w29));clear hg hw hp_)|((with_reducible refine gate_callee (f:=21) rfl ?_);refine goesL_ (some 42) rfl rfl Try.func21 uq2 rfl #[.slice (some ⟨go20,0,none⟩) y328.length co27] rfl (by (try simp only [List.map_toArray,List.map_cons,List.map_nil]);first|done|(rw [show y328.length = y323.length from (rd_ HO325.out).1.symm] <;> rfl)|rfl|(simp only [List.length_drop,List.length_take];rfl)) ?_;(with_reducible refine (segment_Decode.calls kj6 _ _ y328 t329 t330 _ ?side1 ?side2 A21.out).mono ?_);(case side1=>exact cx ((rd_ HO325.out).2.2));(case side2=>rw [show y328.length = y323.length from (rd_ HO325.out).1.symm];exact (rd_ HO325.out).2.1);rintro e w30 ⟨v331,rfl,ho0,hb⟩;refine ⟨_,rfl,?_⟩;replace HO_7:=A_ (rw_ (rx HO_7.out) hb);replace HO325:=A_ (rw_ (rx HO325.out) hb);have HO332:=A_ (Kd.R_lower ho0 (below_size uq0));replace HB:=A_ (below_step uq0 hb);(try clear hb);(try clear hb2);(try clear hk);(try clear hi);(try clear ho0)))
       (try simp only [Act.put,List.setIfInBounds_toArray,List.set_cons_zero,List.set_cons_succ])
       have H:=HC22.out
       clear HC22
       by_cases c31 : t330 = 0
       ·
        rw [if_pos c31] at H
        have c31b0 : (t330 == 0) = true:=beq_iff_eq.mpr c31
        have c31b1 : (t330 != 0) = false:=bne_eq_false_iff_eq.mpr c31
        clear c31
        (first|rw [c31b0]|(simp only [i64_w,i32_w];rw [c31b0])|skip)
        exact absurd ((Option.some.inj H).trans HTR_.out) (by decide)
       ·
        rw [if_neg c31] at H
        have c31b0 : (t330 == 0) = false:=beq_eq_false_iff_ne.mpr c31
        have c31b1 : (t330 != 0) = true:=bne_iff_ne.mpr c31
        (first|rw [c31b0]|(simp only [i64_w,i32_w];rw [c31b0])|skip)
        replace H:=Option.bind_eq_some_iff.mp H
        obtain ⟨t333,A320,H⟩:=H
        replace H : (some t333) = some r:=H
        have A32:=A_ A320
        clear A320
        obtain rfl:=Option.some.inj H
        go_wp2_with (first|(go_at_call 16;(with_reducible refine (shapesearchlaw10_awake.calls kj6  t333 _ A32.out).mono ?_);rintro e w33 ⟨rfl,hb⟩;replace HO_7:=A_ (rw_ (rx HO_7.out) hb);replace HO325:=A_ (rw_ (rx HO325.out) hb);replace HO332:=A_ (rw_ (rx HO332.out) hb);replace HB:=A_ (below_step uq0 hb);(try clear hb);(try clear hb2);(try clear hk);(try clear hi)))
        go_ret
        exact ⟨by first|rfl|(simp [errW_none,errW_some] <;> rfl)|(simp only [← hji19];first|rfl|(simp [errW_none,errW_some] <;> rfl))|(simp [*,errW_none,errW_some] <;> rfl),uq0⟩
      ·
       rw [if_neg c18] at H
       exact absurd H (by simp)
     ·
      rw [if_neg c17] at H
      exact absurd H (by simp)
    ·
     rw [if_neg c15] at H
     exact absurd H (by simp)

/-- THE ONE PURE STATEMENT of shapesearchlaw10_SegmentDamage: yours. -/
def shapesearchlaw10_SegmentDamage.Pure : Prop:=∀ (l0 : List Int) (a1 : Int) (a2 : Int),l0.length ≤ maxLen → l0.length * 8 ≤ 140737488351232 → (∀ x ∈ l0,(Lit.int .i64 x).wf = true) → (Lit.int .i64 a1).wf = true → (Lit.int .u8 a2).wf = true → ∃ k,shapesearchlaw10_SegmentDamage.f k l0 a1 a2 = some true
theorem shapesearchlaw10_SegmentDamage.walk (P : shapesearchlaw10_SegmentDamage.Pure) (a0 : Option Addr) (len0 cap0 : Nat) (z0 : List Int) (a1 : Int) (a2 : Int) (w : World) (w0 : (a0 = none∧len0 = 0∧cap0 = 0∧z0 = []) ∨ ∃ x,a0 = some x∧len0 ≤ cap0∧cap0 ≤ maxLen∧z0.length = cap0∧(∀ i,i < z0.length → w.cell? (x.add i) = some (.int .i64 (z0.getD i 0)))∧∀ n ∈ z0,(Lit.int .i64 n).wf = true) (y0 : len0 * 8 ≤ 140737488351232) (w1 : (Lit.int .i64 a1).wf = true) (w2 : (Lit.int .u8 a2).wf = true) :
  Calls Try.prog 6 #[.slice a0 len0 cap0,.int .i64 a1,.int .u8 a2] w fun e w'=>e = .returned (.bool true)∧Below w.heap.size w w':=by
 obtain ⟨l0,rfl,hr0,hm0,hw0,hc0⟩:=ReadsInt.ofRowC w0
 obtain ⟨k,h⟩:=P l0 a1 a2 hm0 y0 hw0 w1 w2
 refine (shapesearchlaw10_SegmentDamage.calls k _ _ l0 a1 a2 true w (Kd.C_of_reads (d:=(0 : Int)) (h1:=fun _=>rfl) hr0) hc0 h rfl).mono ?_
 rintro e w' ⟨rfl,hd⟩
 exact ⟨rfl,hd⟩

end Go.Proofs.Ytdnhfofmfpgmmaa.PSegmentDamage
