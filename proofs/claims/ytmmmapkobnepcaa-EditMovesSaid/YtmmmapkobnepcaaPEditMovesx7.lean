/- This file proves, function by function, what the Go functions that one law uses compute; most of it was printed by a program (wip/tools of this session, over the kit's print). -/
import Derived.Test.YtmmmapkobnepcaaPEditMovesx0
import Derived.Test.YtmmmapkobnepcaaPEditMovesx1
import Derived.Test.YtmmmapkobnepcaaPEditMovesx2
import Derived.Test.YtmmmapkobnepcaaPEditMovesx4
import Derived.Test.YtmmmapkobnepcaaPEditMovesx5
import Derived.Test.YtmmmapkobnepcaaPEditMovesx6
namespace Go.Proofs.Ytmmmapkobnepcaa.PEditMoves
open Go.RowKit Go.Proofs.YtmmmapkobnepcaaW.PrintWords Go.Proofs.YtmmmapkobnepcaaW.PrintLast Go.Proofs.YtmmmapkobnepcaaW.PrintMore
attribute [local go_sem] max2_int min2_int max_two min_two max_three min_three max_four min_four   -- for this text's walks alone
set_option linter.unusedVariables false
set_option linter.unusedSimpArgs false
set_option maxHeartbeats 8000000 in
set_option maxRecDepth 100000 in
theorem shapesearchlaw15_EditMoves.calls (k : Nat) (A0 : Option Addr) (c0 : Nat) (l0 : List Int) (a1 : Int) (a2 : Int) (r : Bool) (w : World) (hr0 : Kd.C (Kd.int .i64) w A0 l0.length l0) (hc0 : l0.length ≤ c0) (h : shapesearchlaw15_EditMoves.f k l0 a1 a2 = some r) :
  Calls Try.prog 5 #[.slice A0 l0.length c0,.int .i8 a1,.int .u8 a2] w fun e w'=>e = .returned (.bool r)∧Below w.heap.size w w':=by
 have HR0:=A_ hr0
 have HC0:=A_ hc0
 clear hr0 hc0
 have HB:=A_ (Below.refl w.heap.size w)
 have H : ((shapesearchkeep_New.f l0).bind fun bt280=>((shapesearchlaw15_some.f k bt280.1 bt280.2).bind fun bt283=>(shapesearchlaw15_EditMoves.l0 k a1 a2 bt283.1 bt283.2.1 (wrap64 (Int.tdiv (wrap64 (bt283.2.2.1 * 4)) 5)) ([] : List Int) (bt283.1.length : Int) 0))) = some r:=h
 clear h
 replace H:=Option.bind_eq_some_iff.mp H
 obtain ⟨⟨t280,t281⟩,A40,H⟩:=H
 replace H : ((shapesearchlaw15_some.f k t280 t281).bind fun bt283=>(shapesearchlaw15_EditMoves.l0 k a1 a2 bt283.1 bt283.2.1 (wrap64 (Int.tdiv (wrap64 (bt283.2.2.1 * 4)) 5)) ([] : List Int) (bt283.1.length : Int) 0)) = some r:=H
 have A4:=A_ A40
 clear A40
 replace H:=Option.bind_eq_some_iff.mp H
 obtain ⟨⟨t283,t286,t289,t290⟩,A50,H⟩:=H
 replace H : (shapesearchlaw15_EditMoves.l0 k a1 a2 t283 t286 (wrap64 (Int.tdiv (wrap64 (t289 * 4)) 5)) ([] : List Int) (t283.length : Int) 0) = some r:=H
 have A5:=A_ A50
 clear A50
 have H':=A_ H
 clear H
 go_enter Try.func5,Try.ntmps5
 go_wp2_with (first|((with_reducible refine gate_callee (f:=10) rfl ?_);refine goesL_ (some 29) rfl rfl Try.func10 (by kernel_rfl) rfl #[.slice A0 l0.length c0] rfl (by (try simp only [List.map_toArray,List.map_cons,List.map_nil]);first|done|rfl|(simp only [List.length_drop,List.length_take];rfl)|((try rw [KY112.out]);(try rw [KY113.out]);(try rw [KY83.out]);(try rw [KY84.out]);(try rw [KY98.out]);(try rw [KY99.out]);rfl)) ?_;(with_reducible refine (shapesearchkeep_New.calls _ _ l0 t280 t281 w _ ?side1 ?side2 ?side3 A4.out).mono ?_);(case side1=>repeat (first|(with_reducible first|exact HB.out|apply ba|apply bb|apply bc)|exact HB.out));(case side2=>exact HR0.out);(case side3=>exact HC0.out);rintro e w6 ⟨g282,rfl,hi,hb,hb2⟩;refine ⟨_,rfl,?_⟩;have n0_:=A_ (hb);have n1_:=A_ (hi);clear HB;have HB:=n0_;have HI282:=n1_;clear n0_ n1_;(try clear hb);(try clear hb2);(try clear hk);(try clear hi))|((with_reducible refine gate_callee (f:=9) rfl ?_);refine goesL_ (some 30) rfl rfl Try.func9 (by kernel_rfl) rfl #[.pointer (some ⟨g282,0,none⟩)] rfl (by (try simp only [List.map_toArray,List.map_cons,List.map_nil]);first|done|rfl|(simp only [List.length_drop,List.length_take];rfl)|((try rw [KY112.out]);(try rw [KY113.out]);(try rw [KY83.out]);(try rw [KY84.out]);(try rw [KY98.out]);(try rw [KY99.out]);rfl)) ?_;(with_reducible refine (shapesearchlaw15_some.calls k g282 t280 t281 t283 t286 t289 t290 w _ ?side1 ?side2 A5.out).mono ?_);(case side1=>repeat (first|(with_reducible first|exact HI282.out|apply IsS51.alloc|apply IsS51.drewN|apply IsS51.drew|apply IsS51.set_1)|exact HI282.out));(case side2=>repeat (first|(with_reducible first|exact HB.out|apply ba|apply bb|apply bc|refine below_set ?_ (IsS51.ge HI282.out))|exact HB.out));rintro e w7 ⟨v284,v287,rfl,ho0,ho1,hi,hb,hk⟩;refine ⟨_,rfl,?_⟩;have n0_:=A_ (Kd.R_lower ho0 (below_size (by repeat (first|(with_reducible first|exact HB.out|apply ba|apply bb|apply bc|refine below_set ?_ (IsS51.ge HI282.out))|exact HB.out))));have n1_:=A_ (Kd.R_lower ho1 (below_size (by repeat (first|(with_reducible first|exact HB.out|apply ba|apply bb|apply bc|refine below_set ?_ (IsS51.ge HI282.out))|exact HB.out))));have n2_:=A_ (hb);have n3_:=A_ (hi);clear HB;clear HI282;have HO285:=n0_;have HO288:=n1_;have HB:=n2_;have HI282:=n3_;clear n0_ n1_ n2_ n3_;(try clear hb);(try clear hb2);(try clear hk);(try clear hi);(try clear ho0);(try clear ho1);obtain ⟨Ao8,co8,eo8⟩:=Kd.R_slice HO285.out;subst eo8))
 go_loopg [10,39] k (fun kq v10 v39 w'=>∃ (x7_1 : List Int) (x10_1 : List Int) (x39_1 : Int),v39 = .int .i64 x39_1∧Aside0 (shapesearchlaw15_EditMoves.l0 kq a1 a2 x7_1 t286 (wrap64 (Int.tdiv (wrap64 (t289 * 4)) 5)) x10_1 (t283.length : Int) x39_1 = some r)∧Aside0 (kq ≤ k)∧Aside0 (Kd.R (Kd.int .i64) 3 w' w.heap.size (fun k_=>nb k_ v287∧nb k_ v10) (.slice Ao8 t283.length co8) x7_1)∧Aside0 (Kd.R (Kd.int .i64) 3 w' w.heap.size (fun k_=>some k_≠((.slice Ao8 t283.length co8) : Value).ownBlock∧nb k_ v10) v287 t286)∧Aside0 (Kd.R (Kd.int .i64) 3 w' w.heap.size (fun k_=>some k_≠((.slice Ao8 t283.length co8) : Value).ownBlock∧nb k_ v287) v10 x10_1)∧Aside0 (Below w.heap.size w w'))
 case atStart=>exact ⟨(t283),(([] : List Int)),(0),(by first|rfl|(simp;done)|(simp [*];done)),H',⟨Nat.le_refl _⟩,⟨by (with_reducible repeat (first|apply ra|apply rb|apply rc));exact rm HO285.out (fun _ hk=>⟨hk,(by simp [Value.ownBlock])⟩)⟩,⟨by (with_reducible repeat (first|apply ra|apply rb|apply rc));exact rm HO288.out (fun _ hk=>⟨hk,(by simp [Value.ownBlock])⟩)⟩,⟨by first|exact Kd.R_nil _ _ _ _ _|exact Kd.N_nil _ _ _ _ _|exact Kd.V_nil _ _ _ _ _|exact Kd.Q_nil _ _ _ _ _|exact Kd.S_nil _ _ _ _ _⟩,⟨by repeat (first|(with_reducible first|exact HB.out|apply ba|apply bb|apply bc|refine below_set ?_ (IsS51.ge HI282.out))|exact HB.out)⟩⟩
 case round =>
  clear H'
  try clear c1
  try clear p2
  try clear c5
  try clear p6
  obtain ⟨x7_1,x10_1,x39_1,rfl,HA,HK1,HO_7,HO_8,HO_10,HB⟩:=hrel
  have hl7_1:=(rd_ HO_7.out).1
  rw [hl7_1] at HO_7
  (try simp only [hl7_1])
  (try simp only [hl7_1] at HO_8)
  (try simp only [hl7_1] at HO_10)
  cases gk with
  | zero=>exact absurd HA.out (by simp [shapesearchlaw15_EditMoves.l0])
  | succ k1 =>
   have H:=HA.out
   clear HA
   simp only [shapesearchlaw15_EditMoves.l0] at H
   by_cases c9 : x39_1 < (t283.length : Int)
   ·
    rw [if_pos c9] at H
    have c9b0 : decide (x39_1 < (t283.length : Int)) = true:=decide_eq_true c9
    (try (have c9b0h:=c9b0;simp only [hl7_1] at c9b0h))
    clear c9
    by_cases c10 : 0 ≤ x39_1
    ·
     rw [if_pos c10] at H
     have c10b0 : decide (0 ≤ x39_1) = true:=decide_eq_true c10
     clear c10
     by_cases c11 : x39_1 < (x7_1.length : Int)
     ·
      rw [if_pos c11] at H
      have c11b0 : decide (x39_1 < (x7_1.length : Int)) = true:=decide_eq_true c11
      (try (have c11b0h:=c11b0;simp only [hl7_1] at c11b0h))
      clear c11
      obtain ⟨y292,hy292⟩ : ∃ y_ : List Int,y_ = (x7_1.set (x39_1 : Int).toNat (wrap64 (Int.tdiv (wrap64 ((rd x7_1 x39_1) * 4)) 5))):=⟨_,rfl⟩
      replace H : ((some (([wrap64 ((rd y292 x39_1) + (wrap64 (a1)))] : List Int) : List Int)).bind fun y294=>(if x10_1.length + y294.length < 17592186044416 then (shapesearchlaw15_EditMoves.l0 k1 a1 a2 y292 t286 (wrap64 (Int.tdiv (wrap64 (t289 * 4)) 5)) (x10_1 ++ y294) (t283.length : Int) (wrap64 (x39_1 + 1))) else (none))) = some r:=by first|(rw [hy292];with_reducible exact H)|(have H2_:=(Option.bind_some _ _).symm.trans H;rw [hy292];with_reducible exact H2_)|(have H2_:=(Option.bind_some _ _).symm.trans H;with_reducible exact H2_)|with_reducible exact H|(rw [hy292];exact H)|exact H
      have Ny292:=A_ hy292
      clear hy292
      obtain ⟨y294,hy294⟩ : ∃ y_ : List Int,y_ = (([wrap64 ((rd y292 x39_1) + (wrap64 (a1)))] : List Int)):=⟨_,rfl⟩
      replace H : (if x10_1.length + y294.length < 17592186044416 then (shapesearchlaw15_EditMoves.l0 k1 a1 a2 y292 t286 (wrap64 (Int.tdiv (wrap64 (t289 * 4)) 5)) (x10_1 ++ y294) (t283.length : Int) (wrap64 (x39_1 + 1))) else (none)) = some r:=by first|(rw [hy294];with_reducible exact H)|(have H2_:=(Option.bind_some _ _).symm.trans H;rw [hy294];with_reducible exact H2_)|(have H2_:=(Option.bind_some _ _).symm.trans H;with_reducible exact H2_)|with_reducible exact H|(rw [hy294];exact H)|exact H
      have Ny294:=A_ hy294
      clear hy294
      by_cases c13 : x10_1.length + y294.length < 17592186044416
      ·
       rw [if_pos c13] at H
       have LMc13:=A_ c13
       clear c13
       obtain ⟨y297,hy297⟩ : ∃ y_ : List Int,y_ = (x10_1 ++ y294):=⟨_,rfl⟩
       replace H : (shapesearchlaw15_EditMoves.l0 k1 a1 a2 y292 t286 (wrap64 (Int.tdiv (wrap64 (t289 * 4)) 5)) y297 (t283.length : Int) (wrap64 (x39_1 + 1))) = some r:=by first|(rw [hy297];with_reducible exact H)|(have H2_:=(Option.bind_some _ _).symm.trans H;rw [hy297];with_reducible exact H2_)|(have H2_:=(Option.bind_some _ _).symm.trans H;with_reducible exact H2_)|with_reducible exact H|(rw [hy297];exact H)|exact H
       have Ny297:=A_ hy297
       clear hy297
       have H':=A_ H
       clear H
       have p291 : 0 ≤ (x39_1 : Int):=of_decide_eq_true (by first|(with_reducible assumption)|assumption)
       have q291 : x39_1 < (x7_1.length : Int):=of_decide_eq_true (by first|(with_reducible assumption)|assumption)
       obtain ⟨ad291,e291,hx291_0⟩:=Kd.at_int (rd_ HO_7.out).2.2 x39_1 p291 q291
       cases e291
       replace p291:=eq_true p291
       replace q291:=eq_true q291
       have p12 : 0 ≤ (x39_1 : Int):=of_decide_eq_true (by first|(with_reducible assumption)|assumption)
       have q12 : (x39_1 : Int) < ((x7_1.length : Int) : Int):=of_decide_eq_true (by first|(with_reducible assumption)|assumption)
       obtain ⟨go12,co12,eo12,gb12,gl12,cl12,HG12⟩:=Kd.R_form HO_7.out (by omega)
       (first|cases eo12|(injection eo12 with ea_ en_ ec_;(first|subst ea_|(injection ea_ with ea_;subst ea_));subst ec_;clear en_))
       have GB12:=A_ gb12
       have GG12:=A_ HG12
       clear gb12 gl12 HG12
       (first|simp only [add_plain] at hx291_0|skip)
       obtain ⟨hx12_0,hf12_0⟩:=Kd.R_celln 0 HO_7.out (x39_1 : Int) p12 q12
       replace p12:=eq_true p12
       replace q12:=eq_true q12
       have HP14:=Kd.R_putg HO_7.out (x39_1 : Int) (wrap64 (Int.tdiv (wrap64 ((rd x7_1 x39_1) * 4)) 5))
       go_wp2_with (first|((with_reducible refine gate_store (t:=3) (p:=50) rfl ?_);refine store_event (t:=3) (p:=50) (v:=?vo_w15) (w1:=(wr.setCell ⟨go12,(x39_1 : Int).toNat,none⟩ (.int .i64 (wrap64 (Int.tdiv (wrap64 ((rd x7_1 x39_1) * 4)) 5))))) ?hg ?ho ?hn ?hr ?_;(case ho=>rfl);(case hg=>rfl);(case hn=>rfl);(case hr=>first|(go_simp;done)|(go_simp;rfl));intro w15 hw;have hg : wr.grownBy w15 (some go12):=(by rw [hw];exact HP14.2);have hp_ : Kd.R (Kd.int .i64) 3 w15 w.heap.size (fun k_=>nb k_ v287∧some k_≠(u10 : Value).ownBlock) (.slice (some ⟨go12,0,none⟩) x7_1.length co8) y292:=(by rw [hw,Ny292.out];exact HP14.1);clear HP14;have n0_:=A_ (hp_);have n1_:=A_ (rf (v:=(.slice (some ⟨go12,0,none⟩) x7_1.length co8)) (v1:=(.slice (some ⟨go12,0,none⟩) x7_1.length co8)) (ok:=(fun k_=>some k_≠(u10 : Value).ownBlock)) (by (with_reducible repeat (first|apply ra|apply rb|apply rc));exact rm HO_8.out (fun _ hk=>⟨hk.2,hk.1⟩)) hg (.inl rfl));have n2_:=A_ (rf (v:=(.slice (some ⟨go12,0,none⟩) x7_1.length co8)) (v1:=(.slice (some ⟨go12,0,none⟩) x7_1.length co8)) (ok:=(fun k_=>nb k_ v287)) (by (with_reducible repeat (first|apply ra|apply rb|apply rc));exact rm HO_10.out (fun _ hk=>⟨hk.2,hk.1⟩)) hg (.inl rfl));have n3_:=A_ ((by rw [hw];exact below_set (HB.out) GB12.out : Below w.heap.size w w15));clear HO_7;clear HO_8;clear HO_10;clear HB;have HO_7:=n0_;have HO_8:=n1_;have HO_10:=n2_;have HB:=n3_;clear n0_ n1_ n2_ n3_;clear hg hw hp_;have p293 : 0 ≤ (x39_1 : Int):=of_decide_eq_true (by first|(with_reducible assumption)|assumption);have q293 : x39_1 < (y292.length : Int):=(by have h_ : (x39_1 : Int) < ((x7_1.length : Int) : Int):=of_decide_eq_true (by first|(with_reducible assumption)|assumption);first|(have e_:=(rd_ HO_7.out).1;omega)|simpa only [Ny292.out,List.length_set] using h_);have ql293 : ((x39_1 : Int) < ((x7_1.length : Int) : Int)) = True:=eq_true (of_decide_eq_true (by first|(with_reducible assumption)|assumption));obtain ⟨ad293,e293,hx293_0⟩:=Kd.at_int (rd_ HO_7.out).2.2 x39_1 p293 q293;obtain rfl : (⟨go12,0,none⟩ : Addr) = ad293:=(by injection e293);(first|simp only [add_plain] at hx293_0|simp only [add_at] at hx293_0|simp only [Addr.add,Nat.zero_add] at hx293_0|skip);replace p293:=eq_true p293;replace q293:=eq_true q293)|((with_reducible refine gate_dst (N:=59) rfl ?_);refine Kd.R_lit (Kd.int .i64) _ 3 ?hg (N:=59) ?hd (xs:=([wrap64 ((rd y292 x39_1) + (wrap64 (a1)))] : List Int)) (inner:=[.int .i64 (wrap64 ((rd y292 x39_1) + (wrap64 (a1))))]) (ok:=fun _=>True) (okp:=fun _=>True) ?hr ?hp (fun _ hk=>hk) trivial (Below.refl _ _) (Nat.le_refl _) (by simp) ?_;(case hd=>rfl);(case hg=>rfl);(case hr=>first|(go_simp;done)|(go_simp;rfl));(case hp=>exact (Reps.one (show Kd.M (Kd.int .i64) _ _ _ (wrap64 ((rd y292 x39_1) + (wrap64 (a1)))) [.int .i64 (wrap64 ((rd y292 x39_1) + (wrap64 (a1))))] from rfl) (Reps.none _ _)));intro v295 w16 ho17 hb hg_ hnew_;clear hg_ hnew_;(first|rw [← Ny294.out] at ho17|(simp only [Int.reduceToNat] at ho17;rw [← Ny294.out] at ho17));have n0_:=A_ (re (by (with_reducible repeat (first|apply ra|apply rb|apply rc));exact HO_7.out) (rs ho17) hb);have n1_:=A_ (re (by (with_reducible repeat (first|apply ra|apply rb|apply rc));exact HO_8.out) (rs ho17) hb);have n2_:=A_ (re (by (with_reducible repeat (first|apply ra|apply rb|apply rc));exact HO_10.out) (rs ho17) hb);have n3_:=A_ (Kd.R_lower (rn (rn (rn ho17 (rl (by (with_reducible repeat (first|apply ra|apply rb|apply rc));exact HO_7.out))) (rl (by (with_reducible repeat (first|apply ra|apply rb|apply rc));exact HO_8.out))) (rl (by (with_reducible repeat (first|apply ra|apply rb|apply rc));exact HO_10.out))) (below_size (by repeat (first|(with_reducible first|exact HB.out|apply ba|apply bb|apply bc)|exact HB.out))));have n4_:=A_ (below_step (by repeat (first|(with_reducible first|exact HB.out|apply ba|apply bb|apply bc)|exact HB.out)) hb);clear HO_7;clear HO_8;clear HO_10;clear HB;have HO_7:=n0_;have HO_8:=n1_;have HO_10:=n2_;have HO296:=n3_;have HB:=n4_;clear n0_ n1_ n2_ n3_ n4_;clear hb ho17;obtain ⟨Ao19,co19,eo19⟩:=Kd.R_slice HO296.out;subst eo19)|((with_reducible refine gate_builtin (b:=.append) (xs:=#[.tmp 51,.tmp 59]) rfl ?_);at_builtin;refine Kd.R_append_rows (Kd.int .i64) (w0:=w) w.heap.size rfl (.tmp 51) (.tmp 59) 22 3 (.int .i64 0) 8 rfl Try.underlying22 info3 rfl (by decide) (by omega) u10 x10_1 y294 _ _ _ (fun k_=>some k_≠(.slice (some ⟨go12,0,none⟩) x7_1.length co8 : Value).ownBlock∧nb k_ v287∧nb k_ (.slice Ao19 y294.length co19)) (fun _=>False) rfl rfl ?aO ?aR (fun _ _ h=>h) (fun _ h=>h.elim) ?aF ?aB ?aS ?aL ?_;(case aR=>repeat (first|exact (rd_ HO296.out).2.2|(with_reducible refine ca ?_ _)|(with_reducible refine cb ?_ _)|(with_reducible refine cc ?_)));(case aB=>exact (by repeat (first|(with_reducible first|exact HB.out|apply ba|apply bb|apply bc)|exact HB.out)));(case aF=>exact (fun k_ hk=>⟨rh (rl (by (with_reducible repeat (first|apply ra|apply rb|apply rc));exact HO_7.out)) k_ hk,rh (rl (by (with_reducible repeat (first|apply ra|apply rb|apply rc));exact HO_8.out)) k_ hk,rh (rl (by (with_reducible repeat (first|apply ra|apply rb|apply rc));exact HO296.out)) k_ hk⟩));(case aO=>exact (by (with_reducible repeat (first|apply ra|apply rb|apply rc));exact rm HO_10.out (fun _ hk=>⟨hk.1.2,⟨hk.1.1,hk.2⟩⟩)));(case aS=>exact (below_size (by repeat (first|(with_reducible first|exact HB.out|apply ba|apply bb|apply bc)|exact HB.out))));(case aL=>have:=LMc13.out;omega);intro v298 w18 ho hb hg hat;rw [← Ny297.out] at ho;have n0_:=A_ (rf (ok:=(fun k_=>nb k_ v287∧nb k_ (.slice Ao19 y294.length co19))) (by (with_reducible repeat (first|apply ra|apply rb|apply rc));exact rm HO_7.out (fun _ hk=>⟨⟨hk.1.1,hk.2⟩,hk.1.2⟩)) hg hat);have n1_:=A_ (rf (ok:=(fun k_=>some k_≠(.slice (some ⟨go12,0,none⟩) x7_1.length co8 : Value).ownBlock∧nb k_ (.slice Ao19 y294.length co19))) (by (with_reducible repeat (first|apply ra|apply rb|apply rc));exact rm HO_8.out (fun _ hk=>⟨⟨hk.1.2,hk.2⟩,hk.1.1⟩)) hg hat);have n2_:=A_ (rf (ok:=(fun k_=>some k_≠(.slice (some ⟨go12,0,none⟩) x7_1.length co8 : Value).ownBlock∧nb k_ v287)) (by (with_reducible repeat (first|apply ra|apply rb|apply rc));exact rm HO296.out (fun _ hk=>⟨⟨hk.1.1.2,hk.1.2⟩,hk.2⟩)) hg hat);have n3_:=A_ (hb);have n4_:=A_ (ho);clear HO_7;clear HO_8;clear HO296;clear HB;clear HO_10;have HO_7:=n0_;have HO_8:=n1_;have HO296:=n2_;have HB:=n3_;have HO299:=n4_;clear n0_ n1_ n2_ n3_ n4_;clear ho hb hg hat))
       (try simp only [← hl7_1])
       go_roundg k1
       case measure=>have:=HK1.out;omega
       case rel=>exact ⟨(y292),(y297),(wrap64 (x39_1 + 1)),(by first|rfl|(simp;done)|(simp [*];done)),H',⟨by have:=HK1.out;omega⟩,⟨by (try simp only [hl7_1]);(with_reducible repeat (first|apply ra|apply rb|apply rc));exact rm HO_7.out (fun _ hk=>⟨hk.1.1,hk.2⟩)⟩,⟨by (try simp only [hl7_1]);(with_reducible repeat (first|apply ra|apply rb|apply rc));exact rm HO_8.out (fun _ hk=>⟨hk.1.1,hk.2⟩)⟩,⟨by (try simp only [hl7_1]);(with_reducible repeat (first|apply ra|apply rb|apply rc));exact rm HO299.out (fun _ hk=>⟨hk.1,hk.2.1⟩)⟩,⟨by repeat (first|(with_reducible first|exact HB.out|apply ba|apply bb|apply bc)|exact HB.out)⟩⟩
      ·
       rw [if_neg c13] at H
       exact absurd H (by simp)
     ·
      rw [if_neg c11] at H
      exact absurd H (by simp)
    ·
     rw [if_neg c10] at H
     exact absurd H (by simp)
   ·
    rw [if_neg c9] at H
    have c9b0 : decide (x39_1 < (t283.length : Int)) = false:=decide_eq_false c9
    (try (have c9b0h:=c9b0;simp only [hl7_1] at c9b0h))
    clear c9
    have H':=A_ H
    clear H
    obtain ⟨Ao20,co20,eo20⟩:=Kd.R_slice HO_8.out
    subst eo20
    go_wp2
    go_loopg [11,64] k1 (fun kq v11 v64 w'=>∃ (x8_2 : List Int) (x11_2 : List Int) (x64_2 : Int),v64 = .int .i64 x64_2∧Aside0 (shapesearchlaw15_EditMoves.l1 kq a1 a2 x7_1 x8_2 (wrap64 (Int.tdiv (wrap64 (t289 * 4)) 5)) x10_1 x11_2 (t286.length : Int) x64_2 = some r)∧Aside0 (kq ≤ k1)∧Aside0 (Kd.R (Kd.int .i64) 3 w' w.heap.size (fun k_=>some k_≠((.slice Ao20 t286.length co20) : Value).ownBlock∧some k_≠(u10 : Value).ownBlock∧nb k_ v11) (.slice Ao8 x7_1.length co8) x7_1)∧Aside0 (Kd.R (Kd.int .i64) 3 w' w.heap.size (fun k_=>some k_≠((.slice Ao8 x7_1.length co8) : Value).ownBlock∧some k_≠(u10 : Value).ownBlock∧nb k_ v11) (.slice Ao20 t286.length co20) x8_2)∧Aside0 (Kd.R (Kd.int .i64) 3 w' w.heap.size (fun k_=>some k_≠((.slice Ao8 x7_1.length co8) : Value).ownBlock∧some k_≠((.slice Ao20 t286.length co20) : Value).ownBlock∧nb k_ v11) u10 x10_1)∧Aside0 (Kd.R (Kd.int .i64) 3 w' w.heap.size (fun k_=>some k_≠((.slice Ao8 x7_1.length co8) : Value).ownBlock∧some k_≠((.slice Ao20 t286.length co20) : Value).ownBlock∧some k_≠(u10 : Value).ownBlock) v11 x11_2)∧Aside0 (Below w.heap.size w w'))
    case atStart=>exact ⟨(t286),(([] : List Int)),(0),(by first|rfl|(simp;done)|(simp [*];done)),H',⟨Nat.le_refl _⟩,⟨by (try simp only [hl7_1]);(with_reducible repeat (first|apply ra|apply rb|apply rc));exact rm HO_7.out (fun _ hk=>⟨hk.1,⟨hk.2,(by simp [Value.ownBlock])⟩⟩)⟩,⟨by (try simp only [hl7_1]);(with_reducible repeat (first|apply ra|apply rb|apply rc));exact rm HO_8.out (fun _ hk=>⟨hk.1,⟨hk.2,(by simp [Value.ownBlock])⟩⟩)⟩,⟨by (try simp only [hl7_1]);(with_reducible repeat (first|apply ra|apply rb|apply rc));exact rm HO_10.out (fun _ hk=>⟨hk.1,⟨hk.2,(by simp [Value.ownBlock])⟩⟩)⟩,⟨by (try simp only [hl7_1]);first|exact Kd.R_nil _ _ _ _ _|exact Kd.N_nil _ _ _ _ _|exact Kd.V_nil _ _ _ _ _|exact Kd.Q_nil _ _ _ _ _|exact Kd.S_nil _ _ _ _ _⟩,⟨by repeat (first|(with_reducible first|exact HB.out|apply ba|apply bb|apply bc)|exact HB.out)⟩⟩
    case round =>
     clear H'
     try clear c1
     try clear p1
     try clear q1
     try clear hx1
     try clear p2
     try clear q2
     try clear hx2
     try clear c5
     try clear p6
     try clear c9
     try clear c9b0
     try clear c10
     try clear c10b0
     try clear c11
     try clear c11b0
     try clear p12
     try clear q12
     try clear hx12
     try clear hf12
     try clear c13
     try clear hx12_0
     try clear hx291_0
     try clear hx293_0
     try clear p12
     try clear p2
     try clear p291
     try clear p293
     try clear p6
     try clear q12
     try clear q291
     try clear q293
     obtain ⟨x8_2,x11_2,x64_2,rfl,HA,HK2,HO_7,HO_8,HO_10,HO_11,HB⟩:=hrel
     have hl8_2:=(rd_ HO_8.out).1
     rw [hl8_2] at HO_8
     (try simp only [hl8_2])
     (try simp only [hl8_2] at HO_7)
     (try simp only [hl8_2] at HO_10)
     (try simp only [hl8_2] at HO_11)
     cases gk with
     | zero=>exact absurd HA.out (by simp [shapesearchlaw15_EditMoves.l1])
     | succ k2 =>
      have H:=HA.out
      clear HA
      simp only [shapesearchlaw15_EditMoves.l1] at H
      by_cases c21 : x64_2 < (t286.length : Int)
      ·
       rw [if_pos c21] at H
       have c21b0 : decide (x64_2 < (t286.length : Int)) = true:=decide_eq_true c21
       (try (have c21b0h:=c21b0;simp only [hl7_1,hl8_2] at c21b0h))
       clear c21
       by_cases c22 : 0 ≤ x64_2
       ·
        rw [if_pos c22] at H
        have c22b0 : decide (0 ≤ x64_2) = true:=decide_eq_true c22
        clear c22
        by_cases c23 : x64_2 < (x8_2.length : Int)
        ·
         rw [if_pos c23] at H
         have c23b0 : decide (x64_2 < (x8_2.length : Int)) = true:=decide_eq_true c23
         (try (have c23b0h:=c23b0;simp only [hl7_1,hl8_2] at c23b0h))
         clear c23
         obtain ⟨y301,hy301⟩ : ∃ y_ : List Int,y_ = (x8_2.set (x64_2 : Int).toNat (wrap64 (Int.tdiv (wrap64 ((rd x8_2 x64_2) * 4)) 5))):=⟨_,rfl⟩
         replace H : ((some (([wrap64 ((rd y301 x64_2) + (wrap64 (a1)))] : List Int) : List Int)).bind fun y303=>(if x11_2.length + y303.length < 17592186044416 then (shapesearchlaw15_EditMoves.l1 k2 a1 a2 x7_1 y301 (wrap64 (Int.tdiv (wrap64 (t289 * 4)) 5)) x10_1 (x11_2 ++ y303) (t286.length : Int) (wrap64 (x64_2 + 1))) else (none))) = some r:=by first|(rw [hy301];with_reducible exact H)|(have H2_:=(Option.bind_some _ _).symm.trans H;rw [hy301];with_reducible exact H2_)|(have H2_:=(Option.bind_some _ _).symm.trans H;with_reducible exact H2_)|with_reducible exact H|(rw [hy301];exact H)|exact H
         have Ny301:=A_ hy301
         clear hy301
         obtain ⟨y303,hy303⟩ : ∃ y_ : List Int,y_ = (([wrap64 ((rd y301 x64_2) + (wrap64 (a1)))] : List Int)):=⟨_,rfl⟩
         replace H : (if x11_2.length + y303.length < 17592186044416 then (shapesearchlaw15_EditMoves.l1 k2 a1 a2 x7_1 y301 (wrap64 (Int.tdiv (wrap64 (t289 * 4)) 5)) x10_1 (x11_2 ++ y303) (t286.length : Int) (wrap64 (x64_2 + 1))) else (none)) = some r:=by first|(rw [hy303];with_reducible exact H)|(have H2_:=(Option.bind_some _ _).symm.trans H;rw [hy303];with_reducible exact H2_)|(have H2_:=(Option.bind_some _ _).symm.trans H;with_reducible exact H2_)|with_reducible exact H|(rw [hy303];exact H)|exact H
         have Ny303:=A_ hy303
         clear hy303
         by_cases c25 : x11_2.length + y303.length < 17592186044416
         ·
          rw [if_pos c25] at H
          have LMc25:=A_ c25
          clear c25
          obtain ⟨y306,hy306⟩ : ∃ y_ : List Int,y_ = (x11_2 ++ y303):=⟨_,rfl⟩
          replace H : (shapesearchlaw15_EditMoves.l1 k2 a1 a2 x7_1 y301 (wrap64 (Int.tdiv (wrap64 (t289 * 4)) 5)) x10_1 y306 (t286.length : Int) (wrap64 (x64_2 + 1))) = some r:=by first|(rw [hy306];with_reducible exact H)|(have H2_:=(Option.bind_some _ _).symm.trans H;rw [hy306];with_reducible exact H2_)|(have H2_:=(Option.bind_some _ _).symm.trans H;with_reducible exact H2_)|with_reducible exact H|(rw [hy306];exact H)|exact H
          have Ny306:=A_ hy306
          clear hy306
          have H':=A_ H
          clear H
          have p300 : 0 ≤ (x64_2 : Int):=of_decide_eq_true (by first|(with_reducible assumption)|assumption)
          have q300 : x64_2 < (x8_2.length : Int):=of_decide_eq_true (by first|(with_reducible assumption)|assumption)
          obtain ⟨ad300,e300,hx300_0⟩:=Kd.at_int (rd_ HO_8.out).2.2 x64_2 p300 q300
          cases e300
          replace p300:=eq_true p300
          replace q300:=eq_true q300
          have p24 : 0 ≤ (x64_2 : Int):=of_decide_eq_true (by first|(with_reducible assumption)|assumption)
          have q24 : (x64_2 : Int) < ((x8_2.length : Int) : Int):=of_decide_eq_true (by first|(with_reducible assumption)|assumption)
          obtain ⟨go24,co24,eo24,gb24,gl24,cl24,HG24⟩:=Kd.R_form HO_8.out (by omega)
          (first|cases eo24|(injection eo24 with ea_ en_ ec_;(first|subst ea_|(injection ea_ with ea_;subst ea_));subst ec_;clear en_))
          have GB24:=A_ gb24
          have GG24:=A_ HG24
          clear gb24 gl24 HG24
          (first|simp only [add_plain] at hx300_0|skip)
          obtain ⟨hx24_0,hf24_0⟩:=Kd.R_celln 0 HO_8.out (x64_2 : Int) p24 q24
          replace p24:=eq_true p24
          replace q24:=eq_true q24
          have HP26:=Kd.R_putg HO_8.out (x64_2 : Int) (wrap64 (Int.tdiv (wrap64 ((rd x8_2 x64_2) * 4)) 5))
          go_wp2_with (first|((with_reducible refine gate_store (t:=3) (p:=75) rfl ?_);refine store_event (t:=3) (p:=75) (v:=?vo_w27) (w1:=(wr.setCell ⟨go24,(x64_2 : Int).toNat,none⟩ (.int .i64 (wrap64 (Int.tdiv (wrap64 ((rd x8_2 x64_2) * 4)) 5))))) ?hg ?ho ?hn ?hr ?_;(case ho=>rfl);(case hg=>rfl);(case hn=>rfl);(case hr=>first|(go_simp;done)|(go_simp;rfl));intro w27 hw;have hg : wr.grownBy w27 (some go24):=(by rw [hw];exact HP26.2);have hp_ : Kd.R (Kd.int .i64) 3 w27 w.heap.size (fun k_=>nb k_ (.slice Ao8 x7_1.length co8)∧some k_≠(u10 : Value).ownBlock∧some k_≠(u11 : Value).ownBlock) (.slice (some ⟨go24,0,none⟩) x8_2.length co20) y301:=(by rw [hw,Ny301.out];exact HP26.1);clear HP26;have n0_:=A_ (rf (v:=(.slice (some ⟨go24,0,none⟩) x8_2.length co20)) (v1:=(.slice (some ⟨go24,0,none⟩) x8_2.length co20)) (ok:=(fun k_=>some k_≠(u10 : Value).ownBlock∧some k_≠(u11 : Value).ownBlock)) (by (with_reducible repeat (first|apply ra|apply rb|apply rc));exact rm HO_7.out (fun _ hk=>⟨⟨hk.2.1,hk.2.2⟩,hk.1⟩)) hg (.inl rfl));have n1_:=A_ (hp_);have n2_:=A_ (rf (v:=(.slice (some ⟨go24,0,none⟩) x8_2.length co20)) (v1:=(.slice (some ⟨go24,0,none⟩) x8_2.length co20)) (ok:=(fun k_=>nb k_ (.slice Ao8 x7_1.length co8)∧some k_≠(u11 : Value).ownBlock)) (by (with_reducible repeat (first|apply ra|apply rb|apply rc));exact rm HO_10.out (fun _ hk=>⟨⟨hk.1,hk.2.2⟩,hk.2.1⟩)) hg (.inl rfl));have n3_:=A_ (rf (v:=(.slice (some ⟨go24,0,none⟩) x8_2.length co20)) (v1:=(.slice (some ⟨go24,0,none⟩) x8_2.length co20)) (ok:=(fun k_=>nb k_ (.slice Ao8 x7_1.length co8)∧some k_≠(u10 : Value).ownBlock)) (by (with_reducible repeat (first|apply ra|apply rb|apply rc));exact rm HO_11.out (fun _ hk=>⟨⟨hk.1,hk.2.2⟩,hk.2.1⟩)) hg (.inl rfl));have n4_:=A_ ((by rw [hw];exact below_set (HB.out) GB24.out : Below w.heap.size w w27));clear HO_7;clear HO_8;clear HO_10;clear HO_11;clear HB;have HO_7:=n0_;have HO_8:=n1_;have HO_10:=n2_;have HO_11:=n3_;have HB:=n4_;clear n0_ n1_ n2_ n3_ n4_;clear hg hw hp_;have p302 : 0 ≤ (x64_2 : Int):=of_decide_eq_true (by first|(with_reducible assumption)|assumption);have q302 : x64_2 < (y301.length : Int):=(by have h_ : (x64_2 : Int) < ((x8_2.length : Int) : Int):=of_decide_eq_true (by first|(with_reducible assumption)|assumption);first|(have e_:=(rd_ HO_8.out).1;omega)|simpa only [Ny301.out,List.length_set] using h_);have ql302 : ((x64_2 : Int) < ((x8_2.length : Int) : Int)) = True:=eq_true (of_decide_eq_true (by first|(with_reducible assumption)|assumption));obtain ⟨ad302,e302,hx302_0⟩:=Kd.at_int (rd_ HO_8.out).2.2 x64_2 p302 q302;obtain rfl : (⟨go24,0,none⟩ : Addr) = ad302:=(by injection e302);(first|simp only [add_plain] at hx302_0|simp only [add_at] at hx302_0|simp only [Addr.add,Nat.zero_add] at hx302_0|skip);replace p302:=eq_true p302;replace q302:=eq_true q302)|((with_reducible refine gate_dst (N:=84) rfl ?_);refine Kd.R_lit (Kd.int .i64) _ 3 ?hg (N:=84) ?hd (xs:=([wrap64 ((rd y301 x64_2) + (wrap64 (a1)))] : List Int)) (inner:=[.int .i64 (wrap64 ((rd y301 x64_2) + (wrap64 (a1))))]) (ok:=fun _=>True) (okp:=fun _=>True) ?hr ?hp (fun _ hk=>hk) trivial (Below.refl _ _) (Nat.le_refl _) (by simp) ?_;(case hd=>rfl);(case hg=>rfl);(case hr=>first|(go_simp;done)|(go_simp;rfl));(case hp=>exact (Reps.one (show Kd.M (Kd.int .i64) _ _ _ (wrap64 ((rd y301 x64_2) + (wrap64 (a1)))) [.int .i64 (wrap64 ((rd y301 x64_2) + (wrap64 (a1))))] from rfl) (Reps.none _ _)));intro v304 w28 ho29 hb hg_ hnew_;clear hg_ hnew_;(first|rw [← Ny303.out] at ho29|(simp only [Int.reduceToNat] at ho29;rw [← Ny303.out] at ho29));have n0_:=A_ (re (by (with_reducible repeat (first|apply ra|apply rb|apply rc));exact HO_7.out) (rs ho29) hb);have n1_:=A_ (re (by (with_reducible repeat (first|apply ra|apply rb|apply rc));exact HO_8.out) (rs ho29) hb);have n2_:=A_ (re (by (with_reducible repeat (first|apply ra|apply rb|apply rc));exact HO_10.out) (rs ho29) hb);have n3_:=A_ (re (by (with_reducible repeat (first|apply ra|apply rb|apply rc));exact HO_11.out) (rs ho29) hb);have n4_:=A_ (Kd.R_lower (rn (rn (rn (rn ho29 (rl (by (with_reducible repeat (first|apply ra|apply rb|apply rc));exact HO_7.out))) (rl (by (with_reducible repeat (first|apply ra|apply rb|apply rc));exact HO_8.out))) (rl (by (with_reducible repeat (first|apply ra|apply rb|apply rc));exact HO_10.out))) (rl (by (with_reducible repeat (first|apply ra|apply rb|apply rc));exact HO_11.out))) (below_size (by repeat (first|(with_reducible first|exact HB.out|apply ba|apply bb|apply bc)|exact HB.out))));have n5_:=A_ (below_step (by repeat (first|(with_reducible first|exact HB.out|apply ba|apply bb|apply bc)|exact HB.out)) hb);clear HO_7;clear HO_8;clear HO_10;clear HO_11;clear HB;have HO_7:=n0_;have HO_8:=n1_;have HO_10:=n2_;have HO_11:=n3_;have HO305:=n4_;have HB:=n5_;clear n0_ n1_ n2_ n3_ n4_ n5_;clear hb ho29;obtain ⟨Ao31,co31,eo31⟩:=Kd.R_slice HO305.out;subst eo31)|((with_reducible refine gate_builtin (b:=.append) (xs:=#[.tmp 76,.tmp 84]) rfl ?_);at_builtin;refine Kd.R_append_rows (Kd.int .i64) (w0:=w) w.heap.size rfl (.tmp 76) (.tmp 84) 22 3 (.int .i64 0) 8 rfl Try.underlying22 info3 rfl (by decide) (by omega) u11 x11_2 y303 _ _ _ (fun k_=>nb k_ (.slice Ao8 x7_1.length co8)∧some k_≠(.slice (some ⟨go24,0,none⟩) x8_2.length co20 : Value).ownBlock∧some k_≠(u10 : Value).ownBlock∧nb k_ (.slice Ao31 y303.length co31)) (fun _=>False) rfl rfl ?aO ?aR (fun _ _ h=>h) (fun _ h=>h.elim) ?aF ?aB ?aS ?aL ?_;(case aR=>repeat (first|exact (rd_ HO305.out).2.2|(with_reducible refine ca ?_ _)|(with_reducible refine cb ?_ _)|(with_reducible refine cc ?_)));(case aB=>exact (by repeat (first|(with_reducible first|exact HB.out|apply ba|apply bb|apply bc)|exact HB.out)));(case aF=>exact (fun k_ hk=>⟨rh (rl (by (with_reducible repeat (first|apply ra|apply rb|apply rc));exact HO_7.out)) k_ hk,rh (rl (by (with_reducible repeat (first|apply ra|apply rb|apply rc));exact HO_8.out)) k_ hk,rh (rl (by (with_reducible repeat (first|apply ra|apply rb|apply rc));exact HO_10.out)) k_ hk,rh (rl (by (with_reducible repeat (first|apply ra|apply rb|apply rc));exact HO305.out)) k_ hk⟩));(case aO=>exact (by (with_reducible repeat (first|apply ra|apply rb|apply rc));exact rm HO_11.out (fun _ hk=>⟨hk.1.1.1,⟨hk.1.2,⟨hk.1.1.2,hk.2⟩⟩⟩)));(case aS=>exact (below_size (by repeat (first|(with_reducible first|exact HB.out|apply ba|apply bb|apply bc)|exact HB.out))));(case aL=>have:=LMc25.out;omega);intro v307 w30 ho hb hg hat;rw [← Ny306.out] at ho;have n0_:=A_ (rf (ok:=(fun k_=>some k_≠(.slice (some ⟨go24,0,none⟩) x8_2.length co20 : Value).ownBlock∧some k_≠(u10 : Value).ownBlock∧nb k_ (.slice Ao31 y303.length co31))) (by (with_reducible repeat (first|apply ra|apply rb|apply rc));exact rm HO_7.out (fun _ hk=>⟨⟨hk.1.2,⟨hk.1.1.1,hk.2⟩⟩,hk.1.1.2⟩)) hg hat);have n1_:=A_ (rf (ok:=(fun k_=>nb k_ (.slice Ao8 x7_1.length co8)∧some k_≠(u10 : Value).ownBlock∧nb k_ (.slice Ao31 y303.length co31))) (by (with_reducible repeat (first|apply ra|apply rb|apply rc));exact rm HO_8.out (fun _ hk=>⟨⟨hk.1.1,⟨hk.1.2.1,hk.2⟩⟩,hk.1.2.2⟩)) hg hat);have n2_:=A_ (rf (ok:=(fun k_=>nb k_ (.slice Ao8 x7_1.length co8)∧some k_≠(.slice (some ⟨go24,0,none⟩) x8_2.length co20 : Value).ownBlock∧nb k_ (.slice Ao31 y303.length co31))) (by (with_reducible repeat (first|apply ra|apply rb|apply rc));exact rm HO_10.out (fun _ hk=>⟨⟨hk.1.1.1,⟨hk.1.2,hk.2⟩⟩,hk.1.1.2⟩)) hg hat);have n3_:=A_ (rf (ok:=(fun k_=>nb k_ (.slice Ao8 x7_1.length co8)∧some k_≠(.slice (some ⟨go24,0,none⟩) x8_2.length co20 : Value).ownBlock∧some k_≠(u10 : Value).ownBlock)) (by (with_reducible repeat (first|apply ra|apply rb|apply rc));exact rm HO305.out (fun _ hk=>⟨⟨hk.1.1.1.2,⟨hk.1.1.2,hk.1.2⟩⟩,hk.2⟩)) hg hat);have n4_:=A_ (hb);have n5_:=A_ (ho);clear HO_7;clear HO_8;clear HO_10;clear HO305;clear HB;clear HO_11;have HO_7:=n0_;have HO_8:=n1_;have HO_10:=n2_;have HO305:=n3_;have HB:=n4_;have HO308:=n5_;clear n0_ n1_ n2_ n3_ n4_ n5_;clear ho hb hg hat))
          (try simp only [← hl8_2])
          go_roundg k2
          case measure=>have:=HK1.out;have:=HK2.out;omega
          case rel=>exact ⟨(y301),(y306),(wrap64 (x64_2 + 1)),(by first|rfl|(simp;done)|(simp [*];done)),H',⟨by have:=HK1.out;have:=HK2.out;omega⟩,⟨by (try simp only [hl7_1]);(try simp only [hl8_2]);(with_reducible repeat (first|apply ra|apply rb|apply rc));exact rm HO_7.out (fun _ hk=>⟨hk.1.1,⟨hk.1.2.1,hk.2⟩⟩)⟩,⟨by (try simp only [hl7_1]);(try simp only [hl8_2]);(with_reducible repeat (first|apply ra|apply rb|apply rc));exact rm HO_8.out (fun _ hk=>⟨hk.1.1,⟨hk.1.2.1,hk.2⟩⟩)⟩,⟨by (try simp only [hl7_1]);(try simp only [hl8_2]);(with_reducible repeat (first|apply ra|apply rb|apply rc));exact rm HO_10.out (fun _ hk=>⟨hk.1.1,⟨hk.1.2.1,hk.2⟩⟩)⟩,⟨by (try simp only [hl7_1]);(try simp only [hl8_2]);(with_reducible repeat (first|apply ra|apply rb|apply rc));exact rm HO308.out (fun _ hk=>⟨hk.1,⟨hk.2.1,hk.2.2.1⟩⟩)⟩,⟨by repeat (first|(with_reducible first|exact HB.out|apply ba|apply bb|apply bc)|exact HB.out)⟩⟩
         ·
          rw [if_neg c25] at H
          exact absurd H (by simp)
        ·
         rw [if_neg c23] at H
         exact absurd H (by simp)
       ·
        rw [if_neg c22] at H
        exact absurd H (by simp)
      ·
       rw [if_neg c21] at H
       have c21b0 : decide (x64_2 < (t286.length : Int)) = false:=decide_eq_false c21
       (try (have c21b0h:=c21b0;simp only [hl7_1,hl8_2] at c21b0h))
       clear c21
       have H':=A_ H
       clear H
       go_wp2
       go_loopg [12,89] k2 (fun kq v12 v89 w'=>∃ (x12_3 : List Int) (x89_3 : Int),v89 = .int .i64 x89_3∧Aside0 (shapesearchlaw15_EditMoves.l2 kq a1 a2 x7_1 x8_2 (wrap64 (Int.tdiv (wrap64 (t289 * 4)) 5)) x10_1 x11_2 x12_3 (x7_1.length : Int) x89_3 = some r)∧Aside0 (kq ≤ k2)∧Aside0 (Kd.R (Kd.int .i64) 3 w' w.heap.size (fun k_=>some k_≠((.slice Ao20 x8_2.length co20) : Value).ownBlock∧some k_≠(u10 : Value).ownBlock∧some k_≠(u11 : Value).ownBlock∧nb k_ v12) (.slice Ao8 x7_1.length co8) x7_1)∧Aside0 (Kd.R (Kd.int .i64) 3 w' w.heap.size (fun k_=>some k_≠((.slice Ao8 x7_1.length co8) : Value).ownBlock∧some k_≠(u10 : Value).ownBlock∧some k_≠(u11 : Value).ownBlock∧nb k_ v12) (.slice Ao20 x8_2.length co20) x8_2)∧Aside0 (Kd.R (Kd.int .i64) 3 w' w.heap.size (fun k_=>some k_≠((.slice Ao8 x7_1.length co8) : Value).ownBlock∧some k_≠((.slice Ao20 x8_2.length co20) : Value).ownBlock∧some k_≠(u11 : Value).ownBlock∧nb k_ v12) u10 x10_1)∧Aside0 (Kd.R (Kd.int .i64) 3 w' w.heap.size (fun k_=>some k_≠((.slice Ao8 x7_1.length co8) : Value).ownBlock∧some k_≠((.slice Ao20 x8_2.length co20) : Value).ownBlock∧some k_≠(u10 : Value).ownBlock∧nb k_ v12) u11 x11_2)∧Aside0 (Kd.R (Kd.int .i64) 3 w' w.heap.size (fun k_=>some k_≠((.slice Ao8 x7_1.length co8) : Value).ownBlock∧some k_≠((.slice Ao20 x8_2.length co20) : Value).ownBlock∧some k_≠(u10 : Value).ownBlock∧some k_≠(u11 : Value).ownBlock) v12 x12_3)∧Aside0 (Below w.heap.size w w'))
       case atStart=>exact ⟨(([] : List Int)),(0),(by first|rfl|(simp;done)|(simp [*];done)),H',⟨Nat.le_refl _⟩,⟨by (try simp only [hl7_1]);(try simp only [hl8_2]);(with_reducible repeat (first|apply ra|apply rb|apply rc));exact rm HO_7.out (fun _ hk=>⟨hk.1,⟨hk.2.1,⟨hk.2.2,(by simp [Value.ownBlock])⟩⟩⟩)⟩,⟨by (try simp only [hl7_1]);(try simp only [hl8_2]);(with_reducible repeat (first|apply ra|apply rb|apply rc));exact rm HO_8.out (fun _ hk=>⟨hk.1,⟨hk.2.1,⟨hk.2.2,(by simp [Value.ownBlock])⟩⟩⟩)⟩,⟨by (try simp only [hl7_1]);(try simp only [hl8_2]);(with_reducible repeat (first|apply ra|apply rb|apply rc));exact rm HO_10.out (fun _ hk=>⟨hk.1,⟨hk.2.1,⟨hk.2.2,(by simp [Value.ownBlock])⟩⟩⟩)⟩,⟨by (try simp only [hl7_1]);(try simp only [hl8_2]);(with_reducible repeat (first|apply ra|apply rb|apply rc));exact rm HO_11.out (fun _ hk=>⟨hk.1,⟨hk.2.1,⟨hk.2.2,(by simp [Value.ownBlock])⟩⟩⟩)⟩,⟨by (try simp only [hl7_1]);(try simp only [hl8_2]);first|exact Kd.R_nil _ _ _ _ _|exact Kd.N_nil _ _ _ _ _|exact Kd.V_nil _ _ _ _ _|exact Kd.Q_nil _ _ _ _ _|exact Kd.S_nil _ _ _ _ _⟩,⟨by repeat (first|(with_reducible first|exact HB.out|apply ba|apply bb|apply bc)|exact HB.out)⟩⟩
       case round =>
        clear H'
        try clear c1
        try clear p1
        try clear q1
        try clear hx1
        try clear c2
        try clear p2
        try clear q2
        try clear hx2
        try clear p3
        try clear q3
        try clear hx3
        try clear c5
        try clear p6
        try clear c9
        try clear c9b0
        try clear c10
        try clear c10b0
        try clear c11
        try clear c11b0
        try clear p12
        try clear q12
        try clear hx12
        try clear hf12
        try clear c13
        try clear c21
        try clear c21b0
        try clear c22
        try clear c22b0
        try clear c23
        try clear c23b0
        try clear p24
        try clear q24
        try clear hx24
        try clear hf24
        try clear c25
        try clear p29
        try clear q29
        try clear hx29
        try clear p30
        try clear q30
        try clear hx30
        try clear hx12_0
        try clear hx24_0
        try clear hx291_0
        try clear hx293_0
        try clear hx300_0
        try clear hx302_0
        try clear p1
        try clear p12
        try clear p2
        try clear p24
        try clear p291
        try clear p293
        try clear p300
        try clear p302
        try clear p6
        try clear q1
        try clear q12
        try clear q2
        try clear q24
        try clear q291
        try clear q293
        try clear q300
        try clear q302
        obtain ⟨x12_3,x89_3,rfl,HA,HK3,HO_7,HO_8,HO_10,HO_11,HO_12,HB⟩:=hrel
        cases gk with
        | zero=>exact absurd HA.out (by simp [shapesearchlaw15_EditMoves.l2])
        | succ k3 =>
         have H:=HA.out
         clear HA
         simp only [shapesearchlaw15_EditMoves.l2] at H
         by_cases c32 : x89_3 < (x7_1.length : Int)
         ·
          rw [if_pos c32] at H
          have c32b0 : decide (x89_3 < (x7_1.length : Int)) = true:=decide_eq_true c32
          (try (have c32b0h:=c32b0;simp only [hl7_1,hl8_2] at c32b0h))
          clear c32
          obtain ⟨ji33,hji33⟩ : ∃ j_ : Int,(wrap64 ((wrap64 ((x7_1.length : Int) - 1)) - x89_3)) = j_:=⟨_,rfl⟩
          replace H : (if 0 ≤ (ji33) then (if (ji33) < (x7_1.length : Int) then ((some (([rd x7_1 (ji33)] : List Int) : List Int)).bind fun y310=>(if x12_3.length + y310.length < 17592186044416 then (shapesearchlaw15_EditMoves.l2 k3 a1 a2 x7_1 x8_2 (wrap64 (Int.tdiv (wrap64 (t289 * 4)) 5)) x10_1 x11_2 (x12_3 ++ y310) (x7_1.length : Int) (wrap64 (x89_3 + 1))) else (none))) else (none)) else (none)) = some r:=by first|(rw [hji33] at H;exact H)|(simp only [hji33] at H ⊢;exact H)
          have hji33w : (IntKind.i64.wrap ((wrap64 ((x7_1.length : Int) - 1)) - x89_3)) = ji33:=(i64_w _).trans hji33
          by_cases c34 : 0 ≤ (ji33)
          ·
           rw [if_pos c34] at H
           have c34b0 : decide (0 ≤ (ji33)) = true:=decide_eq_true c34
           clear c34
           by_cases c35 : (ji33) < (x7_1.length : Int)
           ·
            rw [if_pos c35] at H
            have c35b0 : decide ((ji33) < (x7_1.length : Int)) = true:=decide_eq_true c35
            (try (have c35b0h:=c35b0;simp only [hl7_1,hl8_2] at c35b0h))
            clear c35
            obtain ⟨y310,hy310⟩ : ∃ y_ : List Int,y_ = (([rd x7_1 (ji33)] : List Int)):=⟨_,rfl⟩
            replace H : (if x12_3.length + y310.length < 17592186044416 then (shapesearchlaw15_EditMoves.l2 k3 a1 a2 x7_1 x8_2 (wrap64 (Int.tdiv (wrap64 (t289 * 4)) 5)) x10_1 x11_2 (x12_3 ++ y310) (x7_1.length : Int) (wrap64 (x89_3 + 1))) else (none)) = some r:=by first|(rw [hy310];with_reducible exact H)|(have H2_:=(Option.bind_some _ _).symm.trans H;rw [hy310];with_reducible exact H2_)|(have H2_:=(Option.bind_some _ _).symm.trans H;with_reducible exact H2_)|with_reducible exact H|(rw [hy310];exact H)|exact H
            have Ny310:=A_ hy310
            clear hy310
            by_cases c36 : x12_3.length + y310.length < 17592186044416
            ·
             rw [if_pos c36] at H
             have LMc36:=A_ c36
             clear c36
             obtain ⟨y313,hy313⟩ : ∃ y_ : List Int,y_ = (x12_3 ++ y310):=⟨_,rfl⟩
             replace H : (shapesearchlaw15_EditMoves.l2 k3 a1 a2 x7_1 x8_2 (wrap64 (Int.tdiv (wrap64 (t289 * 4)) 5)) x10_1 x11_2 y313 (x7_1.length : Int) (wrap64 (x89_3 + 1))) = some r:=by first|(rw [hy313];with_reducible exact H)|(have H2_:=(Option.bind_some _ _).symm.trans H;rw [hy313];with_reducible exact H2_)|(have H2_:=(Option.bind_some _ _).symm.trans H;with_reducible exact H2_)|with_reducible exact H|(rw [hy313];exact H)|exact H
             have Ny313:=A_ hy313
             clear hy313
             have H':=A_ H
             clear H
             have p309 : 0 ≤ ((ji33) : Int):=of_decide_eq_true (by first|(with_reducible assumption)|assumption)
             have q309 : (ji33) < (x7_1.length : Int):=of_decide_eq_true (by first|(with_reducible assumption)|assumption)
             obtain ⟨ad309,e309,hx309_0⟩:=Kd.at_int (rd_ HO_7.out).2.2 (ji33) p309 q309
             cases e309
             replace p309:=eq_true p309
             replace q309:=eq_true q309
             go_wp2_with (first|((with_reducible refine gate_dst (N:=101) rfl ?_);refine Kd.R_lit (Kd.int .i64) _ 3 ?hg (N:=101) ?hd (xs:=([rd x7_1 (ji33)] : List Int)) (inner:=[.int .i64 (rd x7_1 (ji33))]) (ok:=fun _=>True) (okp:=fun _=>True) ?hr ?hp (fun _ hk=>hk) trivial (Below.refl _ _) (Nat.le_refl _) (by simp) ?_;(case hd=>rfl);(case hg=>rfl);(case hr=>first|(go_simp;done)|(go_simp;rfl));(case hp=>exact (Reps.one (show Kd.M (Kd.int .i64) _ _ _ (rd x7_1 (ji33)) [.int .i64 (rd x7_1 (ji33))] from rfl) (Reps.none _ _)));intro v311 w37 ho38 hb hg_ hnew_;clear hg_ hnew_;(first|rw [← Ny310.out] at ho38|(simp only [Int.reduceToNat] at ho38;rw [← Ny310.out] at ho38));have n0_:=A_ (re (by (with_reducible repeat (first|apply ra|apply rb|apply rc));exact HO_7.out) (rs ho38) hb);have n1_:=A_ (re (by (with_reducible repeat (first|apply ra|apply rb|apply rc));exact HO_8.out) (rs ho38) hb);have n2_:=A_ (re (by (with_reducible repeat (first|apply ra|apply rb|apply rc));exact HO_10.out) (rs ho38) hb);have n3_:=A_ (re (by (with_reducible repeat (first|apply ra|apply rb|apply rc));exact HO_11.out) (rs ho38) hb);have n4_:=A_ (re (by (with_reducible repeat (first|apply ra|apply rb|apply rc));exact HO_12.out) (rs ho38) hb);have n5_:=A_ (Kd.R_lower (rn (rn (rn (rn (rn ho38 (rl (by (with_reducible repeat (first|apply ra|apply rb|apply rc));exact HO_7.out))) (rl (by (with_reducible repeat (first|apply ra|apply rb|apply rc));exact HO_8.out))) (rl (by (with_reducible repeat (first|apply ra|apply rb|apply rc));exact HO_10.out))) (rl (by (with_reducible repeat (first|apply ra|apply rb|apply rc));exact HO_11.out))) (rl (by (with_reducible repeat (first|apply ra|apply rb|apply rc));exact HO_12.out))) (below_size (by repeat (first|(with_reducible first|exact HB.out|apply ba|apply bb|apply bc)|exact HB.out))));have n6_:=A_ (below_step (by repeat (first|(with_reducible first|exact HB.out|apply ba|apply bb|apply bc)|exact HB.out)) hb);clear HO_7;clear HO_8;clear HO_10;clear HO_11;clear HO_12;clear HB;have HO_7:=n0_;have HO_8:=n1_;have HO_10:=n2_;have HO_11:=n3_;have HO_12:=n4_;have HO312:=n5_;have HB:=n6_;clear n0_ n1_ n2_ n3_ n4_ n5_ n6_;clear hb ho38;obtain ⟨Ao40,co40,eo40⟩:=Kd.R_slice HO312.out;subst eo40)|((with_reducible refine gate_builtin (b:=.append) (xs:=#[.tmp 92,.tmp 101]) rfl ?_);at_builtin;refine Kd.R_append_rows (Kd.int .i64) (w0:=w) w.heap.size rfl (.tmp 92) (.tmp 101) 22 3 (.int .i64 0) 8 rfl Try.underlying22 info3 rfl (by decide) (by omega) u12 x12_3 y310 _ _ _ (fun k_=>some k_≠(.slice (some ad309) x7_1.length co8 : Value).ownBlock∧nb k_ (.slice Ao20 x8_2.length co20)∧some k_≠(u10 : Value).ownBlock∧some k_≠(u11 : Value).ownBlock∧nb k_ (.slice Ao40 y310.length co40)) (fun _=>False) rfl rfl ?aO ?aR (fun _ _ h=>h) (fun _ h=>h.elim) ?aF ?aB ?aS ?aL ?_;(case aR=>repeat (first|exact (rd_ HO312.out).2.2|(with_reducible refine ca ?_ _)|(with_reducible refine cb ?_ _)|(with_reducible refine cc ?_)));(case aB=>exact (by repeat (first|(with_reducible first|exact HB.out|apply ba|apply bb|apply bc)|exact HB.out)));(case aF=>exact (fun k_ hk=>⟨rh (rl (by (with_reducible repeat (first|apply ra|apply rb|apply rc));exact HO_7.out)) k_ hk,rh (rl (by (with_reducible repeat (first|apply ra|apply rb|apply rc));exact HO_8.out)) k_ hk,rh (rl (by (with_reducible repeat (first|apply ra|apply rb|apply rc));exact HO_10.out)) k_ hk,rh (rl (by (with_reducible repeat (first|apply ra|apply rb|apply rc));exact HO_11.out)) k_ hk,rh (rl (by (with_reducible repeat (first|apply ra|apply rb|apply rc));exact HO312.out)) k_ hk⟩));(case aO=>exact (by (with_reducible repeat (first|apply ra|apply rb|apply rc));exact rm HO_12.out (fun _ hk=>⟨hk.1.1,⟨hk.1.2.1,⟨hk.1.2.2.1,⟨hk.1.2.2.2,hk.2⟩⟩⟩⟩)));(case aS=>exact (below_size (by repeat (first|(with_reducible first|exact HB.out|apply ba|apply bb|apply bc)|exact HB.out))));(case aL=>have:=LMc36.out;omega);intro v314 w39 ho hb hg hat;rw [← Ny313.out] at ho;have n0_:=A_ (rf (ok:=(fun k_=>nb k_ (.slice Ao20 x8_2.length co20)∧some k_≠(u10 : Value).ownBlock∧some k_≠(u11 : Value).ownBlock∧nb k_ (.slice Ao40 y310.length co40))) (by (with_reducible repeat (first|apply ra|apply rb|apply rc));exact rm HO_7.out (fun _ hk=>⟨⟨hk.1.1,⟨hk.1.2.1,⟨hk.1.2.2.1,hk.2⟩⟩⟩,hk.1.2.2.2⟩)) hg hat);have n1_:=A_ (rf (ok:=(fun k_=>some k_≠(.slice (some ad309) x7_1.length co8 : Value).ownBlock∧some k_≠(u10 : Value).ownBlock∧some k_≠(u11 : Value).ownBlock∧nb k_ (.slice Ao40 y310.length co40))) (by (with_reducible repeat (first|apply ra|apply rb|apply rc));exact rm HO_8.out (fun _ hk=>⟨⟨hk.1.1,⟨hk.1.2.1,⟨hk.1.2.2.1,hk.2⟩⟩⟩,hk.1.2.2.2⟩)) hg hat);have n2_:=A_ (rf (ok:=(fun k_=>some k_≠(.slice (some ad309) x7_1.length co8 : Value).ownBlock∧nb k_ (.slice Ao20 x8_2.length co20)∧some k_≠(u11 : Value).ownBlock∧nb k_ (.slice Ao40 y310.length co40))) (by (with_reducible repeat (first|apply ra|apply rb|apply rc));exact rm HO_10.out (fun _ hk=>⟨⟨hk.1.1,⟨hk.1.2.1,⟨hk.1.2.2.1,hk.2⟩⟩⟩,hk.1.2.2.2⟩)) hg hat);have n3_:=A_ (rf (ok:=(fun k_=>some k_≠(.slice (some ad309) x7_1.length co8 : Value).ownBlock∧nb k_ (.slice Ao20 x8_2.length co20)∧some k_≠(u10 : Value).ownBlock∧nb k_ (.slice Ao40 y310.length co40))) (by (with_reducible repeat (first|apply ra|apply rb|apply rc));exact rm HO_11.out (fun _ hk=>⟨⟨hk.1.1,⟨hk.1.2.1,⟨hk.1.2.2.1,hk.2⟩⟩⟩,hk.1.2.2.2⟩)) hg hat);have n4_:=A_ (rf (ok:=(fun k_=>some k_≠(.slice (some ad309) x7_1.length co8 : Value).ownBlock∧nb k_ (.slice Ao20 x8_2.length co20)∧some k_≠(u10 : Value).ownBlock∧some k_≠(u11 : Value).ownBlock)) (by (with_reducible repeat (first|apply ra|apply rb|apply rc));exact rm HO312.out (fun _ hk=>⟨⟨hk.1.1.1.1.2,⟨hk.1.1.1.2,⟨hk.1.1.2,hk.1.2⟩⟩⟩,hk.2⟩)) hg hat);have n5_:=A_ (hb);have n6_:=A_ (ho);clear HO_7;clear HO_8;clear HO_10;clear HO_11;clear HO312;clear HB;clear HO_12;have HO_7:=n0_;have HO_8:=n1_;have HO_10:=n2_;have HO_11:=n3_;have HO312:=n4_;have HB:=n5_;have HO315:=n6_;clear n0_ n1_ n2_ n3_ n4_ n5_ n6_;clear ho hb hg hat))
             go_roundg k3
             case measure=>have:=HK1.out;have:=HK2.out;have:=HK3.out;omega
             case rel=>exact ⟨(y313),(wrap64 (x89_3 + 1)),(by first|rfl|(simp;done)|(simp [*];done)),H',⟨by have:=HK1.out;have:=HK2.out;have:=HK3.out;omega⟩,⟨by (try simp only [hl7_1]);(try simp only [hl8_2]);(with_reducible repeat (first|apply ra|apply rb|apply rc));exact rm HO_7.out (fun _ hk=>⟨hk.1.1,⟨hk.1.2.1,⟨hk.1.2.2.1,hk.2⟩⟩⟩)⟩,⟨by (try simp only [hl7_1]);(try simp only [hl8_2]);(with_reducible repeat (first|apply ra|apply rb|apply rc));exact rm HO_8.out (fun _ hk=>⟨hk.1.1,⟨hk.1.2.1,⟨hk.1.2.2.1,hk.2⟩⟩⟩)⟩,⟨by (try simp only [hl7_1]);(try simp only [hl8_2]);(with_reducible repeat (first|apply ra|apply rb|apply rc));exact rm HO_10.out (fun _ hk=>⟨hk.1.1,⟨hk.1.2.1,⟨hk.1.2.2.1,hk.2⟩⟩⟩)⟩,⟨by (try simp only [hl7_1]);(try simp only [hl8_2]);(with_reducible repeat (first|apply ra|apply rb|apply rc));exact rm HO_11.out (fun _ hk=>⟨hk.1.1,⟨hk.1.2.1,⟨hk.1.2.2.1,hk.2⟩⟩⟩)⟩,⟨by (try simp only [hl7_1]);(try simp only [hl8_2]);(with_reducible repeat (first|apply ra|apply rb|apply rc));exact rm HO315.out (fun _ hk=>⟨hk.1,⟨hk.2.1,⟨hk.2.2.1,hk.2.2.2.1⟩⟩⟩)⟩,⟨by repeat (first|(with_reducible first|exact HB.out|apply ba|apply bb|apply bc)|exact HB.out)⟩⟩
            ·
             rw [if_neg c36] at H
             exact absurd H (by simp)
           ·
            rw [if_neg c35] at H
            exact absurd H (by simp)
          ·
           rw [if_neg c34] at H
           exact absurd H (by simp)
         ·
          rw [if_neg c32] at H
          have c32b0 : decide (x89_3 < (x7_1.length : Int)) = false:=decide_eq_false c32
          (try (have c32b0h:=c32b0;simp only [hl7_1,hl8_2] at c32b0h))
          clear c32
          have H':=A_ H
          clear H
          go_wp2
          go_loopg [13,106] k3 (fun kq v13 v106 w'=>∃ (x13_4 : List Int) (x106_4 : Int),v106 = .int .i64 x106_4∧Aside0 (shapesearchlaw15_EditMoves.l3 kq a1 a2 x7_1 x8_2 (wrap64 (Int.tdiv (wrap64 (t289 * 4)) 5)) x10_1 x11_2 x12_3 x13_4 (x8_2.length : Int) x106_4 = some r)∧Aside0 (kq ≤ k3)∧Aside0 (Kd.R (Kd.int .i64) 3 w' w.heap.size (fun k_=>some k_≠((.slice Ao20 x8_2.length co20) : Value).ownBlock∧some k_≠(u10 : Value).ownBlock∧some k_≠(u11 : Value).ownBlock∧some k_≠(u12 : Value).ownBlock∧nb k_ v13) (.slice Ao8 x7_1.length co8) x7_1)∧Aside0 (Kd.R (Kd.int .i64) 3 w' w.heap.size (fun k_=>some k_≠((.slice Ao8 x7_1.length co8) : Value).ownBlock∧some k_≠(u10 : Value).ownBlock∧some k_≠(u11 : Value).ownBlock∧some k_≠(u12 : Value).ownBlock∧nb k_ v13) (.slice Ao20 x8_2.length co20) x8_2)∧Aside0 (Kd.R (Kd.int .i64) 3 w' w.heap.size (fun k_=>some k_≠((.slice Ao8 x7_1.length co8) : Value).ownBlock∧some k_≠((.slice Ao20 x8_2.length co20) : Value).ownBlock∧some k_≠(u11 : Value).ownBlock∧some k_≠(u12 : Value).ownBlock∧nb k_ v13) u10 x10_1)∧Aside0 (Kd.R (Kd.int .i64) 3 w' w.heap.size (fun k_=>some k_≠((.slice Ao8 x7_1.length co8) : Value).ownBlock∧some k_≠((.slice Ao20 x8_2.length co20) : Value).ownBlock∧some k_≠(u10 : Value).ownBlock∧some k_≠(u12 : Value).ownBlock∧nb k_ v13) u11 x11_2)∧Aside0 (Kd.R (Kd.int .i64) 3 w' w.heap.size (fun k_=>some k_≠((.slice Ao8 x7_1.length co8) : Value).ownBlock∧some k_≠((.slice Ao20 x8_2.length co20) : Value).ownBlock∧some k_≠(u10 : Value).ownBlock∧some k_≠(u11 : Value).ownBlock∧nb k_ v13) u12 x12_3)∧Aside0 (Kd.R (Kd.int .i64) 3 w' w.heap.size (fun k_=>some k_≠((.slice Ao8 x7_1.length co8) : Value).ownBlock∧some k_≠((.slice Ao20 x8_2.length co20) : Value).ownBlock∧some k_≠(u10 : Value).ownBlock∧some k_≠(u11 : Value).ownBlock∧some k_≠(u12 : Value).ownBlock) v13 x13_4)∧Aside0 (Below w.heap.size w w'))
          case atStart=>exact ⟨(([] : List Int)),(0),(by first|rfl|(simp;done)|(simp [*];done)),H',⟨Nat.le_refl _⟩,⟨by (try simp only [hl7_1]);(try simp only [hl8_2]);(with_reducible repeat (first|apply ra|apply rb|apply rc));exact rm HO_7.out (fun _ hk=>⟨hk.1,⟨hk.2.1,⟨hk.2.2.1,⟨hk.2.2.2,(by simp [Value.ownBlock])⟩⟩⟩⟩)⟩,⟨by (try simp only [hl7_1]);(try simp only [hl8_2]);(with_reducible repeat (first|apply ra|apply rb|apply rc));exact rm HO_8.out (fun _ hk=>⟨hk.1,⟨hk.2.1,⟨hk.2.2.1,⟨hk.2.2.2,(by simp [Value.ownBlock])⟩⟩⟩⟩)⟩,⟨by (try simp only [hl7_1]);(try simp only [hl8_2]);(with_reducible repeat (first|apply ra|apply rb|apply rc));exact rm HO_10.out (fun _ hk=>⟨hk.1,⟨hk.2.1,⟨hk.2.2.1,⟨hk.2.2.2,(by simp [Value.ownBlock])⟩⟩⟩⟩)⟩,⟨by (try simp only [hl7_1]);(try simp only [hl8_2]);(with_reducible repeat (first|apply ra|apply rb|apply rc));exact rm HO_11.out (fun _ hk=>⟨hk.1,⟨hk.2.1,⟨hk.2.2.1,⟨hk.2.2.2,(by simp [Value.ownBlock])⟩⟩⟩⟩)⟩,⟨by (try simp only [hl7_1]);(try simp only [hl8_2]);(with_reducible repeat (first|apply ra|apply rb|apply rc));exact rm HO_12.out (fun _ hk=>⟨hk.1,⟨hk.2.1,⟨hk.2.2.1,⟨hk.2.2.2,(by simp [Value.ownBlock])⟩⟩⟩⟩)⟩,⟨by (try simp only [hl7_1]);(try simp only [hl8_2]);first|exact Kd.R_nil _ _ _ _ _|exact Kd.N_nil _ _ _ _ _|exact Kd.V_nil _ _ _ _ _|exact Kd.Q_nil _ _ _ _ _|exact Kd.S_nil _ _ _ _ _⟩,⟨by repeat (first|(with_reducible first|exact HB.out|apply ba|apply bb|apply bc)|exact HB.out)⟩⟩
          case round =>
           clear H'
           try clear c1
           try clear p1
           try clear q1
           try clear hx1
           try clear c2
           try clear p2
           try clear q2
           try clear hx2
           try clear c3
           try clear p3
           try clear q3
           try clear hx3
           try clear c5
           try clear p6
           try clear c9
           try clear c9b0
           try clear c10
           try clear c10b0
           try clear c11
           try clear c11b0
           try clear p12
           try clear q12
           try clear hx12
           try clear hf12
           try clear c13
           try clear c21
           try clear c21b0
           try clear c22
           try clear c22b0
           try clear c23
           try clear c23b0
           try clear p24
           try clear q24
           try clear hx24
           try clear hf24
           try clear c25
           try clear p29
           try clear q29
           try clear hx29
           try clear p30
           try clear q30
           try clear hx30
           try clear c32
           try clear c32b0
           try clear c34
           try clear c34b0
           try clear c35
           try clear c35b0
           try clear c36
           try clear hx12_0
           try clear hx24_0
           try clear hx291_0
           try clear hx293_0
           try clear hx300_0
           try clear hx302_0
           try clear hx309_0
           try clear p1
           try clear p12
           try clear p2
           try clear p24
           try clear p29
           try clear p291
           try clear p293
           try clear p3
           try clear p30
           try clear p300
           try clear p302
           try clear p309
           try clear p6
           try clear q1
           try clear q12
           try clear q2
           try clear q24
           try clear q29
           try clear q291
           try clear q293
           try clear q3
           try clear q30
           try clear q300
           try clear q302
           try clear q309
           obtain ⟨x13_4,x106_4,rfl,HA,HK4,HO_7,HO_8,HO_10,HO_11,HO_12,HO_13,HB⟩:=hrel
           cases gk with
           | zero=>exact absurd HA.out (by simp [shapesearchlaw15_EditMoves.l3])
           | succ k4 =>
            have H:=HA.out
            clear HA
            simp only [shapesearchlaw15_EditMoves.l3] at H
            by_cases c41 : x106_4 < (x8_2.length : Int)
            ·
             rw [if_pos c41] at H
             have c41b0 : decide (x106_4 < (x8_2.length : Int)) = true:=decide_eq_true c41
             (try (have c41b0h:=c41b0;simp only [hl7_1,hl8_2] at c41b0h))
             clear c41
             obtain ⟨ji42,hji42⟩ : ∃ j_ : Int,(wrap64 ((wrap64 ((x8_2.length : Int) - 1)) - x106_4)) = j_:=⟨_,rfl⟩
             replace H : (if 0 ≤ (ji42) then (if (ji42) < (x8_2.length : Int) then ((some (([rd x8_2 (ji42)] : List Int) : List Int)).bind fun y317=>(if x13_4.length + y317.length < 17592186044416 then (shapesearchlaw15_EditMoves.l3 k4 a1 a2 x7_1 x8_2 (wrap64 (Int.tdiv (wrap64 (t289 * 4)) 5)) x10_1 x11_2 x12_3 (x13_4 ++ y317) (x8_2.length : Int) (wrap64 (x106_4 + 1))) else (none))) else (none)) else (none)) = some r:=by first|(rw [hji42] at H;exact H)|(simp only [hji42] at H ⊢;exact H)
             have hji42w : (IntKind.i64.wrap ((wrap64 ((x8_2.length : Int) - 1)) - x106_4)) = ji42:=(i64_w _).trans hji42
             by_cases c43 : 0 ≤ (ji42)
             ·
              rw [if_pos c43] at H
              have c43b0 : decide (0 ≤ (ji42)) = true:=decide_eq_true c43
              clear c43
              by_cases c44 : (ji42) < (x8_2.length : Int)
              ·
               rw [if_pos c44] at H
               have c44b0 : decide ((ji42) < (x8_2.length : Int)) = true:=decide_eq_true c44
               (try (have c44b0h:=c44b0;simp only [hl7_1,hl8_2] at c44b0h))
               clear c44
               obtain ⟨y317,hy317⟩ : ∃ y_ : List Int,y_ = (([rd x8_2 (ji42)] : List Int)):=⟨_,rfl⟩
               replace H : (if x13_4.length + y317.length < 17592186044416 then (shapesearchlaw15_EditMoves.l3 k4 a1 a2 x7_1 x8_2 (wrap64 (Int.tdiv (wrap64 (t289 * 4)) 5)) x10_1 x11_2 x12_3 (x13_4 ++ y317) (x8_2.length : Int) (wrap64 (x106_4 + 1))) else (none)) = some r:=by first|(rw [hy317];with_reducible exact H)|(have H2_:=(Option.bind_some _ _).symm.trans H;rw [hy317];with_reducible exact H2_)|(have H2_:=(Option.bind_some _ _).symm.trans H;with_reducible exact H2_)|with_reducible exact H|(rw [hy317];exact H)|exact H
               have Ny317:=A_ hy317
               clear hy317
               by_cases c45 : x13_4.length + y317.length < 17592186044416
               ·
                rw [if_pos c45] at H
                have LMc45:=A_ c45
                clear c45
                obtain ⟨y320,hy320⟩ : ∃ y_ : List Int,y_ = (x13_4 ++ y317):=⟨_,rfl⟩
                replace H : (shapesearchlaw15_EditMoves.l3 k4 a1 a2 x7_1 x8_2 (wrap64 (Int.tdiv (wrap64 (t289 * 4)) 5)) x10_1 x11_2 x12_3 y320 (x8_2.length : Int) (wrap64 (x106_4 + 1))) = some r:=by first|(rw [hy320];with_reducible exact H)|(have H2_:=(Option.bind_some _ _).symm.trans H;rw [hy320];with_reducible exact H2_)|(have H2_:=(Option.bind_some _ _).symm.trans H;with_reducible exact H2_)|with_reducible exact H|(rw [hy320];exact H)|exact H
                have Ny320:=A_ hy320
                clear hy320
                have H':=A_ H
                clear H
                have p316 : 0 ≤ ((ji42) : Int):=of_decide_eq_true (by first|(with_reducible assumption)|assumption)
                have q316 : (ji42) < (x8_2.length : Int):=of_decide_eq_true (by first|(with_reducible assumption)|assumption)
                obtain ⟨ad316,e316,hx316_0⟩:=Kd.at_int (rd_ HO_8.out).2.2 (ji42) p316 q316
                cases e316
                replace p316:=eq_true p316
                replace q316:=eq_true q316
                go_wp2_with (first|((with_reducible refine gate_dst (N:=118) rfl ?_);refine Kd.R_lit (Kd.int .i64) _ 3 ?hg (N:=118) ?hd (xs:=([rd x8_2 (ji42)] : List Int)) (inner:=[.int .i64 (rd x8_2 (ji42))]) (ok:=fun _=>True) (okp:=fun _=>True) ?hr ?hp (fun _ hk=>hk) trivial (Below.refl _ _) (Nat.le_refl _) (by simp) ?_;(case hd=>rfl);(case hg=>rfl);(case hr=>first|(go_simp;done)|(go_simp;rfl));(case hp=>exact (Reps.one (show Kd.M (Kd.int .i64) _ _ _ (rd x8_2 (ji42)) [.int .i64 (rd x8_2 (ji42))] from rfl) (Reps.none _ _)));intro v318 w46 ho47 hb hg_ hnew_;clear hg_ hnew_;(first|rw [← Ny317.out] at ho47|(simp only [Int.reduceToNat] at ho47;rw [← Ny317.out] at ho47));have n0_:=A_ (re (by (with_reducible repeat (first|apply ra|apply rb|apply rc));exact HO_7.out) (rs ho47) hb);have n1_:=A_ (re (by (with_reducible repeat (first|apply ra|apply rb|apply rc));exact HO_8.out) (rs ho47) hb);have n2_:=A_ (re (by (with_reducible repeat (first|apply ra|apply rb|apply rc));exact HO_10.out) (rs ho47) hb);have n3_:=A_ (re (by (with_reducible repeat (first|apply ra|apply rb|apply rc));exact HO_11.out) (rs ho47) hb);have n4_:=A_ (re (by (with_reducible repeat (first|apply ra|apply rb|apply rc));exact HO_12.out) (rs ho47) hb);have n5_:=A_ (re (by (with_reducible repeat (first|apply ra|apply rb|apply rc));exact HO_13.out) (rs ho47) hb);have n6_:=A_ (Kd.R_lower (rn (rn (rn (rn (rn (rn ho47 (rl (by (with_reducible repeat (first|apply ra|apply rb|apply rc));exact HO_7.out))) (rl (by (with_reducible repeat (first|apply ra|apply rb|apply rc));exact HO_8.out))) (rl (by (with_reducible repeat (first|apply ra|apply rb|apply rc));exact HO_10.out))) (rl (by (with_reducible repeat (first|apply ra|apply rb|apply rc));exact HO_11.out))) (rl (by (with_reducible repeat (first|apply ra|apply rb|apply rc));exact HO_12.out))) (rl (by (with_reducible repeat (first|apply ra|apply rb|apply rc));exact HO_13.out))) (below_size (by repeat (first|(with_reducible first|exact HB.out|apply ba|apply bb|apply bc)|exact HB.out))));have n7_:=A_ (below_step (by repeat (first|(with_reducible first|exact HB.out|apply ba|apply bb|apply bc)|exact HB.out)) hb);clear HO_7;clear HO_8;clear HO_10;clear HO_11;clear HO_12;clear HO_13;clear HB;have HO_7:=n0_;have HO_8:=n1_;have HO_10:=n2_;have HO_11:=n3_;have HO_12:=n4_;have HO_13:=n5_;have HO319:=n6_;have HB:=n7_;clear n0_ n1_ n2_ n3_ n4_ n5_ n6_ n7_;clear hb ho47;obtain ⟨Ao49,co49,eo49⟩:=Kd.R_slice HO319.out;subst eo49)|((with_reducible refine gate_builtin (b:=.append) (xs:=#[.tmp 109,.tmp 118]) rfl ?_);at_builtin;refine Kd.R_append_rows (Kd.int .i64) (w0:=w) w.heap.size rfl (.tmp 109) (.tmp 118) 22 3 (.int .i64 0) 8 rfl Try.underlying22 info3 rfl (by decide) (by omega) u13 x13_4 y317 _ _ _ (fun k_=>nb k_ (.slice Ao8 x7_1.length co8)∧some k_≠(.slice (some ad316) x8_2.length co20 : Value).ownBlock∧some k_≠(u10 : Value).ownBlock∧some k_≠(u11 : Value).ownBlock∧some k_≠(u12 : Value).ownBlock∧nb k_ (.slice Ao49 y317.length co49)) (fun _=>False) rfl rfl ?aO ?aR (fun _ _ h=>h) (fun _ h=>h.elim) ?aF ?aB ?aS ?aL ?_;(case aR=>repeat (first|exact (rd_ HO319.out).2.2|(with_reducible refine ca ?_ _)|(with_reducible refine cb ?_ _)|(with_reducible refine cc ?_)));(case aB=>exact (by repeat (first|(with_reducible first|exact HB.out|apply ba|apply bb|apply bc)|exact HB.out)));(case aF=>exact (fun k_ hk=>⟨rh (rl (by (with_reducible repeat (first|apply ra|apply rb|apply rc));exact HO_7.out)) k_ hk,rh (rl (by (with_reducible repeat (first|apply ra|apply rb|apply rc));exact HO_8.out)) k_ hk,rh (rl (by (with_reducible repeat (first|apply ra|apply rb|apply rc));exact HO_10.out)) k_ hk,rh (rl (by (with_reducible repeat (first|apply ra|apply rb|apply rc));exact HO_11.out)) k_ hk,rh (rl (by (with_reducible repeat (first|apply ra|apply rb|apply rc));exact HO_12.out)) k_ hk,rh (rl (by (with_reducible repeat (first|apply ra|apply rb|apply rc));exact HO319.out)) k_ hk⟩));(case aO=>exact (by (with_reducible repeat (first|apply ra|apply rb|apply rc));exact rm HO_13.out (fun _ hk=>⟨hk.1.1,⟨hk.1.2.1,⟨hk.1.2.2.1,⟨hk.1.2.2.2.1,⟨hk.1.2.2.2.2,hk.2⟩⟩⟩⟩⟩)));(case aS=>exact (below_size (by repeat (first|(with_reducible first|exact HB.out|apply ba|apply bb|apply bc)|exact HB.out))));(case aL=>have:=LMc45.out;omega);intro v321 w48 ho hb hg hat;rw [← Ny320.out] at ho;have n0_:=A_ (rf (ok:=(fun k_=>some k_≠(.slice (some ad316) x8_2.length co20 : Value).ownBlock∧some k_≠(u10 : Value).ownBlock∧some k_≠(u11 : Value).ownBlock∧some k_≠(u12 : Value).ownBlock∧nb k_ (.slice Ao49 y317.length co49))) (by (with_reducible repeat (first|apply ra|apply rb|apply rc));exact rm HO_7.out (fun _ hk=>⟨⟨hk.1.1,⟨hk.1.2.1,⟨hk.1.2.2.1,⟨hk.1.2.2.2.1,hk.2⟩⟩⟩⟩,hk.1.2.2.2.2⟩)) hg hat);have n1_:=A_ (rf (ok:=(fun k_=>nb k_ (.slice Ao8 x7_1.length co8)∧some k_≠(u10 : Value).ownBlock∧some k_≠(u11 : Value).ownBlock∧some k_≠(u12 : Value).ownBlock∧nb k_ (.slice Ao49 y317.length co49))) (by (with_reducible repeat (first|apply ra|apply rb|apply rc));exact rm HO_8.out (fun _ hk=>⟨⟨hk.1.1,⟨hk.1.2.1,⟨hk.1.2.2.1,⟨hk.1.2.2.2.1,hk.2⟩⟩⟩⟩,hk.1.2.2.2.2⟩)) hg hat);have n2_:=A_ (rf (ok:=(fun k_=>nb k_ (.slice Ao8 x7_1.length co8)∧some k_≠(.slice (some ad316) x8_2.length co20 : Value).ownBlock∧some k_≠(u11 : Value).ownBlock∧some k_≠(u12 : Value).ownBlock∧nb k_ (.slice Ao49 y317.length co49))) (by (with_reducible repeat (first|apply ra|apply rb|apply rc));exact rm HO_10.out (fun _ hk=>⟨⟨hk.1.1,⟨hk.1.2.1,⟨hk.1.2.2.1,⟨hk.1.2.2.2.1,hk.2⟩⟩⟩⟩,hk.1.2.2.2.2⟩)) hg hat);have n3_:=A_ (rf (ok:=(fun k_=>nb k_ (.slice Ao8 x7_1.length co8)∧some k_≠(.slice (some ad316) x8_2.length co20 : Value).ownBlock∧some k_≠(u10 : Value).ownBlock∧some k_≠(u12 : Value).ownBlock∧nb k_ (.slice Ao49 y317.length co49))) (by (with_reducible repeat (first|apply ra|apply rb|apply rc));exact rm HO_11.out (fun _ hk=>⟨⟨hk.1.1,⟨hk.1.2.1,⟨hk.1.2.2.1,⟨hk.1.2.2.2.1,hk.2⟩⟩⟩⟩,hk.1.2.2.2.2⟩)) hg hat);have n4_:=A_ (rf (ok:=(fun k_=>nb k_ (.slice Ao8 x7_1.length co8)∧some k_≠(.slice (some ad316) x8_2.length co20 : Value).ownBlock∧some k_≠(u10 : Value).ownBlock∧some k_≠(u11 : Value).ownBlock∧nb k_ (.slice Ao49 y317.length co49))) (by (with_reducible repeat (first|apply ra|apply rb|apply rc));exact rm HO_12.out (fun _ hk=>⟨⟨hk.1.1,⟨hk.1.2.1,⟨hk.1.2.2.1,⟨hk.1.2.2.2.1,hk.2⟩⟩⟩⟩,hk.1.2.2.2.2⟩)) hg hat);have n5_:=A_ (rf (ok:=(fun k_=>nb k_ (.slice Ao8 x7_1.length co8)∧some k_≠(.slice (some ad316) x8_2.length co20 : Value).ownBlock∧some k_≠(u10 : Value).ownBlock∧some k_≠(u11 : Value).ownBlock∧some k_≠(u12 : Value).ownBlock)) (by (with_reducible repeat (first|apply ra|apply rb|apply rc));exact rm HO319.out (fun _ hk=>⟨⟨hk.1.1.1.1.1.2,⟨hk.1.1.1.1.2,⟨hk.1.1.1.2,⟨hk.1.1.2,hk.1.2⟩⟩⟩⟩,hk.2⟩)) hg hat);have n6_:=A_ (hb);have n7_:=A_ (ho);clear HO_7;clear HO_8;clear HO_10;clear HO_11;clear HO_12;clear HO319;clear HB;clear HO_13;have HO_7:=n0_;have HO_8:=n1_;have HO_10:=n2_;have HO_11:=n3_;have HO_12:=n4_;have HO319:=n5_;have HB:=n6_;have HO322:=n7_;clear n0_ n1_ n2_ n3_ n4_ n5_ n6_ n7_;clear ho hb hg hat))
                go_roundg k4
                case measure=>have:=HK1.out;have:=HK2.out;have:=HK3.out;have:=HK4.out;omega
                case rel=>exact ⟨(y320),(wrap64 (x106_4 + 1)),(by first|rfl|(simp;done)|(simp [*];done)),H',⟨by have:=HK1.out;have:=HK2.out;have:=HK3.out;have:=HK4.out;omega⟩,⟨by (try simp only [hl7_1]);(try simp only [hl8_2]);(with_reducible repeat (first|apply ra|apply rb|apply rc));exact rm HO_7.out (fun _ hk=>⟨hk.1.1,⟨hk.1.2.1,⟨hk.1.2.2.1,⟨hk.1.2.2.2.1,hk.2⟩⟩⟩⟩)⟩,⟨by (try simp only [hl7_1]);(try simp only [hl8_2]);(with_reducible repeat (first|apply ra|apply rb|apply rc));exact rm HO_8.out (fun _ hk=>⟨hk.1.1,⟨hk.1.2.1,⟨hk.1.2.2.1,⟨hk.1.2.2.2.1,hk.2⟩⟩⟩⟩)⟩,⟨by (try simp only [hl7_1]);(try simp only [hl8_2]);(with_reducible repeat (first|apply ra|apply rb|apply rc));exact rm HO_10.out (fun _ hk=>⟨hk.1.1,⟨hk.1.2.1,⟨hk.1.2.2.1,⟨hk.1.2.2.2.1,hk.2⟩⟩⟩⟩)⟩,⟨by (try simp only [hl7_1]);(try simp only [hl8_2]);(with_reducible repeat (first|apply ra|apply rb|apply rc));exact rm HO_11.out (fun _ hk=>⟨hk.1.1,⟨hk.1.2.1,⟨hk.1.2.2.1,⟨hk.1.2.2.2.1,hk.2⟩⟩⟩⟩)⟩,⟨by (try simp only [hl7_1]);(try simp only [hl8_2]);(with_reducible repeat (first|apply ra|apply rb|apply rc));exact rm HO_12.out (fun _ hk=>⟨hk.1.1,⟨hk.1.2.1,⟨hk.1.2.2.1,⟨hk.1.2.2.2.1,hk.2⟩⟩⟩⟩)⟩,⟨by (try simp only [hl7_1]);(try simp only [hl8_2]);(with_reducible repeat (first|apply ra|apply rb|apply rc));exact rm HO322.out (fun _ hk=>⟨hk.1,⟨hk.2.1,⟨hk.2.2.1,⟨hk.2.2.2.1,hk.2.2.2.2.1⟩⟩⟩⟩)⟩,⟨by repeat (first|(with_reducible first|exact HB.out|apply ba|apply bb|apply bc)|exact HB.out)⟩⟩
               ·
                rw [if_neg c45] at H
                exact absurd H (by simp)
              ·
               rw [if_neg c44] at H
               exact absurd H (by simp)
             ·
              rw [if_neg c43] at H
              exact absurd H (by simp)
            ·
             rw [if_neg c41] at H
             have c41b0 : decide (x106_4 < (x8_2.length : Int)) = false:=decide_eq_false c41
             (try (have c41b0h:=c41b0;simp only [hl7_1,hl8_2] at c41b0h))
             clear c41
             replace H:=Option.bind_eq_some_iff.mp H
             obtain ⟨⟨t323,t324⟩,A500,H⟩:=H
             replace H : ((edit_Distance.f k4 x10_1 x11_2 (wrap64 ((wrap64 (Int.tdiv (wrap64 (t289 * 4)) 5)) + (wrap64 (a1))))).bind fun bt325=>((edit_Distance.f k4 x12_3 x13_4 (wrap64 (Int.tdiv (wrap64 (t289 * 4)) 5))).bind fun bt327=>(if t324 = 0 then (if bt325.2 = 0 then (if bt327.2 = 0 then (if t323 = bt325.1 then (shapesearchlaw15_EditMoves.j4 k4 a2 x7_1 x8_2 (wrap64 (Int.tdiv (wrap64 (t289 * 4)) 5)) t323 (t323 != bt327.1)) else (shapesearchlaw15_EditMoves.j4 k4 a2 x7_1 x8_2 (wrap64 (Int.tdiv (wrap64 (t289 * 4)) 5)) t323 true)) else (shapesearchlaw15_EditMoves.j4 k4 a2 x7_1 x8_2 (wrap64 (Int.tdiv (wrap64 (t289 * 4)) 5)) t323 true)) else (shapesearchlaw15_EditMoves.j4 k4 a2 x7_1 x8_2 (wrap64 (Int.tdiv (wrap64 (t289 * 4)) 5)) t323 true)) else (shapesearchlaw15_EditMoves.j4 k4 a2 x7_1 x8_2 (wrap64 (Int.tdiv (wrap64 (t289 * 4)) 5)) t323 true)))) = some r:=H
             have A50:=A_ A500
             clear A500
             replace H:=Option.bind_eq_some_iff.mp H
             obtain ⟨⟨t325,t326⟩,A510,H⟩:=H
             replace H : ((edit_Distance.f k4 x12_3 x13_4 (wrap64 (Int.tdiv (wrap64 (t289 * 4)) 5))).bind fun bt327=>(if t324 = 0 then (if t326 = 0 then (if bt327.2 = 0 then (if t323 = t325 then (shapesearchlaw15_EditMoves.j4 k4 a2 x7_1 x8_2 (wrap64 (Int.tdiv (wrap64 (t289 * 4)) 5)) t323 (t323 != bt327.1)) else (shapesearchlaw15_EditMoves.j4 k4 a2 x7_1 x8_2 (wrap64 (Int.tdiv (wrap64 (t289 * 4)) 5)) t323 true)) else (shapesearchlaw15_EditMoves.j4 k4 a2 x7_1 x8_2 (wrap64 (Int.tdiv (wrap64 (t289 * 4)) 5)) t323 true)) else (shapesearchlaw15_EditMoves.j4 k4 a2 x7_1 x8_2 (wrap64 (Int.tdiv (wrap64 (t289 * 4)) 5)) t323 true)) else (shapesearchlaw15_EditMoves.j4 k4 a2 x7_1 x8_2 (wrap64 (Int.tdiv (wrap64 (t289 * 4)) 5)) t323 true))) = some r:=H
             have A51:=A_ A510
             clear A510
             replace H:=Option.bind_eq_some_iff.mp H
             obtain ⟨⟨t327,t328⟩,A520,H⟩:=H
             replace H : (if t324 = 0 then (if t326 = 0 then (if t328 = 0 then (if t323 = t325 then (shapesearchlaw15_EditMoves.j4 k4 a2 x7_1 x8_2 (wrap64 (Int.tdiv (wrap64 (t289 * 4)) 5)) t323 (t323 != t327)) else (shapesearchlaw15_EditMoves.j4 k4 a2 x7_1 x8_2 (wrap64 (Int.tdiv (wrap64 (t289 * 4)) 5)) t323 true)) else (shapesearchlaw15_EditMoves.j4 k4 a2 x7_1 x8_2 (wrap64 (Int.tdiv (wrap64 (t289 * 4)) 5)) t323 true)) else (shapesearchlaw15_EditMoves.j4 k4 a2 x7_1 x8_2 (wrap64 (Int.tdiv (wrap64 (t289 * 4)) 5)) t323 true)) else (shapesearchlaw15_EditMoves.j4 k4 a2 x7_1 x8_2 (wrap64 (Int.tdiv (wrap64 (t289 * 4)) 5)) t323 true)) = some r:=H
             have A52:=A_ A520
             clear A520
             have HC53:=A_ H
             clear H
             go_upto_region 29 with (first|((with_reducible refine gate_callee (f:=11) rfl ?_);refine goesL_ (some 125) rfl rfl Try.func11 (by kernel_rfl) rfl #[.slice Ao8 x7_1.length co8,.slice Ao20 x8_2.length co20,.int .i64 (wrap64 (Int.tdiv (wrap64 (t289 * 4)) 5))] rfl (by (try simp only [List.map_toArray,List.map_cons,List.map_nil]);first|done|rfl|(simp only [List.length_drop,List.length_take];rfl)|((try rw [KY112.out]);(try rw [KY113.out]);(try rw [KY83.out]);(try rw [KY84.out]);(try rw [KY98.out]);(try rw [KY99.out]);rfl)) ?_;(with_reducible refine (edit_Distance.calls k4 _ _ x7_1 _ _ x8_2 (wrap64 (Int.tdiv (wrap64 (t289 * 4)) 5)) t323 t324 _ ?side1 ?side2 ?side3 ?side4 A50.out).mono ?_);(case side1=>repeat (first|exact (rd_ HO_7.out).2.2|(with_reducible refine ca ?_ _)|(with_reducible refine cb ?_ _)|(with_reducible refine cc ?_)));(case side2=>exact (rd_ HO_7.out).2.1);(case side3=>repeat (first|exact (rd_ HO_8.out).2.2|(with_reducible refine ca ?_ _)|(with_reducible refine cb ?_ _)|(with_reducible refine cc ?_)));(case side4=>exact (rd_ HO_8.out).2.1);rintro e w54 ⟨rfl,hb⟩;refine ⟨_,rfl,?_⟩;have n0_:=A_ (rw_ (by (with_reducible repeat (first|apply ra|apply rb|apply rc));exact HO_7.out) hb);have n1_:=A_ (rw_ (by (with_reducible repeat (first|apply ra|apply rb|apply rc));exact HO_8.out) hb);have n2_:=A_ (rw_ (by (with_reducible repeat (first|apply ra|apply rb|apply rc));exact HO_10.out) hb);have n3_:=A_ (rw_ (by (with_reducible repeat (first|apply ra|apply rb|apply rc));exact HO_11.out) hb);have n4_:=A_ (rw_ (by (with_reducible repeat (first|apply ra|apply rb|apply rc));exact HO_12.out) hb);have n5_:=A_ (rw_ (by (with_reducible repeat (first|apply ra|apply rb|apply rc));exact HO_13.out) hb);have n6_:=A_ (below_step (by repeat (first|(with_reducible first|exact HB.out|apply ba|apply bb|apply bc)|exact HB.out)) hb);clear HO_7;clear HO_8;clear HO_10;clear HO_11;clear HO_12;clear HO_13;clear HB;have HO_7:=n0_;have HO_8:=n1_;have HO_10:=n2_;have HO_11:=n3_;have HO_12:=n4_;have HO_13:=n5_;have HB:=n6_;clear n0_ n1_ n2_ n3_ n4_ n5_ n6_;(try clear hb);(try clear hb2);(try clear hk);(try clear hi);obtain ⟨Ao55,co55,eo55⟩:=Kd.R_slice HO_10.out;subst eo55;obtain ⟨Ao56,co56,eo56⟩:=Kd.R_slice HO_11.out;subst eo56)|((with_reducible refine gate_callee (f:=11) rfl ?_);refine goesL_ (some 135) rfl rfl Try.func11 (by kernel_rfl) rfl #[.slice Ao55 x10_1.length co55,.slice Ao56 x11_2.length co56,.int .i64 (wrap64 ((wrap64 (Int.tdiv (wrap64 (t289 * 4)) 5)) + (wrap64 (a1))))] rfl (by (try simp only [List.map_toArray,List.map_cons,List.map_nil]);first|done|rfl|(simp only [List.length_drop,List.length_take];rfl)|((try rw [KY112.out]);(try rw [KY113.out]);(try rw [KY83.out]);(try rw [KY84.out]);(try rw [KY98.out]);(try rw [KY99.out]);rfl)) ?_;(with_reducible refine (edit_Distance.calls k4 _ _ x10_1 _ _ x11_2 (wrap64 ((wrap64 (Int.tdiv (wrap64 (t289 * 4)) 5)) + (wrap64 (a1)))) t325 t326 _ ?side1 ?side2 ?side3 ?side4 A51.out).mono ?_);(case side1=>repeat (first|exact (rd_ HO_10.out).2.2|(with_reducible refine ca ?_ _)|(with_reducible refine cb ?_ _)|(with_reducible refine cc ?_)));(case side2=>exact (rd_ HO_10.out).2.1);(case side3=>repeat (first|exact (rd_ HO_11.out).2.2|(with_reducible refine ca ?_ _)|(with_reducible refine cb ?_ _)|(with_reducible refine cc ?_)));(case side4=>exact (rd_ HO_11.out).2.1);rintro e w57 ⟨rfl,hb⟩;refine ⟨_,rfl,?_⟩;have n0_:=A_ (rw_ (by (with_reducible repeat (first|apply ra|apply rb|apply rc));exact HO_7.out) hb);have n1_:=A_ (rw_ (by (with_reducible repeat (first|apply ra|apply rb|apply rc));exact HO_8.out) hb);have n2_:=A_ (rw_ (by (with_reducible repeat (first|apply ra|apply rb|apply rc));exact HO_10.out) hb);have n3_:=A_ (rw_ (by (with_reducible repeat (first|apply ra|apply rb|apply rc));exact HO_11.out) hb);have n4_:=A_ (rw_ (by (with_reducible repeat (first|apply ra|apply rb|apply rc));exact HO_12.out) hb);have n5_:=A_ (rw_ (by (with_reducible repeat (first|apply ra|apply rb|apply rc));exact HO_13.out) hb);have n6_:=A_ (below_step (by repeat (first|(with_reducible first|exact HB.out|apply ba|apply bb|apply bc)|exact HB.out)) hb);clear HO_7;clear HO_8;clear HO_10;clear HO_11;clear HO_12;clear HO_13;clear HB;have HO_7:=n0_;have HO_8:=n1_;have HO_10:=n2_;have HO_11:=n3_;have HO_12:=n4_;have HO_13:=n5_;have HB:=n6_;clear n0_ n1_ n2_ n3_ n4_ n5_ n6_;(try clear hb);(try clear hb2);(try clear hk);(try clear hi);obtain ⟨Ao58,co58,eo58⟩:=Kd.R_slice HO_12.out;subst eo58;obtain ⟨Ao59,co59,eo59⟩:=Kd.R_slice HO_13.out;subst eo59)|((with_reducible refine gate_callee (f:=11) rfl ?_);refine goesL_ (some 142) rfl rfl Try.func11 (by kernel_rfl) rfl #[.slice Ao58 x12_3.length co58,.slice Ao59 x13_4.length co59,.int .i64 (wrap64 (Int.tdiv (wrap64 (t289 * 4)) 5))] rfl (by (try simp only [List.map_toArray,List.map_cons,List.map_nil]);first|done|rfl|(simp only [List.length_drop,List.length_take];rfl)|((try rw [KY112.out]);(try rw [KY113.out]);(try rw [KY83.out]);(try rw [KY84.out]);(try rw [KY98.out]);(try rw [KY99.out]);rfl)) ?_;(with_reducible refine (edit_Distance.calls k4 _ _ x12_3 _ _ x13_4 (wrap64 (Int.tdiv (wrap64 (t289 * 4)) 5)) t327 t328 _ ?side1 ?side2 ?side3 ?side4 A52.out).mono ?_);(case side1=>repeat (first|exact (rd_ HO_12.out).2.2|(with_reducible refine ca ?_ _)|(with_reducible refine cb ?_ _)|(with_reducible refine cc ?_)));(case side2=>exact (rd_ HO_12.out).2.1);(case side3=>repeat (first|exact (rd_ HO_13.out).2.2|(with_reducible refine ca ?_ _)|(with_reducible refine cb ?_ _)|(with_reducible refine cc ?_)));(case side4=>exact (rd_ HO_13.out).2.1);rintro e w60 ⟨rfl,hb⟩;refine ⟨_,rfl,?_⟩;have n0_:=A_ (rw_ (by (with_reducible repeat (first|apply ra|apply rb|apply rc));exact HO_7.out) hb);have n1_:=A_ (rw_ (by (with_reducible repeat (first|apply ra|apply rb|apply rc));exact HO_8.out) hb);have n2_:=A_ (rw_ (by (with_reducible repeat (first|apply ra|apply rb|apply rc));exact HO_10.out) hb);have n3_:=A_ (rw_ (by (with_reducible repeat (first|apply ra|apply rb|apply rc));exact HO_11.out) hb);have n4_:=A_ (rw_ (by (with_reducible repeat (first|apply ra|apply rb|apply rc));exact HO_12.out) hb);have n5_:=A_ (rw_ (by (with_reducible repeat (first|apply ra|apply rb|apply rc));exact HO_13.out) hb);have n6_:=A_ (below_step (by repeat (first|(with_reducible first|exact HB.out|apply ba|apply bb|apply bc)|exact HB.out)) hb);clear HO_7;clear HO_8;clear HO_10;clear HO_11;clear HO_12;clear HO_13;clear HB;have HO_7:=n0_;have HO_8:=n1_;have HO_10:=n2_;have HO_11:=n3_;have HO_12:=n4_;have HO_13:=n5_;have HB:=n6_;clear n0_ n1_ n2_ n3_ n4_ n5_ n6_;(try clear hb);(try clear hb2);(try clear hk);(try clear hi)))
             (try simp only [Act.put,List.setIfInBounds_toArray,List.set_cons_zero,List.set_cons_succ])
             go_cut [164] (fun v164 wc=>∃ (kq : Nat) (x164_52 : Bool),v164 = .bool x164_52∧Aside0 (shapesearchlaw15_EditMoves.j4 kq a2 x7_1 x8_2 (wrap64 (Int.tdiv (wrap64 (t289 * 4)) 5)) t323 x164_52 = some r)∧Aside0 (kq ≤ k4)∧Aside0 (Kd.R (Kd.int .i64) 3 wc w.heap.size (fun k_=>some k_≠((.slice Ao20 x8_2.length co20) : Value).ownBlock) (.slice Ao8 x7_1.length co8) x7_1)∧Aside0 (Kd.R (Kd.int .i64) 3 wc w.heap.size (fun k_=>some k_≠((.slice Ao8 x7_1.length co8) : Value).ownBlock) (.slice Ao20 x8_2.length co20) x8_2)∧Aside0 (Below w.heap.size w wc))
             case first =>
              have H:=HC53.out
              clear HC53
              by_cases c61 : t324 = 0
              ·
               rw [if_pos c61] at H
               have c61b0 : (t324 == 0) = true:=beq_iff_eq.mpr c61
               have c61b1 : (t324 != 0) = false:=bne_eq_false_iff_eq.mpr c61
               clear c61
               (first|rw [c61b0]|(simp only [i64_w,i32_w];rw [c61b0])|skip)
               by_cases c62 : t326 = 0
               ·
                rw [if_pos c62] at H
                have c62b0 : (t326 == 0) = true:=beq_iff_eq.mpr c62
                have c62b1 : (t326 != 0) = false:=bne_eq_false_iff_eq.mpr c62
                clear c62
                by_cases c63 : t328 = 0
                ·
                 rw [if_pos c63] at H
                 have c63b0 : (t328 == 0) = true:=beq_iff_eq.mpr c63
                 have c63b1 : (t328 != 0) = false:=bne_eq_false_iff_eq.mpr c63
                 clear c63
                 by_cases c64 : t323 = t325
                 ·
                  rw [if_pos c64] at H
                  have c64b0 : (t323 == t325) = true:=beq_iff_eq.mpr c64
                  have c64b1 : (t323 != t325) = false:=bne_eq_false_iff_eq.mpr c64
                  clear c64
                  have H':=A_ H
                  clear H
                  go_wp2
                  go_meet
                  case rel=>exact ⟨_,((t323 != t327)),(by first|rfl|(simp;done)|(simp [*];done)),H',⟨by have:=HK1.out;have:=HK2.out;have:=HK3.out;have:=HK4.out;first|omega|exact Nat.le_refl _⟩,⟨by (try simp only [hl7_1]);(try simp only [hl8_2]);(with_reducible repeat (first|apply ra|apply rb|apply rc));(first|exact rm HO_7.out (fun _ hk=>hk.1)|exact rm HO_7.out (fun _ hk=>own_len_ne hk.1))⟩,⟨by (try simp only [hl7_1]);(try simp only [hl8_2]);(with_reducible repeat (first|apply ra|apply rb|apply rc));(first|exact rm HO_8.out (fun _ hk=>hk.1)|exact rm HO_8.out (fun _ hk=>own_len_ne hk.1))⟩,⟨by repeat (first|(with_reducible first|exact HB.out|apply ba|apply bb|apply bc)|exact HB.out)⟩⟩
                 ·
                  rw [if_neg c64] at H
                  have c64b0 : (t323 == t325) = false:=beq_eq_false_iff_ne.mpr c64
                  have c64b1 : (t323 != t325) = true:=bne_iff_ne.mpr c64
                  have H':=A_ H
                  clear H
                  go_wp2
                  go_meet
                  case rel=>exact ⟨_,(true),(by first|rfl|(simp;done)|(simp [*];done)),H',⟨by have:=HK1.out;have:=HK2.out;have:=HK3.out;have:=HK4.out;first|omega|exact Nat.le_refl _⟩,⟨by (try simp only [hl7_1]);(try simp only [hl8_2]);(with_reducible repeat (first|apply ra|apply rb|apply rc));(first|exact rm HO_7.out (fun _ hk=>hk.1)|exact rm HO_7.out (fun _ hk=>own_len_ne hk.1))⟩,⟨by (try simp only [hl7_1]);(try simp only [hl8_2]);(with_reducible repeat (first|apply ra|apply rb|apply rc));(first|exact rm HO_8.out (fun _ hk=>hk.1)|exact rm HO_8.out (fun _ hk=>own_len_ne hk.1))⟩,⟨by repeat (first|(with_reducible first|exact HB.out|apply ba|apply bb|apply bc)|exact HB.out)⟩⟩
                ·
                 rw [if_neg c63] at H
                 have c63b0 : (t328 == 0) = false:=beq_eq_false_iff_ne.mpr c63
                 have c63b1 : (t328 != 0) = true:=bne_iff_ne.mpr c63
                 have H':=A_ H
                 clear H
                 go_wp2
                 go_meet
                 case rel=>exact ⟨_,(true),(by first|rfl|(simp;done)|(simp [*];done)),H',⟨by have:=HK1.out;have:=HK2.out;have:=HK3.out;have:=HK4.out;first|omega|exact Nat.le_refl _⟩,⟨by (try simp only [hl7_1]);(try simp only [hl8_2]);(with_reducible repeat (first|apply ra|apply rb|apply rc));(first|exact rm HO_7.out (fun _ hk=>hk.1)|exact rm HO_7.out (fun _ hk=>own_len_ne hk.1))⟩,⟨by (try simp only [hl7_1]);(try simp only [hl8_2]);(with_reducible repeat (first|apply ra|apply rb|apply rc));(first|exact rm HO_8.out (fun _ hk=>hk.1)|exact rm HO_8.out (fun _ hk=>own_len_ne hk.1))⟩,⟨by repeat (first|(with_reducible first|exact HB.out|apply ba|apply bb|apply bc)|exact HB.out)⟩⟩
               ·
                rw [if_neg c62] at H
                have c62b0 : (t326 == 0) = false:=beq_eq_false_iff_ne.mpr c62
                have c62b1 : (t326 != 0) = true:=bne_iff_ne.mpr c62
                have H':=A_ H
                clear H
                go_wp2
                go_meet
                case rel=>exact ⟨_,(true),(by first|rfl|(simp;done)|(simp [*];done)),H',⟨by have:=HK1.out;have:=HK2.out;have:=HK3.out;have:=HK4.out;first|omega|exact Nat.le_refl _⟩,⟨by (try simp only [hl7_1]);(try simp only [hl8_2]);(with_reducible repeat (first|apply ra|apply rb|apply rc));(first|exact rm HO_7.out (fun _ hk=>hk.1)|exact rm HO_7.out (fun _ hk=>own_len_ne hk.1))⟩,⟨by (try simp only [hl7_1]);(try simp only [hl8_2]);(with_reducible repeat (first|apply ra|apply rb|apply rc));(first|exact rm HO_8.out (fun _ hk=>hk.1)|exact rm HO_8.out (fun _ hk=>own_len_ne hk.1))⟩,⟨by repeat (first|(with_reducible first|exact HB.out|apply ba|apply bb|apply bc)|exact HB.out)⟩⟩
              ·
               rw [if_neg c61] at H
               have c61b0 : (t324 == 0) = false:=beq_eq_false_iff_ne.mpr c61
               have c61b1 : (t324 != 0) = true:=bne_iff_ne.mpr c61
               (first|rw [c61b0]|(simp only [i64_w,i32_w];rw [c61b0])|skip)
               have H':=A_ H
               clear H
               go_wp2
               go_meet
               case rel=>exact ⟨_,(true),(by first|rfl|(simp;done)|(simp [*];done)),H',⟨by have:=HK1.out;have:=HK2.out;have:=HK3.out;have:=HK4.out;first|omega|exact Nat.le_refl _⟩,⟨by (try simp only [hl7_1]);(try simp only [hl8_2]);(with_reducible repeat (first|apply ra|apply rb|apply rc));(first|exact rm HO_7.out (fun _ hk=>hk.1)|exact rm HO_7.out (fun _ hk=>own_len_ne hk.1))⟩,⟨by (try simp only [hl7_1]);(try simp only [hl8_2]);(with_reducible repeat (first|apply ra|apply rb|apply rc));(first|exact rm HO_8.out (fun _ hk=>hk.1)|exact rm HO_8.out (fun _ hk=>own_len_ne hk.1))⟩,⟨by repeat (first|(with_reducible first|exact HB.out|apply ba|apply bb|apply bc)|exact HB.out)⟩⟩
             case rest =>
              clear HC53
              try clear c1
              try clear p1
              try clear q1
              try clear hx1
              try clear c2
              try clear p2
              try clear q2
              try clear hx2
              try clear c3
              try clear p3
              try clear q3
              try clear hx3
              try clear c4
              try clear c5
              try clear c6
              try clear p6
              try clear c9
              try clear c9b0
              try clear c10
              try clear c10b0
              try clear c11
              try clear c11b0
              try clear p12
              try clear q12
              try clear hx12
              try clear hf12
              try clear c13
              try clear c21
              try clear c21b0
              try clear c22
              try clear c22b0
              try clear c23
              try clear c23b0
              try clear p24
              try clear q24
              try clear hx24
              try clear hf24
              try clear c25
              try clear p29
              try clear q29
              try clear hx29
              try clear p30
              try clear q30
              try clear hx30
              try clear p31
              try clear q31
              try clear hx31
              try clear c32
              try clear c32b0
              try clear c34
              try clear c34b0
              try clear c35
              try clear c35b0
              try clear c36
              try clear c41
              try clear c41b0
              try clear c43
              try clear c43b0
              try clear c44
              try clear c44b0
              try clear c45
              try clear c61
              try clear c61b0
              try clear c61b1
              try clear c62
              try clear c62b0
              try clear c62b1
              try clear c63
              try clear c63b0
              try clear c63b1
              try clear c64
              try clear c64b0
              try clear c64b1
              try clear p64
              try clear hx12_0
              try clear hx24_0
              try clear hx291_0
              try clear hx293_0
              try clear hx300_0
              try clear hx302_0
              try clear hx309_0
              try clear hx316_0
              try clear p1
              try clear p12
              try clear p2
              try clear p24
              try clear p29
              try clear p291
              try clear p293
              try clear p3
              try clear p30
              try clear p300
              try clear p302
              try clear p309
              try clear p316
              try clear p6
              try clear q1
              try clear q12
              try clear q2
              try clear q24
              try clear q29
              try clear q291
              try clear q293
              try clear q3
              try clear q30
              try clear q300
              try clear q302
              try clear q309
              try clear q316
              obtain ⟨kq,x164_52,rfl,HA,HJ52,HO_7,HO_8,HB⟩:=hcut
              cases kq with
              | zero=>exact absurd HA.out (by simp [shapesearchlaw15_EditMoves.j4])
              | succ kj52 =>
               have H:=HA.out
               clear HA
               simp only [shapesearchlaw15_EditMoves.j4] at H
               by_cases c65 : x164_52 = true
               ·
                subst c65
                have H1 : (some false) = some r:=by rw [if_pos rfl] at H;exact H
                clear H
                have H:=H1
                clear H1
                obtain rfl:=Option.some.inj H
                go_wp2
                go_ret
                exact ⟨by first|rfl|(simp [errW_none,errW_some] <;> rfl)|(simp [*,errW_none,errW_some] <;> rfl),by repeat (first|(with_reducible first|exact HB.out|apply ba|apply bb|apply bc)|exact HB.out)⟩
               ·
                replace c65:=Bool.eq_false_iff.mpr c65
                subst c65
                have H1 : (if (x7_1.length : Int) = 32 then ((shapesearchlaw15_awake.f kj52).bind fun t329=>(some t329)) else (if (wrap64 ((x7_1.length : Int) + 1)) = 0 then (none) else ((some (([] : List Int) : List Int)).bind fun y330=>(if 0 ≤ (Int.tmod (wrap64 (a2)) (wrap64 ((x7_1.length : Int) + 1))) then (if (Int.tmod (wrap64 (a2)) (wrap64 ((x7_1.length : Int) + 1))) ≤ (x7_1.length : Int) then ((some (x7_1.take ((Int.tmod (wrap64 (a2)) (wrap64 ((x7_1.length : Int) + 1))) : Int).toNat : List Int)).bind fun y333=>(if y330.length + y333.length < 17592186044416 then ((some (y330 ++ y333 : List Int)).bind fun y337=>((some (([(wrap64 (Int.tdiv (wrap64 (t289 * 4)) 5))] : List Int) : List Int)).bind fun y340=>(if y337.length + y340.length < 17592186044416 then ((some (y337 ++ y340 : List Int)).bind fun y343=>((some (x7_1.drop ((Int.tmod (wrap64 (a2)) (wrap64 ((x7_1.length : Int) + 1))) : Int).toNat : List Int)).bind fun y346=>(if y343.length + y346.length < 17592186044416 then ((edit_Distance.f kj52 (y343 ++ y346) x8_2 (wrap64 (Int.tdiv (wrap64 (t289 * 4)) 5))).bind fun bt353=>(if bt353.2 = 0 then (if t323 = bt353.1 then ((shapesearchlaw15_awake.f kj52).bind fun t355=>(some t355)) else (some false)) else (some false))) else (none)))) else (none)))) else (none))) else (none)) else (none))))) = some r:=by rw [if_neg (show ¬ (false = true) by decide)] at H;exact H
                clear H
                have H:=H1
                clear H1
                by_cases c66 : (x7_1.length : Int) = 32
                ·
                 rw [if_pos c66] at H
                 have c66b0 : ((x7_1.length : Int) == 32) = true:=beq_iff_eq.mpr c66
                 have c66b1 : ((x7_1.length : Int) != 32) = false:=bne_eq_false_iff_eq.mpr c66
                 (try (have c66b0h:=c66b0;simp only [hl7_1,hl8_2] at c66b0h))
                 (try (have c66b1h:=c66b1;simp only [hl7_1,hl8_2] at c66b1h))
                 clear c66
                 replace H:=Option.bind_eq_some_iff.mp H
                 obtain ⟨t329,A670,H⟩:=H
                 replace H : (some t329) = some r:=H
                 have A67:=A_ A670
                 clear A670
                 obtain rfl:=Option.some.inj H
                 go_wp2_with (first|((with_reducible refine gate_callee (f:=13) rfl ?_);refine goesL_ (some 168) rfl rfl Try.func13 (by kernel_rfl) rfl #[] rfl (by (try simp only [List.map_toArray,List.map_cons,List.map_nil]);first|done|rfl|(simp only [List.length_drop,List.length_take];rfl)|((try rw [KY112.out]);(try rw [KY113.out]);(try rw [KY83.out]);(try rw [KY84.out]);(try rw [KY98.out]);(try rw [KY99.out]);rfl)) ?_;(with_reducible refine (shapesearchlaw15_awake.calls kj52  t329 _ A67.out).mono ?_);rintro e w68 ⟨rfl,hb⟩;refine ⟨_,rfl,?_⟩;have n0_:=A_ (rw_ (by (with_reducible repeat (first|apply ra|apply rb|apply rc));exact HO_7.out) hb);have n1_:=A_ (rw_ (by (with_reducible repeat (first|apply ra|apply rb|apply rc));exact HO_8.out) hb);have n2_:=A_ (below_step (by repeat (first|(with_reducible first|exact HB.out|apply ba|apply bb|apply bc)|exact HB.out)) hb);clear HO_7;clear HO_8;clear HB;have HO_7:=n0_;have HO_8:=n1_;have HB:=n2_;clear n0_ n1_ n2_;(try clear hb);(try clear hb2);(try clear hk);(try clear hi)))
                 go_ret
                 exact ⟨by first|rfl|(simp [errW_none,errW_some] <;> rfl)|(simp [*,errW_none,errW_some] <;> rfl),by repeat (first|(with_reducible first|exact HB.out|apply ba|apply bb|apply bc)|exact HB.out)⟩
                ·
                 rw [if_neg c66] at H
                 have c66b0 : ((x7_1.length : Int) == 32) = false:=beq_eq_false_iff_ne.mpr c66
                 have c66b1 : ((x7_1.length : Int) != 32) = true:=bne_iff_ne.mpr c66
                 (try (have c66b0h:=c66b0;simp only [hl7_1,hl8_2] at c66b0h))
                 (try (have c66b1h:=c66b1;simp only [hl7_1,hl8_2] at c66b1h))
                 by_cases c69 : (wrap64 ((x7_1.length : Int) + 1)) = 0
                 ·
                  rw [if_pos c69] at H
                  exact absurd H (by simp)
                 ·
                  rw [if_neg c69] at H
                  have c69b0 : ((wrap64 ((x7_1.length : Int) + 1)) == 0) = false:=beq_eq_false_iff_ne.mpr c69
                  have c69b1 : ((wrap64 ((x7_1.length : Int) + 1)) != 0) = true:=bne_iff_ne.mpr c69
                  (try (have c69b0h:=c69b0;simp only [hl7_1,hl8_2] at c69b0h))
                  (try (have c69b1h:=c69b1;simp only [hl7_1,hl8_2] at c69b1h))
                  obtain ⟨y330,hy330⟩ : ∃ y_ : List Int,y_ = (([] : List Int)):=⟨_,rfl⟩
                  replace H : (if 0 ≤ (Int.tmod (wrap64 (a2)) (wrap64 ((x7_1.length : Int) + 1))) then (if (Int.tmod (wrap64 (a2)) (wrap64 ((x7_1.length : Int) + 1))) ≤ (x7_1.length : Int) then ((some (x7_1.take ((Int.tmod (wrap64 (a2)) (wrap64 ((x7_1.length : Int) + 1))) : Int).toNat : List Int)).bind fun y333=>(if y330.length + y333.length < 17592186044416 then ((some (y330 ++ y333 : List Int)).bind fun y337=>((some (([(wrap64 (Int.tdiv (wrap64 (t289 * 4)) 5))] : List Int) : List Int)).bind fun y340=>(if y337.length + y340.length < 17592186044416 then ((some (y337 ++ y340 : List Int)).bind fun y343=>((some (x7_1.drop ((Int.tmod (wrap64 (a2)) (wrap64 ((x7_1.length : Int) + 1))) : Int).toNat : List Int)).bind fun y346=>(if y343.length + y346.length < 17592186044416 then ((edit_Distance.f kj52 (y343 ++ y346) x8_2 (wrap64 (Int.tdiv (wrap64 (t289 * 4)) 5))).bind fun bt353=>(if bt353.2 = 0 then (if t323 = bt353.1 then ((shapesearchlaw15_awake.f kj52).bind fun t355=>(some t355)) else (some false)) else (some false))) else (none)))) else (none)))) else (none))) else (none)) else (none)) = some r:=by first|(rw [hy330];with_reducible exact H)|(have H2_:=(Option.bind_some _ _).symm.trans H;rw [hy330];with_reducible exact H2_)|(have H2_:=(Option.bind_some _ _).symm.trans H;with_reducible exact H2_)|with_reducible exact H|(rw [hy330];exact H)|exact H
                  have Ny330:=A_ hy330
                  clear hy330
                  obtain ⟨ji70,hji70⟩ : ∃ j_ : Int,(Int.tmod (wrap64 (a2)) (wrap64 ((x7_1.length : Int) + 1))) = j_:=⟨_,rfl⟩
                  replace H : (if 0 ≤ (ji70) then (if (ji70) ≤ (x7_1.length : Int) then ((some (x7_1.take ((ji70) : Int).toNat : List Int)).bind fun y333=>(if y330.length + y333.length < 17592186044416 then ((some (y330 ++ y333 : List Int)).bind fun y337=>((some (([(wrap64 (Int.tdiv (wrap64 (t289 * 4)) 5))] : List Int) : List Int)).bind fun y340=>(if y337.length + y340.length < 17592186044416 then ((some (y337 ++ y340 : List Int)).bind fun y343=>((some (x7_1.drop ((ji70) : Int).toNat : List Int)).bind fun y346=>(if y343.length + y346.length < 17592186044416 then ((edit_Distance.f kj52 (y343 ++ y346) x8_2 (wrap64 (Int.tdiv (wrap64 (t289 * 4)) 5))).bind fun bt353=>(if bt353.2 = 0 then (if t323 = bt353.1 then ((shapesearchlaw15_awake.f kj52).bind fun t355=>(some t355)) else (some false)) else (some false))) else (none)))) else (none)))) else (none))) else (none)) else (none)) = some r:=by first|(rw [hji70] at H;exact H)|(simp only [hji70] at H ⊢;exact H)
                  by_cases c71 : 0 ≤ (ji70)
                  ·
                   rw [if_pos c71] at H
                   have c71b0:=eq_true c71
                   have c71b1 : decide (0 ≤ (ji70)) = true:=decide_eq_true c71
                   clear c71
                   by_cases c72 : (ji70) ≤ (x7_1.length : Int)
                   ·
                    rw [if_pos c72] at H
                    have c72b0:=eq_true c72
                    have c72b1 : decide ((ji70) ≤ (x7_1.length : Int)) = true:=decide_eq_true c72
                    clear c72
                    obtain ⟨y333,hy333⟩ : ∃ y_ : List Int,y_ = (x7_1.take ((ji70) : Int).toNat):=⟨_,rfl⟩
                    replace H : (if y330.length + y333.length < 17592186044416 then ((some (y330 ++ y333 : List Int)).bind fun y337=>((some (([(wrap64 (Int.tdiv (wrap64 (t289 * 4)) 5))] : List Int) : List Int)).bind fun y340=>(if y337.length + y340.length < 17592186044416 then ((some (y337 ++ y340 : List Int)).bind fun y343=>((some (x7_1.drop ((ji70) : Int).toNat : List Int)).bind fun y346=>(if y343.length + y346.length < 17592186044416 then ((edit_Distance.f kj52 (y343 ++ y346) x8_2 (wrap64 (Int.tdiv (wrap64 (t289 * 4)) 5))).bind fun bt353=>(if bt353.2 = 0 then (if t323 = bt353.1 then ((shapesearchlaw15_awake.f kj52).bind fun t355=>(some t355)) else (some false)) else (some false))) else (none)))) else (none)))) else (none)) = some r:=by first|(rw [hy333];with_reducible exact H)|(have H2_:=(Option.bind_some _ _).symm.trans H;rw [hy333];with_reducible exact H2_)|(have H2_:=(Option.bind_some _ _).symm.trans H;with_reducible exact H2_)|with_reducible exact H|(rw [hy333];exact H)|exact H
                    have Ny333:=A_ hy333
                    clear hy333
                    by_cases c73 : y330.length + y333.length < 17592186044416
                    ·
                     rw [if_pos c73] at H
                     have LMc73:=A_ c73
                     clear c73
                     obtain ⟨y337,hy337⟩ : ∃ y_ : List Int,y_ = (y330 ++ y333):=⟨_,rfl⟩
                     replace H : ((some (([(wrap64 (Int.tdiv (wrap64 (t289 * 4)) 5))] : List Int) : List Int)).bind fun y340=>(if y337.length + y340.length < 17592186044416 then ((some (y337 ++ y340 : List Int)).bind fun y343=>((some (x7_1.drop ((ji70) : Int).toNat : List Int)).bind fun y346=>(if y343.length + y346.length < 17592186044416 then ((edit_Distance.f kj52 (y343 ++ y346) x8_2 (wrap64 (Int.tdiv (wrap64 (t289 * 4)) 5))).bind fun bt353=>(if bt353.2 = 0 then (if t323 = bt353.1 then ((shapesearchlaw15_awake.f kj52).bind fun t355=>(some t355)) else (some false)) else (some false))) else (none)))) else (none))) = some r:=by first|(rw [hy337];with_reducible exact H)|(have H2_:=(Option.bind_some _ _).symm.trans H;rw [hy337];with_reducible exact H2_)|(have H2_:=(Option.bind_some _ _).symm.trans H;with_reducible exact H2_)|with_reducible exact H|(rw [hy337];exact H)|exact H
                     have Ny337:=A_ hy337
                     clear hy337
                     obtain ⟨y340,hy340⟩ : ∃ y_ : List Int,y_ = (([(wrap64 (Int.tdiv (wrap64 (t289 * 4)) 5))] : List Int)):=⟨_,rfl⟩
                     replace H : (if y337.length + y340.length < 17592186044416 then ((some (y337 ++ y340 : List Int)).bind fun y343=>((some (x7_1.drop ((ji70) : Int).toNat : List Int)).bind fun y346=>(if y343.length + y346.length < 17592186044416 then ((edit_Distance.f kj52 (y343 ++ y346) x8_2 (wrap64 (Int.tdiv (wrap64 (t289 * 4)) 5))).bind fun bt353=>(if bt353.2 = 0 then (if t323 = bt353.1 then ((shapesearchlaw15_awake.f kj52).bind fun t355=>(some t355)) else (some false)) else (some false))) else (none)))) else (none)) = some r:=by first|(rw [hy340];with_reducible exact H)|(have H2_:=(Option.bind_some _ _).symm.trans H;rw [hy340];with_reducible exact H2_)|(have H2_:=(Option.bind_some _ _).symm.trans H;with_reducible exact H2_)|with_reducible exact H|(rw [hy340];exact H)|exact H
                     have Ny340:=A_ hy340
                     clear hy340
                     by_cases c74 : y337.length + y340.length < 17592186044416
                     ·
                      rw [if_pos c74] at H
                      have LMc74:=A_ c74
                      clear c74
                      obtain ⟨y343,hy343⟩ : ∃ y_ : List Int,y_ = (y337 ++ y340):=⟨_,rfl⟩
                      replace H : ((some (x7_1.drop ((ji70) : Int).toNat : List Int)).bind fun y346=>(if y343.length + y346.length < 17592186044416 then ((edit_Distance.f kj52 (y343 ++ y346) x8_2 (wrap64 (Int.tdiv (wrap64 (t289 * 4)) 5))).bind fun bt353=>(if bt353.2 = 0 then (if t323 = bt353.1 then ((shapesearchlaw15_awake.f kj52).bind fun t355=>(some t355)) else (some false)) else (some false))) else (none))) = some r:=by first|(rw [hy343];with_reducible exact H)|(have H2_:=(Option.bind_some _ _).symm.trans H;rw [hy343];with_reducible exact H2_)|(have H2_:=(Option.bind_some _ _).symm.trans H;with_reducible exact H2_)|with_reducible exact H|(rw [hy343];exact H)|exact H
                      have Ny343:=A_ hy343
                      clear hy343
                      have c75b0:=eq_true (of_decide_eq_true (by first|(with_reducible assumption)|assumption) : 0 ≤ (ji70))
                      have c76b0:=eq_true (of_decide_eq_true (by first|(with_reducible assumption)|assumption) : (ji70) ≤ (x7_1.length : Int))
                      obtain ⟨y346,hy346⟩ : ∃ y_ : List Int,y_ = (x7_1.drop ((ji70) : Int).toNat):=⟨_,rfl⟩
                      replace H : (if y343.length + y346.length < 17592186044416 then ((edit_Distance.f kj52 (y343 ++ y346) x8_2 (wrap64 (Int.tdiv (wrap64 (t289 * 4)) 5))).bind fun bt353=>(if bt353.2 = 0 then (if t323 = bt353.1 then ((shapesearchlaw15_awake.f kj52).bind fun t355=>(some t355)) else (some false)) else (some false))) else (none)) = some r:=by first|(rw [hy346];with_reducible exact H)|(have H2_:=(Option.bind_some _ _).symm.trans H;rw [hy346];with_reducible exact H2_)|(have H2_:=(Option.bind_some _ _).symm.trans H;with_reducible exact H2_)|with_reducible exact H|(rw [hy346];exact H)|exact H
                      have Ny346:=A_ hy346
                      clear hy346
                      by_cases c77 : y343.length + y346.length < 17592186044416
                      ·
                       rw [if_pos c77] at H
                       have LMc77:=A_ c77
                       clear c77
                       obtain ⟨y350,hy350⟩ : ∃ y_ : List Int,y_ = (y343 ++ y346):=⟨_,rfl⟩
                       replace H : ((edit_Distance.f kj52 y350 x8_2 (wrap64 (Int.tdiv (wrap64 (t289 * 4)) 5))).bind fun bt353=>(if bt353.2 = 0 then (if t323 = bt353.1 then ((shapesearchlaw15_awake.f kj52).bind fun t355=>(some t355)) else (some false)) else (some false))) = some r:=by first|(rw [hy350];with_reducible exact H)|(have H2_:=(Option.bind_some _ _).symm.trans H;rw [hy350];with_reducible exact H2_)|(have H2_:=(Option.bind_some _ _).symm.trans H;with_reducible exact H2_)|with_reducible exact H|(rw [hy350];exact H)|exact H
                       have Ny350:=A_ hy350
                       clear hy350
                       replace H:=Option.bind_eq_some_iff.mp H
                       obtain ⟨⟨t353,t354⟩,A780,H⟩:=H
                       replace H : (if t354 = 0 then (if t323 = t353 then ((shapesearchlaw15_awake.f kj52).bind fun t355=>(some t355)) else (some false)) else (some false)) = some r:=H
                       have A78:=A_ A780
                       clear A780
                       by_cases c79 : t354 = 0
                       ·
                        rw [if_pos c79] at H
                        have c79b0 : (t354 == 0) = true:=beq_iff_eq.mpr c79
                        have c79b1 : (t354 != 0) = false:=bne_eq_false_iff_eq.mpr c79
                        clear c79
                        by_cases c80 : t323 = t353
                        ·
                         rw [if_pos c80] at H
                         have c80b0 : (t323 == t353) = true:=beq_iff_eq.mpr c80
                         have c80b1 : (t323 != t353) = false:=bne_eq_false_iff_eq.mpr c80
                         clear c80
                         replace H:=Option.bind_eq_some_iff.mp H
                         obtain ⟨t355,A810,H⟩:=H
                         replace H : (some t355) = some r:=H
                         have A81:=A_ A810
                         clear A810
                         obtain rfl:=Option.some.inj H
                         try go_wp2
                         have n0_:=A_ (Kd.R_drew HO_7.out)
                         have n1_:=A_ (Kd.R_drew HO_8.out)
                         have n2_:=A_ (below_drew1 HB.out)
                         clear HO_7
                         clear HO_8
                         clear HB
                         have HO_7:=n0_
                         have HO_8:=n1_
                         have HB:=n2_
                         clear n0_ n1_ n2_
                         have q83 : ((ji70) : Int) ≤ ((x7_1.length : Int) : Int):=of_decide_eq_true (by first|(with_reducible assumption)|assumption)
                         obtain ⟨i083,hi083,_,hsz83,_⟩:=info_parts info3
                         have hroom83 : x7_1.length ≤ co8:=(rd_ HO_7.out).2.1
                         have hC83 : Kd.C (Kd.int .i64) _ Ao8 x7_1.length x7_1:=(rd_ HO_7.out).2.2
                         have hcut83:=cut_to (P:=Try.prog) 22 3 .i64 Try.underlying22 hi083 Ao8 x7_1.length co8 (ji70) (of_decide_eq_true (by first|(with_reducible assumption)|assumption)) q83 hroom83
                         have hr83:=Kd.C_take (m:=((ji70) : Int).toNat) hC83 (by omega)
                         have hy83 : y333.length = ((ji70) : Int).toNat:=(by rw [Ny333.out,List.length_take];omega)
                         rw [← Ny333.out] at hr83
                         rw [← hy83] at hcut83
                         have HR336:=A_ hr83
                         have HC336:=A_ (show y333.length ≤ co8 from by omega)
                         clear hr83 hC83 hroom83 hi083 hsz83
                         have KY83:=A_ hy83
                         clear hy83
                         have KL83:=A_ (show ((ji70) : Int).toNat ≤ x7_1.length from by omega)
                         replace q83:=eq_true q83
                         have q84 : ((ji70) : Int) ≤ ((x7_1.length : Int) : Int):=of_decide_eq_true (by first|(with_reducible assumption)|assumption)
                         obtain ⟨i084,hi084,_,hsz84,_⟩:=info_parts info3
                         have hroom84 : x7_1.length ≤ co8:=(rd_ HO_7.out).2.1
                         have hC84 : Kd.C (Kd.int .i64) _ Ao8 x7_1.length x7_1:=(rd_ HO_7.out).2.2
                         have q084 : (0 : Int) ≤ ((ji70) : Int):=of_decide_eq_true (by first|(with_reducible assumption)|assumption)
                         have hcut84:=cut_from (P:=Try.prog) 22 3 .i64 Try.underlying22 hi084 1 hsz84 Ao8 x7_1.length co8 (ji70) q084 q84
                         have hr84:=Kd.C_drop (m:=((ji70) : Int).toNat) (c:=co8) hC84 (by omega) hroom84
                         obtain ⟨A84,hA84⟩ : ∃ A1,A1 = (if co8 = ((ji70) : Int).toNat then Ao8 else (Ao8 : Option Addr).map (·.add (((ji70) : Int).toNat * 1))):=⟨_,rfl⟩
                         obtain ⟨c84,hc84⟩ : ∃ c1,c1 = co8 - ((ji70) : Int).toNat:=⟨_,rfl⟩
                         have hy84 : y346.length = x7_1.length - ((ji70) : Int).toNat:=(by rw [Ny346.out,List.length_drop] <;> omega)
                         rw [show (x7_1).drop ((ji70) : Int).toNat = y346 from Ny346.out.symm] at hr84
                         replace hr84 : Kd.C (Kd.int .i64) _ A84 y346.length y346:=(by rw [hA84];exact hr84)
                         rw [← hy84,← hA84,← hc84] at hcut84
                         have HR349:=A_ hr84
                         have HC349:=A_ (show y346.length ≤ c84 from by rw [hy84,hc84];exact Nat.sub_le_sub_right hroom84 _)
                         clear hr84 hC84 hroom84 hi084 hsz84 hc84
                         have KY84:=A_ hy84
                         have KA84:=A_ hA84
                         clear hy84 hA84
                         have KL84:=A_ (show ((ji70) : Int).toNat ≤ x7_1.length from by omega)
                         replace q84:=eq_true q84
                         refine start_ (n:=20) (S:=fun w'=>True) (ds:=[]) #[false,false,false,false,false,false,false,false,false,false,false,false,false,false,false,false,false,false,false,false] (by kernel_rfl) rfl rfl trivial (fun hHeld=>?_);refine with_tabW shapesearchlaw15_EditMoves.tab34 shapesearchlaw15_EditMoves.bits34 (fun HT_ HW_=>?_)
                         generalize wc.drew = w82 at HO_7 HO_8 HB HR336 HR349 hHeld ⊢
                         refine pure_ (i:=1) (N:=some 177) (v:=?_) (a':=?_) #[false,true,false,false,false,false,false,false,false,false,false,false,false,false,false,false,false,false,false,false] rfl rfl (any_of HT_.out (by kernel_rfl)) (fun _ _ _ h=>h) (Or.inl ⟨by rfl,?_⟩) ?_ ?_
                         rotate_left
                         ·
                          intro w'
                          go_simp
                          with_reducible rfl
                         rotate_left
                         ·
                          simp only [Act.put,sa,sb,sc,i64_w,i32_w]
                          rfl
                         refine pure_ (i:=2) (N:=some 178) (v:=?_) (a':=?_) #[false,true,true,false,false,false,false,false,false,false,false,false,false,false,false,false,false,false,false,false] rfl rfl (any_of HT_.out (by kernel_rfl)) (fun _ _ _ h=>h) (Or.inl ⟨by rfl,?_⟩) ?_ ?_
                         rotate_left
                         ·
                          intro w'
                          go_simp
                          with_reducible rfl
                         rotate_left
                         ·
                          simp only [Act.put,sa,sb,sc,i64_w,i32_w]
                          rfl
                         refine pure_ (i:=3) (N:=some 179) (v:=?_) (a':=?_) #[false,true,true,true,false,false,false,false,false,false,false,false,false,false,false,false,false,false,false,false] rfl rfl (any_of HT_.out (by kernel_rfl)) (fun _ _ _ h=>h) (Or.inl ⟨by rfl,?_⟩) ?_ ?_
                         rotate_left
                         ·
                          intro w'
                          go_simp
                          with_reducible rfl
                         rotate_left
                         ·
                          simp only [Act.put,sa,sb,sc,i64_w,i32_w]
                          rfl
                         refine pure_ (i:=5) (N:=some 181) (v:=?_) (a':=?_) #[false,true,true,true,false,true,false,false,false,false,false,false,false,false,false,false,false,false,false,false] rfl rfl (any_of HT_.out (by kernel_rfl)) (fun _ _ _ h=>h) (Or.inl ⟨by rfl,?_⟩) ?_ ?_
                         rotate_left
                         ·
                          intro w'
                          go_simp
                          with_reducible rfl
                         rotate_left
                         ·
                          simp only [Act.put,sa,sb,sc,i64_w,i32_w]
                          rfl
                         refine pure_ (i:=8) (N:=some 184) (v:=?_) (a':=?_) #[false,true,true,true,false,true,false,false,true,false,false,false,false,false,false,false,false,false,false,false] rfl rfl (any_of HT_.out (by kernel_rfl)) (fun _ _ _ h=>h) (Or.inl ⟨by rfl,?_⟩) ?_ ?_
                         rotate_left
                         ·
                          intro w'
                          go_simp
                          with_reducible rfl
                         rotate_left
                         ·
                          simp only [Act.put,sa,sb,sc,i64_w,i32_w]
                          rfl
                         refine pure_ (i:=9) (N:=some 185) (v:=?_) (a':=?_) #[false,true,true,true,false,true,false,false,true,true,false,false,false,false,false,false,false,false,false,false] rfl rfl (any_of HT_.out (by kernel_rfl)) (fun _ _ _ h=>h) (Or.inl ⟨by rfl,?_⟩) ?_ ?_
                         rotate_left
                         ·
                          intro w'
                          go_simp
                          with_reducible rfl
                         rotate_left
                         ·
                          simp only [Act.put,sa,sb,sc,i64_w,i32_w]
                          rfl
                         refine pure_ (i:=10) (N:=some 186) (v:=?_) (a':=?_) #[false,true,true,true,false,true,false,false,true,true,true,false,false,false,false,false,false,false,false,false] rfl rfl (any_of HT_.out (by kernel_rfl)) (fun _ _ _ h=>h) (Or.inl ⟨by rfl,?_⟩) ?_ ?_
                         rotate_left
                         ·
                          intro w'
                          go_simp
                          with_reducible rfl
                         rotate_left
                         ·
                          simp only [Act.put,sa,sb,sc,i64_w,i32_w]
                          rfl
                         refine pure_ (i:=12) (N:=some 188) (v:=?_) (a':=?_) #[false,true,true,true,false,true,false,false,true,true,true,false,true,false,false,false,false,false,false,false] rfl rfl (any_of HT_.out (by kernel_rfl)) (fun _ _ _ h=>h) (Or.inl ⟨by rfl,?_⟩) ?_ ?_
                         rotate_left
                         ·
                          intro w'
                          go_simp
                          with_reducible rfl
                         rotate_left
                         ·
                          simp only [Act.put,sa,sb,sc,i64_w,i32_w]
                          rfl
                         refine pure_ (i:=13) (N:=some 189) (v:=?_) (a':=?_) #[false,true,true,true,false,true,false,false,true,true,true,false,true,true,false,false,false,false,false,false] rfl rfl (any_of HT_.out (by kernel_rfl)) (fun _ _ _ h=>h) (Or.inl ⟨by rfl,?_⟩) ?_ ?_
                         rotate_left
                         ·
                          intro w'
                          go_simp
                          with_reducible rfl
                         rotate_left
                         ·
                          simp only [Act.put,sa,sb,sc,i64_w,i32_w]
                          rfl
                         refine join_ (σ:=Value × Value × Value) 8 #[true,true,true,true,true,true,true,false,true,true,true,false,true,true,false,false,false,false,false,false] (fun s_=>[(176,s_.1),(180,s_.2.1),(182,s_.2.2)]) (fun s_ w'=>(Kd.R (Kd.int .i64) 3 w' w.heap.size (fun k_=>some k_≠(s_.2.2 : Value).ownBlock∧nb k_ (.slice Ao8 x7_1.length co8)∧nb k_ (.slice Ao20 x8_2.length co20)) s_.2.1 y337)∧(Kd.R (Kd.int .i64) 3 w' w.heap.size (fun k_=>some k_≠(s_.2.1 : Value).ownBlock∧nb k_ (.slice Ao8 x7_1.length co8)∧nb k_ (.slice Ao20 x8_2.length co20)) s_.2.2 y340)∧(Kd.R (Kd.int .i64) 3 w' w.heap.size (fun k_=>some k_≠(s_.2.1 : Value).ownBlock∧some k_≠(s_.2.2 : Value).ownBlock∧nb k_ (.slice Ao20 x8_2.length co20)) (.slice Ao8 x7_1.length co8) x7_1)∧(Kd.R (Kd.int .i64) 3 w' w.heap.size (fun k_=>some k_≠(s_.2.1 : Value).ownBlock∧some k_≠(s_.2.2 : Value).ownBlock∧nb k_ (.slice Ao8 x7_1.length co8)) (.slice Ao20 x8_2.length co20) x8_2)∧(Below w.heap.size w w')) ?_ ?_
                         rotate_left
                         ·
                          intro hCont
                          refine two_ (i:=0) (j:=6) (Ni:=some 176) (Nj:=some 182) #[true,true,true,true,false,true,false,false,true,true,true,false,true,true,false,false,false,false,false,false] #[false,true,true,true,false,true,true,false,true,true,true,false,true,true,false,false,false,false,false,false] rfl rfl rfl rfl (two_of HT_.out (by kernel_rfl)) (by decide) (by decide) (fun K hK=>?_) (fun K hK=>?_)
                          ·
                           skip
                           refine Kd.R_lit_step (Kd.int .i64) _ 3 ?hg (N:=176) ?hd (xs:=([] : List Int)) (inner:=[]) (ok:=fun _=>True) (okp:=fun _=>True) ?hr ?hp (fun _ hk=>hk) trivial (Below.refl _ _) (Nat.le_refl _) (by simp) ?_;(case hd=>rfl);(case hg=>rfl);(case hr=>first|(go_simp;done)|(go_simp;rfl));(case hp=>exact (Reps.none _ _))
                           intro v331 w85 ho86 hb hg_ hnew_
                           clear hg_ hnew_
                           (first|rw [← Ny330.out] at ho86|(simp only [Int.reduceToNat] at ho86;rw [← Ny330.out] at ho86))
                           have n0_:=A_ (re (by (with_reducible repeat (first|apply ra|apply rb|apply rc));exact HO_7.out) (rs ho86) hb)
                           have n1_:=A_ (re (by (with_reducible repeat (first|apply ra|apply rb|apply rc));exact HO_8.out) (rs ho86) hb)
                           have n2_:=A_ (Kd.R_lower (rn (rn ho86 (rl (by (with_reducible repeat (first|apply ra|apply rb|apply rc));exact HO_7.out))) (rl (by (with_reducible repeat (first|apply ra|apply rb|apply rc));exact HO_8.out))) (below_size (by repeat (first|(with_reducible first|exact HB.out|apply ba|apply bb|apply bc)|exact HB.out))))
                           have n3_:=A_ (cl (by repeat (first|(with_reducible exact HR336.out)|(with_reducible refine ca ?_ _)|(with_reducible refine cb ?_ _)|(with_reducible refine cc ?_)|exact HR336.out)) hb)
                           have n4_:=A_ (cl (by repeat (first|(with_reducible exact HR349.out)|(with_reducible refine ca ?_ _)|(with_reducible refine cb ?_ _)|(with_reducible refine cc ?_)|exact HR349.out)) hb)
                           have n5_:=A_ (below_step (by repeat (first|(with_reducible first|exact HB.out|apply ba|apply bb|apply bc)|exact HB.out)) hb)
                           clear HO_7
                           clear HO_8
                           clear HR336
                           clear HR349
                           clear HB
                           have HO_7:=n0_
                           have HO_8:=n1_
                           have HO332:=n2_
                           have HR336:=n3_
                           have HR349:=n4_
                           have HB:=n5_
                           clear n0_ n1_ n2_ n3_ n4_ n5_
                           clear hb ho86
                           refine hK.out _ _ trivial (fun hHeld=>?_)
                           clear hK K
                           refine norm_ (a':=?_) ?_ ?_
                           rotate_left
                           ·
                            show Act.put _ (some 176) _ = _
                            simp only [Act.put,sa,sb,sc,i64_w,i32_w]
                            rfl
                           refine two_ (i:=4) (j:=6) (Ni:=some 180) (Nj:=some 182) #[true,true,true,true,true,true,false,false,true,true,true,false,true,true,false,false,false,false,false,false] #[true,true,true,true,false,true,true,false,true,true,true,false,true,true,false,false,false,false,false,false] rfl rfl rfl rfl (two_of HT_.out (by kernel_rfl)) (by decide) (by decide) (fun K hK=>?_) (fun K hK=>?_)
                           ·
                            skip
                            refine Kd.R_append_rows_step (Kd.int .i64) (w0:=w) w.heap.size (by rfl) (.tmp 176) (.tmp 179) 22 3 (.int .i64 0) 8 rfl Try.underlying22 info3 rfl (by decide) (by omega) v331 y330 y333 _ _ _ (fun k_=>nb k_ (.slice Ao8 x7_1.length co8)∧nb k_ (.slice Ao20 x8_2.length co20)) (fun _=>False) rfl rfl ?aO ?aR (fun _ _ h=>h) (fun _ h=>h.elim) ?aF ?aB ?aS ?aL ?_
                            (case aR=>repeat (first|exact (by repeat (first|(with_reducible exact HR336.out)|(with_reducible refine ca ?_ _)|(with_reducible refine cb ?_ _)|(with_reducible refine cc ?_)|exact HR336.out))|(with_reducible refine ca ?_ _)|(with_reducible refine cb ?_ _)|(with_reducible refine cc ?_)))
                            (case aB=>exact (by repeat (first|(with_reducible first|exact HB.out|apply ba|apply bb|apply bc)|exact HB.out)))
                            (case aF=>exact (fun k_ hk=>⟨rh (rl (by (with_reducible repeat (first|apply ra|apply rb|apply rc));exact HO_7.out)) k_ hk,rh (rl (by (with_reducible repeat (first|apply ra|apply rb|apply rc));exact HO_8.out)) k_ hk⟩))
                            (case aO=>exact (by (with_reducible repeat (first|apply ra|apply rb|apply rc));exact rm HO332.out (fun _ hk=>⟨hk.1.2,hk.2⟩)))
                            (case aS=>exact (below_size (by repeat (first|(with_reducible first|exact HB.out|apply ba|apply bb|apply bc)|exact HB.out))))
                            (case aL=>have:=LMc73.out;omega)
                            intro v338 w87 ho hb hg hat
                            rw [← Ny337.out] at ho
                            have n0_:=A_ (rf (ok:=(fun k_=>nb k_ (.slice Ao20 x8_2.length co20))) (by (with_reducible repeat (first|apply ra|apply rb|apply rc));exact HO_7.out) hg hat)
                            have n1_:=A_ (rf (ok:=(fun k_=>nb k_ (.slice Ao8 x7_1.length co8))) (by (with_reducible repeat (first|apply ra|apply rb|apply rc));exact HO_8.out) hg hat)
                            have n2_:=A_ (hb)
                            have n3_:=A_ ((show Kd.C (Kd.int .i64) w87 Ao8 y333.length y333 from by rw [Ny333.out];exact Kd.C_take (m:=((ji70) : Int).toNat) ((rd_ (rf (ok:=(fun k_=>nb k_ (.slice Ao20 x8_2.length co20))) (by (with_reducible repeat (first|apply ra|apply rb|apply rc));exact HO_7.out) hg hat)).2.2) KL83.out))
                            have n4_:=A_ ((show Kd.C (Kd.int .i64) w87 A84 y346.length y346 from by rw [Ny346.out,KA84.out];exact Kd.C_drop (m:=((ji70) : Int).toNat) (c:=co8) ((rd_ (rf (ok:=(fun k_=>nb k_ (.slice Ao20 x8_2.length co20))) (by (with_reducible repeat (first|apply ra|apply rb|apply rc));exact HO_7.out) hg hat)).2.2) KL84.out ((rd_ (rf (ok:=(fun k_=>nb k_ (.slice Ao20 x8_2.length co20))) (by (with_reducible repeat (first|apply ra|apply rb|apply rc));exact HO_7.out) hg hat)).2.1)))
                            have n5_:=A_ (ho)
                            clear HO_7
                            clear HO_8
                            clear HB
                            clear HR336
                            clear HR349
                            clear HO332
                            have HO_7:=n0_
                            have HO_8:=n1_
                            have HB:=n2_
                            have HR336:=n3_
                            have HR349:=n4_
                            have HO339:=n5_
                            clear n0_ n1_ n2_ n3_ n4_ n5_
                            clear ho hb hg hat
                            refine hK.out _ _ trivial (fun hHeld=>?_)
                            clear hK K
                            refine norm_ (a':=?_) ?_ ?_
                            rotate_left
                            ·
                             show Act.put _ (some 180) _ = _
                             simp only [Act.put,sa,sb,sc,i64_w,i32_w]
                             rfl
                            refine one_ (i:=6) (N:=some 182) #[true,true,true,true,true,true,true,false,true,true,true,false,true,true,false,false,false,false,false,false] rfl rfl (one_of HT_.out (by kernel_rfl)) (by decide) (fun K hK=>?_)
                            refine Kd.R_lit_step (Kd.int .i64) _ 3 ?hg (N:=182) ?hd (xs:=([(wrap64 (Int.tdiv (wrap64 (t289 * 4)) 5))] : List Int)) (inner:=[.int .i64 (wrap64 (Int.tdiv (wrap64 (t289 * 4)) 5))]) (ok:=fun _=>True) (okp:=fun _=>True) ?hr ?hp (fun _ hk=>hk) trivial (Below.refl _ _) (Nat.le_refl _) (by simp) ?_;(case hd=>rfl);(case hg=>rfl);(case hr=>first|(go_simp;done)|(go_simp;rfl));(case hp=>exact (Reps.one (show Kd.M (Kd.int .i64) _ _ _ (wrap64 (Int.tdiv (wrap64 (t289 * 4)) 5)) [.int .i64 (wrap64 (Int.tdiv (wrap64 (t289 * 4)) 5))] from rfl) (Reps.none _ _)))
                            intro v341 w88 ho89 hb hg_ hnew_
                            clear hg_ hnew_
                            (first|rw [← Ny340.out] at ho89|(simp only [Int.reduceToNat] at ho89;rw [← Ny340.out] at ho89))
                            have n0_:=A_ (re (by (with_reducible repeat (first|apply ra|apply rb|apply rc));exact HO_7.out) (rs ho89) hb)
                            have n1_:=A_ (re (by (with_reducible repeat (first|apply ra|apply rb|apply rc));exact HO_8.out) (rs ho89) hb)
                            have n2_:=A_ (re (by (with_reducible repeat (first|apply ra|apply rb|apply rc));exact HO339.out) (rs ho89) hb)
                            have n3_:=A_ (Kd.R_lower (rn (rn (rn ho89 (rl (by (with_reducible repeat (first|apply ra|apply rb|apply rc));exact HO_7.out))) (rl (by (with_reducible repeat (first|apply ra|apply rb|apply rc));exact HO_8.out))) (rl (by (with_reducible repeat (first|apply ra|apply rb|apply rc));exact HO339.out))) (below_size (by repeat (first|(with_reducible first|exact HB.out|apply ba|apply bb|apply bc)|exact HB.out))))
                            have n4_:=A_ (cl (by repeat (first|(with_reducible exact HR336.out)|(with_reducible refine ca ?_ _)|(with_reducible refine cb ?_ _)|(with_reducible refine cc ?_)|exact HR336.out)) hb)
                            have n5_:=A_ (cl (by repeat (first|(with_reducible exact HR349.out)|(with_reducible refine ca ?_ _)|(with_reducible refine cb ?_ _)|(with_reducible refine cc ?_)|exact HR349.out)) hb)
                            have n6_:=A_ (below_step (by repeat (first|(with_reducible first|exact HB.out|apply ba|apply bb|apply bc)|exact HB.out)) hb)
                            clear HO_7
                            clear HO_8
                            clear HO339
                            clear HR336
                            clear HR349
                            clear HB
                            have HO_7:=n0_
                            have HO_8:=n1_
                            have HO339:=n2_
                            have HO342:=n3_
                            have HR336:=n4_
                            have HR349:=n5_
                            have HB:=n6_
                            clear n0_ n1_ n2_ n3_ n4_ n5_ n6_
                            clear hb ho89
                            refine hK.out _ _ trivial (fun hHeld=>?_)
                            clear hK K
                            refine norm_ (a':=?_) ?_ ?_
                            rotate_left
                            ·
                             show Act.put _ (some 182) _ = _
                             simp only [Act.put,sa,sb,sc,i64_w,i32_w]
                             rfl
                            exact norm_ (by simp only [putAll,Act.put,List.setIfInBounds_toArray,List.set_cons_zero,List.set_cons_succ]) (hCont (v331,v338,v341) _ ⟨(by (with_reducible repeat (first|apply ra|apply rb|apply rc));exact rm HO339.out (fun _ hk=>⟨hk.2,⟨hk.1.1,hk.1.2⟩⟩)),(by (with_reducible repeat (first|apply ra|apply rb|apply rc));exact rm HO342.out (fun _ hk=>⟨hk.2,⟨hk.1.1.2,hk.1.2⟩⟩)),(by (with_reducible repeat (first|apply ra|apply rb|apply rc));exact rm HO_7.out (fun _ hk=>⟨hk.1.2,⟨hk.2,hk.1.1⟩⟩)),(by (with_reducible repeat (first|apply ra|apply rb|apply rc));exact rm HO_8.out (fun _ hk=>⟨hk.1.2,⟨hk.2,hk.1.1⟩⟩)),(by repeat (first|(with_reducible first|exact HB.out|apply ba|apply bb|apply bc)|exact HB.out))⟩)
                           ·
                            skip
                            refine Kd.R_lit_step (Kd.int .i64) _ 3 ?hg (N:=182) ?hd (xs:=([(wrap64 (Int.tdiv (wrap64 (t289 * 4)) 5))] : List Int)) (inner:=[.int .i64 (wrap64 (Int.tdiv (wrap64 (t289 * 4)) 5))]) (ok:=fun _=>True) (okp:=fun _=>True) ?hr ?hp (fun _ hk=>hk) trivial (Below.refl _ _) (Nat.le_refl _) (by simp) ?_;(case hd=>rfl);(case hg=>rfl);(case hr=>first|(go_simp;done)|(go_simp;rfl));(case hp=>exact (Reps.one (show Kd.M (Kd.int .i64) _ _ _ (wrap64 (Int.tdiv (wrap64 (t289 * 4)) 5)) [.int .i64 (wrap64 (Int.tdiv (wrap64 (t289 * 4)) 5))] from rfl) (Reps.none _ _)))
                            intro v341 w87 ho88 hb hg_ hnew_
                            clear hg_ hnew_
                            (first|rw [← Ny340.out] at ho88|(simp only [Int.reduceToNat] at ho88;rw [← Ny340.out] at ho88))
                            have n0_:=A_ (re (by (with_reducible repeat (first|apply ra|apply rb|apply rc));exact HO_7.out) (rs ho88) hb)
                            have n1_:=A_ (re (by (with_reducible repeat (first|apply ra|apply rb|apply rc));exact HO_8.out) (rs ho88) hb)
                            have n2_:=A_ (re (by (with_reducible repeat (first|apply ra|apply rb|apply rc));exact HO332.out) (rs ho88) hb)
                            have n3_:=A_ (Kd.R_lower (rn (rn (rn ho88 (rl (by (with_reducible repeat (first|apply ra|apply rb|apply rc));exact HO_7.out))) (rl (by (with_reducible repeat (first|apply ra|apply rb|apply rc));exact HO_8.out))) (rl (by (with_reducible repeat (first|apply ra|apply rb|apply rc));exact HO332.out))) (below_size (by repeat (first|(with_reducible first|exact HB.out|apply ba|apply bb|apply bc)|exact HB.out))))
                            have n4_:=A_ (cl (by repeat (first|(with_reducible exact HR336.out)|(with_reducible refine ca ?_ _)|(with_reducible refine cb ?_ _)|(with_reducible refine cc ?_)|exact HR336.out)) hb)
                            have n5_:=A_ (cl (by repeat (first|(with_reducible exact HR349.out)|(with_reducible refine ca ?_ _)|(with_reducible refine cb ?_ _)|(with_reducible refine cc ?_)|exact HR349.out)) hb)
                            have n6_:=A_ (below_step (by repeat (first|(with_reducible first|exact HB.out|apply ba|apply bb|apply bc)|exact HB.out)) hb)
                            clear HO_7
                            clear HO_8
                            clear HO332
                            clear HR336
                            clear HR349
                            clear HB
                            have HO_7:=n0_
                            have HO_8:=n1_
                            have HO332:=n2_
                            have HO342:=n3_
                            have HR336:=n4_
                            have HR349:=n5_
                            have HB:=n6_
                            clear n0_ n1_ n2_ n3_ n4_ n5_ n6_
                            clear hb ho88
                            refine hK.out _ _ trivial (fun hHeld=>?_)
                            clear hK K
                            refine norm_ (a':=?_) ?_ ?_
                            rotate_left
                            ·
                             show Act.put _ (some 182) _ = _
                             simp only [Act.put,sa,sb,sc,i64_w,i32_w]
                             rfl
                            refine one_ (i:=4) (N:=some 180) #[true,true,true,true,true,true,true,false,true,true,true,false,true,true,false,false,false,false,false,false] rfl rfl (one_of HT_.out (by kernel_rfl)) (by decide) (fun K hK=>?_)
                            refine Kd.R_append_rows_step (Kd.int .i64) (w0:=w) w.heap.size (by rfl) (.tmp 176) (.tmp 179) 22 3 (.int .i64 0) 8 rfl Try.underlying22 info3 rfl (by decide) (by omega) v331 y330 y333 _ _ _ (fun k_=>nb k_ (.slice Ao8 x7_1.length co8)∧nb k_ (.slice Ao20 x8_2.length co20)∧nb k_ v341) (fun _=>False) rfl rfl ?aO ?aR (fun _ _ h=>h) (fun _ h=>h.elim) ?aF ?aB ?aS ?aL ?_
                            (case aR=>repeat (first|exact (by repeat (first|(with_reducible exact HR336.out)|(with_reducible refine ca ?_ _)|(with_reducible refine cb ?_ _)|(with_reducible refine cc ?_)|exact HR336.out))|(with_reducible refine ca ?_ _)|(with_reducible refine cb ?_ _)|(with_reducible refine cc ?_)))
                            (case aB=>exact (by repeat (first|(with_reducible first|exact HB.out|apply ba|apply bb|apply bc)|exact HB.out)))
                            (case aF=>exact (fun k_ hk=>⟨rh (rl (by (with_reducible repeat (first|apply ra|apply rb|apply rc));exact HO_7.out)) k_ hk,rh (rl (by (with_reducible repeat (first|apply ra|apply rb|apply rc));exact HO_8.out)) k_ hk,rh (rl (by (with_reducible repeat (first|apply ra|apply rb|apply rc));exact HO342.out)) k_ hk⟩))
                            (case aO=>exact (by (with_reducible repeat (first|apply ra|apply rb|apply rc));exact rm HO332.out (fun _ hk=>⟨hk.1.1.2,⟨hk.1.2,hk.2⟩⟩)))
                            (case aS=>exact (below_size (by repeat (first|(with_reducible first|exact HB.out|apply ba|apply bb|apply bc)|exact HB.out))))
                            (case aL=>have:=LMc73.out;omega)
                            intro v338 w89 ho hb hg hat
                            rw [← Ny337.out] at ho
                            have n0_:=A_ (rf (ok:=(fun k_=>nb k_ (.slice Ao20 x8_2.length co20)∧nb k_ v341)) (by (with_reducible repeat (first|apply ra|apply rb|apply rc));exact rm HO_7.out (fun _ hk=>⟨⟨hk.1.1,hk.2⟩,hk.1.2⟩)) hg hat)
                            have n1_:=A_ (rf (ok:=(fun k_=>nb k_ (.slice Ao8 x7_1.length co8)∧nb k_ v341)) (by (with_reducible repeat (first|apply ra|apply rb|apply rc));exact rm HO_8.out (fun _ hk=>⟨⟨hk.1.1,hk.2⟩,hk.1.2⟩)) hg hat)
                            have n2_:=A_ (rf (ok:=(fun k_=>nb k_ (.slice Ao8 x7_1.length co8)∧nb k_ (.slice Ao20 x8_2.length co20))) (by (with_reducible repeat (first|apply ra|apply rb|apply rc));exact rm HO342.out (fun _ hk=>⟨⟨hk.1.1.2,hk.1.2⟩,hk.2⟩)) hg hat)
                            have n3_:=A_ (hb)
                            have n4_:=A_ ((show Kd.C (Kd.int .i64) w89 Ao8 y333.length y333 from by rw [Ny333.out];exact Kd.C_take (m:=((ji70) : Int).toNat) ((rd_ (rf (ok:=(fun k_=>nb k_ (.slice Ao20 x8_2.length co20)∧nb k_ v341)) (by (with_reducible repeat (first|apply ra|apply rb|apply rc));exact rm HO_7.out (fun _ hk=>⟨⟨hk.1.1,hk.2⟩,hk.1.2⟩)) hg hat)).2.2) KL83.out))
                            have n5_:=A_ ((show Kd.C (Kd.int .i64) w89 A84 y346.length y346 from by rw [Ny346.out,KA84.out];exact Kd.C_drop (m:=((ji70) : Int).toNat) (c:=co8) ((rd_ (rf (ok:=(fun k_=>nb k_ (.slice Ao20 x8_2.length co20)∧nb k_ v341)) (by (with_reducible repeat (first|apply ra|apply rb|apply rc));exact rm HO_7.out (fun _ hk=>⟨⟨hk.1.1,hk.2⟩,hk.1.2⟩)) hg hat)).2.2) KL84.out ((rd_ (rf (ok:=(fun k_=>nb k_ (.slice Ao20 x8_2.length co20)∧nb k_ v341)) (by (with_reducible repeat (first|apply ra|apply rb|apply rc));exact rm HO_7.out (fun _ hk=>⟨⟨hk.1.1,hk.2⟩,hk.1.2⟩)) hg hat)).2.1)))
                            have n6_:=A_ (ho)
                            clear HO_7
                            clear HO_8
                            clear HO342
                            clear HB
                            clear HR336
                            clear HR349
                            clear HO332
                            have HO_7:=n0_
                            have HO_8:=n1_
                            have HO342:=n2_
                            have HB:=n3_
                            have HR336:=n4_
                            have HR349:=n5_
                            have HO339:=n6_
                            clear n0_ n1_ n2_ n3_ n4_ n5_ n6_
                            clear ho hb hg hat
                            refine hK.out _ _ trivial (fun hHeld=>?_)
                            clear hK K
                            refine norm_ (a':=?_) ?_ ?_
                            rotate_left
                            ·
                             show Act.put _ (some 180) _ = _
                             simp only [Act.put,sa,sb,sc,i64_w,i32_w]
                             rfl
                            exact norm_ (by simp only [putAll,Act.put,List.setIfInBounds_toArray,List.set_cons_zero,List.set_cons_succ]) (hCont (v331,v338,v341) _ ⟨(by (with_reducible repeat (first|apply ra|apply rb|apply rc));exact rm HO339.out (fun _ hk=>⟨hk.2.2,⟨hk.1,hk.2.1⟩⟩)),(by (with_reducible repeat (first|apply ra|apply rb|apply rc));exact rm HO342.out (fun _ hk=>⟨hk.2,⟨hk.1.1,hk.1.2⟩⟩)),(by (with_reducible repeat (first|apply ra|apply rb|apply rc));exact rm HO_7.out (fun _ hk=>⟨hk.2,⟨hk.1.2,hk.1.1⟩⟩)),(by (with_reducible repeat (first|apply ra|apply rb|apply rc));exact rm HO_8.out (fun _ hk=>⟨hk.2,⟨hk.1.2,hk.1.1⟩⟩)),(by repeat (first|(with_reducible first|exact HB.out|apply ba|apply bb|apply bc)|exact HB.out))⟩)
                          ·
                           skip
                           refine Kd.R_lit_step (Kd.int .i64) _ 3 ?hg (N:=182) ?hd (xs:=([(wrap64 (Int.tdiv (wrap64 (t289 * 4)) 5))] : List Int)) (inner:=[.int .i64 (wrap64 (Int.tdiv (wrap64 (t289 * 4)) 5))]) (ok:=fun _=>True) (okp:=fun _=>True) ?hr ?hp (fun _ hk=>hk) trivial (Below.refl _ _) (Nat.le_refl _) (by simp) ?_;(case hd=>rfl);(case hg=>rfl);(case hr=>first|(go_simp;done)|(go_simp;rfl));(case hp=>exact (Reps.one (show Kd.M (Kd.int .i64) _ _ _ (wrap64 (Int.tdiv (wrap64 (t289 * 4)) 5)) [.int .i64 (wrap64 (Int.tdiv (wrap64 (t289 * 4)) 5))] from rfl) (Reps.none _ _)))
                           intro v341 w85 ho86 hb hg_ hnew_
                           clear hg_ hnew_
                           (first|rw [← Ny340.out] at ho86|(simp only [Int.reduceToNat] at ho86;rw [← Ny340.out] at ho86))
                           have n0_:=A_ (re (by (with_reducible repeat (first|apply ra|apply rb|apply rc));exact HO_7.out) (rs ho86) hb)
                           have n1_:=A_ (re (by (with_reducible repeat (first|apply ra|apply rb|apply rc));exact HO_8.out) (rs ho86) hb)
                           have n2_:=A_ (Kd.R_lower (rn (rn ho86 (rl (by (with_reducible repeat (first|apply ra|apply rb|apply rc));exact HO_7.out))) (rl (by (with_reducible repeat (first|apply ra|apply rb|apply rc));exact HO_8.out))) (below_size (by repeat (first|(with_reducible first|exact HB.out|apply ba|apply bb|apply bc)|exact HB.out))))
                           have n3_:=A_ (cl (by repeat (first|(with_reducible exact HR336.out)|(with_reducible refine ca ?_ _)|(with_reducible refine cb ?_ _)|(with_reducible refine cc ?_)|exact HR336.out)) hb)
                           have n4_:=A_ (cl (by repeat (first|(with_reducible exact HR349.out)|(with_reducible refine ca ?_ _)|(with_reducible refine cb ?_ _)|(with_reducible refine cc ?_)|exact HR349.out)) hb)
                           have n5_:=A_ (below_step (by repeat (first|(with_reducible first|exact HB.out|apply ba|apply bb|apply bc)|exact HB.out)) hb)
                           clear HO_7
                           clear HO_8
                           clear HR336
                           clear HR349
                           clear HB
                           have HO_7:=n0_
                           have HO_8:=n1_
                           have HO342:=n2_
                           have HR336:=n3_
                           have HR349:=n4_
                           have HB:=n5_
                           clear n0_ n1_ n2_ n3_ n4_ n5_
                           clear hb ho86
                           refine hK.out _ _ trivial (fun hHeld=>?_)
                           clear hK K
                           refine norm_ (a':=?_) ?_ ?_
                           rotate_left
                           ·
                            show Act.put _ (some 182) _ = _
                            simp only [Act.put,sa,sb,sc,i64_w,i32_w]
                            rfl
                           refine one_ (i:=0) (N:=some 176) #[true,true,true,true,false,true,true,false,true,true,true,false,true,true,false,false,false,false,false,false] rfl rfl (one_of HT_.out (by kernel_rfl)) (by decide) (fun K hK=>?_)
                           refine Kd.R_lit_step (Kd.int .i64) _ 3 ?hg (N:=176) ?hd (xs:=([] : List Int)) (inner:=[]) (ok:=fun _=>True) (okp:=fun _=>True) ?hr ?hp (fun _ hk=>hk) trivial (Below.refl _ _) (Nat.le_refl _) (by simp) ?_;(case hd=>rfl);(case hg=>rfl);(case hr=>first|(go_simp;done)|(go_simp;rfl));(case hp=>exact (Reps.none _ _))
                           intro v331 w87 ho88 hb hg_ hnew_
                           clear hg_ hnew_
                           (first|rw [← Ny330.out] at ho88|(simp only [Int.reduceToNat] at ho88;rw [← Ny330.out] at ho88))
                           have n0_:=A_ (re (by (with_reducible repeat (first|apply ra|apply rb|apply rc));exact HO_7.out) (rs ho88) hb)
                           have n1_:=A_ (re (by (with_reducible repeat (first|apply ra|apply rb|apply rc));exact HO_8.out) (rs ho88) hb)
                           have n2_:=A_ (re (by (with_reducible repeat (first|apply ra|apply rb|apply rc));exact HO342.out) (rs ho88) hb)
                           have n3_:=A_ (Kd.R_lower (rn (rn (rn ho88 (rl (by (with_reducible repeat (first|apply ra|apply rb|apply rc));exact HO_7.out))) (rl (by (with_reducible repeat (first|apply ra|apply rb|apply rc));exact HO_8.out))) (rl (by (with_reducible repeat (first|apply ra|apply rb|apply rc));exact HO342.out))) (below_size (by repeat (first|(with_reducible first|exact HB.out|apply ba|apply bb|apply bc)|exact HB.out))))
                           have n4_:=A_ (cl (by repeat (first|(with_reducible exact HR336.out)|(with_reducible refine ca ?_ _)|(with_reducible refine cb ?_ _)|(with_reducible refine cc ?_)|exact HR336.out)) hb)
                           have n5_:=A_ (cl (by repeat (first|(with_reducible exact HR349.out)|(with_reducible refine ca ?_ _)|(with_reducible refine cb ?_ _)|(with_reducible refine cc ?_)|exact HR349.out)) hb)
                           have n6_:=A_ (below_step (by repeat (first|(with_reducible first|exact HB.out|apply ba|apply bb|apply bc)|exact HB.out)) hb)
                           clear HO_7
                           clear HO_8
                           clear HO342
                           clear HR336
                           clear HR349
                           clear HB
                           have HO_7:=n0_
                           have HO_8:=n1_
                           have HO342:=n2_
                           have HO332:=n3_
                           have HR336:=n4_
                           have HR349:=n5_
                           have HB:=n6_
                           clear n0_ n1_ n2_ n3_ n4_ n5_ n6_
                           clear hb ho88
                           refine hK.out _ _ trivial (fun hHeld=>?_)
                           clear hK K
                           refine norm_ (a':=?_) ?_ ?_
                           rotate_left
                           ·
                            show Act.put _ (some 176) _ = _
                            simp only [Act.put,sa,sb,sc,i64_w,i32_w]
                            rfl
                           refine one_ (i:=4) (N:=some 180) #[true,true,true,true,true,true,true,false,true,true,true,false,true,true,false,false,false,false,false,false] rfl rfl (one_of HT_.out (by kernel_rfl)) (by decide) (fun K hK=>?_)
                           refine Kd.R_append_rows_step (Kd.int .i64) (w0:=w) w.heap.size (by rfl) (.tmp 176) (.tmp 179) 22 3 (.int .i64 0) 8 rfl Try.underlying22 info3 rfl (by decide) (by omega) v331 y330 y333 _ _ _ (fun k_=>nb k_ (.slice Ao8 x7_1.length co8)∧nb k_ (.slice Ao20 x8_2.length co20)∧nb k_ v341) (fun _=>False) rfl rfl ?aO ?aR (fun _ _ h=>h) (fun _ h=>h.elim) ?aF ?aB ?aS ?aL ?_
                           (case aR=>repeat (first|exact (by repeat (first|(with_reducible exact HR336.out)|(with_reducible refine ca ?_ _)|(with_reducible refine cb ?_ _)|(with_reducible refine cc ?_)|exact HR336.out))|(with_reducible refine ca ?_ _)|(with_reducible refine cb ?_ _)|(with_reducible refine cc ?_)))
                           (case aB=>exact (by repeat (first|(with_reducible first|exact HB.out|apply ba|apply bb|apply bc)|exact HB.out)))
                           (case aF=>exact (fun k_ hk=>⟨rh (rl (by (with_reducible repeat (first|apply ra|apply rb|apply rc));exact HO_7.out)) k_ hk,rh (rl (by (with_reducible repeat (first|apply ra|apply rb|apply rc));exact HO_8.out)) k_ hk,rh (rl (by (with_reducible repeat (first|apply ra|apply rb|apply rc));exact HO342.out)) k_ hk⟩))
                           (case aO=>exact (by (with_reducible repeat (first|apply ra|apply rb|apply rc));exact rm HO332.out (fun _ hk=>⟨hk.1.1.2,⟨hk.1.2,hk.2⟩⟩)))
                           (case aS=>exact (below_size (by repeat (first|(with_reducible first|exact HB.out|apply ba|apply bb|apply bc)|exact HB.out))))
                           (case aL=>have:=LMc73.out;omega)
                           intro v338 w89 ho hb hg hat
                           rw [← Ny337.out] at ho
                           have n0_:=A_ (rf (ok:=(fun k_=>nb k_ (.slice Ao20 x8_2.length co20)∧nb k_ v341)) (by (with_reducible repeat (first|apply ra|apply rb|apply rc));exact HO_7.out) hg hat)
                           have n1_:=A_ (rf (ok:=(fun k_=>nb k_ (.slice Ao8 x7_1.length co8)∧nb k_ v341)) (by (with_reducible repeat (first|apply ra|apply rb|apply rc));exact HO_8.out) hg hat)
                           have n2_:=A_ (rf (ok:=(fun k_=>nb k_ (.slice Ao8 x7_1.length co8)∧nb k_ (.slice Ao20 x8_2.length co20))) (by (with_reducible repeat (first|apply ra|apply rb|apply rc));exact rm HO342.out (fun _ hk=>⟨⟨hk.1.1.2,hk.1.2⟩,hk.2⟩)) hg hat)
                           have n3_:=A_ (hb)
                           have n4_:=A_ ((show Kd.C (Kd.int .i64) w89 Ao8 y333.length y333 from by rw [Ny333.out];exact Kd.C_take (m:=((ji70) : Int).toNat) ((rd_ (rf (ok:=(fun k_=>nb k_ (.slice Ao20 x8_2.length co20)∧nb k_ v341)) (by (with_reducible repeat (first|apply ra|apply rb|apply rc));exact HO_7.out) hg hat)).2.2) KL83.out))
                           have n5_:=A_ ((show Kd.C (Kd.int .i64) w89 A84 y346.length y346 from by rw [Ny346.out,KA84.out];exact Kd.C_drop (m:=((ji70) : Int).toNat) (c:=co8) ((rd_ (rf (ok:=(fun k_=>nb k_ (.slice Ao20 x8_2.length co20)∧nb k_ v341)) (by (with_reducible repeat (first|apply ra|apply rb|apply rc));exact HO_7.out) hg hat)).2.2) KL84.out ((rd_ (rf (ok:=(fun k_=>nb k_ (.slice Ao20 x8_2.length co20)∧nb k_ v341)) (by (with_reducible repeat (first|apply ra|apply rb|apply rc));exact HO_7.out) hg hat)).2.1)))
                           have n6_:=A_ (ho)
                           clear HO_7
                           clear HO_8
                           clear HO342
                           clear HB
                           clear HR336
                           clear HR349
                           clear HO332
                           have HO_7:=n0_
                           have HO_8:=n1_
                           have HO342:=n2_
                           have HB:=n3_
                           have HR336:=n4_
                           have HR349:=n5_
                           have HO339:=n6_
                           clear n0_ n1_ n2_ n3_ n4_ n5_ n6_
                           clear ho hb hg hat
                           refine hK.out _ _ trivial (fun hHeld=>?_)
                           clear hK K
                           refine norm_ (a':=?_) ?_ ?_
                           rotate_left
                           ·
                            show Act.put _ (some 180) _ = _
                            simp only [Act.put,sa,sb,sc,i64_w,i32_w]
                            rfl
                           exact norm_ (by simp only [putAll,Act.put,List.setIfInBounds_toArray,List.set_cons_zero,List.set_cons_succ]) (hCont (v331,v338,v341) _ ⟨(by (with_reducible repeat (first|apply ra|apply rb|apply rc));exact rm HO339.out (fun _ hk=>⟨hk.2.2,⟨hk.1,hk.2.1⟩⟩)),(by (with_reducible repeat (first|apply ra|apply rb|apply rc));exact rm HO342.out (fun _ hk=>⟨hk.2,⟨hk.1.1,hk.1.2⟩⟩)),(by (with_reducible repeat (first|apply ra|apply rb|apply rc));exact rm HO_7.out (fun _ hk=>⟨hk.2,⟨hk.1.2,hk.1.1⟩⟩)),(by (with_reducible repeat (first|apply ra|apply rb|apply rc));exact rm HO_8.out (fun _ hk=>⟨hk.2,⟨hk.1.2,hk.1.1⟩⟩)),(by repeat (first|(with_reducible first|exact HB.out|apply ba|apply bb|apply bc)|exact HB.out))⟩)
                         rintro ⟨v331,v338,v341⟩ w90 ⟨h0_,h1_,h2_,h3_,h4_⟩
                         have n0_ : Aside0 (Kd.R (Kd.int .i64) 3 w90 w.heap.size (fun k_=>nb k_ v341∧nb k_ (.slice Ao8 x7_1.length co8)∧nb k_ (.slice Ao20 x8_2.length co20)) v338 y337):=⟨h0_⟩
                         have n1_ : Aside0 (Kd.R (Kd.int .i64) 3 w90 w.heap.size (fun k_=>nb k_ v338∧nb k_ (.slice Ao8 x7_1.length co8)∧nb k_ (.slice Ao20 x8_2.length co20)) v341 y340):=⟨h1_⟩
                         have n2_ : Aside0 (Kd.R (Kd.int .i64) 3 w90 w.heap.size (fun k_=>nb k_ v338∧nb k_ v341∧nb k_ (.slice Ao20 x8_2.length co20)) (.slice Ao8 x7_1.length co8) x7_1):=⟨h2_⟩
                         have n3_ : Aside0 (Kd.R (Kd.int .i64) 3 w90 w.heap.size (fun k_=>nb k_ v338∧nb k_ v341∧nb k_ (.slice Ao8 x7_1.length co8)) (.slice Ao20 x8_2.length co20) x8_2):=⟨h3_⟩
                         have n4_ : Aside0 (Below w.heap.size w w90):=⟨h4_⟩
                         clear HO_7
                         clear HO_8
                         clear HB
                         clear h0_ h1_ h2_ h3_ h4_
                         have HO339:=n0_
                         have HO342:=n1_
                         have HO_7:=n2_
                         have HO_8:=n3_
                         have HB:=n4_
                         clear n0_ n1_ n2_ n3_ n4_
                         have hHeld:=trivial
                         have HR336:=A_ (show Kd.C (Kd.int .i64) w90 Ao8 y333.length y333 from by rw [Ny333.out];exact Kd.C_take (m:=((ji70) : Int).toNat) ((rd_ (HO_7.out)).2.2) KL83.out)
                         have HR349:=A_ (show Kd.C (Kd.int .i64) w90 A84 y346.length y346 from by rw [Ny346.out,KA84.out];exact Kd.C_drop (m:=((ji70) : Int).toNat) (c:=co8) ((rd_ (HO_7.out)).2.2) KL84.out ((rd_ (HO_7.out)).2.1))
                         obtain ⟨Ao92,co92,eo92⟩:=Kd.R_slice HO342.out
                         (first|subst eo92|(injection eo92 with f1_ f2_ f3_;have f4_:=f1_.symm;have f5_:=f3_.symm;clear f1_ f2_ f3_;subst f4_;subst f5_))
                         refine norm_ (a':=?_) ?_ ?_
                         rotate_left
                         ·
                          simp only [putAll,Act.put,List.setIfInBounds_toArray,List.set_cons_zero,List.set_cons_succ]
                          rfl
                         refine one_ (i:=7) (N:=some 183) #[true,true,true,true,true,true,true,true,true,true,true,false,true,true,false,false,false,false,false,false] rfl rfl (one_of HT_.out (by kernel_rfl)) (by decide) (fun K hK=>?_)
                         refine Kd.R_append_rows_step (Kd.int .i64) (w0:=w) w.heap.size (by rfl) (.tmp 180) (.tmp 182) 22 3 (.int .i64 0) 8 rfl Try.underlying22 info3 rfl (by decide) (by omega) v338 y337 y340 _ _ _ (fun k_=>nb k_ (.slice Ao8 x7_1.length co8)∧nb k_ (.slice Ao20 x8_2.length co20)∧nb k_ (.slice Ao92 y340.length co92)) (fun _=>False) rfl rfl ?aO ?aR (fun _ _ h=>h) (fun _ h=>h.elim) ?aF ?aB ?aS ?aL ?_
                         (case aR=>repeat (first|exact (rd_ HO342.out).2.2|(with_reducible refine ca ?_ _)|(with_reducible refine cb ?_ _)|(with_reducible refine cc ?_)))
                         (case aB=>exact (by repeat (first|(with_reducible first|exact HB.out|apply ba|apply bb|apply bc)|exact HB.out)))
                         (case aF=>exact (fun k_ hk=>⟨rh (rl (by (with_reducible repeat (first|apply ra|apply rb|apply rc));exact HO_7.out)) k_ hk,rh (rl (by (with_reducible repeat (first|apply ra|apply rb|apply rc));exact HO_8.out)) k_ hk,rh (rl (by (with_reducible repeat (first|apply ra|apply rb|apply rc));exact HO342.out)) k_ hk⟩))
                         (case aO=>exact (by (with_reducible repeat (first|apply ra|apply rb|apply rc));exact rm HO339.out (fun _ hk=>⟨hk.2.1,⟨hk.2.2,hk.1⟩⟩)))
                         (case aS=>exact (below_size (by repeat (first|(with_reducible first|exact HB.out|apply ba|apply bb|apply bc)|exact HB.out))))
                         (case aL=>have:=LMc74.out;omega)
                         intro v344 w91 ho hb hg hat
                         rw [← Ny343.out] at ho
                         have n0_:=A_ (rf (ok:=(fun k_=>nb k_ (.slice Ao20 x8_2.length co20)∧nb k_ (.slice Ao92 y340.length co92))) (by (with_reducible repeat (first|apply ra|apply rb|apply rc));exact rm HO_7.out (fun _ hk=>⟨⟨hk.2.2,hk.2.1⟩,hk.1⟩)) hg hat)
                         have n1_:=A_ (rf (ok:=(fun k_=>nb k_ (.slice Ao8 x7_1.length co8)∧nb k_ (.slice Ao92 y340.length co92))) (by (with_reducible repeat (first|apply ra|apply rb|apply rc));exact rm HO_8.out (fun _ hk=>⟨⟨hk.2.2,hk.2.1⟩,hk.1⟩)) hg hat)
                         have n2_:=A_ (rf (ok:=(fun k_=>nb k_ (.slice Ao8 x7_1.length co8)∧nb k_ (.slice Ao20 x8_2.length co20))) (by (with_reducible repeat (first|apply ra|apply rb|apply rc));exact rm HO342.out (fun _ hk=>⟨⟨hk.2.1,hk.2.2⟩,hk.1⟩)) hg hat)
                         have n3_:=A_ (hb)
                         have n4_:=A_ ((show Kd.C (Kd.int .i64) w91 Ao8 y333.length y333 from by rw [Ny333.out];exact Kd.C_take (m:=((ji70) : Int).toNat) ((rd_ (rf (ok:=(fun k_=>nb k_ (.slice Ao20 x8_2.length co20)∧nb k_ (.slice Ao92 y340.length co92))) (by (with_reducible repeat (first|apply ra|apply rb|apply rc));exact rm HO_7.out (fun _ hk=>⟨⟨hk.2.2,hk.2.1⟩,hk.1⟩)) hg hat)).2.2) KL83.out))
                         have n5_:=A_ ((show Kd.C (Kd.int .i64) w91 A84 y346.length y346 from by rw [Ny346.out,KA84.out];exact Kd.C_drop (m:=((ji70) : Int).toNat) (c:=co8) ((rd_ (rf (ok:=(fun k_=>nb k_ (.slice Ao20 x8_2.length co20)∧nb k_ (.slice Ao92 y340.length co92))) (by (with_reducible repeat (first|apply ra|apply rb|apply rc));exact rm HO_7.out (fun _ hk=>⟨⟨hk.2.2,hk.2.1⟩,hk.1⟩)) hg hat)).2.2) KL84.out ((rd_ (rf (ok:=(fun k_=>nb k_ (.slice Ao20 x8_2.length co20)∧nb k_ (.slice Ao92 y340.length co92))) (by (with_reducible repeat (first|apply ra|apply rb|apply rc));exact rm HO_7.out (fun _ hk=>⟨⟨hk.2.2,hk.2.1⟩,hk.1⟩)) hg hat)).2.1)))
                         have n6_:=A_ (ho)
                         clear HO_7
                         clear HO_8
                         clear HO342
                         clear HB
                         clear HR336
                         clear HR349
                         clear HO339
                         have HO_7:=n0_
                         have HO_8:=n1_
                         have HO342:=n2_
                         have HB:=n3_
                         have HR336:=n4_
                         have HR349:=n5_
                         have HO345:=n6_
                         clear n0_ n1_ n2_ n3_ n4_ n5_ n6_
                         clear ho hb hg hat
                         refine hK.out _ _ trivial (fun hHeld=>?_)
                         clear hK K
                         refine norm_ (a':=?_) ?_ ?_
                         rotate_left
                         ·
                          show Act.put _ (some 183) _ = _
                          simp only [Act.put,sa,sb,sc,i64_w,i32_w]
                          rfl
                         refine one_ (i:=11) (N:=some 187) #[true,true,true,true,true,true,true,true,true,true,true,true,true,true,false,false,false,false,false,false] rfl rfl (one_of HT_.out (by kernel_rfl)) (by decide) (fun K hK=>?_)
                         refine Kd.R_append_rows_step (Kd.int .i64) (w0:=w) w.heap.size (by rfl) (.tmp 183) (.tmp 186) 22 3 (.int .i64 0) 8 rfl Try.underlying22 info3 rfl (by decide) (by omega) v344 y343 y346 _ _ _ (fun k_=>nb k_ (.slice Ao8 x7_1.length co8)∧nb k_ (.slice Ao20 x8_2.length co20)∧nb k_ (.slice Ao92 y340.length co92)) (fun _=>False) rfl rfl ?aO ?aR (fun _ _ h=>h) (fun _ h=>h.elim) ?aF ?aB ?aS ?aL ?_
                         (case aR=>repeat (first|exact (by repeat (first|(with_reducible exact HR349.out)|(with_reducible refine ca ?_ _)|(with_reducible refine cb ?_ _)|(with_reducible refine cc ?_)|exact HR349.out))|(with_reducible refine ca ?_ _)|(with_reducible refine cb ?_ _)|(with_reducible refine cc ?_)))
                         (case aB=>exact (by repeat (first|(with_reducible first|exact HB.out|apply ba|apply bb|apply bc)|exact HB.out)))
                         (case aF=>exact (fun k_ hk=>⟨rh (rl (by (with_reducible repeat (first|apply ra|apply rb|apply rc));exact HO_7.out)) k_ hk,rh (rl (by (with_reducible repeat (first|apply ra|apply rb|apply rc));exact HO_8.out)) k_ hk,rh (rl (by (with_reducible repeat (first|apply ra|apply rb|apply rc));exact HO342.out)) k_ hk⟩))
                         (case aO=>exact (by (with_reducible repeat (first|apply ra|apply rb|apply rc));exact HO345.out))
                         (case aS=>exact (below_size (by repeat (first|(with_reducible first|exact HB.out|apply ba|apply bb|apply bc)|exact HB.out))))
                         (case aL=>have:=LMc77.out;omega)
                         intro v351 w93 ho hb hg hat
                         rw [← Ny350.out] at ho
                         have n0_:=A_ (rf (ok:=(fun k_=>nb k_ (.slice Ao20 x8_2.length co20)∧nb k_ (.slice Ao92 y340.length co92))) (by (with_reducible repeat (first|apply ra|apply rb|apply rc));exact HO_7.out) hg hat)
                         have n1_:=A_ (rf (ok:=(fun k_=>nb k_ (.slice Ao8 x7_1.length co8)∧nb k_ (.slice Ao92 y340.length co92))) (by (with_reducible repeat (first|apply ra|apply rb|apply rc));exact HO_8.out) hg hat)
                         have n2_:=A_ (rf (ok:=(fun k_=>nb k_ (.slice Ao8 x7_1.length co8)∧nb k_ (.slice Ao20 x8_2.length co20))) (by (with_reducible repeat (first|apply ra|apply rb|apply rc));exact HO342.out) hg hat)
                         have n3_:=A_ (hb)
                         have n4_:=A_ ((show Kd.C (Kd.int .i64) w93 Ao8 y333.length y333 from by rw [Ny333.out];exact Kd.C_take (m:=((ji70) : Int).toNat) ((rd_ (rf (ok:=(fun k_=>nb k_ (.slice Ao20 x8_2.length co20)∧nb k_ (.slice Ao92 y340.length co92))) (by (with_reducible repeat (first|apply ra|apply rb|apply rc));exact HO_7.out) hg hat)).2.2) KL83.out))
                         have n5_:=A_ ((show Kd.C (Kd.int .i64) w93 A84 y346.length y346 from by rw [Ny346.out,KA84.out];exact Kd.C_drop (m:=((ji70) : Int).toNat) (c:=co8) ((rd_ (rf (ok:=(fun k_=>nb k_ (.slice Ao20 x8_2.length co20)∧nb k_ (.slice Ao92 y340.length co92))) (by (with_reducible repeat (first|apply ra|apply rb|apply rc));exact HO_7.out) hg hat)).2.2) KL84.out ((rd_ (rf (ok:=(fun k_=>nb k_ (.slice Ao20 x8_2.length co20)∧nb k_ (.slice Ao92 y340.length co92))) (by (with_reducible repeat (first|apply ra|apply rb|apply rc));exact HO_7.out) hg hat)).2.1)))
                         have n6_:=A_ (ho)
                         clear HO_7
                         clear HO_8
                         clear HO342
                         clear HB
                         clear HR336
                         clear HR349
                         clear HO345
                         have HO_7:=n0_
                         have HO_8:=n1_
                         have HO342:=n2_
                         have HB:=n3_
                         have HR336:=n4_
                         have HR349:=n5_
                         have HO352:=n6_
                         clear n0_ n1_ n2_ n3_ n4_ n5_ n6_
                         clear ho hb hg hat
                         obtain ⟨Ao94,co94,eo94⟩:=Kd.R_slice HO352.out
                         (first|subst eo94|(injection eo94 with f1_ f2_ f3_;have f4_:=f1_.symm;have f5_:=f3_.symm;clear f1_ f2_ f3_;subst f4_;subst f5_))
                         refine hK.out _ _ trivial (fun hHeld=>?_)
                         clear hK K
                         refine norm_ (a':=?_) ?_ ?_
                         rotate_left
                         ·
                          show Act.put _ (some 187) _ = _
                          simp only [Act.put,sa,sb,sc,i64_w,i32_w]
                          rfl
                         refine one_ (i:=14) (N:=some 190) #[true,true,true,true,true,true,true,true,true,true,true,true,true,true,true,false,false,false,false,false] rfl rfl (one_of HT_.out (by kernel_rfl)) (by decide) (fun K hK=>?_)
                         refine goes_ Try.func11 (by kernel_rfl) rfl #[.slice Ao94 y350.length co94,.slice Ao20 x8_2.length co20,.int .i64 (wrap64 (Int.tdiv (wrap64 (t289 * 4)) 5))] (by rfl) rfl rfl (by (try simp only [List.map_toArray,List.map_cons,List.map_nil]);first|done|rfl|(simp only [List.length_drop,List.length_take];rfl)|((try rw [KY112.out]);(try rw [KY113.out]);(try rw [KY83.out]);(try rw [KY84.out]);(try rw [KY98.out]);(try rw [KY99.out]);rfl)) ?_
                         with_reducible refine (edit_Distance.calls kj52 _ _ y350 _ _ x8_2 (wrap64 (Int.tdiv (wrap64 (t289 * 4)) 5)) t353 t354 _ ?side1 ?side2 ?side3 ?side4 A78.out).mono ?_
                         (case side1=>repeat (first|exact (rd_ HO352.out).2.2|(with_reducible refine ca ?_ _)|(with_reducible refine cb ?_ _)|(with_reducible refine cc ?_)))
                         (case side2=>exact (rd_ HO352.out).2.1)
                         (case side3=>repeat (first|exact (rd_ HO_8.out).2.2|(with_reducible refine ca ?_ _)|(with_reducible refine cb ?_ _)|(with_reducible refine cc ?_)))
                         (case side4=>exact (rd_ HO_8.out).2.1)
                         rintro e w95 ⟨rfl,hb⟩
                         refine ⟨_,rfl,?_⟩
                         have n0_:=A_ (rw_ (by (with_reducible repeat (first|apply ra|apply rb|apply rc));exact HO_7.out) hb)
                         have n1_:=A_ (rw_ (by (with_reducible repeat (first|apply ra|apply rb|apply rc));exact HO_8.out) hb)
                         have n2_:=A_ (rw_ (by (with_reducible repeat (first|apply ra|apply rb|apply rc));exact HO342.out) hb)
                         have n3_:=A_ (rw_ (by (with_reducible repeat (first|apply ra|apply rb|apply rc));exact HO352.out) hb)
                         have n4_:=A_ (cl (by repeat (first|(with_reducible exact HR336.out)|(with_reducible refine ca ?_ _)|(with_reducible refine cb ?_ _)|(with_reducible refine cc ?_)|exact HR336.out)) hb)
                         have n5_:=A_ (cl (by repeat (first|(with_reducible exact HR349.out)|(with_reducible refine ca ?_ _)|(with_reducible refine cb ?_ _)|(with_reducible refine cc ?_)|exact HR349.out)) hb)
                         have n6_:=A_ (below_step (by repeat (first|(with_reducible first|exact HB.out|apply ba|apply bb|apply bc)|exact HB.out)) hb)
                         clear HO_7
                         clear HO_8
                         clear HO342
                         clear HO352
                         clear HR336
                         clear HR349
                         clear HB
                         have HO_7:=n0_
                         have HO_8:=n1_
                         have HO342:=n2_
                         have HO352:=n3_
                         have HR336:=n4_
                         have HR349:=n5_
                         have HB:=n6_
                         clear n0_ n1_ n2_ n3_ n4_ n5_ n6_
                         (try clear hb)
                         (try clear hb2)
                         (try clear hk)
                         (try clear hi)
                         refine hK.out _ _ trivial (fun hHeld=>?_)
                         clear hK K
                         refine norm_ (a':=?_) ?_ ?_
                         rotate_left
                         ·
                          show Act.put _ (some 190) _ = _
                          simp only [Act.put,sa,sb,sc,i64_w,i32_w]
                          rfl
                         refine pure_ (i:=15) (N:=some 175) (v:=?_) (a':=?_) #[true,true,true,true,true,true,true,true,true,true,true,true,true,true,true,true,false,false,false,false] rfl rfl (any_of HT_.out (by kernel_rfl)) (fun _ _ _ h=>h) (Or.inl ⟨by rfl,?_⟩) ?_ ?_
                         rotate_left
                         ·
                          intro w'
                          go_simp
                          with_reducible rfl
                         rotate_left
                         ·
                          simp only [Act.put,sa,sb,sc,i64_w,i32_w]
                          rfl
                         refine pure_ (i:=16) (N:=some 191) (v:=?_) (a':=?_) #[true,true,true,true,true,true,true,true,true,true,true,true,true,true,true,true,true,false,false,false] rfl rfl (any_of HT_.out (by kernel_rfl)) (fun _ _ _ h=>h) (Or.inl ⟨by rfl,?_⟩) ?_ ?_
                         rotate_left
                         ·
                          intro w'
                          go_simp
                          with_reducible rfl
                         rotate_left
                         ·
                          simp only [Act.put,sa,sb,sc,i64_w,i32_w]
                          rfl
                         refine pure_ (i:=17) (N:=some 192) (v:=?_) (a':=?_) #[true,true,true,true,true,true,true,true,true,true,true,true,true,true,true,true,true,true,false,false] rfl rfl (any_of HT_.out (by kernel_rfl)) (fun _ _ _ h=>h) (Or.inl ⟨by rfl,?_⟩) ?_ ?_
                         rotate_left
                         ·
                          intro w'
                          go_simp
                          with_reducible rfl
                         rotate_left
                         ·
                          simp only [Act.put,sa,sb,sc,i64_w,i32_w]
                          rfl
                         refine pure_ (i:=18) (N:=some 25) (v:=?_) (a':=?_) #[true,true,true,true,true,true,true,true,true,true,true,true,true,true,true,true,true,true,true,false] rfl rfl (any_of HT_.out (by kernel_rfl)) (fun _ _ _ h=>h) (Or.inl ⟨by rfl,?_⟩) ?_ ?_
                         rotate_left
                         ·
                          intro w'
                          go_simp
                          with_reducible rfl
                         rotate_left
                         ·
                          simp only [Act.put,sa,sb,sc,i64_w,i32_w]
                          rfl
                         refine pure_ (i:=19) (N:=some 26) (v:=?_) (a':=?_) #[true,true,true,true,true,true,true,true,true,true,true,true,true,true,true,true,true,true,true,true] rfl rfl (any_of HT_.out (by kernel_rfl)) (fun _ _ _ h=>h) (Or.inl ⟨by rfl,?_⟩) ?_ ?_
                         rotate_left
                         ·
                          intro w'
                          go_simp
                          with_reducible rfl
                         rotate_left
                         ·
                          simp only [Act.put,sa,sb,sc,i64_w,i32_w]
                          rfl
                         refine done_ (done_of HT_.out (by kernel_rfl)) ?_
                         try go_wp2_with (first|(go_at_call 13;(with_reducible refine (shapesearchlaw15_awake.calls kj52  t355 _ A81.out).mono ?_);rintro e w96 ⟨rfl,hb⟩;have n0_:=A_ (rw_ (by (with_reducible repeat (first|apply ra|apply rb|apply rc));exact HO_7.out) hb);have n1_:=A_ (rw_ (by (with_reducible repeat (first|apply ra|apply rb|apply rc));exact HO_8.out) hb);have n2_:=A_ (rw_ (by (with_reducible repeat (first|apply ra|apply rb|apply rc));exact HO342.out) hb);have n3_:=A_ (rw_ (by (with_reducible repeat (first|apply ra|apply rb|apply rc));exact HO352.out) hb);have n4_:=A_ (cl (by repeat (first|(with_reducible exact HR336.out)|(with_reducible refine ca ?_ _)|(with_reducible refine cb ?_ _)|(with_reducible refine cc ?_)|exact HR336.out)) hb);have n5_:=A_ (cl (by repeat (first|(with_reducible exact HR349.out)|(with_reducible refine ca ?_ _)|(with_reducible refine cb ?_ _)|(with_reducible refine cc ?_)|exact HR349.out)) hb);have n6_:=A_ (below_step (by repeat (first|(with_reducible first|exact HB.out|apply ba|apply bb|apply bc)|exact HB.out)) hb);clear HO_7;clear HO_8;clear HO342;clear HO352;clear HR336;clear HR349;clear HB;have HO_7:=n0_;have HO_8:=n1_;have HO342:=n2_;have HO352:=n3_;have HR336:=n4_;have HR349:=n5_;have HB:=n6_;clear n0_ n1_ n2_ n3_ n4_ n5_ n6_;(try clear hb);(try clear hb2);(try clear hk);(try clear hi)))
                         go_ret
                         exact ⟨by first|rfl|(simp [errW_none,errW_some] <;> rfl)|(simp only [← hji70];first|rfl|(simp [errW_none,errW_some] <;> rfl))|(simp [*,errW_none,errW_some] <;> rfl),by repeat (first|(with_reducible first|exact HB.out|apply ba|apply bb|apply bc)|exact HB.out)⟩
                        ·
                         rw [if_neg c80] at H
                         have c80b0 : (t323 == t353) = false:=beq_eq_false_iff_ne.mpr c80
                         have c80b1 : (t323 != t353) = true:=bne_iff_ne.mpr c80
                         obtain rfl:=Option.some.inj H
                         try go_wp2
                         have n0_:=A_ (Kd.R_drew HO_7.out)
                         have n1_:=A_ (Kd.R_drew HO_8.out)
                         have n2_:=A_ (below_drew1 HB.out)
                         clear HO_7
                         clear HO_8
                         clear HB
                         have HO_7:=n0_
                         have HO_8:=n1_
                         have HB:=n2_
                         clear n0_ n1_ n2_
                         have q98 : ((ji70) : Int) ≤ ((x7_1.length : Int) : Int):=of_decide_eq_true (by first|(with_reducible assumption)|assumption)
                         obtain ⟨i098,hi098,_,hsz98,_⟩:=info_parts info3
                         have hroom98 : x7_1.length ≤ co8:=(rd_ HO_7.out).2.1
                         have hC98 : Kd.C (Kd.int .i64) _ Ao8 x7_1.length x7_1:=(rd_ HO_7.out).2.2
                         have hcut98:=cut_to (P:=Try.prog) 22 3 .i64 Try.underlying22 hi098 Ao8 x7_1.length co8 (ji70) (of_decide_eq_true (by first|(with_reducible assumption)|assumption)) q98 hroom98
                         have hr98:=Kd.C_take (m:=((ji70) : Int).toNat) hC98 (by omega)
                         have hy98 : y333.length = ((ji70) : Int).toNat:=(by rw [Ny333.out,List.length_take];omega)
                         rw [← Ny333.out] at hr98
                         rw [← hy98] at hcut98
                         have HR336:=A_ hr98
                         have HC336:=A_ (show y333.length ≤ co8 from by omega)
                         clear hr98 hC98 hroom98 hi098 hsz98
                         have KY98:=A_ hy98
                         clear hy98
                         have KL98:=A_ (show ((ji70) : Int).toNat ≤ x7_1.length from by omega)
                         replace q98:=eq_true q98
                         have q99 : ((ji70) : Int) ≤ ((x7_1.length : Int) : Int):=of_decide_eq_true (by first|(with_reducible assumption)|assumption)
                         obtain ⟨i099,hi099,_,hsz99,_⟩:=info_parts info3
                         have hroom99 : x7_1.length ≤ co8:=(rd_ HO_7.out).2.1
                         have hC99 : Kd.C (Kd.int .i64) _ Ao8 x7_1.length x7_1:=(rd_ HO_7.out).2.2
                         have q099 : (0 : Int) ≤ ((ji70) : Int):=of_decide_eq_true (by first|(with_reducible assumption)|assumption)
                         have hcut99:=cut_from (P:=Try.prog) 22 3 .i64 Try.underlying22 hi099 1 hsz99 Ao8 x7_1.length co8 (ji70) q099 q99
                         have hr99:=Kd.C_drop (m:=((ji70) : Int).toNat) (c:=co8) hC99 (by omega) hroom99
                         obtain ⟨A99,hA99⟩ : ∃ A1,A1 = (if co8 = ((ji70) : Int).toNat then Ao8 else (Ao8 : Option Addr).map (·.add (((ji70) : Int).toNat * 1))):=⟨_,rfl⟩
                         obtain ⟨c99,hc99⟩ : ∃ c1,c1 = co8 - ((ji70) : Int).toNat:=⟨_,rfl⟩
                         have hy99 : y346.length = x7_1.length - ((ji70) : Int).toNat:=(by rw [Ny346.out,List.length_drop] <;> omega)
                         rw [show (x7_1).drop ((ji70) : Int).toNat = y346 from Ny346.out.symm] at hr99
                         replace hr99 : Kd.C (Kd.int .i64) _ A99 y346.length y346:=(by rw [hA99];exact hr99)
                         rw [← hy99,← hA99,← hc99] at hcut99
                         have HR349:=A_ hr99
                         have HC349:=A_ (show y346.length ≤ c99 from by rw [hy99,hc99];exact Nat.sub_le_sub_right hroom99 _)
                         clear hr99 hC99 hroom99 hi099 hsz99 hc99
                         have KY99:=A_ hy99
                         have KA99:=A_ hA99
                         clear hy99 hA99
                         have KL99:=A_ (show ((ji70) : Int).toNat ≤ x7_1.length from by omega)
                         replace q99:=eq_true q99
                         refine start_ (n:=20) (S:=fun w'=>True) (ds:=[]) #[false,false,false,false,false,false,false,false,false,false,false,false,false,false,false,false,false,false,false,false] (by kernel_rfl) rfl rfl trivial (fun hHeld=>?_);refine with_tabW shapesearchlaw15_EditMoves.tab34 shapesearchlaw15_EditMoves.bits34 (fun HT_ HW_=>?_)
                         generalize wc.drew = w97 at HO_7 HO_8 HB HR336 HR349 hHeld ⊢
                         refine pure_ (i:=1) (N:=some 177) (v:=?_) (a':=?_) #[false,true,false,false,false,false,false,false,false,false,false,false,false,false,false,false,false,false,false,false] rfl rfl (any_of HT_.out (by kernel_rfl)) (fun _ _ _ h=>h) (Or.inl ⟨by rfl,?_⟩) ?_ ?_
                         rotate_left
                         ·
                          intro w'
                          go_simp
                          with_reducible rfl
                         rotate_left
                         ·
                          simp only [Act.put,sa,sb,sc,i64_w,i32_w]
                          rfl
                         refine pure_ (i:=2) (N:=some 178) (v:=?_) (a':=?_) #[false,true,true,false,false,false,false,false,false,false,false,false,false,false,false,false,false,false,false,false] rfl rfl (any_of HT_.out (by kernel_rfl)) (fun _ _ _ h=>h) (Or.inl ⟨by rfl,?_⟩) ?_ ?_
                         rotate_left
                         ·
                          intro w'
                          go_simp
                          with_reducible rfl
                         rotate_left
                         ·
                          simp only [Act.put,sa,sb,sc,i64_w,i32_w]
                          rfl
                         refine pure_ (i:=3) (N:=some 179) (v:=?_) (a':=?_) #[false,true,true,true,false,false,false,false,false,false,false,false,false,false,false,false,false,false,false,false] rfl rfl (any_of HT_.out (by kernel_rfl)) (fun _ _ _ h=>h) (Or.inl ⟨by rfl,?_⟩) ?_ ?_
                         rotate_left
                         ·
                          intro w'
                          go_simp
                          with_reducible rfl
                         rotate_left
                         ·
                          simp only [Act.put,sa,sb,sc,i64_w,i32_w]
                          rfl
                         refine pure_ (i:=5) (N:=some 181) (v:=?_) (a':=?_) #[false,true,true,true,false,true,false,false,false,false,false,false,false,false,false,false,false,false,false,false] rfl rfl (any_of HT_.out (by kernel_rfl)) (fun _ _ _ h=>h) (Or.inl ⟨by rfl,?_⟩) ?_ ?_
                         rotate_left
                         ·
                          intro w'
                          go_simp
                          with_reducible rfl
                         rotate_left
                         ·
                          simp only [Act.put,sa,sb,sc,i64_w,i32_w]
                          rfl
                         refine pure_ (i:=8) (N:=some 184) (v:=?_) (a':=?_) #[false,true,true,true,false,true,false,false,true,false,false,false,false,false,false,false,false,false,false,false] rfl rfl (any_of HT_.out (by kernel_rfl)) (fun _ _ _ h=>h) (Or.inl ⟨by rfl,?_⟩) ?_ ?_
                         rotate_left
                         ·
                          intro w'
                          go_simp
                          with_reducible rfl
                         rotate_left
                         ·
                          simp only [Act.put,sa,sb,sc,i64_w,i32_w]
                          rfl
                         refine pure_ (i:=9) (N:=some 185) (v:=?_) (a':=?_) #[false,true,true,true,false,true,false,false,true,true,false,false,false,false,false,false,false,false,false,false] rfl rfl (any_of HT_.out (by kernel_rfl)) (fun _ _ _ h=>h) (Or.inl ⟨by rfl,?_⟩) ?_ ?_
                         rotate_left
                         ·
                          intro w'
                          go_simp
                          with_reducible rfl
                         rotate_left
                         ·
                          simp only [Act.put,sa,sb,sc,i64_w,i32_w]
                          rfl
                         refine pure_ (i:=10) (N:=some 186) (v:=?_) (a':=?_) #[false,true,true,true,false,true,false,false,true,true,true,false,false,false,false,false,false,false,false,false] rfl rfl (any_of HT_.out (by kernel_rfl)) (fun _ _ _ h=>h) (Or.inl ⟨by rfl,?_⟩) ?_ ?_
                         rotate_left
                         ·
                          intro w'
                          go_simp
                          with_reducible rfl
                         rotate_left
                         ·
                          simp only [Act.put,sa,sb,sc,i64_w,i32_w]
                          rfl
                         refine pure_ (i:=12) (N:=some 188) (v:=?_) (a':=?_) #[false,true,true,true,false,true,false,false,true,true,true,false,true,false,false,false,false,false,false,false] rfl rfl (any_of HT_.out (by kernel_rfl)) (fun _ _ _ h=>h) (Or.inl ⟨by rfl,?_⟩) ?_ ?_
                         rotate_left
                         ·
                          intro w'
                          go_simp
                          with_reducible rfl
                         rotate_left
                         ·
                          simp only [Act.put,sa,sb,sc,i64_w,i32_w]
                          rfl
                         refine pure_ (i:=13) (N:=some 189) (v:=?_) (a':=?_) #[false,true,true,true,false,true,false,false,true,true,true,false,true,true,false,false,false,false,false,false] rfl rfl (any_of HT_.out (by kernel_rfl)) (fun _ _ _ h=>h) (Or.inl ⟨by rfl,?_⟩) ?_ ?_
                         rotate_left
                         ·
                          intro w'
                          go_simp
                          with_reducible rfl
                         rotate_left
                         ·
                          simp only [Act.put,sa,sb,sc,i64_w,i32_w]
                          rfl
                         refine join_ (σ:=Value × Value × Value) 8 #[true,true,true,true,true,true,true,false,true,true,true,false,true,true,false,false,false,false,false,false] (fun s_=>[(176,s_.1),(180,s_.2.1),(182,s_.2.2)]) (fun s_ w'=>(Kd.R (Kd.int .i64) 3 w' w.heap.size (fun k_=>some k_≠(s_.2.2 : Value).ownBlock∧nb k_ (.slice Ao8 x7_1.length co8)∧nb k_ (.slice Ao20 x8_2.length co20)) s_.2.1 y337)∧(Kd.R (Kd.int .i64) 3 w' w.heap.size (fun k_=>some k_≠(s_.2.1 : Value).ownBlock∧nb k_ (.slice Ao8 x7_1.length co8)∧nb k_ (.slice Ao20 x8_2.length co20)) s_.2.2 y340)∧(Kd.R (Kd.int .i64) 3 w' w.heap.size (fun k_=>some k_≠(s_.2.1 : Value).ownBlock∧some k_≠(s_.2.2 : Value).ownBlock∧nb k_ (.slice Ao20 x8_2.length co20)) (.slice Ao8 x7_1.length co8) x7_1)∧(Kd.R (Kd.int .i64) 3 w' w.heap.size (fun k_=>some k_≠(s_.2.1 : Value).ownBlock∧some k_≠(s_.2.2 : Value).ownBlock∧nb k_ (.slice Ao8 x7_1.length co8)) (.slice Ao20 x8_2.length co20) x8_2)∧(Below w.heap.size w w')) ?_ ?_
                         rotate_left
                         ·
                          intro hCont
                          refine two_ (i:=0) (j:=6) (Ni:=some 176) (Nj:=some 182) #[true,true,true,true,false,true,false,false,true,true,true,false,true,true,false,false,false,false,false,false] #[false,true,true,true,false,true,true,false,true,true,true,false,true,true,false,false,false,false,false,false] rfl rfl rfl rfl (two_of HT_.out (by kernel_rfl)) (by decide) (by decide) (fun K hK=>?_) (fun K hK=>?_)
                          ·
                           skip
                           refine Kd.R_lit_step (Kd.int .i64) _ 3 ?hg (N:=176) ?hd (xs:=([] : List Int)) (inner:=[]) (ok:=fun _=>True) (okp:=fun _=>True) ?hr ?hp (fun _ hk=>hk) trivial (Below.refl _ _) (Nat.le_refl _) (by simp) ?_;(case hd=>rfl);(case hg=>rfl);(case hr=>first|(go_simp;done)|(go_simp;rfl));(case hp=>exact (Reps.none _ _))
                           intro v331 w100 ho101 hb hg_ hnew_
                           clear hg_ hnew_
                           (first|rw [← Ny330.out] at ho101|(simp only [Int.reduceToNat] at ho101;rw [← Ny330.out] at ho101))
                           have n0_:=A_ (re (by (with_reducible repeat (first|apply ra|apply rb|apply rc));exact HO_7.out) (rs ho101) hb)
                           have n1_:=A_ (re (by (with_reducible repeat (first|apply ra|apply rb|apply rc));exact HO_8.out) (rs ho101) hb)
                           have n2_:=A_ (Kd.R_lower (rn (rn ho101 (rl (by (with_reducible repeat (first|apply ra|apply rb|apply rc));exact HO_7.out))) (rl (by (with_reducible repeat (first|apply ra|apply rb|apply rc));exact HO_8.out))) (below_size (by repeat (first|(with_reducible first|exact HB.out|apply ba|apply bb|apply bc)|exact HB.out))))
                           have n3_:=A_ (cl (by repeat (first|(with_reducible exact HR336.out)|(with_reducible refine ca ?_ _)|(with_reducible refine cb ?_ _)|(with_reducible refine cc ?_)|exact HR336.out)) hb)
                           have n4_:=A_ (cl (by repeat (first|(with_reducible exact HR349.out)|(with_reducible refine ca ?_ _)|(with_reducible refine cb ?_ _)|(with_reducible refine cc ?_)|exact HR349.out)) hb)
                           have n5_:=A_ (below_step (by repeat (first|(with_reducible first|exact HB.out|apply ba|apply bb|apply bc)|exact HB.out)) hb)
                           clear HO_7
                           clear HO_8
                           clear HR336
                           clear HR349
                           clear HB
                           have HO_7:=n0_
                           have HO_8:=n1_
                           have HO332:=n2_
                           have HR336:=n3_
                           have HR349:=n4_
                           have HB:=n5_
                           clear n0_ n1_ n2_ n3_ n4_ n5_
                           clear hb ho101
                           refine hK.out _ _ trivial (fun hHeld=>?_)
                           clear hK K
                           refine norm_ (a':=?_) ?_ ?_
                           rotate_left
                           ·
                            show Act.put _ (some 176) _ = _
                            simp only [Act.put,sa,sb,sc,i64_w,i32_w]
                            rfl
                           refine two_ (i:=4) (j:=6) (Ni:=some 180) (Nj:=some 182) #[true,true,true,true,true,true,false,false,true,true,true,false,true,true,false,false,false,false,false,false] #[true,true,true,true,false,true,true,false,true,true,true,false,true,true,false,false,false,false,false,false] rfl rfl rfl rfl (two_of HT_.out (by kernel_rfl)) (by decide) (by decide) (fun K hK=>?_) (fun K hK=>?_)
                           ·
                            skip
                            refine Kd.R_append_rows_step (Kd.int .i64) (w0:=w) w.heap.size (by rfl) (.tmp 176) (.tmp 179) 22 3 (.int .i64 0) 8 rfl Try.underlying22 info3 rfl (by decide) (by omega) v331 y330 y333 _ _ _ (fun k_=>nb k_ (.slice Ao8 x7_1.length co8)∧nb k_ (.slice Ao20 x8_2.length co20)) (fun _=>False) rfl rfl ?aO ?aR (fun _ _ h=>h) (fun _ h=>h.elim) ?aF ?aB ?aS ?aL ?_
                            (case aR=>repeat (first|exact (by repeat (first|(with_reducible exact HR336.out)|(with_reducible refine ca ?_ _)|(with_reducible refine cb ?_ _)|(with_reducible refine cc ?_)|exact HR336.out))|(with_reducible refine ca ?_ _)|(with_reducible refine cb ?_ _)|(with_reducible refine cc ?_)))
                            (case aB=>exact (by repeat (first|(with_reducible first|exact HB.out|apply ba|apply bb|apply bc)|exact HB.out)))
                            (case aF=>exact (fun k_ hk=>⟨rh (rl (by (with_reducible repeat (first|apply ra|apply rb|apply rc));exact HO_7.out)) k_ hk,rh (rl (by (with_reducible repeat (first|apply ra|apply rb|apply rc));exact HO_8.out)) k_ hk⟩))
                            (case aO=>exact (by (with_reducible repeat (first|apply ra|apply rb|apply rc));exact rm HO332.out (fun _ hk=>⟨hk.1.2,hk.2⟩)))
                            (case aS=>exact (below_size (by repeat (first|(with_reducible first|exact HB.out|apply ba|apply bb|apply bc)|exact HB.out))))
                            (case aL=>have:=LMc73.out;omega)
                            intro v338 w102 ho hb hg hat
                            rw [← Ny337.out] at ho
                            have n0_:=A_ (rf (ok:=(fun k_=>nb k_ (.slice Ao20 x8_2.length co20))) (by (with_reducible repeat (first|apply ra|apply rb|apply rc));exact HO_7.out) hg hat)
                            have n1_:=A_ (rf (ok:=(fun k_=>nb k_ (.slice Ao8 x7_1.length co8))) (by (with_reducible repeat (first|apply ra|apply rb|apply rc));exact HO_8.out) hg hat)
                            have n2_:=A_ (hb)
                            have n3_:=A_ ((show Kd.C (Kd.int .i64) w102 Ao8 y333.length y333 from by rw [Ny333.out];exact Kd.C_take (m:=((ji70) : Int).toNat) ((rd_ (rf (ok:=(fun k_=>nb k_ (.slice Ao20 x8_2.length co20))) (by (with_reducible repeat (first|apply ra|apply rb|apply rc));exact HO_7.out) hg hat)).2.2) KL98.out))
                            have n4_:=A_ ((show Kd.C (Kd.int .i64) w102 A99 y346.length y346 from by rw [Ny346.out,KA99.out];exact Kd.C_drop (m:=((ji70) : Int).toNat) (c:=co8) ((rd_ (rf (ok:=(fun k_=>nb k_ (.slice Ao20 x8_2.length co20))) (by (with_reducible repeat (first|apply ra|apply rb|apply rc));exact HO_7.out) hg hat)).2.2) KL99.out ((rd_ (rf (ok:=(fun k_=>nb k_ (.slice Ao20 x8_2.length co20))) (by (with_reducible repeat (first|apply ra|apply rb|apply rc));exact HO_7.out) hg hat)).2.1)))
                            have n5_:=A_ (ho)
                            clear HO_7
                            clear HO_8
                            clear HB
                            clear HR336
                            clear HR349
                            clear HO332
                            have HO_7:=n0_
                            have HO_8:=n1_
                            have HB:=n2_
                            have HR336:=n3_
                            have HR349:=n4_
                            have HO339:=n5_
                            clear n0_ n1_ n2_ n3_ n4_ n5_
                            clear ho hb hg hat
                            refine hK.out _ _ trivial (fun hHeld=>?_)
                            clear hK K
                            refine norm_ (a':=?_) ?_ ?_
                            rotate_left
                            ·
                             show Act.put _ (some 180) _ = _
                             simp only [Act.put,sa,sb,sc,i64_w,i32_w]
                             rfl
                            refine one_ (i:=6) (N:=some 182) #[true,true,true,true,true,true,true,false,true,true,true,false,true,true,false,false,false,false,false,false] rfl rfl (one_of HT_.out (by kernel_rfl)) (by decide) (fun K hK=>?_)
                            refine Kd.R_lit_step (Kd.int .i64) _ 3 ?hg (N:=182) ?hd (xs:=([(wrap64 (Int.tdiv (wrap64 (t289 * 4)) 5))] : List Int)) (inner:=[.int .i64 (wrap64 (Int.tdiv (wrap64 (t289 * 4)) 5))]) (ok:=fun _=>True) (okp:=fun _=>True) ?hr ?hp (fun _ hk=>hk) trivial (Below.refl _ _) (Nat.le_refl _) (by simp) ?_;(case hd=>rfl);(case hg=>rfl);(case hr=>first|(go_simp;done)|(go_simp;rfl));(case hp=>exact (Reps.one (show Kd.M (Kd.int .i64) _ _ _ (wrap64 (Int.tdiv (wrap64 (t289 * 4)) 5)) [.int .i64 (wrap64 (Int.tdiv (wrap64 (t289 * 4)) 5))] from rfl) (Reps.none _ _)))
                            intro v341 w103 ho104 hb hg_ hnew_
                            clear hg_ hnew_
                            (first|rw [← Ny340.out] at ho104|(simp only [Int.reduceToNat] at ho104;rw [← Ny340.out] at ho104))
                            have n0_:=A_ (re (by (with_reducible repeat (first|apply ra|apply rb|apply rc));exact HO_7.out) (rs ho104) hb)
                            have n1_:=A_ (re (by (with_reducible repeat (first|apply ra|apply rb|apply rc));exact HO_8.out) (rs ho104) hb)
                            have n2_:=A_ (re (by (with_reducible repeat (first|apply ra|apply rb|apply rc));exact HO339.out) (rs ho104) hb)
                            have n3_:=A_ (Kd.R_lower (rn (rn (rn ho104 (rl (by (with_reducible repeat (first|apply ra|apply rb|apply rc));exact HO_7.out))) (rl (by (with_reducible repeat (first|apply ra|apply rb|apply rc));exact HO_8.out))) (rl (by (with_reducible repeat (first|apply ra|apply rb|apply rc));exact HO339.out))) (below_size (by repeat (first|(with_reducible first|exact HB.out|apply ba|apply bb|apply bc)|exact HB.out))))
                            have n4_:=A_ (cl (by repeat (first|(with_reducible exact HR336.out)|(with_reducible refine ca ?_ _)|(with_reducible refine cb ?_ _)|(with_reducible refine cc ?_)|exact HR336.out)) hb)
                            have n5_:=A_ (cl (by repeat (first|(with_reducible exact HR349.out)|(with_reducible refine ca ?_ _)|(with_reducible refine cb ?_ _)|(with_reducible refine cc ?_)|exact HR349.out)) hb)
                            have n6_:=A_ (below_step (by repeat (first|(with_reducible first|exact HB.out|apply ba|apply bb|apply bc)|exact HB.out)) hb)
                            clear HO_7
                            clear HO_8
                            clear HO339
                            clear HR336
                            clear HR349
                            clear HB
                            have HO_7:=n0_
                            have HO_8:=n1_
                            have HO339:=n2_
                            have HO342:=n3_
                            have HR336:=n4_
                            have HR349:=n5_
                            have HB:=n6_
                            clear n0_ n1_ n2_ n3_ n4_ n5_ n6_
                            clear hb ho104
                            refine hK.out _ _ trivial (fun hHeld=>?_)
                            clear hK K
                            refine norm_ (a':=?_) ?_ ?_
                            rotate_left
                            ·
                             show Act.put _ (some 182) _ = _
                             simp only [Act.put,sa,sb,sc,i64_w,i32_w]
                             rfl
                            exact norm_ (by simp only [putAll,Act.put,List.setIfInBounds_toArray,List.set_cons_zero,List.set_cons_succ]) (hCont (v331,v338,v341) _ ⟨(by (with_reducible repeat (first|apply ra|apply rb|apply rc));exact rm HO339.out (fun _ hk=>⟨hk.2,⟨hk.1.1,hk.1.2⟩⟩)),(by (with_reducible repeat (first|apply ra|apply rb|apply rc));exact rm HO342.out (fun _ hk=>⟨hk.2,⟨hk.1.1.2,hk.1.2⟩⟩)),(by (with_reducible repeat (first|apply ra|apply rb|apply rc));exact rm HO_7.out (fun _ hk=>⟨hk.1.2,⟨hk.2,hk.1.1⟩⟩)),(by (with_reducible repeat (first|apply ra|apply rb|apply rc));exact rm HO_8.out (fun _ hk=>⟨hk.1.2,⟨hk.2,hk.1.1⟩⟩)),(by repeat (first|(with_reducible first|exact HB.out|apply ba|apply bb|apply bc)|exact HB.out))⟩)
                           ·
                            skip
                            refine Kd.R_lit_step (Kd.int .i64) _ 3 ?hg (N:=182) ?hd (xs:=([(wrap64 (Int.tdiv (wrap64 (t289 * 4)) 5))] : List Int)) (inner:=[.int .i64 (wrap64 (Int.tdiv (wrap64 (t289 * 4)) 5))]) (ok:=fun _=>True) (okp:=fun _=>True) ?hr ?hp (fun _ hk=>hk) trivial (Below.refl _ _) (Nat.le_refl _) (by simp) ?_;(case hd=>rfl);(case hg=>rfl);(case hr=>first|(go_simp;done)|(go_simp;rfl));(case hp=>exact (Reps.one (show Kd.M (Kd.int .i64) _ _ _ (wrap64 (Int.tdiv (wrap64 (t289 * 4)) 5)) [.int .i64 (wrap64 (Int.tdiv (wrap64 (t289 * 4)) 5))] from rfl) (Reps.none _ _)))
                            intro v341 w102 ho103 hb hg_ hnew_
                            clear hg_ hnew_
                            (first|rw [← Ny340.out] at ho103|(simp only [Int.reduceToNat] at ho103;rw [← Ny340.out] at ho103))
                            have n0_:=A_ (re (by (with_reducible repeat (first|apply ra|apply rb|apply rc));exact HO_7.out) (rs ho103) hb)
                            have n1_:=A_ (re (by (with_reducible repeat (first|apply ra|apply rb|apply rc));exact HO_8.out) (rs ho103) hb)
                            have n2_:=A_ (re (by (with_reducible repeat (first|apply ra|apply rb|apply rc));exact HO332.out) (rs ho103) hb)
                            have n3_:=A_ (Kd.R_lower (rn (rn (rn ho103 (rl (by (with_reducible repeat (first|apply ra|apply rb|apply rc));exact HO_7.out))) (rl (by (with_reducible repeat (first|apply ra|apply rb|apply rc));exact HO_8.out))) (rl (by (with_reducible repeat (first|apply ra|apply rb|apply rc));exact HO332.out))) (below_size (by repeat (first|(with_reducible first|exact HB.out|apply ba|apply bb|apply bc)|exact HB.out))))
                            have n4_:=A_ (cl (by repeat (first|(with_reducible exact HR336.out)|(with_reducible refine ca ?_ _)|(with_reducible refine cb ?_ _)|(with_reducible refine cc ?_)|exact HR336.out)) hb)
                            have n5_:=A_ (cl (by repeat (first|(with_reducible exact HR349.out)|(with_reducible refine ca ?_ _)|(with_reducible refine cb ?_ _)|(with_reducible refine cc ?_)|exact HR349.out)) hb)
                            have n6_:=A_ (below_step (by repeat (first|(with_reducible first|exact HB.out|apply ba|apply bb|apply bc)|exact HB.out)) hb)
                            clear HO_7
                            clear HO_8
                            clear HO332
                            clear HR336
                            clear HR349
                            clear HB
                            have HO_7:=n0_
                            have HO_8:=n1_
                            have HO332:=n2_
                            have HO342:=n3_
                            have HR336:=n4_
                            have HR349:=n5_
                            have HB:=n6_
                            clear n0_ n1_ n2_ n3_ n4_ n5_ n6_
                            clear hb ho103
                            refine hK.out _ _ trivial (fun hHeld=>?_)
                            clear hK K
                            refine norm_ (a':=?_) ?_ ?_
                            rotate_left
                            ·
                             show Act.put _ (some 182) _ = _
                             simp only [Act.put,sa,sb,sc,i64_w,i32_w]
                             rfl
                            refine one_ (i:=4) (N:=some 180) #[true,true,true,true,true,true,true,false,true,true,true,false,true,true,false,false,false,false,false,false] rfl rfl (one_of HT_.out (by kernel_rfl)) (by decide) (fun K hK=>?_)
                            refine Kd.R_append_rows_step (Kd.int .i64) (w0:=w) w.heap.size (by rfl) (.tmp 176) (.tmp 179) 22 3 (.int .i64 0) 8 rfl Try.underlying22 info3 rfl (by decide) (by omega) v331 y330 y333 _ _ _ (fun k_=>nb k_ (.slice Ao8 x7_1.length co8)∧nb k_ (.slice Ao20 x8_2.length co20)∧nb k_ v341) (fun _=>False) rfl rfl ?aO ?aR (fun _ _ h=>h) (fun _ h=>h.elim) ?aF ?aB ?aS ?aL ?_
                            (case aR=>repeat (first|exact (by repeat (first|(with_reducible exact HR336.out)|(with_reducible refine ca ?_ _)|(with_reducible refine cb ?_ _)|(with_reducible refine cc ?_)|exact HR336.out))|(with_reducible refine ca ?_ _)|(with_reducible refine cb ?_ _)|(with_reducible refine cc ?_)))
                            (case aB=>exact (by repeat (first|(with_reducible first|exact HB.out|apply ba|apply bb|apply bc)|exact HB.out)))
                            (case aF=>exact (fun k_ hk=>⟨rh (rl (by (with_reducible repeat (first|apply ra|apply rb|apply rc));exact HO_7.out)) k_ hk,rh (rl (by (with_reducible repeat (first|apply ra|apply rb|apply rc));exact HO_8.out)) k_ hk,rh (rl (by (with_reducible repeat (first|apply ra|apply rb|apply rc));exact HO342.out)) k_ hk⟩))
                            (case aO=>exact (by (with_reducible repeat (first|apply ra|apply rb|apply rc));exact rm HO332.out (fun _ hk=>⟨hk.1.1.2,⟨hk.1.2,hk.2⟩⟩)))
                            (case aS=>exact (below_size (by repeat (first|(with_reducible first|exact HB.out|apply ba|apply bb|apply bc)|exact HB.out))))
                            (case aL=>have:=LMc73.out;omega)
                            intro v338 w104 ho hb hg hat
                            rw [← Ny337.out] at ho
                            have n0_:=A_ (rf (ok:=(fun k_=>nb k_ (.slice Ao20 x8_2.length co20)∧nb k_ v341)) (by (with_reducible repeat (first|apply ra|apply rb|apply rc));exact rm HO_7.out (fun _ hk=>⟨⟨hk.1.1,hk.2⟩,hk.1.2⟩)) hg hat)
                            have n1_:=A_ (rf (ok:=(fun k_=>nb k_ (.slice Ao8 x7_1.length co8)∧nb k_ v341)) (by (with_reducible repeat (first|apply ra|apply rb|apply rc));exact rm HO_8.out (fun _ hk=>⟨⟨hk.1.1,hk.2⟩,hk.1.2⟩)) hg hat)
                            have n2_:=A_ (rf (ok:=(fun k_=>nb k_ (.slice Ao8 x7_1.length co8)∧nb k_ (.slice Ao20 x8_2.length co20))) (by (with_reducible repeat (first|apply ra|apply rb|apply rc));exact rm HO342.out (fun _ hk=>⟨⟨hk.1.1.2,hk.1.2⟩,hk.2⟩)) hg hat)
                            have n3_:=A_ (hb)
                            have n4_:=A_ ((show Kd.C (Kd.int .i64) w104 Ao8 y333.length y333 from by rw [Ny333.out];exact Kd.C_take (m:=((ji70) : Int).toNat) ((rd_ (rf (ok:=(fun k_=>nb k_ (.slice Ao20 x8_2.length co20)∧nb k_ v341)) (by (with_reducible repeat (first|apply ra|apply rb|apply rc));exact rm HO_7.out (fun _ hk=>⟨⟨hk.1.1,hk.2⟩,hk.1.2⟩)) hg hat)).2.2) KL98.out))
                            have n5_:=A_ ((show Kd.C (Kd.int .i64) w104 A99 y346.length y346 from by rw [Ny346.out,KA99.out];exact Kd.C_drop (m:=((ji70) : Int).toNat) (c:=co8) ((rd_ (rf (ok:=(fun k_=>nb k_ (.slice Ao20 x8_2.length co20)∧nb k_ v341)) (by (with_reducible repeat (first|apply ra|apply rb|apply rc));exact rm HO_7.out (fun _ hk=>⟨⟨hk.1.1,hk.2⟩,hk.1.2⟩)) hg hat)).2.2) KL99.out ((rd_ (rf (ok:=(fun k_=>nb k_ (.slice Ao20 x8_2.length co20)∧nb k_ v341)) (by (with_reducible repeat (first|apply ra|apply rb|apply rc));exact rm HO_7.out (fun _ hk=>⟨⟨hk.1.1,hk.2⟩,hk.1.2⟩)) hg hat)).2.1)))
                            have n6_:=A_ (ho)
                            clear HO_7
                            clear HO_8
                            clear HO342
                            clear HB
                            clear HR336
                            clear HR349
                            clear HO332
                            have HO_7:=n0_
                            have HO_8:=n1_
                            have HO342:=n2_
                            have HB:=n3_
                            have HR336:=n4_
                            have HR349:=n5_
                            have HO339:=n6_
                            clear n0_ n1_ n2_ n3_ n4_ n5_ n6_
                            clear ho hb hg hat
                            refine hK.out _ _ trivial (fun hHeld=>?_)
                            clear hK K
                            refine norm_ (a':=?_) ?_ ?_
                            rotate_left
                            ·
                             show Act.put _ (some 180) _ = _
                             simp only [Act.put,sa,sb,sc,i64_w,i32_w]
                             rfl
                            exact norm_ (by simp only [putAll,Act.put,List.setIfInBounds_toArray,List.set_cons_zero,List.set_cons_succ]) (hCont (v331,v338,v341) _ ⟨(by (with_reducible repeat (first|apply ra|apply rb|apply rc));exact rm HO339.out (fun _ hk=>⟨hk.2.2,⟨hk.1,hk.2.1⟩⟩)),(by (with_reducible repeat (first|apply ra|apply rb|apply rc));exact rm HO342.out (fun _ hk=>⟨hk.2,⟨hk.1.1,hk.1.2⟩⟩)),(by (with_reducible repeat (first|apply ra|apply rb|apply rc));exact rm HO_7.out (fun _ hk=>⟨hk.2,⟨hk.1.2,hk.1.1⟩⟩)),(by (with_reducible repeat (first|apply ra|apply rb|apply rc));exact rm HO_8.out (fun _ hk=>⟨hk.2,⟨hk.1.2,hk.1.1⟩⟩)),(by repeat (first|(with_reducible first|exact HB.out|apply ba|apply bb|apply bc)|exact HB.out))⟩)
                          ·
                           skip
                           refine Kd.R_lit_step (Kd.int .i64) _ 3 ?hg (N:=182) ?hd (xs:=([(wrap64 (Int.tdiv (wrap64 (t289 * 4)) 5))] : List Int)) (inner:=[.int .i64 (wrap64 (Int.tdiv (wrap64 (t289 * 4)) 5))]) (ok:=fun _=>True) (okp:=fun _=>True) ?hr ?hp (fun _ hk=>hk) trivial (Below.refl _ _) (Nat.le_refl _) (by simp) ?_;(case hd=>rfl);(case hg=>rfl);(case hr=>first|(go_simp;done)|(go_simp;rfl));(case hp=>exact (Reps.one (show Kd.M (Kd.int .i64) _ _ _ (wrap64 (Int.tdiv (wrap64 (t289 * 4)) 5)) [.int .i64 (wrap64 (Int.tdiv (wrap64 (t289 * 4)) 5))] from rfl) (Reps.none _ _)))
                           intro v341 w100 ho101 hb hg_ hnew_
                           clear hg_ hnew_
                           (first|rw [← Ny340.out] at ho101|(simp only [Int.reduceToNat] at ho101;rw [← Ny340.out] at ho101))
                           have n0_:=A_ (re (by (with_reducible repeat (first|apply ra|apply rb|apply rc));exact HO_7.out) (rs ho101) hb)
                           have n1_:=A_ (re (by (with_reducible repeat (first|apply ra|apply rb|apply rc));exact HO_8.out) (rs ho101) hb)
                           have n2_:=A_ (Kd.R_lower (rn (rn ho101 (rl (by (with_reducible repeat (first|apply ra|apply rb|apply rc));exact HO_7.out))) (rl (by (with_reducible repeat (first|apply ra|apply rb|apply rc));exact HO_8.out))) (below_size (by repeat (first|(with_reducible first|exact HB.out|apply ba|apply bb|apply bc)|exact HB.out))))
                           have n3_:=A_ (cl (by repeat (first|(with_reducible exact HR336.out)|(with_reducible refine ca ?_ _)|(with_reducible refine cb ?_ _)|(with_reducible refine cc ?_)|exact HR336.out)) hb)
                           have n4_:=A_ (cl (by repeat (first|(with_reducible exact HR349.out)|(with_reducible refine ca ?_ _)|(with_reducible refine cb ?_ _)|(with_reducible refine cc ?_)|exact HR349.out)) hb)
                           have n5_:=A_ (below_step (by repeat (first|(with_reducible first|exact HB.out|apply ba|apply bb|apply bc)|exact HB.out)) hb)
                           clear HO_7
                           clear HO_8
                           clear HR336
                           clear HR349
                           clear HB
                           have HO_7:=n0_
                           have HO_8:=n1_
                           have HO342:=n2_
                           have HR336:=n3_
                           have HR349:=n4_
                           have HB:=n5_
                           clear n0_ n1_ n2_ n3_ n4_ n5_
                           clear hb ho101
                           refine hK.out _ _ trivial (fun hHeld=>?_)
                           clear hK K
                           refine norm_ (a':=?_) ?_ ?_
                           rotate_left
                           ·
                            show Act.put _ (some 182) _ = _
                            simp only [Act.put,sa,sb,sc,i64_w,i32_w]
                            rfl
                           refine one_ (i:=0) (N:=some 176) #[true,true,true,true,false,true,true,false,true,true,true,false,true,true,false,false,false,false,false,false] rfl rfl (one_of HT_.out (by kernel_rfl)) (by decide) (fun K hK=>?_)
                           refine Kd.R_lit_step (Kd.int .i64) _ 3 ?hg (N:=176) ?hd (xs:=([] : List Int)) (inner:=[]) (ok:=fun _=>True) (okp:=fun _=>True) ?hr ?hp (fun _ hk=>hk) trivial (Below.refl _ _) (Nat.le_refl _) (by simp) ?_;(case hd=>rfl);(case hg=>rfl);(case hr=>first|(go_simp;done)|(go_simp;rfl));(case hp=>exact (Reps.none _ _))
                           intro v331 w102 ho103 hb hg_ hnew_
                           clear hg_ hnew_
                           (first|rw [← Ny330.out] at ho103|(simp only [Int.reduceToNat] at ho103;rw [← Ny330.out] at ho103))
                           have n0_:=A_ (re (by (with_reducible repeat (first|apply ra|apply rb|apply rc));exact HO_7.out) (rs ho103) hb)
                           have n1_:=A_ (re (by (with_reducible repeat (first|apply ra|apply rb|apply rc));exact HO_8.out) (rs ho103) hb)
                           have n2_:=A_ (re (by (with_reducible repeat (first|apply ra|apply rb|apply rc));exact HO342.out) (rs ho103) hb)
                           have n3_:=A_ (Kd.R_lower (rn (rn (rn ho103 (rl (by (with_reducible repeat (first|apply ra|apply rb|apply rc));exact HO_7.out))) (rl (by (with_reducible repeat (first|apply ra|apply rb|apply rc));exact HO_8.out))) (rl (by (with_reducible repeat (first|apply ra|apply rb|apply rc));exact HO342.out))) (below_size (by repeat (first|(with_reducible first|exact HB.out|apply ba|apply bb|apply bc)|exact HB.out))))
                           have n4_:=A_ (cl (by repeat (first|(with_reducible exact HR336.out)|(with_reducible refine ca ?_ _)|(with_reducible refine cb ?_ _)|(with_reducible refine cc ?_)|exact HR336.out)) hb)
                           have n5_:=A_ (cl (by repeat (first|(with_reducible exact HR349.out)|(with_reducible refine ca ?_ _)|(with_reducible refine cb ?_ _)|(with_reducible refine cc ?_)|exact HR349.out)) hb)
                           have n6_:=A_ (below_step (by repeat (first|(with_reducible first|exact HB.out|apply ba|apply bb|apply bc)|exact HB.out)) hb)
                           clear HO_7
                           clear HO_8
                           clear HO342
                           clear HR336
                           clear HR349
                           clear HB
                           have HO_7:=n0_
                           have HO_8:=n1_
                           have HO342:=n2_
                           have HO332:=n3_
                           have HR336:=n4_
                           have HR349:=n5_
                           have HB:=n6_
                           clear n0_ n1_ n2_ n3_ n4_ n5_ n6_
                           clear hb ho103
                           refine hK.out _ _ trivial (fun hHeld=>?_)
                           clear hK K
                           refine norm_ (a':=?_) ?_ ?_
                           rotate_left
                           ·
                            show Act.put _ (some 176) _ = _
                            simp only [Act.put,sa,sb,sc,i64_w,i32_w]
                            rfl
                           refine one_ (i:=4) (N:=some 180) #[true,true,true,true,true,true,true,false,true,true,true,false,true,true,false,false,false,false,false,false] rfl rfl (one_of HT_.out (by kernel_rfl)) (by decide) (fun K hK=>?_)
                           refine Kd.R_append_rows_step (Kd.int .i64) (w0:=w) w.heap.size (by rfl) (.tmp 176) (.tmp 179) 22 3 (.int .i64 0) 8 rfl Try.underlying22 info3 rfl (by decide) (by omega) v331 y330 y333 _ _ _ (fun k_=>nb k_ (.slice Ao8 x7_1.length co8)∧nb k_ (.slice Ao20 x8_2.length co20)∧nb k_ v341) (fun _=>False) rfl rfl ?aO ?aR (fun _ _ h=>h) (fun _ h=>h.elim) ?aF ?aB ?aS ?aL ?_
                           (case aR=>repeat (first|exact (by repeat (first|(with_reducible exact HR336.out)|(with_reducible refine ca ?_ _)|(with_reducible refine cb ?_ _)|(with_reducible refine cc ?_)|exact HR336.out))|(with_reducible refine ca ?_ _)|(with_reducible refine cb ?_ _)|(with_reducible refine cc ?_)))
                           (case aB=>exact (by repeat (first|(with_reducible first|exact HB.out|apply ba|apply bb|apply bc)|exact HB.out)))
                           (case aF=>exact (fun k_ hk=>⟨rh (rl (by (with_reducible repeat (first|apply ra|apply rb|apply rc));exact HO_7.out)) k_ hk,rh (rl (by (with_reducible repeat (first|apply ra|apply rb|apply rc));exact HO_8.out)) k_ hk,rh (rl (by (with_reducible repeat (first|apply ra|apply rb|apply rc));exact HO342.out)) k_ hk⟩))
                           (case aO=>exact (by (with_reducible repeat (first|apply ra|apply rb|apply rc));exact rm HO332.out (fun _ hk=>⟨hk.1.1.2,⟨hk.1.2,hk.2⟩⟩)))
                           (case aS=>exact (below_size (by repeat (first|(with_reducible first|exact HB.out|apply ba|apply bb|apply bc)|exact HB.out))))
                           (case aL=>have:=LMc73.out;omega)
                           intro v338 w104 ho hb hg hat
                           rw [← Ny337.out] at ho
                           have n0_:=A_ (rf (ok:=(fun k_=>nb k_ (.slice Ao20 x8_2.length co20)∧nb k_ v341)) (by (with_reducible repeat (first|apply ra|apply rb|apply rc));exact HO_7.out) hg hat)
                           have n1_:=A_ (rf (ok:=(fun k_=>nb k_ (.slice Ao8 x7_1.length co8)∧nb k_ v341)) (by (with_reducible repeat (first|apply ra|apply rb|apply rc));exact HO_8.out) hg hat)
                           have n2_:=A_ (rf (ok:=(fun k_=>nb k_ (.slice Ao8 x7_1.length co8)∧nb k_ (.slice Ao20 x8_2.length co20))) (by (with_reducible repeat (first|apply ra|apply rb|apply rc));exact rm HO342.out (fun _ hk=>⟨⟨hk.1.1.2,hk.1.2⟩,hk.2⟩)) hg hat)
                           have n3_:=A_ (hb)
                           have n4_:=A_ ((show Kd.C (Kd.int .i64) w104 Ao8 y333.length y333 from by rw [Ny333.out];exact Kd.C_take (m:=((ji70) : Int).toNat) ((rd_ (rf (ok:=(fun k_=>nb k_ (.slice Ao20 x8_2.length co20)∧nb k_ v341)) (by (with_reducible repeat (first|apply ra|apply rb|apply rc));exact HO_7.out) hg hat)).2.2) KL98.out))
                           have n5_:=A_ ((show Kd.C (Kd.int .i64) w104 A99 y346.length y346 from by rw [Ny346.out,KA99.out];exact Kd.C_drop (m:=((ji70) : Int).toNat) (c:=co8) ((rd_ (rf (ok:=(fun k_=>nb k_ (.slice Ao20 x8_2.length co20)∧nb k_ v341)) (by (with_reducible repeat (first|apply ra|apply rb|apply rc));exact HO_7.out) hg hat)).2.2) KL99.out ((rd_ (rf (ok:=(fun k_=>nb k_ (.slice Ao20 x8_2.length co20)∧nb k_ v341)) (by (with_reducible repeat (first|apply ra|apply rb|apply rc));exact HO_7.out) hg hat)).2.1)))
                           have n6_:=A_ (ho)
                           clear HO_7
                           clear HO_8
                           clear HO342
                           clear HB
                           clear HR336
                           clear HR349
                           clear HO332
                           have HO_7:=n0_
                           have HO_8:=n1_
                           have HO342:=n2_
                           have HB:=n3_
                           have HR336:=n4_
                           have HR349:=n5_
                           have HO339:=n6_
                           clear n0_ n1_ n2_ n3_ n4_ n5_ n6_
                           clear ho hb hg hat
                           refine hK.out _ _ trivial (fun hHeld=>?_)
                           clear hK K
                           refine norm_ (a':=?_) ?_ ?_
                           rotate_left
                           ·
                            show Act.put _ (some 180) _ = _
                            simp only [Act.put,sa,sb,sc,i64_w,i32_w]
                            rfl
                           exact norm_ (by simp only [putAll,Act.put,List.setIfInBounds_toArray,List.set_cons_zero,List.set_cons_succ]) (hCont (v331,v338,v341) _ ⟨(by (with_reducible repeat (first|apply ra|apply rb|apply rc));exact rm HO339.out (fun _ hk=>⟨hk.2.2,⟨hk.1,hk.2.1⟩⟩)),(by (with_reducible repeat (first|apply ra|apply rb|apply rc));exact rm HO342.out (fun _ hk=>⟨hk.2,⟨hk.1.1,hk.1.2⟩⟩)),(by (with_reducible repeat (first|apply ra|apply rb|apply rc));exact rm HO_7.out (fun _ hk=>⟨hk.2,⟨hk.1.2,hk.1.1⟩⟩)),(by (with_reducible repeat (first|apply ra|apply rb|apply rc));exact rm HO_8.out (fun _ hk=>⟨hk.2,⟨hk.1.2,hk.1.1⟩⟩)),(by repeat (first|(with_reducible first|exact HB.out|apply ba|apply bb|apply bc)|exact HB.out))⟩)
                         rintro ⟨v331,v338,v341⟩ w105 ⟨h0_,h1_,h2_,h3_,h4_⟩
                         have n0_ : Aside0 (Kd.R (Kd.int .i64) 3 w105 w.heap.size (fun k_=>nb k_ v341∧nb k_ (.slice Ao8 x7_1.length co8)∧nb k_ (.slice Ao20 x8_2.length co20)) v338 y337):=⟨h0_⟩
                         have n1_ : Aside0 (Kd.R (Kd.int .i64) 3 w105 w.heap.size (fun k_=>nb k_ v338∧nb k_ (.slice Ao8 x7_1.length co8)∧nb k_ (.slice Ao20 x8_2.length co20)) v341 y340):=⟨h1_⟩
                         have n2_ : Aside0 (Kd.R (Kd.int .i64) 3 w105 w.heap.size (fun k_=>nb k_ v338∧nb k_ v341∧nb k_ (.slice Ao20 x8_2.length co20)) (.slice Ao8 x7_1.length co8) x7_1):=⟨h2_⟩
                         have n3_ : Aside0 (Kd.R (Kd.int .i64) 3 w105 w.heap.size (fun k_=>nb k_ v338∧nb k_ v341∧nb k_ (.slice Ao8 x7_1.length co8)) (.slice Ao20 x8_2.length co20) x8_2):=⟨h3_⟩
                         have n4_ : Aside0 (Below w.heap.size w w105):=⟨h4_⟩
                         clear HO_7
                         clear HO_8
                         clear HB
                         clear h0_ h1_ h2_ h3_ h4_
                         have HO339:=n0_
                         have HO342:=n1_
                         have HO_7:=n2_
                         have HO_8:=n3_
                         have HB:=n4_
                         clear n0_ n1_ n2_ n3_ n4_
                         have hHeld:=trivial
                         have HR336:=A_ (show Kd.C (Kd.int .i64) w105 Ao8 y333.length y333 from by rw [Ny333.out];exact Kd.C_take (m:=((ji70) : Int).toNat) ((rd_ (HO_7.out)).2.2) KL98.out)
                         have HR349:=A_ (show Kd.C (Kd.int .i64) w105 A99 y346.length y346 from by rw [Ny346.out,KA99.out];exact Kd.C_drop (m:=((ji70) : Int).toNat) (c:=co8) ((rd_ (HO_7.out)).2.2) KL99.out ((rd_ (HO_7.out)).2.1))
                         obtain ⟨Ao107,co107,eo107⟩:=Kd.R_slice HO342.out
                         (first|subst eo107|(injection eo107 with f1_ f2_ f3_;have f4_:=f1_.symm;have f5_:=f3_.symm;clear f1_ f2_ f3_;subst f4_;subst f5_))
                         refine norm_ (a':=?_) ?_ ?_
                         rotate_left
                         ·
                          simp only [putAll,Act.put,List.setIfInBounds_toArray,List.set_cons_zero,List.set_cons_succ]
                          rfl
                         refine one_ (i:=7) (N:=some 183) #[true,true,true,true,true,true,true,true,true,true,true,false,true,true,false,false,false,false,false,false] rfl rfl (one_of HT_.out (by kernel_rfl)) (by decide) (fun K hK=>?_)
                         refine Kd.R_append_rows_step (Kd.int .i64) (w0:=w) w.heap.size (by rfl) (.tmp 180) (.tmp 182) 22 3 (.int .i64 0) 8 rfl Try.underlying22 info3 rfl (by decide) (by omega) v338 y337 y340 _ _ _ (fun k_=>nb k_ (.slice Ao8 x7_1.length co8)∧nb k_ (.slice Ao20 x8_2.length co20)∧nb k_ (.slice Ao107 y340.length co107)) (fun _=>False) rfl rfl ?aO ?aR (fun _ _ h=>h) (fun _ h=>h.elim) ?aF ?aB ?aS ?aL ?_
                         (case aR=>repeat (first|exact (rd_ HO342.out).2.2|(with_reducible refine ca ?_ _)|(with_reducible refine cb ?_ _)|(with_reducible refine cc ?_)))
                         (case aB=>exact (by repeat (first|(with_reducible first|exact HB.out|apply ba|apply bb|apply bc)|exact HB.out)))
                         (case aF=>exact (fun k_ hk=>⟨rh (rl (by (with_reducible repeat (first|apply ra|apply rb|apply rc));exact HO_7.out)) k_ hk,rh (rl (by (with_reducible repeat (first|apply ra|apply rb|apply rc));exact HO_8.out)) k_ hk,rh (rl (by (with_reducible repeat (first|apply ra|apply rb|apply rc));exact HO342.out)) k_ hk⟩))
                         (case aO=>exact (by (with_reducible repeat (first|apply ra|apply rb|apply rc));exact rm HO339.out (fun _ hk=>⟨hk.2.1,⟨hk.2.2,hk.1⟩⟩)))
                         (case aS=>exact (below_size (by repeat (first|(with_reducible first|exact HB.out|apply ba|apply bb|apply bc)|exact HB.out))))
                         (case aL=>have:=LMc74.out;omega)
                         intro v344 w106 ho hb hg hat
                         rw [← Ny343.out] at ho
                         have n0_:=A_ (rf (ok:=(fun k_=>nb k_ (.slice Ao20 x8_2.length co20)∧nb k_ (.slice Ao107 y340.length co107))) (by (with_reducible repeat (first|apply ra|apply rb|apply rc));exact rm HO_7.out (fun _ hk=>⟨⟨hk.2.2,hk.2.1⟩,hk.1⟩)) hg hat)
                         have n1_:=A_ (rf (ok:=(fun k_=>nb k_ (.slice Ao8 x7_1.length co8)∧nb k_ (.slice Ao107 y340.length co107))) (by (with_reducible repeat (first|apply ra|apply rb|apply rc));exact rm HO_8.out (fun _ hk=>⟨⟨hk.2.2,hk.2.1⟩,hk.1⟩)) hg hat)
                         have n2_:=A_ (rf (ok:=(fun k_=>nb k_ (.slice Ao8 x7_1.length co8)∧nb k_ (.slice Ao20 x8_2.length co20))) (by (with_reducible repeat (first|apply ra|apply rb|apply rc));exact rm HO342.out (fun _ hk=>⟨⟨hk.2.1,hk.2.2⟩,hk.1⟩)) hg hat)
                         have n3_:=A_ (hb)
                         have n4_:=A_ ((show Kd.C (Kd.int .i64) w106 Ao8 y333.length y333 from by rw [Ny333.out];exact Kd.C_take (m:=((ji70) : Int).toNat) ((rd_ (rf (ok:=(fun k_=>nb k_ (.slice Ao20 x8_2.length co20)∧nb k_ (.slice Ao107 y340.length co107))) (by (with_reducible repeat (first|apply ra|apply rb|apply rc));exact rm HO_7.out (fun _ hk=>⟨⟨hk.2.2,hk.2.1⟩,hk.1⟩)) hg hat)).2.2) KL98.out))
                         have n5_:=A_ ((show Kd.C (Kd.int .i64) w106 A99 y346.length y346 from by rw [Ny346.out,KA99.out];exact Kd.C_drop (m:=((ji70) : Int).toNat) (c:=co8) ((rd_ (rf (ok:=(fun k_=>nb k_ (.slice Ao20 x8_2.length co20)∧nb k_ (.slice Ao107 y340.length co107))) (by (with_reducible repeat (first|apply ra|apply rb|apply rc));exact rm HO_7.out (fun _ hk=>⟨⟨hk.2.2,hk.2.1⟩,hk.1⟩)) hg hat)).2.2) KL99.out ((rd_ (rf (ok:=(fun k_=>nb k_ (.slice Ao20 x8_2.length co20)∧nb k_ (.slice Ao107 y340.length co107))) (by (with_reducible repeat (first|apply ra|apply rb|apply rc));exact rm HO_7.out (fun _ hk=>⟨⟨hk.2.2,hk.2.1⟩,hk.1⟩)) hg hat)).2.1)))
                         have n6_:=A_ (ho)
                         clear HO_7
                         clear HO_8
                         clear HO342
                         clear HB
                         clear HR336
                         clear HR349
                         clear HO339
                         have HO_7:=n0_
                         have HO_8:=n1_
                         have HO342:=n2_
                         have HB:=n3_
                         have HR336:=n4_
                         have HR349:=n5_
                         have HO345:=n6_
                         clear n0_ n1_ n2_ n3_ n4_ n5_ n6_
                         clear ho hb hg hat
                         refine hK.out _ _ trivial (fun hHeld=>?_)
                         clear hK K
                         refine norm_ (a':=?_) ?_ ?_
                         rotate_left
                         ·
                          show Act.put _ (some 183) _ = _
                          simp only [Act.put,sa,sb,sc,i64_w,i32_w]
                          rfl
                         refine one_ (i:=11) (N:=some 187) #[true,true,true,true,true,true,true,true,true,true,true,true,true,true,false,false,false,false,false,false] rfl rfl (one_of HT_.out (by kernel_rfl)) (by decide) (fun K hK=>?_)
                         refine Kd.R_append_rows_step (Kd.int .i64) (w0:=w) w.heap.size (by rfl) (.tmp 183) (.tmp 186) 22 3 (.int .i64 0) 8 rfl Try.underlying22 info3 rfl (by decide) (by omega) v344 y343 y346 _ _ _ (fun k_=>nb k_ (.slice Ao8 x7_1.length co8)∧nb k_ (.slice Ao20 x8_2.length co20)∧nb k_ (.slice Ao107 y340.length co107)) (fun _=>False) rfl rfl ?aO ?aR (fun _ _ h=>h) (fun _ h=>h.elim) ?aF ?aB ?aS ?aL ?_
                         (case aR=>repeat (first|exact (by repeat (first|(with_reducible exact HR349.out)|(with_reducible refine ca ?_ _)|(with_reducible refine cb ?_ _)|(with_reducible refine cc ?_)|exact HR349.out))|(with_reducible refine ca ?_ _)|(with_reducible refine cb ?_ _)|(with_reducible refine cc ?_)))
                         (case aB=>exact (by repeat (first|(with_reducible first|exact HB.out|apply ba|apply bb|apply bc)|exact HB.out)))
                         (case aF=>exact (fun k_ hk=>⟨rh (rl (by (with_reducible repeat (first|apply ra|apply rb|apply rc));exact HO_7.out)) k_ hk,rh (rl (by (with_reducible repeat (first|apply ra|apply rb|apply rc));exact HO_8.out)) k_ hk,rh (rl (by (with_reducible repeat (first|apply ra|apply rb|apply rc));exact HO342.out)) k_ hk⟩))
                         (case aO=>exact (by (with_reducible repeat (first|apply ra|apply rb|apply rc));exact HO345.out))
                         (case aS=>exact (below_size (by repeat (first|(with_reducible first|exact HB.out|apply ba|apply bb|apply bc)|exact HB.out))))
                         (case aL=>have:=LMc77.out;omega)
                         intro v351 w108 ho hb hg hat
                         rw [← Ny350.out] at ho
                         have n0_:=A_ (rf (ok:=(fun k_=>nb k_ (.slice Ao20 x8_2.length co20)∧nb k_ (.slice Ao107 y340.length co107))) (by (with_reducible repeat (first|apply ra|apply rb|apply rc));exact HO_7.out) hg hat)
                         have n1_:=A_ (rf (ok:=(fun k_=>nb k_ (.slice Ao8 x7_1.length co8)∧nb k_ (.slice Ao107 y340.length co107))) (by (with_reducible repeat (first|apply ra|apply rb|apply rc));exact HO_8.out) hg hat)
                         have n2_:=A_ (rf (ok:=(fun k_=>nb k_ (.slice Ao8 x7_1.length co8)∧nb k_ (.slice Ao20 x8_2.length co20))) (by (with_reducible repeat (first|apply ra|apply rb|apply rc));exact HO342.out) hg hat)
                         have n3_:=A_ (hb)
                         have n4_:=A_ ((show Kd.C (Kd.int .i64) w108 Ao8 y333.length y333 from by rw [Ny333.out];exact Kd.C_take (m:=((ji70) : Int).toNat) ((rd_ (rf (ok:=(fun k_=>nb k_ (.slice Ao20 x8_2.length co20)∧nb k_ (.slice Ao107 y340.length co107))) (by (with_reducible repeat (first|apply ra|apply rb|apply rc));exact HO_7.out) hg hat)).2.2) KL98.out))
                         have n5_:=A_ ((show Kd.C (Kd.int .i64) w108 A99 y346.length y346 from by rw [Ny346.out,KA99.out];exact Kd.C_drop (m:=((ji70) : Int).toNat) (c:=co8) ((rd_ (rf (ok:=(fun k_=>nb k_ (.slice Ao20 x8_2.length co20)∧nb k_ (.slice Ao107 y340.length co107))) (by (with_reducible repeat (first|apply ra|apply rb|apply rc));exact HO_7.out) hg hat)).2.2) KL99.out ((rd_ (rf (ok:=(fun k_=>nb k_ (.slice Ao20 x8_2.length co20)∧nb k_ (.slice Ao107 y340.length co107))) (by (with_reducible repeat (first|apply ra|apply rb|apply rc));exact HO_7.out) hg hat)).2.1)))
                         have n6_:=A_ (ho)
                         clear HO_7
                         clear HO_8
                         clear HO342
                         clear HB
                         clear HR336
                         clear HR349
                         clear HO345
                         have HO_7:=n0_
                         have HO_8:=n1_
                         have HO342:=n2_
                         have HB:=n3_
                         have HR336:=n4_
                         have HR349:=n5_
                         have HO352:=n6_
                         clear n0_ n1_ n2_ n3_ n4_ n5_ n6_
                         clear ho hb hg hat
                         obtain ⟨Ao109,co109,eo109⟩:=Kd.R_slice HO352.out
                         (first|subst eo109|(injection eo109 with f1_ f2_ f3_;have f4_:=f1_.symm;have f5_:=f3_.symm;clear f1_ f2_ f3_;subst f4_;subst f5_))
                         refine hK.out _ _ trivial (fun hHeld=>?_)
                         clear hK K
                         refine norm_ (a':=?_) ?_ ?_
                         rotate_left
                         ·
                          show Act.put _ (some 187) _ = _
                          simp only [Act.put,sa,sb,sc,i64_w,i32_w]
                          rfl
                         refine one_ (i:=14) (N:=some 190) #[true,true,true,true,true,true,true,true,true,true,true,true,true,true,true,false,false,false,false,false] rfl rfl (one_of HT_.out (by kernel_rfl)) (by decide) (fun K hK=>?_)
                         refine goes_ Try.func11 (by kernel_rfl) rfl #[.slice Ao109 y350.length co109,.slice Ao20 x8_2.length co20,.int .i64 (wrap64 (Int.tdiv (wrap64 (t289 * 4)) 5))] (by rfl) rfl rfl (by (try simp only [List.map_toArray,List.map_cons,List.map_nil]);first|done|rfl|(simp only [List.length_drop,List.length_take];rfl)|((try rw [KY112.out]);(try rw [KY113.out]);(try rw [KY83.out]);(try rw [KY84.out]);(try rw [KY98.out]);(try rw [KY99.out]);rfl)) ?_
                         with_reducible refine (edit_Distance.calls kj52 _ _ y350 _ _ x8_2 (wrap64 (Int.tdiv (wrap64 (t289 * 4)) 5)) t353 t354 _ ?side1 ?side2 ?side3 ?side4 A78.out).mono ?_
                         (case side1=>repeat (first|exact (rd_ HO352.out).2.2|(with_reducible refine ca ?_ _)|(with_reducible refine cb ?_ _)|(with_reducible refine cc ?_)))
                         (case side2=>exact (rd_ HO352.out).2.1)
                         (case side3=>repeat (first|exact (rd_ HO_8.out).2.2|(with_reducible refine ca ?_ _)|(with_reducible refine cb ?_ _)|(with_reducible refine cc ?_)))
                         (case side4=>exact (rd_ HO_8.out).2.1)
                         rintro e w110 ⟨rfl,hb⟩
                         refine ⟨_,rfl,?_⟩
                         have n0_:=A_ (rw_ (by (with_reducible repeat (first|apply ra|apply rb|apply rc));exact HO_7.out) hb)
                         have n1_:=A_ (rw_ (by (with_reducible repeat (first|apply ra|apply rb|apply rc));exact HO_8.out) hb)
                         have n2_:=A_ (rw_ (by (with_reducible repeat (first|apply ra|apply rb|apply rc));exact HO342.out) hb)
                         have n3_:=A_ (rw_ (by (with_reducible repeat (first|apply ra|apply rb|apply rc));exact HO352.out) hb)
                         have n4_:=A_ (cl (by repeat (first|(with_reducible exact HR336.out)|(with_reducible refine ca ?_ _)|(with_reducible refine cb ?_ _)|(with_reducible refine cc ?_)|exact HR336.out)) hb)
                         have n5_:=A_ (cl (by repeat (first|(with_reducible exact HR349.out)|(with_reducible refine ca ?_ _)|(with_reducible refine cb ?_ _)|(with_reducible refine cc ?_)|exact HR349.out)) hb)
                         have n6_:=A_ (below_step (by repeat (first|(with_reducible first|exact HB.out|apply ba|apply bb|apply bc)|exact HB.out)) hb)
                         clear HO_7
                         clear HO_8
                         clear HO342
                         clear HO352
                         clear HR336
                         clear HR349
                         clear HB
                         have HO_7:=n0_
                         have HO_8:=n1_
                         have HO342:=n2_
                         have HO352:=n3_
                         have HR336:=n4_
                         have HR349:=n5_
                         have HB:=n6_
                         clear n0_ n1_ n2_ n3_ n4_ n5_ n6_
                         (try clear hb)
                         (try clear hb2)
                         (try clear hk)
                         (try clear hi)
                         refine hK.out _ _ trivial (fun hHeld=>?_)
                         clear hK K
                         refine norm_ (a':=?_) ?_ ?_
                         rotate_left
                         ·
                          show Act.put _ (some 190) _ = _
                          simp only [Act.put,sa,sb,sc,i64_w,i32_w]
                          rfl
                         refine pure_ (i:=15) (N:=some 175) (v:=?_) (a':=?_) #[true,true,true,true,true,true,true,true,true,true,true,true,true,true,true,true,false,false,false,false] rfl rfl (any_of HT_.out (by kernel_rfl)) (fun _ _ _ h=>h) (Or.inl ⟨by rfl,?_⟩) ?_ ?_
                         rotate_left
                         ·
                          intro w'
                          go_simp
                          with_reducible rfl
                         rotate_left
                         ·
                          simp only [Act.put,sa,sb,sc,i64_w,i32_w]
                          rfl
                         refine pure_ (i:=16) (N:=some 191) (v:=?_) (a':=?_) #[true,true,true,true,true,true,true,true,true,true,true,true,true,true,true,true,true,false,false,false] rfl rfl (any_of HT_.out (by kernel_rfl)) (fun _ _ _ h=>h) (Or.inl ⟨by rfl,?_⟩) ?_ ?_
                         rotate_left
                         ·
                          intro w'
                          go_simp
                          with_reducible rfl
                         rotate_left
                         ·
                          simp only [Act.put,sa,sb,sc,i64_w,i32_w]
                          rfl
                         refine pure_ (i:=17) (N:=some 192) (v:=?_) (a':=?_) #[true,true,true,true,true,true,true,true,true,true,true,true,true,true,true,true,true,true,false,false] rfl rfl (any_of HT_.out (by kernel_rfl)) (fun _ _ _ h=>h) (Or.inl ⟨by rfl,?_⟩) ?_ ?_
                         rotate_left
                         ·
                          intro w'
                          go_simp
                          with_reducible rfl
                         rotate_left
                         ·
                          simp only [Act.put,sa,sb,sc,i64_w,i32_w]
                          rfl
                         refine pure_ (i:=18) (N:=some 25) (v:=?_) (a':=?_) #[true,true,true,true,true,true,true,true,true,true,true,true,true,true,true,true,true,true,true,false] rfl rfl (any_of HT_.out (by kernel_rfl)) (fun _ _ _ h=>h) (Or.inl ⟨by rfl,?_⟩) ?_ ?_
                         rotate_left
                         ·
                          intro w'
                          go_simp
                          with_reducible rfl
                         rotate_left
                         ·
                          simp only [Act.put,sa,sb,sc,i64_w,i32_w]
                          rfl
                         refine pure_ (i:=19) (N:=some 26) (v:=?_) (a':=?_) #[true,true,true,true,true,true,true,true,true,true,true,true,true,true,true,true,true,true,true,true] rfl rfl (any_of HT_.out (by kernel_rfl)) (fun _ _ _ h=>h) (Or.inl ⟨by rfl,?_⟩) ?_ ?_
                         rotate_left
                         ·
                          intro w'
                          go_simp
                          with_reducible rfl
                         rotate_left
                         ·
                          simp only [Act.put,sa,sb,sc,i64_w,i32_w]
                          rfl
                         refine done_ (done_of HT_.out (by kernel_rfl)) ?_
                         try go_wp2
                         go_ret
                         exact ⟨by first|rfl|(simp [errW_none,errW_some] <;> rfl)|(simp only [← hji70];first|rfl|(simp [errW_none,errW_some] <;> rfl))|(simp [*,errW_none,errW_some] <;> rfl),by repeat (first|(with_reducible first|exact HB.out|apply ba|apply bb|apply bc)|exact HB.out)⟩
                       ·
                        rw [if_neg c79] at H
                        have c79b0 : (t354 == 0) = false:=beq_eq_false_iff_ne.mpr c79
                        have c79b1 : (t354 != 0) = true:=bne_iff_ne.mpr c79
                        obtain rfl:=Option.some.inj H
                        try go_wp2
                        have n0_:=A_ (Kd.R_drew HO_7.out)
                        have n1_:=A_ (Kd.R_drew HO_8.out)
                        have n2_:=A_ (below_drew1 HB.out)
                        clear HO_7
                        clear HO_8
                        clear HB
                        have HO_7:=n0_
                        have HO_8:=n1_
                        have HB:=n2_
                        clear n0_ n1_ n2_
                        have q112 : ((ji70) : Int) ≤ ((x7_1.length : Int) : Int):=of_decide_eq_true (by first|(with_reducible assumption)|assumption)
                        obtain ⟨i0112,hi0112,_,hsz112,_⟩:=info_parts info3
                        have hroom112 : x7_1.length ≤ co8:=(rd_ HO_7.out).2.1
                        have hC112 : Kd.C (Kd.int .i64) _ Ao8 x7_1.length x7_1:=(rd_ HO_7.out).2.2
                        have hcut112:=cut_to (P:=Try.prog) 22 3 .i64 Try.underlying22 hi0112 Ao8 x7_1.length co8 (ji70) (of_decide_eq_true (by first|(with_reducible assumption)|assumption)) q112 hroom112
                        have hr112:=Kd.C_take (m:=((ji70) : Int).toNat) hC112 (by omega)
                        have hy112 : y333.length = ((ji70) : Int).toNat:=(by rw [Ny333.out,List.length_take];omega)
                        rw [← Ny333.out] at hr112
                        rw [← hy112] at hcut112
                        have HR336:=A_ hr112
                        have HC336:=A_ (show y333.length ≤ co8 from by omega)
                        clear hr112 hC112 hroom112 hi0112 hsz112
                        have KY112:=A_ hy112
                        clear hy112
                        have KL112:=A_ (show ((ji70) : Int).toNat ≤ x7_1.length from by omega)
                        replace q112:=eq_true q112
                        have q113 : ((ji70) : Int) ≤ ((x7_1.length : Int) : Int):=of_decide_eq_true (by first|(with_reducible assumption)|assumption)
                        obtain ⟨i0113,hi0113,_,hsz113,_⟩:=info_parts info3
                        have hroom113 : x7_1.length ≤ co8:=(rd_ HO_7.out).2.1
                        have hC113 : Kd.C (Kd.int .i64) _ Ao8 x7_1.length x7_1:=(rd_ HO_7.out).2.2
                        have q0113 : (0 : Int) ≤ ((ji70) : Int):=of_decide_eq_true (by first|(with_reducible assumption)|assumption)
                        have hcut113:=cut_from (P:=Try.prog) 22 3 .i64 Try.underlying22 hi0113 1 hsz113 Ao8 x7_1.length co8 (ji70) q0113 q113
                        have hr113:=Kd.C_drop (m:=((ji70) : Int).toNat) (c:=co8) hC113 (by omega) hroom113
                        obtain ⟨A113,hA113⟩ : ∃ A1,A1 = (if co8 = ((ji70) : Int).toNat then Ao8 else (Ao8 : Option Addr).map (·.add (((ji70) : Int).toNat * 1))):=⟨_,rfl⟩
                        obtain ⟨c113,hc113⟩ : ∃ c1,c1 = co8 - ((ji70) : Int).toNat:=⟨_,rfl⟩
                        have hy113 : y346.length = x7_1.length - ((ji70) : Int).toNat:=(by rw [Ny346.out,List.length_drop] <;> omega)
                        rw [show (x7_1).drop ((ji70) : Int).toNat = y346 from Ny346.out.symm] at hr113
                        replace hr113 : Kd.C (Kd.int .i64) _ A113 y346.length y346:=(by rw [hA113];exact hr113)
                        rw [← hy113,← hA113,← hc113] at hcut113
                        have HR349:=A_ hr113
                        have HC349:=A_ (show y346.length ≤ c113 from by rw [hy113,hc113];exact Nat.sub_le_sub_right hroom113 _)
                        clear hr113 hC113 hroom113 hi0113 hsz113 hc113
                        have KY113:=A_ hy113
                        have KA113:=A_ hA113
                        clear hy113 hA113
                        have KL113:=A_ (show ((ji70) : Int).toNat ≤ x7_1.length from by omega)
                        replace q113:=eq_true q113
                        refine start_ (n:=20) (S:=fun w'=>True) (ds:=[]) #[false,false,false,false,false,false,false,false,false,false,false,false,false,false,false,false,false,false,false,false] (by kernel_rfl) rfl rfl trivial (fun hHeld=>?_);refine with_tabW shapesearchlaw15_EditMoves.tab34 shapesearchlaw15_EditMoves.bits34 (fun HT_ HW_=>?_)
                        generalize wc.drew = w111 at HO_7 HO_8 HB HR336 HR349 hHeld ⊢
                        refine pure_ (i:=1) (N:=some 177) (v:=?_) (a':=?_) #[false,true,false,false,false,false,false,false,false,false,false,false,false,false,false,false,false,false,false,false] rfl rfl (any_of HT_.out (by kernel_rfl)) (fun _ _ _ h=>h) (Or.inl ⟨by rfl,?_⟩) ?_ ?_
                        rotate_left
                        ·
                         intro w'
                         go_simp
                         with_reducible rfl
                        rotate_left
                        ·
                         simp only [Act.put,sa,sb,sc,i64_w,i32_w]
                         rfl
                        refine pure_ (i:=2) (N:=some 178) (v:=?_) (a':=?_) #[false,true,true,false,false,false,false,false,false,false,false,false,false,false,false,false,false,false,false,false] rfl rfl (any_of HT_.out (by kernel_rfl)) (fun _ _ _ h=>h) (Or.inl ⟨by rfl,?_⟩) ?_ ?_
                        rotate_left
                        ·
                         intro w'
                         go_simp
                         with_reducible rfl
                        rotate_left
                        ·
                         simp only [Act.put,sa,sb,sc,i64_w,i32_w]
                         rfl
                        refine pure_ (i:=3) (N:=some 179) (v:=?_) (a':=?_) #[false,true,true,true,false,false,false,false,false,false,false,false,false,false,false,false,false,false,false,false] rfl rfl (any_of HT_.out (by kernel_rfl)) (fun _ _ _ h=>h) (Or.inl ⟨by rfl,?_⟩) ?_ ?_
                        rotate_left
                        ·
                         intro w'
                         go_simp
                         with_reducible rfl
                        rotate_left
                        ·
                         simp only [Act.put,sa,sb,sc,i64_w,i32_w]
                         rfl
                        refine pure_ (i:=5) (N:=some 181) (v:=?_) (a':=?_) #[false,true,true,true,false,true,false,false,false,false,false,false,false,false,false,false,false,false,false,false] rfl rfl (any_of HT_.out (by kernel_rfl)) (fun _ _ _ h=>h) (Or.inl ⟨by rfl,?_⟩) ?_ ?_
                        rotate_left
                        ·
                         intro w'
                         go_simp
                         with_reducible rfl
                        rotate_left
                        ·
                         simp only [Act.put,sa,sb,sc,i64_w,i32_w]
                         rfl
                        refine pure_ (i:=8) (N:=some 184) (v:=?_) (a':=?_) #[false,true,true,true,false,true,false,false,true,false,false,false,false,false,false,false,false,false,false,false] rfl rfl (any_of HT_.out (by kernel_rfl)) (fun _ _ _ h=>h) (Or.inl ⟨by rfl,?_⟩) ?_ ?_
                        rotate_left
                        ·
                         intro w'
                         go_simp
                         with_reducible rfl
                        rotate_left
                        ·
                         simp only [Act.put,sa,sb,sc,i64_w,i32_w]
                         rfl
                        refine pure_ (i:=9) (N:=some 185) (v:=?_) (a':=?_) #[false,true,true,true,false,true,false,false,true,true,false,false,false,false,false,false,false,false,false,false] rfl rfl (any_of HT_.out (by kernel_rfl)) (fun _ _ _ h=>h) (Or.inl ⟨by rfl,?_⟩) ?_ ?_
                        rotate_left
                        ·
                         intro w'
                         go_simp
                         with_reducible rfl
                        rotate_left
                        ·
                         simp only [Act.put,sa,sb,sc,i64_w,i32_w]
                         rfl
                        refine pure_ (i:=10) (N:=some 186) (v:=?_) (a':=?_) #[false,true,true,true,false,true,false,false,true,true,true,false,false,false,false,false,false,false,false,false] rfl rfl (any_of HT_.out (by kernel_rfl)) (fun _ _ _ h=>h) (Or.inl ⟨by rfl,?_⟩) ?_ ?_
                        rotate_left
                        ·
                         intro w'
                         go_simp
                         with_reducible rfl
                        rotate_left
                        ·
                         simp only [Act.put,sa,sb,sc,i64_w,i32_w]
                         rfl
                        refine pure_ (i:=12) (N:=some 188) (v:=?_) (a':=?_) #[false,true,true,true,false,true,false,false,true,true,true,false,true,false,false,false,false,false,false,false] rfl rfl (any_of HT_.out (by kernel_rfl)) (fun _ _ _ h=>h) (Or.inl ⟨by rfl,?_⟩) ?_ ?_
                        rotate_left
                        ·
                         intro w'
                         go_simp
                         with_reducible rfl
                        rotate_left
                        ·
                         simp only [Act.put,sa,sb,sc,i64_w,i32_w]
                         rfl
                        refine pure_ (i:=13) (N:=some 189) (v:=?_) (a':=?_) #[false,true,true,true,false,true,false,false,true,true,true,false,true,true,false,false,false,false,false,false] rfl rfl (any_of HT_.out (by kernel_rfl)) (fun _ _ _ h=>h) (Or.inl ⟨by rfl,?_⟩) ?_ ?_
                        rotate_left
                        ·
                         intro w'
                         go_simp
                         with_reducible rfl
                        rotate_left
                        ·
                         simp only [Act.put,sa,sb,sc,i64_w,i32_w]
                         rfl
                        refine join_ (σ:=Value × Value × Value) 8 #[true,true,true,true,true,true,true,false,true,true,true,false,true,true,false,false,false,false,false,false] (fun s_=>[(176,s_.1),(180,s_.2.1),(182,s_.2.2)]) (fun s_ w'=>(Kd.R (Kd.int .i64) 3 w' w.heap.size (fun k_=>some k_≠(s_.2.2 : Value).ownBlock∧nb k_ (.slice Ao8 x7_1.length co8)∧nb k_ (.slice Ao20 x8_2.length co20)) s_.2.1 y337)∧(Kd.R (Kd.int .i64) 3 w' w.heap.size (fun k_=>some k_≠(s_.2.1 : Value).ownBlock∧nb k_ (.slice Ao8 x7_1.length co8)∧nb k_ (.slice Ao20 x8_2.length co20)) s_.2.2 y340)∧(Kd.R (Kd.int .i64) 3 w' w.heap.size (fun k_=>some k_≠(s_.2.1 : Value).ownBlock∧some k_≠(s_.2.2 : Value).ownBlock∧nb k_ (.slice Ao20 x8_2.length co20)) (.slice Ao8 x7_1.length co8) x7_1)∧(Kd.R (Kd.int .i64) 3 w' w.heap.size (fun k_=>some k_≠(s_.2.1 : Value).ownBlock∧some k_≠(s_.2.2 : Value).ownBlock∧nb k_ (.slice Ao8 x7_1.length co8)) (.slice Ao20 x8_2.length co20) x8_2)∧(Below w.heap.size w w')) ?_ ?_
                        rotate_left
                        ·
                         intro hCont
                         refine two_ (i:=0) (j:=6) (Ni:=some 176) (Nj:=some 182) #[true,true,true,true,false,true,false,false,true,true,true,false,true,true,false,false,false,false,false,false] #[false,true,true,true,false,true,true,false,true,true,true,false,true,true,false,false,false,false,false,false] rfl rfl rfl rfl (two_of HT_.out (by kernel_rfl)) (by decide) (by decide) (fun K hK=>?_) (fun K hK=>?_)
                         ·
                          skip
                          refine Kd.R_lit_step (Kd.int .i64) _ 3 ?hg (N:=176) ?hd (xs:=([] : List Int)) (inner:=[]) (ok:=fun _=>True) (okp:=fun _=>True) ?hr ?hp (fun _ hk=>hk) trivial (Below.refl _ _) (Nat.le_refl _) (by simp) ?_;(case hd=>rfl);(case hg=>rfl);(case hr=>first|(go_simp;done)|(go_simp;rfl));(case hp=>exact (Reps.none _ _))
                          intro v331 w114 ho115 hb hg_ hnew_
                          clear hg_ hnew_
                          (first|rw [← Ny330.out] at ho115|(simp only [Int.reduceToNat] at ho115;rw [← Ny330.out] at ho115))
                          have n0_:=A_ (re (by (with_reducible repeat (first|apply ra|apply rb|apply rc));exact HO_7.out) (rs ho115) hb)
                          have n1_:=A_ (re (by (with_reducible repeat (first|apply ra|apply rb|apply rc));exact HO_8.out) (rs ho115) hb)
                          have n2_:=A_ (Kd.R_lower (rn (rn ho115 (rl (by (with_reducible repeat (first|apply ra|apply rb|apply rc));exact HO_7.out))) (rl (by (with_reducible repeat (first|apply ra|apply rb|apply rc));exact HO_8.out))) (below_size (by repeat (first|(with_reducible first|exact HB.out|apply ba|apply bb|apply bc)|exact HB.out))))
                          have n3_:=A_ (cl (by repeat (first|(with_reducible exact HR336.out)|(with_reducible refine ca ?_ _)|(with_reducible refine cb ?_ _)|(with_reducible refine cc ?_)|exact HR336.out)) hb)
                          have n4_:=A_ (cl (by repeat (first|(with_reducible exact HR349.out)|(with_reducible refine ca ?_ _)|(with_reducible refine cb ?_ _)|(with_reducible refine cc ?_)|exact HR349.out)) hb)
                          have n5_:=A_ (below_step (by repeat (first|(with_reducible first|exact HB.out|apply ba|apply bb|apply bc)|exact HB.out)) hb)
                          clear HO_7
                          clear HO_8
                          clear HR336
                          clear HR349
                          clear HB
                          have HO_7:=n0_
                          have HO_8:=n1_
                          have HO332:=n2_
                          have HR336:=n3_
                          have HR349:=n4_
                          have HB:=n5_
                          clear n0_ n1_ n2_ n3_ n4_ n5_
                          clear hb ho115
                          refine hK.out _ _ trivial (fun hHeld=>?_)
                          clear hK K
                          refine norm_ (a':=?_) ?_ ?_
                          rotate_left
                          ·
                           show Act.put _ (some 176) _ = _
                           simp only [Act.put,sa,sb,sc,i64_w,i32_w]
                           rfl
                          refine two_ (i:=4) (j:=6) (Ni:=some 180) (Nj:=some 182) #[true,true,true,true,true,true,false,false,true,true,true,false,true,true,false,false,false,false,false,false] #[true,true,true,true,false,true,true,false,true,true,true,false,true,true,false,false,false,false,false,false] rfl rfl rfl rfl (two_of HT_.out (by kernel_rfl)) (by decide) (by decide) (fun K hK=>?_) (fun K hK=>?_)
                          ·
                           skip
                           refine Kd.R_append_rows_step (Kd.int .i64) (w0:=w) w.heap.size (by rfl) (.tmp 176) (.tmp 179) 22 3 (.int .i64 0) 8 rfl Try.underlying22 info3 rfl (by decide) (by omega) v331 y330 y333 _ _ _ (fun k_=>nb k_ (.slice Ao8 x7_1.length co8)∧nb k_ (.slice Ao20 x8_2.length co20)) (fun _=>False) rfl rfl ?aO ?aR (fun _ _ h=>h) (fun _ h=>h.elim) ?aF ?aB ?aS ?aL ?_
                           (case aR=>repeat (first|exact (by repeat (first|(with_reducible exact HR336.out)|(with_reducible refine ca ?_ _)|(with_reducible refine cb ?_ _)|(with_reducible refine cc ?_)|exact HR336.out))|(with_reducible refine ca ?_ _)|(with_reducible refine cb ?_ _)|(with_reducible refine cc ?_)))
                           (case aB=>exact (by repeat (first|(with_reducible first|exact HB.out|apply ba|apply bb|apply bc)|exact HB.out)))
                           (case aF=>exact (fun k_ hk=>⟨rh (rl (by (with_reducible repeat (first|apply ra|apply rb|apply rc));exact HO_7.out)) k_ hk,rh (rl (by (with_reducible repeat (first|apply ra|apply rb|apply rc));exact HO_8.out)) k_ hk⟩))
                           (case aO=>exact (by (with_reducible repeat (first|apply ra|apply rb|apply rc));exact rm HO332.out (fun _ hk=>⟨hk.1.2,hk.2⟩)))
                           (case aS=>exact (below_size (by repeat (first|(with_reducible first|exact HB.out|apply ba|apply bb|apply bc)|exact HB.out))))
                           (case aL=>have:=LMc73.out;omega)
                           intro v338 w116 ho hb hg hat
                           rw [← Ny337.out] at ho
                           have n0_:=A_ (rf (ok:=(fun k_=>nb k_ (.slice Ao20 x8_2.length co20))) (by (with_reducible repeat (first|apply ra|apply rb|apply rc));exact HO_7.out) hg hat)
                           have n1_:=A_ (rf (ok:=(fun k_=>nb k_ (.slice Ao8 x7_1.length co8))) (by (with_reducible repeat (first|apply ra|apply rb|apply rc));exact HO_8.out) hg hat)
                           have n2_:=A_ (hb)
                           have n3_:=A_ ((show Kd.C (Kd.int .i64) w116 Ao8 y333.length y333 from by rw [Ny333.out];exact Kd.C_take (m:=((ji70) : Int).toNat) ((rd_ (rf (ok:=(fun k_=>nb k_ (.slice Ao20 x8_2.length co20))) (by (with_reducible repeat (first|apply ra|apply rb|apply rc));exact HO_7.out) hg hat)).2.2) KL112.out))
                           have n4_:=A_ ((show Kd.C (Kd.int .i64) w116 A113 y346.length y346 from by rw [Ny346.out,KA113.out];exact Kd.C_drop (m:=((ji70) : Int).toNat) (c:=co8) ((rd_ (rf (ok:=(fun k_=>nb k_ (.slice Ao20 x8_2.length co20))) (by (with_reducible repeat (first|apply ra|apply rb|apply rc));exact HO_7.out) hg hat)).2.2) KL113.out ((rd_ (rf (ok:=(fun k_=>nb k_ (.slice Ao20 x8_2.length co20))) (by (with_reducible repeat (first|apply ra|apply rb|apply rc));exact HO_7.out) hg hat)).2.1)))
                           have n5_:=A_ (ho)
                           clear HO_7
                           clear HO_8
                           clear HB
                           clear HR336
                           clear HR349
                           clear HO332
                           have HO_7:=n0_
                           have HO_8:=n1_
                           have HB:=n2_
                           have HR336:=n3_
                           have HR349:=n4_
                           have HO339:=n5_
                           clear n0_ n1_ n2_ n3_ n4_ n5_
                           clear ho hb hg hat
                           refine hK.out _ _ trivial (fun hHeld=>?_)
                           clear hK K
                           refine norm_ (a':=?_) ?_ ?_
                           rotate_left
                           ·
                            show Act.put _ (some 180) _ = _
                            simp only [Act.put,sa,sb,sc,i64_w,i32_w]
                            rfl
                           refine one_ (i:=6) (N:=some 182) #[true,true,true,true,true,true,true,false,true,true,true,false,true,true,false,false,false,false,false,false] rfl rfl (one_of HT_.out (by kernel_rfl)) (by decide) (fun K hK=>?_)
                           refine Kd.R_lit_step (Kd.int .i64) _ 3 ?hg (N:=182) ?hd (xs:=([(wrap64 (Int.tdiv (wrap64 (t289 * 4)) 5))] : List Int)) (inner:=[.int .i64 (wrap64 (Int.tdiv (wrap64 (t289 * 4)) 5))]) (ok:=fun _=>True) (okp:=fun _=>True) ?hr ?hp (fun _ hk=>hk) trivial (Below.refl _ _) (Nat.le_refl _) (by simp) ?_;(case hd=>rfl);(case hg=>rfl);(case hr=>first|(go_simp;done)|(go_simp;rfl));(case hp=>exact (Reps.one (show Kd.M (Kd.int .i64) _ _ _ (wrap64 (Int.tdiv (wrap64 (t289 * 4)) 5)) [.int .i64 (wrap64 (Int.tdiv (wrap64 (t289 * 4)) 5))] from rfl) (Reps.none _ _)))
                           intro v341 w117 ho118 hb hg_ hnew_
                           clear hg_ hnew_
                           (first|rw [← Ny340.out] at ho118|(simp only [Int.reduceToNat] at ho118;rw [← Ny340.out] at ho118))
                           have n0_:=A_ (re (by (with_reducible repeat (first|apply ra|apply rb|apply rc));exact HO_7.out) (rs ho118) hb)
                           have n1_:=A_ (re (by (with_reducible repeat (first|apply ra|apply rb|apply rc));exact HO_8.out) (rs ho118) hb)
                           have n2_:=A_ (re (by (with_reducible repeat (first|apply ra|apply rb|apply rc));exact HO339.out) (rs ho118) hb)
                           have n3_:=A_ (Kd.R_lower (rn (rn (rn ho118 (rl (by (with_reducible repeat (first|apply ra|apply rb|apply rc));exact HO_7.out))) (rl (by (with_reducible repeat (first|apply ra|apply rb|apply rc));exact HO_8.out))) (rl (by (with_reducible repeat (first|apply ra|apply rb|apply rc));exact HO339.out))) (below_size (by repeat (first|(with_reducible first|exact HB.out|apply ba|apply bb|apply bc)|exact HB.out))))
                           have n4_:=A_ (cl (by repeat (first|(with_reducible exact HR336.out)|(with_reducible refine ca ?_ _)|(with_reducible refine cb ?_ _)|(with_reducible refine cc ?_)|exact HR336.out)) hb)
                           have n5_:=A_ (cl (by repeat (first|(with_reducible exact HR349.out)|(with_reducible refine ca ?_ _)|(with_reducible refine cb ?_ _)|(with_reducible refine cc ?_)|exact HR349.out)) hb)
                           have n6_:=A_ (below_step (by repeat (first|(with_reducible first|exact HB.out|apply ba|apply bb|apply bc)|exact HB.out)) hb)
                           clear HO_7
                           clear HO_8
                           clear HO339
                           clear HR336
                           clear HR349
                           clear HB
                           have HO_7:=n0_
                           have HO_8:=n1_
                           have HO339:=n2_
                           have HO342:=n3_
                           have HR336:=n4_
                           have HR349:=n5_
                           have HB:=n6_
                           clear n0_ n1_ n2_ n3_ n4_ n5_ n6_
                           clear hb ho118
                           refine hK.out _ _ trivial (fun hHeld=>?_)
                           clear hK K
                           refine norm_ (a':=?_) ?_ ?_
                           rotate_left
                           ·
                            show Act.put _ (some 182) _ = _
                            simp only [Act.put,sa,sb,sc,i64_w,i32_w]
                            rfl
                           exact norm_ (by simp only [putAll,Act.put,List.setIfInBounds_toArray,List.set_cons_zero,List.set_cons_succ]) (hCont (v331,v338,v341) _ ⟨(by (with_reducible repeat (first|apply ra|apply rb|apply rc));exact rm HO339.out (fun _ hk=>⟨hk.2,⟨hk.1.1,hk.1.2⟩⟩)),(by (with_reducible repeat (first|apply ra|apply rb|apply rc));exact rm HO342.out (fun _ hk=>⟨hk.2,⟨hk.1.1.2,hk.1.2⟩⟩)),(by (with_reducible repeat (first|apply ra|apply rb|apply rc));exact rm HO_7.out (fun _ hk=>⟨hk.1.2,⟨hk.2,hk.1.1⟩⟩)),(by (with_reducible repeat (first|apply ra|apply rb|apply rc));exact rm HO_8.out (fun _ hk=>⟨hk.1.2,⟨hk.2,hk.1.1⟩⟩)),(by repeat (first|(with_reducible first|exact HB.out|apply ba|apply bb|apply bc)|exact HB.out))⟩)
                          ·
                           skip
                           refine Kd.R_lit_step (Kd.int .i64) _ 3 ?hg (N:=182) ?hd (xs:=([(wrap64 (Int.tdiv (wrap64 (t289 * 4)) 5))] : List Int)) (inner:=[.int .i64 (wrap64 (Int.tdiv (wrap64 (t289 * 4)) 5))]) (ok:=fun _=>True) (okp:=fun _=>True) ?hr ?hp (fun _ hk=>hk) trivial (Below.refl _ _) (Nat.le_refl _) (by simp) ?_;(case hd=>rfl);(case hg=>rfl);(case hr=>first|(go_simp;done)|(go_simp;rfl));(case hp=>exact (Reps.one (show Kd.M (Kd.int .i64) _ _ _ (wrap64 (Int.tdiv (wrap64 (t289 * 4)) 5)) [.int .i64 (wrap64 (Int.tdiv (wrap64 (t289 * 4)) 5))] from rfl) (Reps.none _ _)))
                           intro v341 w116 ho117 hb hg_ hnew_
                           clear hg_ hnew_
                           (first|rw [← Ny340.out] at ho117|(simp only [Int.reduceToNat] at ho117;rw [← Ny340.out] at ho117))
                           have n0_:=A_ (re (by (with_reducible repeat (first|apply ra|apply rb|apply rc));exact HO_7.out) (rs ho117) hb)
                           have n1_:=A_ (re (by (with_reducible repeat (first|apply ra|apply rb|apply rc));exact HO_8.out) (rs ho117) hb)
                           have n2_:=A_ (re (by (with_reducible repeat (first|apply ra|apply rb|apply rc));exact HO332.out) (rs ho117) hb)
                           have n3_:=A_ (Kd.R_lower (rn (rn (rn ho117 (rl (by (with_reducible repeat (first|apply ra|apply rb|apply rc));exact HO_7.out))) (rl (by (with_reducible repeat (first|apply ra|apply rb|apply rc));exact HO_8.out))) (rl (by (with_reducible repeat (first|apply ra|apply rb|apply rc));exact HO332.out))) (below_size (by repeat (first|(with_reducible first|exact HB.out|apply ba|apply bb|apply bc)|exact HB.out))))
                           have n4_:=A_ (cl (by repeat (first|(with_reducible exact HR336.out)|(with_reducible refine ca ?_ _)|(with_reducible refine cb ?_ _)|(with_reducible refine cc ?_)|exact HR336.out)) hb)
                           have n5_:=A_ (cl (by repeat (first|(with_reducible exact HR349.out)|(with_reducible refine ca ?_ _)|(with_reducible refine cb ?_ _)|(with_reducible refine cc ?_)|exact HR349.out)) hb)
                           have n6_:=A_ (below_step (by repeat (first|(with_reducible first|exact HB.out|apply ba|apply bb|apply bc)|exact HB.out)) hb)
                           clear HO_7
                           clear HO_8
                           clear HO332
                           clear HR336
                           clear HR349
                           clear HB
                           have HO_7:=n0_
                           have HO_8:=n1_
                           have HO332:=n2_
                           have HO342:=n3_
                           have HR336:=n4_
                           have HR349:=n5_
                           have HB:=n6_
                           clear n0_ n1_ n2_ n3_ n4_ n5_ n6_
                           clear hb ho117
                           refine hK.out _ _ trivial (fun hHeld=>?_)
                           clear hK K
                           refine norm_ (a':=?_) ?_ ?_
                           rotate_left
                           ·
                            show Act.put _ (some 182) _ = _
                            simp only [Act.put,sa,sb,sc,i64_w,i32_w]
                            rfl
                           refine one_ (i:=4) (N:=some 180) #[true,true,true,true,true,true,true,false,true,true,true,false,true,true,false,false,false,false,false,false] rfl rfl (one_of HT_.out (by kernel_rfl)) (by decide) (fun K hK=>?_)
                           refine Kd.R_append_rows_step (Kd.int .i64) (w0:=w) w.heap.size (by rfl) (.tmp 176) (.tmp 179) 22 3 (.int .i64 0) 8 rfl Try.underlying22 info3 rfl (by decide) (by omega) v331 y330 y333 _ _ _ (fun k_=>nb k_ (.slice Ao8 x7_1.length co8)∧nb k_ (.slice Ao20 x8_2.length co20)∧nb k_ v341) (fun _=>False) rfl rfl ?aO ?aR (fun _ _ h=>h) (fun _ h=>h.elim) ?aF ?aB ?aS ?aL ?_
                           (case aR=>repeat (first|exact (by repeat (first|(with_reducible exact HR336.out)|(with_reducible refine ca ?_ _)|(with_reducible refine cb ?_ _)|(with_reducible refine cc ?_)|exact HR336.out))|(with_reducible refine ca ?_ _)|(with_reducible refine cb ?_ _)|(with_reducible refine cc ?_)))
                           (case aB=>exact (by repeat (first|(with_reducible first|exact HB.out|apply ba|apply bb|apply bc)|exact HB.out)))
                           (case aF=>exact (fun k_ hk=>⟨rh (rl (by (with_reducible repeat (first|apply ra|apply rb|apply rc));exact HO_7.out)) k_ hk,rh (rl (by (with_reducible repeat (first|apply ra|apply rb|apply rc));exact HO_8.out)) k_ hk,rh (rl (by (with_reducible repeat (first|apply ra|apply rb|apply rc));exact HO342.out)) k_ hk⟩))
                           (case aO=>exact (by (with_reducible repeat (first|apply ra|apply rb|apply rc));exact rm HO332.out (fun _ hk=>⟨hk.1.1.2,⟨hk.1.2,hk.2⟩⟩)))
                           (case aS=>exact (below_size (by repeat (first|(with_reducible first|exact HB.out|apply ba|apply bb|apply bc)|exact HB.out))))
                           (case aL=>have:=LMc73.out;omega)
                           intro v338 w118 ho hb hg hat
                           rw [← Ny337.out] at ho
                           have n0_:=A_ (rf (ok:=(fun k_=>nb k_ (.slice Ao20 x8_2.length co20)∧nb k_ v341)) (by (with_reducible repeat (first|apply ra|apply rb|apply rc));exact rm HO_7.out (fun _ hk=>⟨⟨hk.1.1,hk.2⟩,hk.1.2⟩)) hg hat)
                           have n1_:=A_ (rf (ok:=(fun k_=>nb k_ (.slice Ao8 x7_1.length co8)∧nb k_ v341)) (by (with_reducible repeat (first|apply ra|apply rb|apply rc));exact rm HO_8.out (fun _ hk=>⟨⟨hk.1.1,hk.2⟩,hk.1.2⟩)) hg hat)
                           have n2_:=A_ (rf (ok:=(fun k_=>nb k_ (.slice Ao8 x7_1.length co8)∧nb k_ (.slice Ao20 x8_2.length co20))) (by (with_reducible repeat (first|apply ra|apply rb|apply rc));exact rm HO342.out (fun _ hk=>⟨⟨hk.1.1.2,hk.1.2⟩,hk.2⟩)) hg hat)
                           have n3_:=A_ (hb)
                           have n4_:=A_ ((show Kd.C (Kd.int .i64) w118 Ao8 y333.length y333 from by rw [Ny333.out];exact Kd.C_take (m:=((ji70) : Int).toNat) ((rd_ (rf (ok:=(fun k_=>nb k_ (.slice Ao20 x8_2.length co20)∧nb k_ v341)) (by (with_reducible repeat (first|apply ra|apply rb|apply rc));exact rm HO_7.out (fun _ hk=>⟨⟨hk.1.1,hk.2⟩,hk.1.2⟩)) hg hat)).2.2) KL112.out))
                           have n5_:=A_ ((show Kd.C (Kd.int .i64) w118 A113 y346.length y346 from by rw [Ny346.out,KA113.out];exact Kd.C_drop (m:=((ji70) : Int).toNat) (c:=co8) ((rd_ (rf (ok:=(fun k_=>nb k_ (.slice Ao20 x8_2.length co20)∧nb k_ v341)) (by (with_reducible repeat (first|apply ra|apply rb|apply rc));exact rm HO_7.out (fun _ hk=>⟨⟨hk.1.1,hk.2⟩,hk.1.2⟩)) hg hat)).2.2) KL113.out ((rd_ (rf (ok:=(fun k_=>nb k_ (.slice Ao20 x8_2.length co20)∧nb k_ v341)) (by (with_reducible repeat (first|apply ra|apply rb|apply rc));exact rm HO_7.out (fun _ hk=>⟨⟨hk.1.1,hk.2⟩,hk.1.2⟩)) hg hat)).2.1)))
                           have n6_:=A_ (ho)
                           clear HO_7
                           clear HO_8
                           clear HO342
                           clear HB
                           clear HR336
                           clear HR349
                           clear HO332
                           have HO_7:=n0_
                           have HO_8:=n1_
                           have HO342:=n2_
                           have HB:=n3_
                           have HR336:=n4_
                           have HR349:=n5_
                           have HO339:=n6_
                           clear n0_ n1_ n2_ n3_ n4_ n5_ n6_
                           clear ho hb hg hat
                           refine hK.out _ _ trivial (fun hHeld=>?_)
                           clear hK K
                           refine norm_ (a':=?_) ?_ ?_
                           rotate_left
                           ·
                            show Act.put _ (some 180) _ = _
                            simp only [Act.put,sa,sb,sc,i64_w,i32_w]
                            rfl
                           exact norm_ (by simp only [putAll,Act.put,List.setIfInBounds_toArray,List.set_cons_zero,List.set_cons_succ]) (hCont (v331,v338,v341) _ ⟨(by (with_reducible repeat (first|apply ra|apply rb|apply rc));exact rm HO339.out (fun _ hk=>⟨hk.2.2,⟨hk.1,hk.2.1⟩⟩)),(by (with_reducible repeat (first|apply ra|apply rb|apply rc));exact rm HO342.out (fun _ hk=>⟨hk.2,⟨hk.1.1,hk.1.2⟩⟩)),(by (with_reducible repeat (first|apply ra|apply rb|apply rc));exact rm HO_7.out (fun _ hk=>⟨hk.2,⟨hk.1.2,hk.1.1⟩⟩)),(by (with_reducible repeat (first|apply ra|apply rb|apply rc));exact rm HO_8.out (fun _ hk=>⟨hk.2,⟨hk.1.2,hk.1.1⟩⟩)),(by repeat (first|(with_reducible first|exact HB.out|apply ba|apply bb|apply bc)|exact HB.out))⟩)
                         ·
                          skip
                          refine Kd.R_lit_step (Kd.int .i64) _ 3 ?hg (N:=182) ?hd (xs:=([(wrap64 (Int.tdiv (wrap64 (t289 * 4)) 5))] : List Int)) (inner:=[.int .i64 (wrap64 (Int.tdiv (wrap64 (t289 * 4)) 5))]) (ok:=fun _=>True) (okp:=fun _=>True) ?hr ?hp (fun _ hk=>hk) trivial (Below.refl _ _) (Nat.le_refl _) (by simp) ?_;(case hd=>rfl);(case hg=>rfl);(case hr=>first|(go_simp;done)|(go_simp;rfl));(case hp=>exact (Reps.one (show Kd.M (Kd.int .i64) _ _ _ (wrap64 (Int.tdiv (wrap64 (t289 * 4)) 5)) [.int .i64 (wrap64 (Int.tdiv (wrap64 (t289 * 4)) 5))] from rfl) (Reps.none _ _)))
                          intro v341 w114 ho115 hb hg_ hnew_
                          clear hg_ hnew_
                          (first|rw [← Ny340.out] at ho115|(simp only [Int.reduceToNat] at ho115;rw [← Ny340.out] at ho115))
                          have n0_:=A_ (re (by (with_reducible repeat (first|apply ra|apply rb|apply rc));exact HO_7.out) (rs ho115) hb)
                          have n1_:=A_ (re (by (with_reducible repeat (first|apply ra|apply rb|apply rc));exact HO_8.out) (rs ho115) hb)
                          have n2_:=A_ (Kd.R_lower (rn (rn ho115 (rl (by (with_reducible repeat (first|apply ra|apply rb|apply rc));exact HO_7.out))) (rl (by (with_reducible repeat (first|apply ra|apply rb|apply rc));exact HO_8.out))) (below_size (by repeat (first|(with_reducible first|exact HB.out|apply ba|apply bb|apply bc)|exact HB.out))))
                          have n3_:=A_ (cl (by repeat (first|(with_reducible exact HR336.out)|(with_reducible refine ca ?_ _)|(with_reducible refine cb ?_ _)|(with_reducible refine cc ?_)|exact HR336.out)) hb)
                          have n4_:=A_ (cl (by repeat (first|(with_reducible exact HR349.out)|(with_reducible refine ca ?_ _)|(with_reducible refine cb ?_ _)|(with_reducible refine cc ?_)|exact HR349.out)) hb)
                          have n5_:=A_ (below_step (by repeat (first|(with_reducible first|exact HB.out|apply ba|apply bb|apply bc)|exact HB.out)) hb)
                          clear HO_7
                          clear HO_8
                          clear HR336
                          clear HR349
                          clear HB
                          have HO_7:=n0_
                          have HO_8:=n1_
                          have HO342:=n2_
                          have HR336:=n3_
                          have HR349:=n4_
                          have HB:=n5_
                          clear n0_ n1_ n2_ n3_ n4_ n5_
                          clear hb ho115
                          refine hK.out _ _ trivial (fun hHeld=>?_)
                          clear hK K
                          refine norm_ (a':=?_) ?_ ?_
                          rotate_left
                          ·
                           show Act.put _ (some 182) _ = _
                           simp only [Act.put,sa,sb,sc,i64_w,i32_w]
                           rfl
                          refine one_ (i:=0) (N:=some 176) #[true,true,true,true,false,true,true,false,true,true,true,false,true,true,false,false,false,false,false,false] rfl rfl (one_of HT_.out (by kernel_rfl)) (by decide) (fun K hK=>?_)
                          refine Kd.R_lit_step (Kd.int .i64) _ 3 ?hg (N:=176) ?hd (xs:=([] : List Int)) (inner:=[]) (ok:=fun _=>True) (okp:=fun _=>True) ?hr ?hp (fun _ hk=>hk) trivial (Below.refl _ _) (Nat.le_refl _) (by simp) ?_;(case hd=>rfl);(case hg=>rfl);(case hr=>first|(go_simp;done)|(go_simp;rfl));(case hp=>exact (Reps.none _ _))
                          intro v331 w116 ho117 hb hg_ hnew_
                          clear hg_ hnew_
                          (first|rw [← Ny330.out] at ho117|(simp only [Int.reduceToNat] at ho117;rw [← Ny330.out] at ho117))
                          have n0_:=A_ (re (by (with_reducible repeat (first|apply ra|apply rb|apply rc));exact HO_7.out) (rs ho117) hb)
                          have n1_:=A_ (re (by (with_reducible repeat (first|apply ra|apply rb|apply rc));exact HO_8.out) (rs ho117) hb)
                          have n2_:=A_ (re (by (with_reducible repeat (first|apply ra|apply rb|apply rc));exact HO342.out) (rs ho117) hb)
                          have n3_:=A_ (Kd.R_lower (rn (rn (rn ho117 (rl (by (with_reducible repeat (first|apply ra|apply rb|apply rc));exact HO_7.out))) (rl (by (with_reducible repeat (first|apply ra|apply rb|apply rc));exact HO_8.out))) (rl (by (with_reducible repeat (first|apply ra|apply rb|apply rc));exact HO342.out))) (below_size (by repeat (first|(with_reducible first|exact HB.out|apply ba|apply bb|apply bc)|exact HB.out))))
                          have n4_:=A_ (cl (by repeat (first|(with_reducible exact HR336.out)|(with_reducible refine ca ?_ _)|(with_reducible refine cb ?_ _)|(with_reducible refine cc ?_)|exact HR336.out)) hb)
                          have n5_:=A_ (cl (by repeat (first|(with_reducible exact HR349.out)|(with_reducible refine ca ?_ _)|(with_reducible refine cb ?_ _)|(with_reducible refine cc ?_)|exact HR349.out)) hb)
                          have n6_:=A_ (below_step (by repeat (first|(with_reducible first|exact HB.out|apply ba|apply bb|apply bc)|exact HB.out)) hb)
                          clear HO_7
                          clear HO_8
                          clear HO342
                          clear HR336
                          clear HR349
                          clear HB
                          have HO_7:=n0_
                          have HO_8:=n1_
                          have HO342:=n2_
                          have HO332:=n3_
                          have HR336:=n4_
                          have HR349:=n5_
                          have HB:=n6_
                          clear n0_ n1_ n2_ n3_ n4_ n5_ n6_
                          clear hb ho117
                          refine hK.out _ _ trivial (fun hHeld=>?_)
                          clear hK K
                          refine norm_ (a':=?_) ?_ ?_
                          rotate_left
                          ·
                           show Act.put _ (some 176) _ = _
                           simp only [Act.put,sa,sb,sc,i64_w,i32_w]
                           rfl
                          refine one_ (i:=4) (N:=some 180) #[true,true,true,true,true,true,true,false,true,true,true,false,true,true,false,false,false,false,false,false] rfl rfl (one_of HT_.out (by kernel_rfl)) (by decide) (fun K hK=>?_)
                          refine Kd.R_append_rows_step (Kd.int .i64) (w0:=w) w.heap.size (by rfl) (.tmp 176) (.tmp 179) 22 3 (.int .i64 0) 8 rfl Try.underlying22 info3 rfl (by decide) (by omega) v331 y330 y333 _ _ _ (fun k_=>nb k_ (.slice Ao8 x7_1.length co8)∧nb k_ (.slice Ao20 x8_2.length co20)∧nb k_ v341) (fun _=>False) rfl rfl ?aO ?aR (fun _ _ h=>h) (fun _ h=>h.elim) ?aF ?aB ?aS ?aL ?_
                          (case aR=>repeat (first|exact (by repeat (first|(with_reducible exact HR336.out)|(with_reducible refine ca ?_ _)|(with_reducible refine cb ?_ _)|(with_reducible refine cc ?_)|exact HR336.out))|(with_reducible refine ca ?_ _)|(with_reducible refine cb ?_ _)|(with_reducible refine cc ?_)))
                          (case aB=>exact (by repeat (first|(with_reducible first|exact HB.out|apply ba|apply bb|apply bc)|exact HB.out)))
                          (case aF=>exact (fun k_ hk=>⟨rh (rl (by (with_reducible repeat (first|apply ra|apply rb|apply rc));exact HO_7.out)) k_ hk,rh (rl (by (with_reducible repeat (first|apply ra|apply rb|apply rc));exact HO_8.out)) k_ hk,rh (rl (by (with_reducible repeat (first|apply ra|apply rb|apply rc));exact HO342.out)) k_ hk⟩))
                          (case aO=>exact (by (with_reducible repeat (first|apply ra|apply rb|apply rc));exact rm HO332.out (fun _ hk=>⟨hk.1.1.2,⟨hk.1.2,hk.2⟩⟩)))
                          (case aS=>exact (below_size (by repeat (first|(with_reducible first|exact HB.out|apply ba|apply bb|apply bc)|exact HB.out))))
                          (case aL=>have:=LMc73.out;omega)
                          intro v338 w118 ho hb hg hat
                          rw [← Ny337.out] at ho
                          have n0_:=A_ (rf (ok:=(fun k_=>nb k_ (.slice Ao20 x8_2.length co20)∧nb k_ v341)) (by (with_reducible repeat (first|apply ra|apply rb|apply rc));exact HO_7.out) hg hat)
                          have n1_:=A_ (rf (ok:=(fun k_=>nb k_ (.slice Ao8 x7_1.length co8)∧nb k_ v341)) (by (with_reducible repeat (first|apply ra|apply rb|apply rc));exact HO_8.out) hg hat)
                          have n2_:=A_ (rf (ok:=(fun k_=>nb k_ (.slice Ao8 x7_1.length co8)∧nb k_ (.slice Ao20 x8_2.length co20))) (by (with_reducible repeat (first|apply ra|apply rb|apply rc));exact rm HO342.out (fun _ hk=>⟨⟨hk.1.1.2,hk.1.2⟩,hk.2⟩)) hg hat)
                          have n3_:=A_ (hb)
                          have n4_:=A_ ((show Kd.C (Kd.int .i64) w118 Ao8 y333.length y333 from by rw [Ny333.out];exact Kd.C_take (m:=((ji70) : Int).toNat) ((rd_ (rf (ok:=(fun k_=>nb k_ (.slice Ao20 x8_2.length co20)∧nb k_ v341)) (by (with_reducible repeat (first|apply ra|apply rb|apply rc));exact HO_7.out) hg hat)).2.2) KL112.out))
                          have n5_:=A_ ((show Kd.C (Kd.int .i64) w118 A113 y346.length y346 from by rw [Ny346.out,KA113.out];exact Kd.C_drop (m:=((ji70) : Int).toNat) (c:=co8) ((rd_ (rf (ok:=(fun k_=>nb k_ (.slice Ao20 x8_2.length co20)∧nb k_ v341)) (by (with_reducible repeat (first|apply ra|apply rb|apply rc));exact HO_7.out) hg hat)).2.2) KL113.out ((rd_ (rf (ok:=(fun k_=>nb k_ (.slice Ao20 x8_2.length co20)∧nb k_ v341)) (by (with_reducible repeat (first|apply ra|apply rb|apply rc));exact HO_7.out) hg hat)).2.1)))
                          have n6_:=A_ (ho)
                          clear HO_7
                          clear HO_8
                          clear HO342
                          clear HB
                          clear HR336
                          clear HR349
                          clear HO332
                          have HO_7:=n0_
                          have HO_8:=n1_
                          have HO342:=n2_
                          have HB:=n3_
                          have HR336:=n4_
                          have HR349:=n5_
                          have HO339:=n6_
                          clear n0_ n1_ n2_ n3_ n4_ n5_ n6_
                          clear ho hb hg hat
                          refine hK.out _ _ trivial (fun hHeld=>?_)
                          clear hK K
                          refine norm_ (a':=?_) ?_ ?_
                          rotate_left
                          ·
                           show Act.put _ (some 180) _ = _
                           simp only [Act.put,sa,sb,sc,i64_w,i32_w]
                           rfl
                          exact norm_ (by simp only [putAll,Act.put,List.setIfInBounds_toArray,List.set_cons_zero,List.set_cons_succ]) (hCont (v331,v338,v341) _ ⟨(by (with_reducible repeat (first|apply ra|apply rb|apply rc));exact rm HO339.out (fun _ hk=>⟨hk.2.2,⟨hk.1,hk.2.1⟩⟩)),(by (with_reducible repeat (first|apply ra|apply rb|apply rc));exact rm HO342.out (fun _ hk=>⟨hk.2,⟨hk.1.1,hk.1.2⟩⟩)),(by (with_reducible repeat (first|apply ra|apply rb|apply rc));exact rm HO_7.out (fun _ hk=>⟨hk.2,⟨hk.1.2,hk.1.1⟩⟩)),(by (with_reducible repeat (first|apply ra|apply rb|apply rc));exact rm HO_8.out (fun _ hk=>⟨hk.2,⟨hk.1.2,hk.1.1⟩⟩)),(by repeat (first|(with_reducible first|exact HB.out|apply ba|apply bb|apply bc)|exact HB.out))⟩)
                        rintro ⟨v331,v338,v341⟩ w119 ⟨h0_,h1_,h2_,h3_,h4_⟩
                        have n0_ : Aside0 (Kd.R (Kd.int .i64) 3 w119 w.heap.size (fun k_=>nb k_ v341∧nb k_ (.slice Ao8 x7_1.length co8)∧nb k_ (.slice Ao20 x8_2.length co20)) v338 y337):=⟨h0_⟩
                        have n1_ : Aside0 (Kd.R (Kd.int .i64) 3 w119 w.heap.size (fun k_=>nb k_ v338∧nb k_ (.slice Ao8 x7_1.length co8)∧nb k_ (.slice Ao20 x8_2.length co20)) v341 y340):=⟨h1_⟩
                        have n2_ : Aside0 (Kd.R (Kd.int .i64) 3 w119 w.heap.size (fun k_=>nb k_ v338∧nb k_ v341∧nb k_ (.slice Ao20 x8_2.length co20)) (.slice Ao8 x7_1.length co8) x7_1):=⟨h2_⟩
                        have n3_ : Aside0 (Kd.R (Kd.int .i64) 3 w119 w.heap.size (fun k_=>nb k_ v338∧nb k_ v341∧nb k_ (.slice Ao8 x7_1.length co8)) (.slice Ao20 x8_2.length co20) x8_2):=⟨h3_⟩
                        have n4_ : Aside0 (Below w.heap.size w w119):=⟨h4_⟩
                        clear HO_7
                        clear HO_8
                        clear HB
                        clear h0_ h1_ h2_ h3_ h4_
                        have HO339:=n0_
                        have HO342:=n1_
                        have HO_7:=n2_
                        have HO_8:=n3_
                        have HB:=n4_
                        clear n0_ n1_ n2_ n3_ n4_
                        have hHeld:=trivial
                        have HR336:=A_ (show Kd.C (Kd.int .i64) w119 Ao8 y333.length y333 from by rw [Ny333.out];exact Kd.C_take (m:=((ji70) : Int).toNat) ((rd_ (HO_7.out)).2.2) KL112.out)
                        have HR349:=A_ (show Kd.C (Kd.int .i64) w119 A113 y346.length y346 from by rw [Ny346.out,KA113.out];exact Kd.C_drop (m:=((ji70) : Int).toNat) (c:=co8) ((rd_ (HO_7.out)).2.2) KL113.out ((rd_ (HO_7.out)).2.1))
                        obtain ⟨Ao121,co121,eo121⟩:=Kd.R_slice HO342.out
                        (first|subst eo121|(injection eo121 with f1_ f2_ f3_;have f4_:=f1_.symm;have f5_:=f3_.symm;clear f1_ f2_ f3_;subst f4_;subst f5_))
                        refine norm_ (a':=?_) ?_ ?_
                        rotate_left
                        ·
                         simp only [putAll,Act.put,List.setIfInBounds_toArray,List.set_cons_zero,List.set_cons_succ]
                         rfl
                        refine one_ (i:=7) (N:=some 183) #[true,true,true,true,true,true,true,true,true,true,true,false,true,true,false,false,false,false,false,false] rfl rfl (one_of HT_.out (by kernel_rfl)) (by decide) (fun K hK=>?_)
                        refine Kd.R_append_rows_step (Kd.int .i64) (w0:=w) w.heap.size (by rfl) (.tmp 180) (.tmp 182) 22 3 (.int .i64 0) 8 rfl Try.underlying22 info3 rfl (by decide) (by omega) v338 y337 y340 _ _ _ (fun k_=>nb k_ (.slice Ao8 x7_1.length co8)∧nb k_ (.slice Ao20 x8_2.length co20)∧nb k_ (.slice Ao121 y340.length co121)) (fun _=>False) rfl rfl ?aO ?aR (fun _ _ h=>h) (fun _ h=>h.elim) ?aF ?aB ?aS ?aL ?_
                        (case aR=>repeat (first|exact (rd_ HO342.out).2.2|(with_reducible refine ca ?_ _)|(with_reducible refine cb ?_ _)|(with_reducible refine cc ?_)))
                        (case aB=>exact (by repeat (first|(with_reducible first|exact HB.out|apply ba|apply bb|apply bc)|exact HB.out)))
                        (case aF=>exact (fun k_ hk=>⟨rh (rl (by (with_reducible repeat (first|apply ra|apply rb|apply rc));exact HO_7.out)) k_ hk,rh (rl (by (with_reducible repeat (first|apply ra|apply rb|apply rc));exact HO_8.out)) k_ hk,rh (rl (by (with_reducible repeat (first|apply ra|apply rb|apply rc));exact HO342.out)) k_ hk⟩))
                        (case aO=>exact (by (with_reducible repeat (first|apply ra|apply rb|apply rc));exact rm HO339.out (fun _ hk=>⟨hk.2.1,⟨hk.2.2,hk.1⟩⟩)))
                        (case aS=>exact (below_size (by repeat (first|(with_reducible first|exact HB.out|apply ba|apply bb|apply bc)|exact HB.out))))
                        (case aL=>have:=LMc74.out;omega)
                        intro v344 w120 ho hb hg hat
                        rw [← Ny343.out] at ho
                        have n0_:=A_ (rf (ok:=(fun k_=>nb k_ (.slice Ao20 x8_2.length co20)∧nb k_ (.slice Ao121 y340.length co121))) (by (with_reducible repeat (first|apply ra|apply rb|apply rc));exact rm HO_7.out (fun _ hk=>⟨⟨hk.2.2,hk.2.1⟩,hk.1⟩)) hg hat)
                        have n1_:=A_ (rf (ok:=(fun k_=>nb k_ (.slice Ao8 x7_1.length co8)∧nb k_ (.slice Ao121 y340.length co121))) (by (with_reducible repeat (first|apply ra|apply rb|apply rc));exact rm HO_8.out (fun _ hk=>⟨⟨hk.2.2,hk.2.1⟩,hk.1⟩)) hg hat)
                        have n2_:=A_ (rf (ok:=(fun k_=>nb k_ (.slice Ao8 x7_1.length co8)∧nb k_ (.slice Ao20 x8_2.length co20))) (by (with_reducible repeat (first|apply ra|apply rb|apply rc));exact rm HO342.out (fun _ hk=>⟨⟨hk.2.1,hk.2.2⟩,hk.1⟩)) hg hat)
                        have n3_:=A_ (hb)
                        have n4_:=A_ ((show Kd.C (Kd.int .i64) w120 Ao8 y333.length y333 from by rw [Ny333.out];exact Kd.C_take (m:=((ji70) : Int).toNat) ((rd_ (rf (ok:=(fun k_=>nb k_ (.slice Ao20 x8_2.length co20)∧nb k_ (.slice Ao121 y340.length co121))) (by (with_reducible repeat (first|apply ra|apply rb|apply rc));exact rm HO_7.out (fun _ hk=>⟨⟨hk.2.2,hk.2.1⟩,hk.1⟩)) hg hat)).2.2) KL112.out))
                        have n5_:=A_ ((show Kd.C (Kd.int .i64) w120 A113 y346.length y346 from by rw [Ny346.out,KA113.out];exact Kd.C_drop (m:=((ji70) : Int).toNat) (c:=co8) ((rd_ (rf (ok:=(fun k_=>nb k_ (.slice Ao20 x8_2.length co20)∧nb k_ (.slice Ao121 y340.length co121))) (by (with_reducible repeat (first|apply ra|apply rb|apply rc));exact rm HO_7.out (fun _ hk=>⟨⟨hk.2.2,hk.2.1⟩,hk.1⟩)) hg hat)).2.2) KL113.out ((rd_ (rf (ok:=(fun k_=>nb k_ (.slice Ao20 x8_2.length co20)∧nb k_ (.slice Ao121 y340.length co121))) (by (with_reducible repeat (first|apply ra|apply rb|apply rc));exact rm HO_7.out (fun _ hk=>⟨⟨hk.2.2,hk.2.1⟩,hk.1⟩)) hg hat)).2.1)))
                        have n6_:=A_ (ho)
                        clear HO_7
                        clear HO_8
                        clear HO342
                        clear HB
                        clear HR336
                        clear HR349
                        clear HO339
                        have HO_7:=n0_
                        have HO_8:=n1_
                        have HO342:=n2_
                        have HB:=n3_
                        have HR336:=n4_
                        have HR349:=n5_
                        have HO345:=n6_
                        clear n0_ n1_ n2_ n3_ n4_ n5_ n6_
                        clear ho hb hg hat
                        refine hK.out _ _ trivial (fun hHeld=>?_)
                        clear hK K
                        refine norm_ (a':=?_) ?_ ?_
                        rotate_left
                        ·
                         show Act.put _ (some 183) _ = _
                         simp only [Act.put,sa,sb,sc,i64_w,i32_w]
                         rfl
                        refine one_ (i:=11) (N:=some 187) #[true,true,true,true,true,true,true,true,true,true,true,true,true,true,false,false,false,false,false,false] rfl rfl (one_of HT_.out (by kernel_rfl)) (by decide) (fun K hK=>?_)
                        refine Kd.R_append_rows_step (Kd.int .i64) (w0:=w) w.heap.size (by rfl) (.tmp 183) (.tmp 186) 22 3 (.int .i64 0) 8 rfl Try.underlying22 info3 rfl (by decide) (by omega) v344 y343 y346 _ _ _ (fun k_=>nb k_ (.slice Ao8 x7_1.length co8)∧nb k_ (.slice Ao20 x8_2.length co20)∧nb k_ (.slice Ao121 y340.length co121)) (fun _=>False) rfl rfl ?aO ?aR (fun _ _ h=>h) (fun _ h=>h.elim) ?aF ?aB ?aS ?aL ?_
                        (case aR=>repeat (first|exact (by repeat (first|(with_reducible exact HR349.out)|(with_reducible refine ca ?_ _)|(with_reducible refine cb ?_ _)|(with_reducible refine cc ?_)|exact HR349.out))|(with_reducible refine ca ?_ _)|(with_reducible refine cb ?_ _)|(with_reducible refine cc ?_)))
                        (case aB=>exact (by repeat (first|(with_reducible first|exact HB.out|apply ba|apply bb|apply bc)|exact HB.out)))
                        (case aF=>exact (fun k_ hk=>⟨rh (rl (by (with_reducible repeat (first|apply ra|apply rb|apply rc));exact HO_7.out)) k_ hk,rh (rl (by (with_reducible repeat (first|apply ra|apply rb|apply rc));exact HO_8.out)) k_ hk,rh (rl (by (with_reducible repeat (first|apply ra|apply rb|apply rc));exact HO342.out)) k_ hk⟩))
                        (case aO=>exact (by (with_reducible repeat (first|apply ra|apply rb|apply rc));exact HO345.out))
                        (case aS=>exact (below_size (by repeat (first|(with_reducible first|exact HB.out|apply ba|apply bb|apply bc)|exact HB.out))))
                        (case aL=>have:=LMc77.out;omega)
                        intro v351 w122 ho hb hg hat
                        rw [← Ny350.out] at ho
                        have n0_:=A_ (rf (ok:=(fun k_=>nb k_ (.slice Ao20 x8_2.length co20)∧nb k_ (.slice Ao121 y340.length co121))) (by (with_reducible repeat (first|apply ra|apply rb|apply rc));exact HO_7.out) hg hat)
                        have n1_:=A_ (rf (ok:=(fun k_=>nb k_ (.slice Ao8 x7_1.length co8)∧nb k_ (.slice Ao121 y340.length co121))) (by (with_reducible repeat (first|apply ra|apply rb|apply rc));exact HO_8.out) hg hat)
                        have n2_:=A_ (rf (ok:=(fun k_=>nb k_ (.slice Ao8 x7_1.length co8)∧nb k_ (.slice Ao20 x8_2.length co20))) (by (with_reducible repeat (first|apply ra|apply rb|apply rc));exact HO342.out) hg hat)
                        have n3_:=A_ (hb)
                        have n4_:=A_ ((show Kd.C (Kd.int .i64) w122 Ao8 y333.length y333 from by rw [Ny333.out];exact Kd.C_take (m:=((ji70) : Int).toNat) ((rd_ (rf (ok:=(fun k_=>nb k_ (.slice Ao20 x8_2.length co20)∧nb k_ (.slice Ao121 y340.length co121))) (by (with_reducible repeat (first|apply ra|apply rb|apply rc));exact HO_7.out) hg hat)).2.2) KL112.out))
                        have n5_:=A_ ((show Kd.C (Kd.int .i64) w122 A113 y346.length y346 from by rw [Ny346.out,KA113.out];exact Kd.C_drop (m:=((ji70) : Int).toNat) (c:=co8) ((rd_ (rf (ok:=(fun k_=>nb k_ (.slice Ao20 x8_2.length co20)∧nb k_ (.slice Ao121 y340.length co121))) (by (with_reducible repeat (first|apply ra|apply rb|apply rc));exact HO_7.out) hg hat)).2.2) KL113.out ((rd_ (rf (ok:=(fun k_=>nb k_ (.slice Ao20 x8_2.length co20)∧nb k_ (.slice Ao121 y340.length co121))) (by (with_reducible repeat (first|apply ra|apply rb|apply rc));exact HO_7.out) hg hat)).2.1)))
                        have n6_:=A_ (ho)
                        clear HO_7
                        clear HO_8
                        clear HO342
                        clear HB
                        clear HR336
                        clear HR349
                        clear HO345
                        have HO_7:=n0_
                        have HO_8:=n1_
                        have HO342:=n2_
                        have HB:=n3_
                        have HR336:=n4_
                        have HR349:=n5_
                        have HO352:=n6_
                        clear n0_ n1_ n2_ n3_ n4_ n5_ n6_
                        clear ho hb hg hat
                        obtain ⟨Ao123,co123,eo123⟩:=Kd.R_slice HO352.out
                        (first|subst eo123|(injection eo123 with f1_ f2_ f3_;have f4_:=f1_.symm;have f5_:=f3_.symm;clear f1_ f2_ f3_;subst f4_;subst f5_))
                        refine hK.out _ _ trivial (fun hHeld=>?_)
                        clear hK K
                        refine norm_ (a':=?_) ?_ ?_
                        rotate_left
                        ·
                         show Act.put _ (some 187) _ = _
                         simp only [Act.put,sa,sb,sc,i64_w,i32_w]
                         rfl
                        refine one_ (i:=14) (N:=some 190) #[true,true,true,true,true,true,true,true,true,true,true,true,true,true,true,false,false,false,false,false] rfl rfl (one_of HT_.out (by kernel_rfl)) (by decide) (fun K hK=>?_)
                        refine goes_ Try.func11 (by kernel_rfl) rfl #[.slice Ao123 y350.length co123,.slice Ao20 x8_2.length co20,.int .i64 (wrap64 (Int.tdiv (wrap64 (t289 * 4)) 5))] (by rfl) rfl rfl (by (try simp only [List.map_toArray,List.map_cons,List.map_nil]);first|done|rfl|(simp only [List.length_drop,List.length_take];rfl)|((try rw [KY112.out]);(try rw [KY113.out]);(try rw [KY83.out]);(try rw [KY84.out]);(try rw [KY98.out]);(try rw [KY99.out]);rfl)) ?_
                        with_reducible refine (edit_Distance.calls kj52 _ _ y350 _ _ x8_2 (wrap64 (Int.tdiv (wrap64 (t289 * 4)) 5)) t353 t354 _ ?side1 ?side2 ?side3 ?side4 A78.out).mono ?_
                        (case side1=>repeat (first|exact (rd_ HO352.out).2.2|(with_reducible refine ca ?_ _)|(with_reducible refine cb ?_ _)|(with_reducible refine cc ?_)))
                        (case side2=>exact (rd_ HO352.out).2.1)
                        (case side3=>repeat (first|exact (rd_ HO_8.out).2.2|(with_reducible refine ca ?_ _)|(with_reducible refine cb ?_ _)|(with_reducible refine cc ?_)))
                        (case side4=>exact (rd_ HO_8.out).2.1)
                        rintro e w124 ⟨rfl,hb⟩
                        refine ⟨_,rfl,?_⟩
                        have n0_:=A_ (rw_ (by (with_reducible repeat (first|apply ra|apply rb|apply rc));exact HO_7.out) hb)
                        have n1_:=A_ (rw_ (by (with_reducible repeat (first|apply ra|apply rb|apply rc));exact HO_8.out) hb)
                        have n2_:=A_ (rw_ (by (with_reducible repeat (first|apply ra|apply rb|apply rc));exact HO342.out) hb)
                        have n3_:=A_ (rw_ (by (with_reducible repeat (first|apply ra|apply rb|apply rc));exact HO352.out) hb)
                        have n4_:=A_ (cl (by repeat (first|(with_reducible exact HR336.out)|(with_reducible refine ca ?_ _)|(with_reducible refine cb ?_ _)|(with_reducible refine cc ?_)|exact HR336.out)) hb)
                        have n5_:=A_ (cl (by repeat (first|(with_reducible exact HR349.out)|(with_reducible refine ca ?_ _)|(with_reducible refine cb ?_ _)|(with_reducible refine cc ?_)|exact HR349.out)) hb)
                        have n6_:=A_ (below_step (by repeat (first|(with_reducible first|exact HB.out|apply ba|apply bb|apply bc)|exact HB.out)) hb)
                        clear HO_7
                        clear HO_8
                        clear HO342
                        clear HO352
                        clear HR336
                        clear HR349
                        clear HB
                        have HO_7:=n0_
                        have HO_8:=n1_
                        have HO342:=n2_
                        have HO352:=n3_
                        have HR336:=n4_
                        have HR349:=n5_
                        have HB:=n6_
                        clear n0_ n1_ n2_ n3_ n4_ n5_ n6_
                        (try clear hb)
                        (try clear hb2)
                        (try clear hk)
                        (try clear hi)
                        refine hK.out _ _ trivial (fun hHeld=>?_)
                        clear hK K
                        refine norm_ (a':=?_) ?_ ?_
                        rotate_left
                        ·
                         show Act.put _ (some 190) _ = _
                         simp only [Act.put,sa,sb,sc,i64_w,i32_w]
                         rfl
                        refine pure_ (i:=15) (N:=some 175) (v:=?_) (a':=?_) #[true,true,true,true,true,true,true,true,true,true,true,true,true,true,true,true,false,false,false,false] rfl rfl (any_of HT_.out (by kernel_rfl)) (fun _ _ _ h=>h) (Or.inl ⟨by rfl,?_⟩) ?_ ?_
                        rotate_left
                        ·
                         intro w'
                         go_simp
                         with_reducible rfl
                        rotate_left
                        ·
                         simp only [Act.put,sa,sb,sc,i64_w,i32_w]
                         rfl
                        refine pure_ (i:=16) (N:=some 191) (v:=?_) (a':=?_) #[true,true,true,true,true,true,true,true,true,true,true,true,true,true,true,true,true,false,false,false] rfl rfl (any_of HT_.out (by kernel_rfl)) (fun _ _ _ h=>h) (Or.inl ⟨by rfl,?_⟩) ?_ ?_
                        rotate_left
                        ·
                         intro w'
                         go_simp
                         with_reducible rfl
                        rotate_left
                        ·
                         simp only [Act.put,sa,sb,sc,i64_w,i32_w]
                         rfl
                        refine pure_ (i:=17) (N:=some 192) (v:=?_) (a':=?_) #[true,true,true,true,true,true,true,true,true,true,true,true,true,true,true,true,true,true,false,false] rfl rfl (any_of HT_.out (by kernel_rfl)) (fun _ _ _ h=>h) (Or.inl ⟨by rfl,?_⟩) ?_ ?_
                        rotate_left
                        ·
                         intro w'
                         go_simp
                         with_reducible rfl
                        rotate_left
                        ·
                         simp only [Act.put,sa,sb,sc,i64_w,i32_w]
                         rfl
                        refine pure_ (i:=18) (N:=some 25) (v:=?_) (a':=?_) #[true,true,true,true,true,true,true,true,true,true,true,true,true,true,true,true,true,true,true,false] rfl rfl (any_of HT_.out (by kernel_rfl)) (fun _ _ _ h=>h) (Or.inl ⟨by rfl,?_⟩) ?_ ?_
                        rotate_left
                        ·
                         intro w'
                         go_simp
                         with_reducible rfl
                        rotate_left
                        ·
                         simp only [Act.put,sa,sb,sc,i64_w,i32_w]
                         rfl
                        refine pure_ (i:=19) (N:=some 26) (v:=?_) (a':=?_) #[true,true,true,true,true,true,true,true,true,true,true,true,true,true,true,true,true,true,true,true] rfl rfl (any_of HT_.out (by kernel_rfl)) (fun _ _ _ h=>h) (Or.inl ⟨by rfl,?_⟩) ?_ ?_
                        rotate_left
                        ·
                         intro w'
                         go_simp
                         with_reducible rfl
                        rotate_left
                        ·
                         simp only [Act.put,sa,sb,sc,i64_w,i32_w]
                         rfl
                        refine done_ (done_of HT_.out (by kernel_rfl)) ?_
                        try go_wp2
                        go_ret
                        exact ⟨by first|rfl|(simp [errW_none,errW_some] <;> rfl)|(simp only [← hji70];first|rfl|(simp [errW_none,errW_some] <;> rfl))|(simp [*,errW_none,errW_some] <;> rfl),by repeat (first|(with_reducible first|exact HB.out|apply ba|apply bb|apply bc)|exact HB.out)⟩
                      ·
                       rw [if_neg c77] at H
                       exact absurd H (by simp)
                     ·
                      rw [if_neg c74] at H
                      exact absurd H (by simp)
                    ·
                     rw [if_neg c73] at H
                     exact absurd H (by simp)
                   ·
                    rw [if_neg c72] at H
                    exact absurd H (by simp)
                  ·
                   rw [if_neg c71] at H
                   exact absurd H (by simp)

/-- THE ONE PURE STATEMENT of shapesearchlaw15_EditMoves: yours. -/
def shapesearchlaw15_EditMoves.Pure : Prop:=∀ (l0 : List Int) (a1 : Int) (a2 : Int),l0.length ≤ maxLen → l0.length * 8 ≤ 140737488351232 → (∀ x ∈ l0,(Lit.int .i64 x).wf = true) → (Lit.int .i8 a1).wf = true → (Lit.int .u8 a2).wf = true → ∃ k,shapesearchlaw15_EditMoves.f k l0 a1 a2 = some true
theorem shapesearchlaw15_EditMoves.walk (P : shapesearchlaw15_EditMoves.Pure) (a0 : Option Addr) (len0 cap0 : Nat) (z0 : List Int) (a1 : Int) (a2 : Int) (w : World) (w0 : (a0 = none∧len0 = 0∧cap0 = 0∧z0 = []) ∨ ∃ x,a0 = some x∧len0 ≤ cap0∧cap0 ≤ maxLen∧z0.length = cap0∧(∀ i,i < z0.length → w.cell? (x.add i) = some (.int .i64 (z0.getD i 0)))∧∀ n ∈ z0,(Lit.int .i64 n).wf = true) (y0 : len0 * 8 ≤ 140737488351232) (w1 : (Lit.int .i8 a1).wf = true) (w2 : (Lit.int .u8 a2).wf = true) :
  Calls Try.prog 5 #[.slice a0 len0 cap0,.int .i8 a1,.int .u8 a2] w fun e w'=>e = .returned (.bool true)∧Below w.heap.size w w':=by
 obtain ⟨l0,rfl,hr0,hm0,hw0,hc0⟩:=ReadsInt.ofRowC w0
 obtain ⟨k,h⟩:=P l0 a1 a2 hm0 y0 hw0 w1 w2
 refine (shapesearchlaw15_EditMoves.calls k _ _ l0 a1 a2 true w (Kd.C_of_reads (d:=(0 : Int)) (h1:=fun _=>rfl) hr0) hc0 h).mono ?_
 rintro e w' ⟨rfl,hd⟩
 exact ⟨rfl,hd⟩

end Go.Proofs.Ytmmmapkobnepcaa.PEditMoves
