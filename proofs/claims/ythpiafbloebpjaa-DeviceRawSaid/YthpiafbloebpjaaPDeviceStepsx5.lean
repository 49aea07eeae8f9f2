/- This file proves, function by function, what the Go functions that one law uses compute; most of it was printed by a program (wip/tools of this session, over the kit's print). -/
import Derived.Test.YthpiafbloebpjaaPDeviceStepsx0
import Derived.Test.YthpiafbloebpjaaPDeviceStepsx1
import Derived.Test.YthpiafbloebpjaaPDeviceStepsx3
import Derived.Test.YthpiafbloebpjaaPDeviceStepsx4
namespace Go.Proofs.Ythpiafbloebpjaa.PDeviceSteps
open Go.RowKit Go.Proofs.YthpiafbloebpjaaW.PrintWords Go.Proofs.YthpiafbloebpjaaW.PrintLast Go.Proofs.YthpiafbloebpjaaW.PrintMore
attribute [local go_sem] max2_int min2_int max_two min_two max_three min_three max_four min_four   -- for this text's walks alone
set_option linter.unusedVariables false
set_option linter.unusedSimpArgs false

/-! ### shapesearchlaw24_awake: function 6 -/
def shapesearchlaw24_awake.f (k : Nat)  : Option (Bool):=(device_New.f k 2).bind fun bt157=>((device_Write.f k bt157.1 bt157.2.1 1 (([1,2] : List Int))).bind fun bt168=>((device_Crash.f k bt168.1 bt168.2.1 (([1] : List Int))).bind fun bt178=>((device_Read.f k bt178.1 bt178.2.1 1).bind fun bt185=>(if bt157.2.2 = 0 then (if bt168.2.2 = 0 then (if bt178.2.2 = 0 then (if bt185.2 = 0 then (if (bt185.1.length : Int) = 64 then (if 0 < (bt185.1.length : Int) then (if (rd bt185.1 0) = 1 then (if 1 < (bt185.1.length : Int) then (some ((rd bt185.1 1) == 0)) else (none)) else (some false)) else (none)) else (some false)) else (some false)) else (some false)) else (some false)) else (some false)))))
theorem shapesearchlaw24_awake.mono : ∀ k,LeO (shapesearchlaw24_awake.f k ) (shapesearchlaw24_awake.f (k + 1) ):=by
 intro  k
 unfold shapesearchlaw24_awake.f
 repeat' first
   | (with_reducible exact device_Crash.mono _ _ _ _)
   | (with_reducible exact device_New.mono _ _)
   | (with_reducible exact device_Read.mono _ _ _ _)
   | (with_reducible exact device_Write.mono _ _ _ _ _)
   | (with_reducible exact LeO.refl _)
   | (with_reducible exact LeO.none _)
   | (with_reducible refine LeO.ite ?_ ?_)
   | (with_reducible refine LeO.bind ?_ (fun _=>?_))
   | exact device_Crash.mono _ _ _ _
   | exact device_New.mono _ _
   | exact device_Read.mono _ _ _ _
   | exact device_Write.mono _ _ _ _ _
   | exact LeO.none _
   | refine LeO.ite ?_ ?_
   | refine LeO.bind ?_ (fun _=>?_)
set_option maxHeartbeats 8000000 in
set_option maxRecDepth 100000 in
theorem shapesearchlaw24_awake.calls (k : Nat)  (r : Bool) (w : World) (h : shapesearchlaw24_awake.f k  = some r) :
  Calls Try.prog 6 #[] w fun e w'=>e = .returned (.bool r)∧Below w.heap.size w w':=by
 have hu25:=Try.underlying25
 have HB:=A_ (Below.refl w.heap.size w)
 have H : ((device_New.f k 2).bind fun bt157=>((device_Write.f k bt157.1 bt157.2.1 1 (([1,2] : List Int))).bind fun bt168=>((device_Crash.f k bt168.1 bt168.2.1 (([1] : List Int))).bind fun bt178=>((device_Read.f k bt178.1 bt178.2.1 1).bind fun bt185=>(if bt157.2.2 = 0 then (if bt168.2.2 = 0 then (if bt178.2.2 = 0 then (if bt185.2 = 0 then (if (bt185.1.length : Int) = 64 then (if 0 < (bt185.1.length : Int) then (if (rd bt185.1 0) = 1 then (if 1 < (bt185.1.length : Int) then (some ((rd bt185.1 1) == 0)) else (none)) else (some false)) else (none)) else (some false)) else (some false)) else (some false)) else (some false)) else (some false)))))) = some r:=h
 clear h
 replace H:=Option.bind_eq_some_iff.mp H
 obtain ⟨⟨t157,t160,t163⟩,A10,H⟩:=H
 replace H : ((device_Write.f k t157 t160 1 (([1,2] : List Int))).bind fun bt168=>((device_Crash.f k bt168.1 bt168.2.1 (([1] : List Int))).bind fun bt178=>((device_Read.f k bt178.1 bt178.2.1 1).bind fun bt185=>(if t163 = 0 then (if bt168.2.2 = 0 then (if bt178.2.2 = 0 then (if bt185.2 = 0 then (if (bt185.1.length : Int) = 64 then (if 0 < (bt185.1.length : Int) then (if (rd bt185.1 0) = 1 then (if 1 < (bt185.1.length : Int) then (some ((rd bt185.1 1) == 0)) else (none)) else (some false)) else (none)) else (some false)) else (some false)) else (some false)) else (some false)) else (some false))))) = some r:=H
 have A1:=A_ A10
 clear A10
 obtain ⟨y165,hy165⟩ : ∃ y_ : List Int,y_ = (([1,2] : List Int)):=⟨_,rfl⟩
 replace H : ((device_Write.f k t157 t160 1 y165).bind fun bt168=>((device_Crash.f k bt168.1 bt168.2.1 (([1] : List Int))).bind fun bt178=>((device_Read.f k bt178.1 bt178.2.1 1).bind fun bt185=>(if t163 = 0 then (if bt168.2.2 = 0 then (if bt178.2.2 = 0 then (if bt185.2 = 0 then (if (bt185.1.length : Int) = 64 then (if 0 < (bt185.1.length : Int) then (if (rd bt185.1 0) = 1 then (if 1 < (bt185.1.length : Int) then (some ((rd bt185.1 1) == 0)) else (none)) else (some false)) else (none)) else (some false)) else (some false)) else (some false)) else (some false)) else (some false))))) = some r:=by first|(rw [hy165];with_reducible exact H)|(have H2_:=(Option.bind_some _ _).symm.trans H;rw [hy165];with_reducible exact H2_)|(have H2_:=(Option.bind_some _ _).symm.trans H;with_reducible exact H2_)|with_reducible exact H|(rw [hy165];exact H)|exact H
 have Ny165:=A_ hy165
 clear hy165
 replace H:=Option.bind_eq_some_iff.mp H
 obtain ⟨⟨t168,t171,t174⟩,A20,H⟩:=H
 replace H : ((device_Crash.f k t168 t171 (([1] : List Int))).bind fun bt178=>((device_Read.f k bt178.1 bt178.2.1 1).bind fun bt185=>(if t163 = 0 then (if t174 = 0 then (if bt178.2.2 = 0 then (if bt185.2 = 0 then (if (bt185.1.length : Int) = 64 then (if 0 < (bt185.1.length : Int) then (if (rd bt185.1 0) = 1 then (if 1 < (bt185.1.length : Int) then (some ((rd bt185.1 1) == 0)) else (none)) else (some false)) else (none)) else (some false)) else (some false)) else (some false)) else (some false)) else (some false)))) = some r:=H
 have A2:=A_ A20
 clear A20
 obtain ⟨y175,hy175⟩ : ∃ y_ : List Int,y_ = (([1] : List Int)):=⟨_,rfl⟩
 replace H : ((device_Crash.f k t168 t171 y175).bind fun bt178=>((device_Read.f k bt178.1 bt178.2.1 1).bind fun bt185=>(if t163 = 0 then (if t174 = 0 then (if bt178.2.2 = 0 then (if bt185.2 = 0 then (if (bt185.1.length : Int) = 64 then (if 0 < (bt185.1.length : Int) then (if (rd bt185.1 0) = 1 then (if 1 < (bt185.1.length : Int) then (some ((rd bt185.1 1) == 0)) else (none)) else (some false)) else (none)) else (some false)) else (some false)) else (some false)) else (some false)) else (some false)))) = some r:=by first|(rw [hy175];with_reducible exact H)|(have H2_:=(Option.bind_some _ _).symm.trans H;rw [hy175];with_reducible exact H2_)|(have H2_:=(Option.bind_some _ _).symm.trans H;with_reducible exact H2_)|with_reducible exact H|(rw [hy175];exact H)|exact H
 have Ny175:=A_ hy175
 clear hy175
 replace H:=Option.bind_eq_some_iff.mp H
 obtain ⟨⟨t178,t181,t184⟩,A30,H⟩:=H
 replace H : ((device_Read.f k t178 t181 1).bind fun bt185=>(if t163 = 0 then (if t174 = 0 then (if t184 = 0 then (if bt185.2 = 0 then (if (bt185.1.length : Int) = 64 then (if 0 < (bt185.1.length : Int) then (if (rd bt185.1 0) = 1 then (if 1 < (bt185.1.length : Int) then (some ((rd bt185.1 1) == 0)) else (none)) else (some false)) else (none)) else (some false)) else (some false)) else (some false)) else (some false)) else (some false))) = some r:=H
 have A3:=A_ A30
 clear A30
 replace H:=Option.bind_eq_some_iff.mp H
 obtain ⟨⟨t185,t188⟩,A40,H⟩:=H
 replace H : (if t163 = 0 then (if t174 = 0 then (if t184 = 0 then (if t188 = 0 then (if (t185.length : Int) = 64 then (if 0 < (t185.length : Int) then (if (rd t185 0) = 1 then (if 1 < (t185.length : Int) then (some ((rd t185 1) == 0)) else (none)) else (some false)) else (none)) else (some false)) else (some false)) else (some false)) else (some false)) else (some false)) = some r:=H
 have A4:=A_ A40
 clear A40
 have HC5:=A_ H
 clear H
 go_enter Try.func6,Try.ntmps6
 go_upto_region 5 with (first|((with_reducible refine gate_callee (f:=7) rfl ?_);refine goesL_ (some 8) rfl rfl Try.func7 (by kernel_rfl) rfl #[.int .i64 2] rfl (by (try simp only [List.map_toArray,List.map_cons,List.map_nil]);first|done|rfl|(simp only [List.length_drop,List.length_take];rfl)) ?_;(with_reducible refine (device_New.calls k 2 t157 t160 t163 _ A1.out).mono ?_);rintro e w6 ⟨v158,v161,rfl,ho0,ho1,hb⟩;refine ⟨_,rfl,?_⟩;have n0_:=A_ (Kd.S_lower ho0 (below_size (by repeat (first|(with_reducible first|exact HB.out|apply ba|apply bb|apply bc)|exact HB.out))));have n1_:=A_ (Kd.S_lower ho1 (below_size (by repeat (first|(with_reducible first|exact HB.out|apply ba|apply bb|apply bc)|exact HB.out))));have n2_:=A_ (below_step (by repeat (first|(with_reducible first|exact HB.out|apply ba|apply bb|apply bc)|exact HB.out)) hb);clear HB;have HO159:=n0_;have HO162:=n1_;have HB:=n2_;clear n0_ n1_ n2_;(try clear hb);(try clear hb2);(try clear hk);(try clear hi);(try clear ho0);(try clear ho1))|((with_reducible refine gate_dst (N:=1) rfl ?_);(try (refine gate_guard (by rfl) ?_;dsimp only));refine box_event ?hg (N:=1) ?hd (cs:=#[.slice none 0 0,.slice none 0 0]) (t:=25) ?hr ?_;(case hd=>rfl);(case hg=>rfl);(case hr=>first|(go_simp;done)|(go_simp;rfl));intro gb164 hg w7 hbox hb;have n0_:=A_ (Kd.S_below (by (with_reducible repeat (first|apply Kd.S_alloc|apply Kd.S_drewN|apply Kd.S_drew));exact HO159.out) hb);have n1_:=A_ (Kd.S_below (by (with_reducible repeat (first|apply Kd.S_alloc|apply Kd.S_drewN|apply Kd.S_drew));exact HO162.out) hb);have n2_:=A_ (below_step (by repeat (first|(with_reducible first|exact HB.out|apply ba|apply bb|apply bc)|exact HB.out)) hb);have n3_:=A_ (hbox);have n4_:=A_ ((by rw [hg];exact (below_size (by repeat (first|(with_reducible first|exact HB.out|apply ba|apply bb|apply bc)|exact HB.out))) : w.heap.size ≤ gb164));have n5_:=A_ ((by rw [hg];exact (below_size (by repeat (first|(with_reducible first|exact HB.out|apply ba|apply bb|apply bc)|exact HB.out))) : w.heap.size ≤ gb164));clear HO159;clear HO162;clear HB;have HO159:=n0_;have HO162:=n1_;have HB:=n2_;have BK164:=n3_;have GW164:=n4_;have GE164:=n5_;clear n0_ n1_ n2_ n3_ n4_ n5_;clear hb hbox hg;obtain ⟨Ao8,co8,eo8⟩:=Kd.S_slice HO159.out;subst eo8;have hcz9_0 : w7.cell? ⟨gb164,0,none⟩ = some (.slice none 0 0):=(blk_cell BK164.out 0).trans rfl;have hcz9_1 : w7.cell? ⟨gb164,1,none⟩ = some (.slice none 0 0):=(blk_cell BK164.out 1).trans rfl;have hfz9_0:=blk_frozen BK164.out 0;have hfz9_1:=blk_frozen BK164.out 1;obtain ⟨Ao10,co10,eo10⟩:=Kd.S_slice HO162.out;subst eo10)|((with_reducible refine gate_dst (N:=13) rfl ?_);(try (refine gate_guard (by rfl) ?_;dsimp only));refine Kd.R_lit (Kd.int .u8) _ 5 ?hg (N:=13) ?hd (xs:=([1,2] : List Int)) (inner:=[.int .u8 1,.int .u8 2]) (ok:=fun _=>True) (okp:=fun _=>True) ?hr ?hp (fun _ hk=>hk) trivial (Below.refl _ _) (Nat.le_refl _) (by simp) ?_;(case hd=>rfl);(case hg=>rfl);(case hr=>first|(go_simp;done)|(go_simp;rfl));(case hp=>exact (Reps.one (show Kd.M (Kd.int .u8) _ _ _ 1 [.int .u8 1] from rfl) (Reps.one (show Kd.M (Kd.int .u8) _ _ _ 2 [.int .u8 2] from rfl) (Reps.none _ _))));intro v166 w11 ho12 hb hg_ hnew_;clear hg_ hnew_;(first|rw [← Ny165.out] at ho12|(simp only [Int.reduceToNat] at ho12;rw [← Ny165.out] at ho12));have n0_:=A_ (Kd.S_elder' (by (with_reducible repeat (first|apply Kd.S_alloc|apply Kd.S_drewN|apply Kd.S_drew));exact (Kd.S_mono (Kd.S_far (p:=⟨gb164,1,none⟩) (Kd.S_far (p:=⟨gb164,0,none⟩) (Kd.S_types HO159.out BK164.out (by decide)) (fun _ hk=>hk.2) (.slice Ao8 t157.length co8)) (fun _ hk=>hk.2) (.slice Ao10 t160.length co10)) (fun _ h_=>h_.1))) (rs ho12) hb);have n1_:=A_ (Kd.S_elder' (by (with_reducible repeat (first|apply Kd.S_alloc|apply Kd.S_drewN|apply Kd.S_drew));exact (Kd.S_mono (Kd.S_far (p:=⟨gb164,1,none⟩) (Kd.S_far (p:=⟨gb164,0,none⟩) (Kd.S_types HO162.out BK164.out (by decide)) (fun _ hk=>hk.2) (.slice Ao8 t157.length co8)) (fun _ hk=>hk.2) (.slice Ao10 t160.length co10)) (fun _ h_=>h_.1))) (rs ho12) hb);have n2_:=A_ (Kd.R_lower ho12 (below_size (by repeat (first|(with_reducible first|exact HB.out|apply ba|apply bb|apply bc|refine below_set ?_ GE164.out)|exact HB.out))));have n3_:=A_ (blk_below (g:=gb164) (o:=.cells #[.slice Ao8 t157.length co8,.slice Ao10 t160.length co10] 25 (0,0)) (by (with_reducible repeat (first|refine blk_drewN ?_ _|refine blk_drew ?_|refine blk_alloc ?_ _));refine blk_put (cs:=#[.slice Ao8 t157.length co8,.slice none 0 0]) ?_ 1 _ rfl;(with_reducible repeat (first|refine blk_drewN ?_ _|refine blk_drew ?_|refine blk_alloc ?_ _));refine blk_put (cs:=#[.slice none 0 0,.slice none 0 0]) ?_ 0 _ rfl;(with_reducible repeat (first|refine blk_drewN ?_ _|refine blk_drew ?_|refine blk_alloc ?_ _));exact BK164.out) hb);have n4_:=A_ (below_step (by repeat (first|(with_reducible first|exact HB.out|apply ba|apply bb|apply bc|refine below_set ?_ GE164.out)|exact HB.out)) hb);clear HO159;clear HO162;clear BK164;clear HB;have HO159:=n0_;have HO162:=n1_;have HO167:=n2_;have BK164:=n3_;have HB:=n4_;clear n0_ n1_ n2_ n3_ n4_;clear hb ho12;obtain ⟨Ao13,co13,eo13⟩:=Kd.R_slice HO167.out;subst eo13)|((with_reducible refine gate_callee (f:=14) rfl ?_);refine goesL_ (some 14) rfl rfl Try.func14 (by kernel_rfl) rfl #[.agg #[.slice Ao8 t157.length co8,.slice Ao10 t160.length co10],.int .i64 1,.slice Ao13 y165.length co13] rfl (by (try simp only [List.map_toArray,List.map_cons,List.map_nil]);first|done|rfl|(simp only [List.length_drop,List.length_take];rfl)) ?_;(with_reducible refine (device_Write.calls k _ _ t157 _ _ t160 1 _ _ y165 t168 t171 t174 _ ?side1 ?side2 ?side3 ?side4 ?side5 ?side6 A2.out).mono ?_);(case side1=>repeat (first|exact (Kd.S_reads' HO159.out).2.2|(with_reducible refine ca ?_ _)|(with_reducible refine cb ?_ _)|(with_reducible refine cc ?_)));(case side2=>exact (Kd.S_reads' HO159.out).2.1);(case side3=>repeat (first|exact (Kd.S_reads' HO162.out).2.2|(with_reducible refine ca ?_ _)|(with_reducible refine cb ?_ _)|(with_reducible refine cc ?_)));(case side4=>exact (Kd.S_reads' HO162.out).2.1);(case side5=>repeat (first|exact (rd_ HO167.out).2.2|(with_reducible refine ca ?_ _)|(with_reducible refine cb ?_ _)|(with_reducible refine cc ?_)));(case side6=>exact (rd_ HO167.out).2.1);rintro e w14 ⟨v169,v172,rfl,ho0,ho1,hb⟩;refine ⟨_,rfl,?_⟩;have n0_:=A_ (Kd.S_elder' (by (with_reducible repeat (first|apply Kd.S_alloc|apply Kd.S_drewN|apply Kd.S_drew));exact HO159.out) (Kd.S_base ho0) hb);have n1_:=A_ (Kd.S_elder' (by (with_reducible repeat (first|apply Kd.S_alloc|apply Kd.S_drewN|apply Kd.S_drew));exact HO162.out) (Kd.S_base ho1) hb);have n2_:=A_ (rw_ (by (with_reducible repeat (first|apply ra|apply rb|apply rc));exact HO167.out) hb);have n3_:=A_ (Kd.S_lower (Kd.S_new' (Kd.S_new' ho0 (Kd.S_lt (by (with_reducible repeat (first|apply Kd.S_alloc|apply Kd.S_drewN|apply Kd.S_drew));exact HO159.out))) (rl (by (with_reducible repeat (first|apply ra|apply rb|apply rc));exact HO167.out))) (below_size (by repeat (first|(with_reducible first|exact HB.out|apply ba|apply bb|apply bc|refine below_set ?_ GE164.out)|exact HB.out))));have n4_:=A_ (Kd.S_lower (Kd.S_new' (Kd.S_new' ho1 (Kd.S_lt (by (with_reducible repeat (first|apply Kd.S_alloc|apply Kd.S_drewN|apply Kd.S_drew));exact HO162.out))) (rl (by (with_reducible repeat (first|apply ra|apply rb|apply rc));exact HO167.out))) (below_size (by repeat (first|(with_reducible first|exact HB.out|apply ba|apply bb|apply bc|refine below_set ?_ GE164.out)|exact HB.out))));have n5_:=A_ (blk_below (g:=gb164) (o:=.cells #[.slice Ao8 t157.length co8,.slice Ao10 t160.length co10] 25 (0,0)) (by (with_reducible repeat (first|refine blk_drewN ?_ _|refine blk_drew ?_|refine blk_alloc ?_ _));exact BK164.out) hb);have n6_:=A_ (below_step (by repeat (first|(with_reducible first|exact HB.out|apply ba|apply bb|apply bc|refine below_set ?_ GE164.out)|exact HB.out)) hb);clear HO159;clear HO162;clear HO167;clear BK164;clear HB;have HO159:=n0_;have HO162:=n1_;have HO167:=n2_;have HO170:=n3_;have HO173:=n4_;have BK164:=n5_;have HB:=n6_;clear n0_ n1_ n2_ n3_ n4_ n5_ n6_;(try clear hb);(try clear hb2);(try clear hk);(try clear hi);(try clear ho0);(try clear ho1);obtain ⟨Ao15,co15,eo15⟩:=Kd.S_slice HO170.out;subst eo15;have hcz16_0 : w14.cell? ⟨gb164,0,none⟩ = some (.slice Ao8 t157.length co8):=(blk_cell BK164.out 0).trans rfl;have hcz16_1 : w14.cell? ⟨gb164,1,none⟩ = some (.slice Ao10 t160.length co10):=(blk_cell BK164.out 1).trans rfl;have hfz16_0:=blk_frozen BK164.out 0;have hfz16_1:=blk_frozen BK164.out 1;obtain ⟨Ao17,co17,eo17⟩:=Kd.S_slice HO173.out;subst eo17)|((with_reducible refine gate_dst (N:=19) rfl ?_);(try (refine gate_guard (by rfl) ?_;dsimp only));refine Kd.R_lit (Kd.int .i64) _ 3 ?hg (N:=19) ?hd (xs:=([1] : List Int)) (inner:=[.int .i64 1]) (ok:=fun _=>True) (okp:=fun _=>True) ?hr ?hp (fun _ hk=>hk) trivial (Below.refl _ _) (Nat.le_refl _) (by simp) ?_;(case hd=>rfl);(case hg=>rfl);(case hr=>first|(go_simp;done)|(go_simp;rfl));(case hp=>exact (Reps.one (show Kd.M (Kd.int .i64) _ _ _ 1 [.int .i64 1] from rfl) (Reps.none _ _)));intro v176 w18 ho19 hb hg_ hnew_;clear hg_ hnew_;(first|rw [← Ny175.out] at ho19|(simp only [Int.reduceToNat] at ho19;rw [← Ny175.out] at ho19));have n0_:=A_ (Kd.S_below (by (with_reducible repeat (first|apply Kd.S_alloc|apply Kd.S_drewN|apply Kd.S_drew));exact (Kd.S_mono (Kd.S_far (p:=⟨gb164,1,none⟩) (Kd.S_far (p:=⟨gb164,0,none⟩) (Kd.S_types HO159.out BK164.out (by decide)) (fun _ hk=>hk.2) (.slice Ao15 t168.length co15)) (fun _ hk=>hk.2) (.slice Ao17 t171.length co17)) (fun _ h_=>h_.1))) hb);have n1_:=A_ (Kd.S_below (by (with_reducible repeat (first|apply Kd.S_alloc|apply Kd.S_drewN|apply Kd.S_drew));exact (Kd.S_mono (Kd.S_far (p:=⟨gb164,1,none⟩) (Kd.S_far (p:=⟨gb164,0,none⟩) (Kd.S_types HO162.out BK164.out (by decide)) (fun _ hk=>hk.2) (.slice Ao15 t168.length co15)) (fun _ hk=>hk.2) (.slice Ao17 t171.length co17)) (fun _ h_=>h_.1))) hb);have n2_:=A_ (rw_ (by (with_reducible repeat (first|apply ra|apply rb|apply rc));exact (rm (Kd.R_far (p:=⟨gb164,1,none⟩) (Kd.R_far (p:=⟨gb164,0,none⟩) (Kd.R_types HO167.out BK164.out (by decide)) (fun _ hk=>hk.2) (.slice Ao15 t168.length co15)) (fun _ hk=>hk.2) (.slice Ao17 t171.length co17)) (fun _ h_=>h_.1))) hb);have n3_:=A_ (Kd.S_below (by (with_reducible repeat (first|apply Kd.S_alloc|apply Kd.S_drewN|apply Kd.S_drew));exact (Kd.S_mono (Kd.S_far (p:=⟨gb164,1,none⟩) (Kd.S_far (p:=⟨gb164,0,none⟩) (Kd.S_types HO170.out BK164.out (by decide)) (fun _ hk=>hk.2) (.slice Ao15 t168.length co15)) (fun _ hk=>hk.2) (.slice Ao17 t171.length co17)) (fun _ h_=>h_.1))) hb);have n4_:=A_ (Kd.S_below (by (with_reducible repeat (first|apply Kd.S_alloc|apply Kd.S_drewN|apply Kd.S_drew));exact (Kd.S_mono (Kd.S_far (p:=⟨gb164,1,none⟩) (Kd.S_far (p:=⟨gb164,0,none⟩) (Kd.S_types HO173.out BK164.out (by decide)) (fun _ hk=>hk.2) (.slice Ao15 t168.length co15)) (fun _ hk=>hk.2) (.slice Ao17 t171.length co17)) (fun _ h_=>h_.1))) hb);have n5_:=A_ (Kd.R_lower ho19 (below_size (by repeat (first|(with_reducible first|exact HB.out|apply ba|apply bb|apply bc|refine below_set ?_ GE164.out)|exact HB.out))));have n6_:=A_ (blk_below (g:=gb164) (o:=.cells #[.slice Ao15 t168.length co15,.slice Ao17 t171.length co17] 25 (0,0)) (by (with_reducible repeat (first|refine blk_drewN ?_ _|refine blk_drew ?_|refine blk_alloc ?_ _));refine blk_put (cs:=#[.slice Ao15 t168.length co15,.slice Ao10 t160.length co10]) ?_ 1 _ rfl;(with_reducible repeat (first|refine blk_drewN ?_ _|refine blk_drew ?_|refine blk_alloc ?_ _));refine blk_put (cs:=#[.slice Ao8 t157.length co8,.slice Ao10 t160.length co10]) ?_ 0 _ rfl;(with_reducible repeat (first|refine blk_drewN ?_ _|refine blk_drew ?_|refine blk_alloc ?_ _));exact BK164.out) hb);have n7_:=A_ (below_step (by repeat (first|(with_reducible first|exact HB.out|apply ba|apply bb|apply bc|refine below_set ?_ GE164.out)|exact HB.out)) hb);clear HO159;clear HO162;clear HO167;clear HO170;clear HO173;clear BK164;clear HB;have HO159:=n0_;have HO162:=n1_;have HO167:=n2_;have HO170:=n3_;have HO173:=n4_;have HO177:=n5_;have BK164:=n6_;have HB:=n7_;clear n0_ n1_ n2_ n3_ n4_ n5_ n6_ n7_;clear hb ho19;obtain ⟨Ao20,co20,eo20⟩:=Kd.R_slice HO177.out;subst eo20)|((with_reducible refine gate_callee (f:=17) rfl ?_);refine goesL_ (some 20) rfl rfl Try.func17 (by kernel_rfl) rfl #[.agg #[.slice Ao15 t168.length co15,.slice Ao17 t171.length co17],.slice Ao20 y175.length co20] rfl (by (try simp only [List.map_toArray,List.map_cons,List.map_nil]);first|done|rfl|(simp only [List.length_drop,List.length_take];rfl)) ?_;(with_reducible refine (device_Crash.calls k _ _ t168 _ _ t171 _ _ y175 t178 t181 t184 _ ?side1 ?side2 ?side3 ?side4 ?side5 ?side6 A3.out).mono ?_);(case side1=>repeat (first|exact (Kd.S_reads' HO170.out).2.2|(with_reducible refine ca ?_ _)|(with_reducible refine cb ?_ _)|(with_reducible refine cc ?_)));(case side2=>exact (Kd.S_reads' HO170.out).2.1);(case side3=>repeat (first|exact (Kd.S_reads' HO173.out).2.2|(with_reducible refine ca ?_ _)|(with_reducible refine cb ?_ _)|(with_reducible refine cc ?_)));(case side4=>exact (Kd.S_reads' HO173.out).2.1);(case side5=>repeat (first|exact (rd_ HO177.out).2.2|(with_reducible refine ca ?_ _)|(with_reducible refine cb ?_ _)|(with_reducible refine cc ?_)));(case side6=>exact (rd_ HO177.out).2.1);rintro e w21 ⟨v179,v182,rfl,ho0,ho1,hb⟩;refine ⟨_,rfl,?_⟩;have n0_:=A_ (Kd.S_elder' (by (with_reducible repeat (first|apply Kd.S_alloc|apply Kd.S_drewN|apply Kd.S_drew));exact HO159.out) (Kd.S_base ho0) hb);have n1_:=A_ (Kd.S_elder' (by (with_reducible repeat (first|apply Kd.S_alloc|apply Kd.S_drewN|apply Kd.S_drew));exact HO162.out) (Kd.S_base ho1) hb);have n2_:=A_ (rw_ (by (with_reducible repeat (first|apply ra|apply rb|apply rc));exact HO167.out) hb);have n3_:=A_ (Kd.S_elder' (by (with_reducible repeat (first|apply Kd.S_alloc|apply Kd.S_drewN|apply Kd.S_drew));exact HO170.out) (Kd.S_base ho0) hb);have n4_:=A_ (Kd.S_elder' (by (with_reducible repeat (first|apply Kd.S_alloc|apply Kd.S_drewN|apply Kd.S_drew));exact HO173.out) (Kd.S_base ho1) hb);have n5_:=A_ (rw_ (by (with_reducible repeat (first|apply ra|apply rb|apply rc));exact HO177.out) hb);have n6_:=A_ (Kd.S_lower (Kd.S_new' (Kd.S_new' (Kd.S_new' ho0 (Kd.S_lt (by (with_reducible repeat (first|apply Kd.S_alloc|apply Kd.S_drewN|apply Kd.S_drew));exact HO159.out))) (rl (by (with_reducible repeat (first|apply ra|apply rb|apply rc));exact HO167.out))) (Kd.S_lt (by (with_reducible repeat (first|apply Kd.S_alloc|apply Kd.S_drewN|apply Kd.S_drew));exact HO170.out))) (below_size (by repeat (first|(with_reducible first|exact HB.out|apply ba|apply bb|apply bc|refine below_set ?_ GE164.out)|exact HB.out))));have n7_:=A_ (Kd.S_lower (Kd.S_new' (Kd.S_new' (Kd.S_new' ho1 (Kd.S_lt (by (with_reducible repeat (first|apply Kd.S_alloc|apply Kd.S_drewN|apply Kd.S_drew));exact HO162.out))) (rl (by (with_reducible repeat (first|apply ra|apply rb|apply rc));exact HO167.out))) (Kd.S_lt (by (with_reducible repeat (first|apply Kd.S_alloc|apply Kd.S_drewN|apply Kd.S_drew));exact HO173.out))) (below_size (by repeat (first|(with_reducible first|exact HB.out|apply ba|apply bb|apply bc|refine below_set ?_ GE164.out)|exact HB.out))));have n8_:=A_ (blk_below (g:=gb164) (o:=.cells #[.slice Ao15 t168.length co15,.slice Ao17 t171.length co17] 25 (0,0)) (by (with_reducible repeat (first|refine blk_drewN ?_ _|refine blk_drew ?_|refine blk_alloc ?_ _));exact BK164.out) hb);have n9_:=A_ (below_step (by repeat (first|(with_reducible first|exact HB.out|apply ba|apply bb|apply bc|refine below_set ?_ GE164.out)|exact HB.out)) hb);clear HO159;clear HO162;clear HO167;clear HO170;clear HO173;clear HO177;clear BK164;clear HB;have HO159:=n0_;have HO162:=n1_;have HO167:=n2_;have HO170:=n3_;have HO173:=n4_;have HO177:=n5_;have HO180:=n6_;have HO183:=n7_;have BK164:=n8_;have HB:=n9_;clear n0_ n1_ n2_ n3_ n4_ n5_ n6_ n7_ n8_ n9_;(try clear hb);(try clear hb2);(try clear hk);(try clear hi);(try clear ho0);(try clear ho1);obtain ⟨Ao22,co22,eo22⟩:=Kd.S_slice HO180.out;subst eo22;have hcz23_0 : w21.cell? ⟨gb164,0,none⟩ = some (.slice Ao15 t168.length co15):=(blk_cell BK164.out 0).trans rfl;have hcz23_1 : w21.cell? ⟨gb164,1,none⟩ = some (.slice Ao17 t171.length co17):=(blk_cell BK164.out 1).trans rfl;have hfz23_0:=blk_frozen BK164.out 0;have hfz23_1:=blk_frozen BK164.out 1;obtain ⟨Ao24,co24,eo24⟩:=Kd.S_slice HO183.out;subst eo24)|((with_reducible refine gate_store (t:=25) (p:=1) rfl ?_);refine store_event (t:=25) (p:=1) (v:=?vo_w25) (w1:=((w21.setCell ⟨gb164,0,none⟩ (.slice Ao22 t178.length co22)).setCell ⟨gb164,1,none⟩ (.slice Ao24 t181.length co24))) ?hg ?ho ?hn ?hr ?_;(case ho=>rfl);(case hg=>rfl);(case hn=>rfl);(case hr=>first|(go_simp;done)|(go_simp;rfl));intro w25 hw;have n0_ : Aside0 (Kd.S (Kd.slice 5 (Kd.int .u8)) 26 w25 w.heap.size (fun k_=>nb k_ (.slice Ao13 y165.length co13)∧nb k_ (.slice Ao15 t168.length co15)∧nb k_ (.slice Ao22 t178.length co22)) (.slice Ao8 t157.length co8) t157):=⟨(by rw [hw];exact (by (with_reducible repeat (first|apply Kd.S_alloc|apply Kd.S_drewN|apply Kd.S_drew));exact Kd.S_mono (Kd.S_far (p:=⟨gb164,1,none⟩) (Kd.S_far (p:=⟨gb164,0,none⟩) (Kd.S_types HO159.out BK164.out (by decide)) (fun _ hk=>hk.2) (.slice Ao22 t178.length co22)) (fun _ hk=>hk.2) (.slice Ao24 t181.length co24)) (fun _ hk=>⟨hk.1.1.1.2,⟨hk.1.1.2,hk.1.2⟩⟩)))⟩;have n1_ : Aside0 (Kd.S k42 42 w25 w.heap.size (fun k_=>nb k_ (.slice Ao13 y165.length co13)∧nb k_ (.slice Ao17 t171.length co17)∧nb k_ (.slice Ao24 t181.length co24)) (.slice Ao10 t160.length co10) t160):=⟨(by rw [hw];exact (by (with_reducible repeat (first|apply Kd.S_alloc|apply Kd.S_drewN|apply Kd.S_drew));exact Kd.S_mono (Kd.S_far (p:=⟨gb164,1,none⟩) (Kd.S_far (p:=⟨gb164,0,none⟩) (Kd.S_types HO162.out BK164.out (by decide)) (fun _ hk=>hk.2) (.slice Ao22 t178.length co22)) (fun _ hk=>hk.2) (.slice Ao24 t181.length co24)) (fun _ hk=>⟨hk.1.1.1.2,⟨hk.1.1.2,hk.1.2⟩⟩)))⟩;have n2_ : Aside0 (Kd.R (Kd.int .u8) 5 w25 w.heap.size (fun _=>True) (.slice Ao13 y165.length co13) y165):=⟨(by rw [hw];exact (by (with_reducible repeat (first|apply ra|apply rb|apply rc));exact rm (Kd.R_far (p:=⟨gb164,1,none⟩) (Kd.R_far (p:=⟨gb164,0,none⟩) (Kd.R_types HO167.out BK164.out (by decide)) (fun _ hk=>hk.2) (.slice Ao22 t178.length co22)) (fun _ hk=>hk.2) (.slice Ao24 t181.length co24)) (fun _ hk=>trivial)))⟩;have n3_ : Aside0 (Kd.S (Kd.slice 5 (Kd.int .u8)) 26 w25 w.heap.size (fun k_=>nb k_ (.slice Ao8 t157.length co8)∧nb k_ (.slice Ao13 y165.length co13)∧nb k_ (.slice Ao22 t178.length co22)) (.slice Ao15 t168.length co15) t168):=⟨(by rw [hw];exact (by (with_reducible repeat (first|apply Kd.S_alloc|apply Kd.S_drewN|apply Kd.S_drew));exact Kd.S_mono (Kd.S_far (p:=⟨gb164,1,none⟩) (Kd.S_far (p:=⟨gb164,0,none⟩) (Kd.S_types HO170.out BK164.out (by decide)) (fun _ hk=>hk.2) (.slice Ao22 t178.length co22)) (fun _ hk=>hk.2) (.slice Ao24 t181.length co24)) (fun _ hk=>⟨hk.1.1.1.2,⟨hk.1.1.2,hk.1.2⟩⟩)))⟩;have n4_ : Aside0 (Kd.S k42 42 w25 w.heap.size (fun k_=>nb k_ (.slice Ao10 t160.length co10)∧nb k_ (.slice Ao13 y165.length co13)∧nb k_ (.slice Ao24 t181.length co24)) (.slice Ao17 t171.length co17) t171):=⟨(by rw [hw];exact (by (with_reducible repeat (first|apply Kd.S_alloc|apply Kd.S_drewN|apply Kd.S_drew));exact Kd.S_mono (Kd.S_far (p:=⟨gb164,1,none⟩) (Kd.S_far (p:=⟨gb164,0,none⟩) (Kd.S_types HO173.out BK164.out (by decide)) (fun _ hk=>hk.2) (.slice Ao22 t178.length co22)) (fun _ hk=>hk.2) (.slice Ao24 t181.length co24)) (fun _ hk=>⟨hk.1.1.1.2,⟨hk.1.1.2,hk.1.2⟩⟩)))⟩;have n5_ : Aside0 (Kd.R (Kd.int .i64) 3 w25 w.heap.size (fun _=>True) (.slice Ao20 y175.length co20) y175):=⟨(by rw [hw];exact (by (with_reducible repeat (first|apply ra|apply rb|apply rc));exact rm (Kd.R_far (p:=⟨gb164,1,none⟩) (Kd.R_far (p:=⟨gb164,0,none⟩) (Kd.R_types HO177.out BK164.out (by decide)) (fun _ hk=>hk.2) (.slice Ao22 t178.length co22)) (fun _ hk=>hk.2) (.slice Ao24 t181.length co24)) (fun _ hk=>trivial)))⟩;have n6_ : Aside0 (Kd.S (Kd.slice 5 (Kd.int .u8)) 26 w25 w.heap.size (fun k_=>nb k_ (.slice Ao8 t157.length co8)∧nb k_ (.slice Ao13 y165.length co13)∧nb k_ (.slice Ao15 t168.length co15)) (.slice Ao22 t178.length co22) t178):=⟨(by rw [hw];exact (by (with_reducible repeat (first|apply Kd.S_alloc|apply Kd.S_drewN|apply Kd.S_drew));exact Kd.S_mono (Kd.S_far (p:=⟨gb164,1,none⟩) (Kd.S_far (p:=⟨gb164,0,none⟩) (Kd.S_types HO180.out BK164.out (by decide)) (fun _ hk=>hk.2) (.slice Ao22 t178.length co22)) (fun _ hk=>hk.2) (.slice Ao24 t181.length co24)) (fun _ hk=>⟨hk.1.1.1.2,⟨hk.1.1.2,hk.1.2⟩⟩)))⟩;have n7_ : Aside0 (Kd.S k42 42 w25 w.heap.size (fun k_=>nb k_ (.slice Ao10 t160.length co10)∧nb k_ (.slice Ao13 y165.length co13)∧nb k_ (.slice Ao17 t171.length co17)) (.slice Ao24 t181.length co24) t181):=⟨(by rw [hw];exact (by (with_reducible repeat (first|apply Kd.S_alloc|apply Kd.S_drewN|apply Kd.S_drew));exact Kd.S_mono (Kd.S_far (p:=⟨gb164,1,none⟩) (Kd.S_far (p:=⟨gb164,0,none⟩) (Kd.S_types HO183.out BK164.out (by decide)) (fun _ hk=>hk.2) (.slice Ao22 t178.length co22)) (fun _ hk=>hk.2) (.slice Ao24 t181.length co24)) (fun _ hk=>⟨hk.1.1.1.2,⟨hk.1.1.2,hk.1.2⟩⟩)))⟩;have n8_ : Aside0 (w25.heap[gb164]? = some (.cells #[.slice Ao22 t178.length co22,.slice Ao24 t181.length co24] 25 (0,0))):=⟨(by rw [hw];exact (by (with_reducible repeat (first|refine blk_drewN ?_ _|refine blk_drew ?_|refine blk_alloc ?_ _));refine blk_put (cs:=#[.slice Ao22 t178.length co22,.slice Ao17 t171.length co17]) ?_ 1 _ rfl;(with_reducible repeat (first|refine blk_drewN ?_ _|refine blk_drew ?_|refine blk_alloc ?_ _));refine blk_put (cs:=#[.slice Ao15 t168.length co15,.slice Ao17 t171.length co17]) ?_ 0 _ rfl;(with_reducible repeat (first|refine blk_drewN ?_ _|refine blk_drew ?_|refine blk_alloc ?_ _));exact BK164.out))⟩;have n9_ : Aside0 (Below w.heap.size w w25):=⟨(by rw [hw];exact (by repeat (first|(with_reducible first|exact HB.out|apply ba|apply bb|apply bc|refine below_set ?_ GE164.out)|exact HB.out)))⟩;clear hw;clear HO159;clear HO162;clear HO167;clear HO170;clear HO173;clear HO177;clear HO180;clear HO183;clear BK164;clear HB;have HO159:=n0_;have HO162:=n1_;have HO167:=n2_;have HO170:=n3_;have HO173:=n4_;have HO177:=n5_;have HO180:=n6_;have HO183:=n7_;have BK164:=n8_;have HB:=n9_;clear n0_ n1_ n2_ n3_ n4_ n5_ n6_ n7_ n8_ n9_;have hcz26_0 : w25.cell? ⟨gb164,0,none⟩ = some (.slice Ao22 t178.length co22):=(blk_cell BK164.out 0).trans rfl;have hcz26_1 : w25.cell? ⟨gb164,1,none⟩ = some (.slice Ao24 t181.length co24):=(blk_cell BK164.out 1).trans rfl;have hfz26_0:=blk_frozen BK164.out 0;have hfz26_1:=blk_frozen BK164.out 1)|((with_reducible refine gate_callee (f:=16) rfl ?_);refine goesL_ (some 25) rfl rfl Try.func16 (by kernel_rfl) rfl #[.agg #[.slice Ao22 t178.length co22,.slice Ao24 t181.length co24],.int .i64 1] rfl (by (try simp only [List.map_toArray,List.map_cons,List.map_nil]);first|done|rfl|(simp only [List.length_drop,List.length_take];rfl)) ?_;(with_reducible refine (device_Read.calls k (fun k_=>((((((nb k_ (.slice Ao8 t157.length co8)∧(nb k_ (.slice Ao13 y165.length co13)∧nb k_ (.slice Ao15 t168.length co15)))∧nb k_ (.slice Ao10 t160.length co10))∧nb k_ (.slice Ao17 t171.length co17))∧nb k_ (.slice Ao20 y175.length co20))∧nb k_ (.slice Ao24 t181.length co24))∧k_≠gb164)) _ _ t178 (fun k_=>((((((nb k_ (.slice Ao10 t160.length co10)∧(nb k_ (.slice Ao13 y165.length co13)∧nb k_ (.slice Ao17 t171.length co17)))∧nb k_ (.slice Ao8 t157.length co8))∧nb k_ (.slice Ao15 t168.length co15))∧nb k_ (.slice Ao20 y175.length co20))∧nb k_ (.slice Ao22 t178.length co22))∧k_≠gb164)) _ _ t181 1 t185 t188 _ ?side1 ?side2 A4.out).mono ?_);(case side1=>exact Kd.S_V (Kd.S_types (Kd.S_apart' (Kd.S_apart' (Kd.S_apart' (Kd.S_apart' (HO180.out) (Kd.S_typed HO162.out) (by decide)) (Kd.S_typed HO173.out) (by decide)) (Kd.R_typed HO177.out) (by decide)) (Kd.S_typed HO183.out) (by decide)) BK164.out (by decide)));(case side2=>exact Kd.S_V (Kd.S_types (Kd.S_apart' (Kd.S_apart' (Kd.S_apart' (Kd.S_apart' (HO183.out) (Kd.S_typed HO159.out) (by decide)) (Kd.S_typed HO170.out) (by decide)) (Kd.R_typed HO177.out) (by decide)) (Kd.S_typed HO180.out) (by decide)) BK164.out (by decide)));rintro e w27 ⟨v186,rfl,ho0,hb⟩;refine ⟨_,rfl,?_⟩;have n0_:=A_ (Kd.S_elder' (by (with_reducible repeat (first|apply Kd.S_alloc|apply Kd.S_drewN|apply Kd.S_drew));exact HO159.out) (rs ho0) hb);have n1_:=A_ (Kd.S_elder' (by (with_reducible repeat (first|apply Kd.S_alloc|apply Kd.S_drewN|apply Kd.S_drew));exact HO162.out) (rs ho0) hb);have n2_:=A_ (re (by (with_reducible repeat (first|apply ra|apply rb|apply rc));exact HO167.out) (rs ho0) hb);have n3_:=A_ (Kd.S_elder' (by (with_reducible repeat (first|apply Kd.S_alloc|apply Kd.S_drewN|apply Kd.S_drew));exact HO170.out) (rs ho0) hb);have n4_:=A_ (Kd.S_elder' (by (with_reducible repeat (first|apply Kd.S_alloc|apply Kd.S_drewN|apply Kd.S_drew));exact HO173.out) (rs ho0) hb);have n5_:=A_ (rw_ (by (with_reducible repeat (first|apply ra|apply rb|apply rc));exact HO177.out) hb);have n6_:=A_ (Kd.S_elder' (by (with_reducible repeat (first|apply Kd.S_alloc|apply Kd.S_drewN|apply Kd.S_drew));exact HO180.out) (rs ho0) hb);have n7_:=A_ (Kd.S_elder' (by (with_reducible repeat (first|apply Kd.S_alloc|apply Kd.S_drewN|apply Kd.S_drew));exact HO183.out) (rs ho0) hb);have n8_:=A_ (Kd.R_lower (rn (rm (ok':=fun k_=>True) ho0 (fun _ hk_=>trivial)) (rl (by (with_reducible repeat (first|apply ra|apply rb|apply rc));exact HO167.out))) (below_size (by repeat (first|(with_reducible first|exact HB.out|apply ba|apply bb|apply bc|refine below_set ?_ GE164.out)|exact HB.out))));have n9_:=A_ (blk_below (g:=gb164) (o:=.cells #[.slice Ao22 t178.length co22,.slice Ao24 t181.length co24] 25 (0,0)) (by (with_reducible repeat (first|refine blk_drewN ?_ _|refine blk_drew ?_|refine blk_alloc ?_ _));exact BK164.out) hb);have n10_:=A_ (below_step (by repeat (first|(with_reducible first|exact HB.out|apply ba|apply bb|apply bc|refine below_set ?_ GE164.out)|exact HB.out)) hb);clear HO159;clear HO162;clear HO167;clear HO170;clear HO173;clear HO177;clear HO180;clear HO183;clear BK164;clear HB;have HO159:=n0_;have HO162:=n1_;have HO167:=n2_;have HO170:=n3_;have HO173:=n4_;have HO177:=n5_;have HO180:=n6_;have HO183:=n7_;have HO187:=n8_;have BK164:=n9_;have HB:=n10_;clear n0_ n1_ n2_ n3_ n4_ n5_ n6_ n7_ n8_ n9_ n10_;(try clear hb);(try clear hb2);(try clear hk);(try clear hi);(try clear ho0)))
 (try simp only [Act.put,List.setIfInBounds_toArray,List.set_cons_zero,List.set_cons_succ])
 have H:=HC5.out
 clear HC5
 by_cases c28 : t163 = 0
 ·
  rw [if_pos c28] at H
  have c28b0 : (t163 == 0) = true:=beq_iff_eq.mpr c28
  have c28b1 : (t163 != 0) = false:=bne_eq_false_iff_eq.mpr c28
  clear c28
  (first|rw [c28b0]|(simp only [i64_w,i32_w];rw [c28b0])|skip)
  by_cases c29 : t174 = 0
  ·
   rw [if_pos c29] at H
   have c29b0 : (t174 == 0) = true:=beq_iff_eq.mpr c29
   have c29b1 : (t174 != 0) = false:=bne_eq_false_iff_eq.mpr c29
   clear c29
   by_cases c30 : t184 = 0
   ·
    rw [if_pos c30] at H
    have c30b0 : (t184 == 0) = true:=beq_iff_eq.mpr c30
    have c30b1 : (t184 != 0) = false:=bne_eq_false_iff_eq.mpr c30
    clear c30
    by_cases c31 : t188 = 0
    ·
     rw [if_pos c31] at H
     have c31b0 : (t188 == 0) = true:=beq_iff_eq.mpr c31
     have c31b1 : (t188 != 0) = false:=bne_eq_false_iff_eq.mpr c31
     clear c31
     by_cases c32 : (t185.length : Int) = 64
     ·
      rw [if_pos c32] at H
      have c32b0 : ((t185.length : Int) == 64) = true:=beq_iff_eq.mpr c32
      have c32b1 : ((t185.length : Int) != 64) = false:=bne_eq_false_iff_eq.mpr c32
      clear c32
      by_cases c33 : 0 < (t185.length : Int)
      ·
       rw [if_pos c33] at H
       have c33b0 : decide (0 < (t185.length : Int)) = true:=decide_eq_true c33
       have c33b1 : decide (0 < t185.length) = true:=decide_eq_true (by omega)
       clear c33
       by_cases c34 : (rd t185 0) = 1
       ·
        rw [if_pos c34] at H
        have c34b0 : ((rd t185 0) == 1) = true:=beq_iff_eq.mpr c34
        have c34b1 : ((rd t185 0) != 1) = false:=bne_eq_false_iff_eq.mpr c34
        clear c34
        by_cases c35 : 1 < (t185.length : Int)
        ·
         rw [if_pos c35] at H
         have c35b0 : decide (1 < (t185.length : Int)) = true:=decide_eq_true c35
         have c35b1 : decide (1 < t185.length) = true:=decide_eq_true (by omega)
         clear c35
         obtain rfl:=Option.some.inj H
         obtain ⟨Ao36,co36,eo36⟩:=Kd.R_slice HO187.out
         subst eo36
         have p189 : 0 ≤ (0 : Int):=(by omega)
         have q189 : 0 < (t185.length : Int):=of_decide_eq_true (by first|(with_reducible assumption)|assumption)
         obtain ⟨ad189,e189,hx189_0⟩:=Kd.at_int (rd_ HO187.out).2.2 0 p189 q189
         cases e189
         have qi189 : (0 < t185.length) = True:=eq_true (by omega)
         (try rw [show ((0 : Int)).toNat = 0 from rfl] at hx189_0)
         (try rw [Addr.add_zero'] at hx189_0)
         replace p189:=eq_true p189
         replace q189:=eq_true q189
         have p190 : 0 ≤ (1 : Int):=(by omega)
         have q190 : 1 < (t185.length : Int):=of_decide_eq_true (by first|(with_reducible assumption)|assumption)
         obtain ⟨ad190,e190,hx190_0⟩:=Kd.at_int (rd_ HO187.out).2.2 1 p190 q190
         obtain rfl : ad189 = ad190:=(by injection e190)
         (try simp only [show (1 : Int).toNat = 1 from rfl,Nat.reduceMul,Nat.reduceEqDiff,Go.Addr.add,↓reduceIte] at hx190_0)
         have qi190 : (1 < t185.length) = True:=eq_true (by omega)
         (try rw [show ((1 : Int)).toNat = 1 from rfl] at hx190_0)
         replace p190:=eq_true p190
         replace q190:=eq_true q190
         go_wp2
         go_ret
         exact ⟨by first|rfl|(simp [errW_none,errW_some] <;> rfl)|(simp [*,errW_none,errW_some] <;> rfl),by repeat (first|(with_reducible first|exact HB.out|apply ba|apply bb|apply bc|refine below_set ?_ GE164.out)|exact HB.out)⟩
        ·
         rw [if_neg c35] at H
         exact absurd H (by simp)
       ·
        rw [if_neg c34] at H
        have c34b0 : ((rd t185 0) == 1) = false:=beq_eq_false_iff_ne.mpr c34
        have c34b1 : ((rd t185 0) != 1) = true:=bne_iff_ne.mpr c34
        obtain rfl:=Option.some.inj H
        obtain ⟨Ao37,co37,eo37⟩:=Kd.R_slice HO187.out
        subst eo37
        have p189 : 0 ≤ (0 : Int):=(by omega)
        have q189 : 0 < (t185.length : Int):=of_decide_eq_true (by first|(with_reducible assumption)|assumption)
        obtain ⟨ad189,e189,hx189_0⟩:=Kd.at_int (rd_ HO187.out).2.2 0 p189 q189
        cases e189
        have qi189 : (0 < t185.length) = True:=eq_true (by omega)
        (try rw [show ((0 : Int)).toNat = 0 from rfl] at hx189_0)
        (try rw [Addr.add_zero'] at hx189_0)
        replace p189:=eq_true p189
        replace q189:=eq_true q189
        go_wp2
        go_ret
        exact ⟨by first|rfl|(simp [errW_none,errW_some] <;> rfl)|(simp [*,errW_none,errW_some] <;> rfl),by repeat (first|(with_reducible first|exact HB.out|apply ba|apply bb|apply bc|refine below_set ?_ GE164.out)|exact HB.out)⟩
      ·
       rw [if_neg c33] at H
       exact absurd H (by simp)
     ·
      rw [if_neg c32] at H
      have c32b0 : ((t185.length : Int) == 64) = false:=beq_eq_false_iff_ne.mpr c32
      have c32b1 : ((t185.length : Int) != 64) = true:=bne_iff_ne.mpr c32
      obtain rfl:=Option.some.inj H
      obtain ⟨Ao38,co38,eo38⟩:=Kd.R_slice HO187.out
      subst eo38
      go_wp2
      go_ret
      exact ⟨by first|rfl|(simp [errW_none,errW_some] <;> rfl)|(simp [*,errW_none,errW_some] <;> rfl),by repeat (first|(with_reducible first|exact HB.out|apply ba|apply bb|apply bc|refine below_set ?_ GE164.out)|exact HB.out)⟩
    ·
     rw [if_neg c31] at H
     have c31b0 : (t188 == 0) = false:=beq_eq_false_iff_ne.mpr c31
     have c31b1 : (t188 != 0) = true:=bne_iff_ne.mpr c31
     obtain rfl:=Option.some.inj H
     go_wp2
     go_ret
     exact ⟨by first|rfl|(simp [errW_none,errW_some] <;> rfl)|(simp [*,errW_none,errW_some] <;> rfl),by repeat (first|(with_reducible first|exact HB.out|apply ba|apply bb|apply bc|refine below_set ?_ GE164.out)|exact HB.out)⟩
   ·
    rw [if_neg c30] at H
    have c30b0 : (t184 == 0) = false:=beq_eq_false_iff_ne.mpr c30
    have c30b1 : (t184 != 0) = true:=bne_iff_ne.mpr c30
    obtain rfl:=Option.some.inj H
    go_wp2
    go_ret
    exact ⟨by first|rfl|(simp [errW_none,errW_some] <;> rfl)|(simp [*,errW_none,errW_some] <;> rfl),by repeat (first|(with_reducible first|exact HB.out|apply ba|apply bb|apply bc|refine below_set ?_ GE164.out)|exact HB.out)⟩
  ·
   rw [if_neg c29] at H
   have c29b0 : (t174 == 0) = false:=beq_eq_false_iff_ne.mpr c29
   have c29b1 : (t174 != 0) = true:=bne_iff_ne.mpr c29
   obtain rfl:=Option.some.inj H
   go_wp2
   go_ret
   exact ⟨by first|rfl|(simp [errW_none,errW_some] <;> rfl)|(simp [*,errW_none,errW_some] <;> rfl),by repeat (first|(with_reducible first|exact HB.out|apply ba|apply bb|apply bc|refine below_set ?_ GE164.out)|exact HB.out)⟩
 ·
  rw [if_neg c28] at H
  have c28b0 : (t163 == 0) = false:=beq_eq_false_iff_ne.mpr c28
  have c28b1 : (t163 != 0) = true:=bne_iff_ne.mpr c28
  (first|rw [c28b0]|(simp only [i64_w,i32_w];rw [c28b0])|skip)
  obtain rfl:=Option.some.inj H
  go_wp2
  go_ret
  exact ⟨by first|rfl|(simp [errW_none,errW_some] <;> rfl)|(simp [*,errW_none,errW_some] <;> rfl),by repeat (first|(with_reducible first|exact HB.out|apply ba|apply bb|apply bc|refine below_set ?_ GE164.out)|exact HB.out)⟩

/-! ### shapesearchref24_New: function 8 -/
mutual
def shapesearchref24_New.j0 : Nat → Int → Bool → Option ((List (List Int)) × (List (S42)) × Int)
 | 0,_,_=>none
 | k + 1,x0,x11=>if x11 = true then (some (([] : List (List Int)),([] : List (S42)),4)) else (shapesearchref24_New.l0 k x0 0 ([] : List (List Int)))
def shapesearchref24_New.l0 : Nat → Int → Int → List (List Int) → Option ((List (List Int)) × (List (S42)) × Int)
 | 0,_,_,_=>none
 | k + 1,x0,x5,x193000=>if x5 < x0 then (if 64 ≤ 281474976710656 then (if x193000.length < 5864062014805 then (shapesearchref24_New.l0 k x0 (wrap64 (x5 + 1)) (x193000 ++ [(List.replicate 64 0)])) else (none)) else (none)) else (some (x193000,([] : List (S42)),0))
end
def shapesearchref24_New.f (k : Nat) (a0 : Int) : Option ((List (List Int)) × (List (S42)) × Int):=if a0 < 1 then (shapesearchref24_New.j0 k a0 true) else (shapesearchref24_New.j0 k a0 (decide (a0 > 256)))
theorem shapesearchref24_New.mono_l : ∀ k,(∀ y0 y1,LeO (shapesearchref24_New.j0 k y0 y1) (shapesearchref24_New.j0 (k + 1) y0 y1))∧(∀ y0 y1 y2,LeO (shapesearchref24_New.l0 k y0 y1 y2) (shapesearchref24_New.l0 (k + 1) y0 y1 y2))
 | 0=>⟨fun _ _ r h=>by simp [shapesearchref24_New.j0] at h,fun _ _ _ r h=>by simp [shapesearchref24_New.l0] at h⟩
 | k + 1=>by
  obtain ⟨ih0,ih1⟩:=shapesearchref24_New.mono_l k
  refine ⟨?_,?_⟩
  ·
   intro y0 y1
   unfold shapesearchref24_New.j0
   repeat' first
   | (with_reducible exact ih0 _ _)
   | (with_reducible exact ih1 _ _ _)
   | (with_reducible exact LeO.refl _)
   | (with_reducible exact LeO.none _)
   | (with_reducible refine LeO.ite ?_ ?_)
   | (with_reducible refine LeO.bind ?_ (fun _=>?_))
   | exact ih0 _ _
   | exact ih1 _ _ _
   | exact LeO.none _
   | refine LeO.ite ?_ ?_
   | refine LeO.bind ?_ (fun _=>?_)
  ·
   intro y0 y1 y2
   unfold shapesearchref24_New.l0
   repeat' first
   | (with_reducible exact ih0 _ _)
   | (with_reducible exact ih1 _ _ _)
   | (with_reducible exact LeO.refl _)
   | (with_reducible exact LeO.none _)
   | (with_reducible refine LeO.ite ?_ ?_)
   | (with_reducible refine LeO.bind ?_ (fun _=>?_))
   | exact ih0 _ _
   | exact ih1 _ _ _
   | exact LeO.none _
   | refine LeO.ite ?_ ?_
   | refine LeO.bind ?_ (fun _=>?_)
theorem shapesearchref24_New.mono : ∀ a0 k,LeO (shapesearchref24_New.f k a0) (shapesearchref24_New.f (k + 1) a0):=by
 intro a0 k
 obtain ⟨ih0,ih1⟩:=shapesearchref24_New.mono_l k
 unfold shapesearchref24_New.f
 repeat' first
   | (with_reducible exact ih0 _ _)
   | (with_reducible exact ih1 _ _ _)
   | (with_reducible exact LeO.refl _)
   | (with_reducible exact LeO.none _)
   | (with_reducible refine LeO.ite ?_ ?_)
   | (with_reducible refine LeO.bind ?_ (fun _=>?_))
   | exact ih0 _ _
   | exact ih1 _ _ _
   | exact LeO.none _
   | refine LeO.ite ?_ ?_
   | refine LeO.bind ?_ (fun _=>?_)
set_option maxHeartbeats 8000000 in
set_option maxRecDepth 100000 in
theorem shapesearchref24_New.calls (k : Nat) (a0 : Int) (r1 : List (List Int)) (r2 : List (S42)) (r3 : Int) (w : World) (h : shapesearchref24_New.f k a0 = some (r1,r2,r3)) :
  Calls Try.prog 8 #[.int .i64 a0] w fun e w'=>∃ v0_ v1_ : Value,e = .returned (.tuple #[.agg #[v0_,v1_],.int .i64 r3])∧Kd.S (Kd.slice 5 (Kd.int .u8)) 26 w' w.heap.size (fun _=>True) v0_ r1∧Kd.S k42 42 w' w.heap.size (fun _=>True) v1_ r2∧Below w.heap.size w w':=by
 have hu25:=Try.underlying25
 have HB:=A_ (Below.refl w.heap.size w)
 have H : (if a0 < 1 then (shapesearchref24_New.j0 k a0 true) else (shapesearchref24_New.j0 k a0 (decide (a0 > 256)))) = some (r1,r2,r3):=h
 clear h
 have HC2:=A_ H
 clear H
 go_enter Try.func8,Try.ntmps8
 go_upto_region 1 with (first|((with_reducible refine gate_dst (N:=2) rfl ?_);refine box_event ?hg (N:=2) ?hd (cs:=#[.slice none 0 0,.slice none 0 0]) (t:=25) ?hr ?_;(case hd=>rfl);(case hg=>rfl);(case hr=>first|(go_simp;done)|(go_simp;rfl));intro gb191 hg w3 hbox hb;have n0_:=A_ (below_step (by repeat (first|(with_reducible first|exact HB.out|apply ba|apply bb|apply bc)|exact HB.out)) hb);have n1_:=A_ (hbox);have n2_:=A_ ((by rw [hg];exact (below_size (by repeat (first|(with_reducible first|exact HB.out|apply ba|apply bb|apply bc)|exact HB.out))) : w.heap.size ≤ gb191));have n3_:=A_ ((by rw [hg];exact (below_size (by repeat (first|(with_reducible first|exact HB.out|apply ba|apply bb|apply bc)|exact HB.out))) : w.heap.size ≤ gb191));clear HB;have HB:=n0_;have BK191:=n1_;have GW191:=n2_;have GE191:=n3_;clear n0_ n1_ n2_ n3_;clear hb hbox hg))
 (try simp only [Act.put,List.setIfInBounds_toArray,List.set_cons_zero,List.set_cons_succ])
 go_cut [11] (fun v11 wc=>∃ (kq : Nat) (x11_1 : Bool),v11 = .bool x11_1∧Aside0 (shapesearchref24_New.j0 kq a0 x11_1 = some (r1,r2,r3))∧Aside0 (kq ≤ k)∧Aside0 (wc.heap[gb191]? = some (.cells #[(.slice none 0 0),(.slice none 0 0)] 25 (0,0)))∧Aside0 (Below w.heap.size w wc))
 case first =>
  have H:=HC2.out
  clear HC2
  by_cases c4 : a0 < 1
  ·
   rw [if_pos c4] at H
   have c4b0 : decide (a0 < 1) = true:=decide_eq_true c4
   clear c4
   (first|rw [c4b0]|(simp only [i64_w,i32_w];rw [c4b0])|skip)
   have H':=A_ H
   clear H
   go_wp2
   go_meet
   case rel=>exact ⟨_,(true),(by first|rfl|(simp;done)|(simp [*];done)),H',⟨by first|omega|exact Nat.le_refl _⟩,⟨by (with_reducible repeat (first|refine blk_drewN ?_ _|refine blk_drew ?_|refine blk_alloc ?_ _));exact BK191.out⟩,⟨by repeat (first|(with_reducible first|exact HB.out|apply ba|apply bb|apply bc|refine below_set ?_ GE191.out)|exact HB.out)⟩⟩
  ·
   rw [if_neg c4] at H
   have c4b0 : decide (a0 < 1) = false:=decide_eq_false c4
   clear c4
   (first|rw [c4b0]|(simp only [i64_w,i32_w];rw [c4b0])|skip)
   have H':=A_ H
   clear H
   go_wp2
   go_meet
   case rel=>exact ⟨_,(decide (a0 > 256)),(by first|rfl|(simp;done)|(simp [*];done)),H',⟨by first|omega|exact Nat.le_refl _⟩,⟨by (with_reducible repeat (first|refine blk_drewN ?_ _|refine blk_drew ?_|refine blk_alloc ?_ _));exact BK191.out⟩,⟨by repeat (first|(with_reducible first|exact HB.out|apply ba|apply bb|apply bc|refine below_set ?_ GE191.out)|exact HB.out)⟩⟩
 case rest =>
  clear HC2
  try clear p2
  try clear c4
  try clear c4b0
  obtain ⟨kq,x11_1,rfl,HA,HJ1,BK191,HB⟩:=hcut
  cases kq with
  | zero=>exact absurd HA.out (by simp [shapesearchref24_New.j0])
  | succ kj1 =>
   have H:=HA.out
   clear HA
   simp only [shapesearchref24_New.j0] at H
   by_cases c5 : x11_1 = true
   ·
    subst c5
    have H1 : (some (([] : List (List Int)),([] : List (S42)),4)) = some (r1,r2,r3):=by rw [if_pos rfl] at H;exact H
    clear H
    have H:=H1
    clear H1
    simp only [Option.some.injEq,Prod.mk.injEq] at H
    obtain ⟨rfl,rfl,rfl⟩:=H
    have hcz6_0 : wc.cell? ⟨gb191,0,none⟩ = some (.slice none 0 0):=(blk_cell BK191.out 0).trans rfl
    have hcz6_1 : wc.cell? ⟨gb191,1,none⟩ = some (.slice none 0 0):=(blk_cell BK191.out 1).trans rfl
    have hfz6_0:=blk_frozen BK191.out 0
    have hfz6_1:=blk_frozen BK191.out 1
    go_wp2
    refine bodyPost_ret (results_ct rfl _ _ gb191 25 #[.slice none 0 0,.slice none 0 0] (0,0) _ rfl (by (with_reducible repeat (first|refine blk_drewN ?_ _|refine blk_drew ?_|refine blk_alloc ?_ _));refine blk_put (cs:=#[.slice none 0 0,.slice none 0 0]) ?_ 1 _ rfl;(with_reducible repeat (first|refine blk_drewN ?_ _|refine blk_drew ?_|refine blk_alloc ?_ _));refine blk_put (cs:=#[.slice none 0 0,.slice none 0 0]) ?_ 0 _ rfl;(with_reducible repeat (first|refine blk_drewN ?_ _|refine blk_drew ?_|refine blk_alloc ?_ _));exact BK191.out) Try.underlying25 rfl (by kernel_rfl)) rfl ?_
    exact ⟨_,_,by first|rfl|(simp [errW_none,errW_some] <;> rfl)|(simp [*,errW_none,errW_some] <;> rfl),by first|exact Kd.S_nil _ _ _ _ _|exact Kd.N_nil _ _ _ _ _|exact Kd.V_nil _ _ _ _ _|exact Kd.Q_nil _ _ _ _ _|exact Kd.R_nil _ _ _ _ _,by first|exact Kd.S_nil _ _ _ _ _|exact Kd.N_nil _ _ _ _ _|exact Kd.V_nil _ _ _ _ _|exact Kd.Q_nil _ _ _ _ _|exact Kd.R_nil _ _ _ _ _,by repeat (first|(with_reducible first|exact HB.out|apply ba|apply bb|apply bc|refine below_set ?_ GE191.out)|exact HB.out)⟩
   ·
    replace c5:=Bool.eq_false_iff.mpr c5
    subst c5
    have H1 : (shapesearchref24_New.l0 kj1 a0 0 ([] : List (List Int))) = some (r1,r2,r3):=by rw [if_neg (show ¬ (false = true) by decide)] at H;exact H
    clear H
    have H:=H1
    clear H1
    have H':=A_ H
    clear H
    go_wp2_with (first|((with_reducible refine gate_dst (N:=4) rfl ?_);refine box_event ?hg (N:=4) ?hd (cs:=#[.slice none 0 0,.slice none 0 0]) (t:=25) ?hr ?_;(case hd=>rfl);(case hg=>rfl);(case hr=>first|(go_simp;done)|(go_simp;rfl));intro gb192 hg w7 hbox hb;have n0_:=A_ (blk_below (g:=gb191) (o:=.cells #[.slice none 0 0,.slice none 0 0] 25 (0,0)) (by (with_reducible repeat (first|refine blk_drewN ?_ _|refine blk_drew ?_|refine blk_alloc ?_ _));exact BK191.out) hb);have n1_:=A_ (below_step (by repeat (first|(with_reducible first|exact HB.out|apply ba|apply bb|apply bc|refine below_set ?_ GE191.out)|exact HB.out)) hb);have n2_:=A_ (hbox);have n3_:=A_ ((by rw [hg];exact (below_size (by repeat (first|(with_reducible first|exact HB.out|apply ba|apply bb|apply bc|refine below_set ?_ GE191.out)|exact HB.out))) : w.heap.size ≤ gb192));have n4_:=A_ ((by rw [hg];exact (below_size (by repeat (first|(with_reducible first|exact HB.out|apply ba|apply bb|apply bc|refine below_set ?_ GE191.out)|exact HB.out))) : w.heap.size ≤ gb192));have n5_:=A_ ((by rw [hg];exact Nat.ne_of_lt (blk_lt (g:=gb191) (o:=.cells #[.slice none 0 0,.slice none 0 0] 25 (0,0)) (by (with_reducible repeat (first|refine blk_drewN ?_ _|refine blk_drew ?_|refine blk_alloc ?_ _));exact BK191.out)) : gb191≠gb192));have n6_:=A_ ((by rw [hg];exact Nat.ne_of_gt (blk_lt (g:=gb191) (o:=.cells #[.slice none 0 0,.slice none 0 0] 25 (0,0)) (by (with_reducible repeat (first|refine blk_drewN ?_ _|refine blk_drew ?_|refine blk_alloc ?_ _));exact BK191.out)) : gb192≠gb191));clear BK191;clear HB;have BK191:=n0_;have HB:=n1_;have BK192:=n2_;have GW192:=n3_;have GE192:=n4_;have NB191_192:=n5_;have NB192_191:=n6_;clear n0_ n1_ n2_ n3_ n4_ n5_ n6_;clear hb hbox hg))
    go_loopg [5] kj1 (fun kq v5 w'=>∃ (x5_2 : Int) (x193000_2 : List (List Int)) (u193000 : Value),v5 = .int .i64 x5_2∧Aside0 (shapesearchref24_New.l0 kq a0 x5_2 x193000_2 = some (r1,r2,r3))∧Aside0 (kq ≤ kj1)∧Aside0 (Kd.S (Kd.slice 5 (Kd.int .u8)) 26 w' w.heap.size (fun _=>True) u193000 x193000_2)∧Aside0 (w'.heap[gb191]? = some (.cells #[(.slice none 0 0),(.slice none 0 0)] 25 (0,0)))∧Aside0 (w'.heap[gb192]? = some (.cells #[u193000,(.slice none 0 0)] 25 (0,0)))∧Aside0 (Below w.heap.size w w'))
    case atStart=>exact ⟨(0),(([] : List (List Int))),(.slice none 0 0),(by first|rfl|(simp;done)|(simp [*];done)),H',⟨Nat.le_refl _⟩,⟨by first|exact Kd.S_nil _ _ _ _ _|exact Kd.N_nil _ _ _ _ _|exact Kd.V_nil _ _ _ _ _|exact Kd.Q_nil _ _ _ _ _|exact Kd.R_nil _ _ _ _ _⟩,⟨by (with_reducible repeat (first|refine blk_drewN ?_ _|refine blk_drew ?_|refine blk_alloc ?_ _));exact BK191.out⟩,⟨by (with_reducible repeat (first|refine blk_drewN ?_ _|refine blk_drew ?_|refine blk_alloc ?_ _));exact BK192.out⟩,⟨by repeat (first|(with_reducible first|exact HB.out|apply ba|apply bb|apply bc|refine below_set ?_ GE191.out|refine below_set ?_ GE192.out)|exact HB.out)⟩⟩
    case round =>
     clear H'
     try clear p2
     try clear c4
     try clear c4b0
     try clear c5
     try clear hcz6_0
     try clear hcz6_1
     try clear hfz6_0
     try clear hfz6_1
     try clear p2
     obtain ⟨x5_2,x193000_2,u193000,rfl,HA,HK2,HO_193000,BK191,BK192,HB⟩:=hrel
     cases gk with
     | zero=>exact absurd HA.out (by simp [shapesearchref24_New.l0])
     | succ k2 =>
      have H:=HA.out
      clear HA
      simp only [shapesearchref24_New.l0] at H
      by_cases c8 : x5_2 < a0
      ·
       rw [if_pos c8] at H
       have c8b0 : decide (x5_2 < a0) = true:=decide_eq_true c8
       clear c8
       by_cases c9 : 64 ≤ 281474976710656
       ·
        rw [if_pos c9] at H
        have c9b0:=eq_true c9
        have c9b1 : decide (64 ≤ 281474976710656) = true:=decide_eq_true c9
        clear c9
        obtain ⟨y193,hy193⟩ : ∃ y_ : List Int,y_ = (List.replicate 64 0):=⟨_,rfl⟩
        replace H : (if x193000_2.length < 5864062014805 then (shapesearchref24_New.l0 k2 a0 (wrap64 (x5_2 + 1)) (x193000_2 ++ [y193])) else (none)) = some (r1,r2,r3):=by first|(rw [hy193];with_reducible exact H)|(have H2_:=(Option.bind_some _ _).symm.trans H;rw [hy193];with_reducible exact H2_)|(have H2_:=(Option.bind_some _ _).symm.trans H;with_reducible exact H2_)|with_reducible exact H|(rw [hy193];exact H)|exact H
        have Ny193:=A_ hy193
        clear hy193
        by_cases c10 : x193000_2.length < 5864062014805
        ·
         rw [if_pos c10] at H
         have LMc10:=A_ c10
         clear c10
         obtain ⟨y196,hy196⟩ : ∃ y_ : List (List Int),y_ = (x193000_2 ++ [y193]):=⟨_,rfl⟩
         replace H : (shapesearchref24_New.l0 k2 a0 (wrap64 (x5_2 + 1)) y196) = some (r1,r2,r3):=by first|(rw [hy196];with_reducible exact H)|(have H2_:=(Option.bind_some _ _).symm.trans H;rw [hy196];with_reducible exact H2_)|(have H2_:=(Option.bind_some _ _).symm.trans H;with_reducible exact H2_)|with_reducible exact H|(rw [hy196];exact H)|exact H
         have Ny196:=A_ hy196
         clear hy196
         have H':=A_ H
         clear H
         try go_wp2
         have n0_:=A_ (Kd.S_drew HO_193000.out)
         have n1_:=A_ (blk_drew BK191.out)
         have n2_:=A_ (blk_drew BK192.out)
         have n3_:=A_ (below_drew1 HB.out)
         clear HO_193000
         clear BK191
         clear BK192
         clear HB
         have HO_193000:=n0_
         have BK191:=n1_
         have BK192:=n2_
         have HB:=n3_
         clear n0_ n1_ n2_ n3_
         refine start_ (n:=7) (S:=fun w'=>w'.cell? ⟨gb192,0,none⟩ = some (u193000)∧w'.cell? ⟨gb192,1,none⟩ = some (.slice none 0 0)) (ds:=[6]) #[false,false,false,false,false,false,false] (by kernel_rfl) rfl rfl ⟨(blk_cell BK192.out 0).trans rfl,(blk_cell BK192.out 1).trans rfl⟩ (fun hHeld=>?_)
         generalize wr.drew = w11 at HO_193000 BK191 BK192 HB hHeld ⊢
         refine pure_ (i:=0) (N:=some 18) (v:=?_) (a':=?_) #[true,false,false,false,false,false,false] rfl rfl (by kernel_rfl) (fun _ _ _ h=>h) (Or.inl ⟨by rfl,?_⟩) ?_ ?_
         rotate_left
         ·
          intro w'
          go_simp
          with_reducible rfl
         rotate_left
         ·
          simp only [Act.put,sa,sb,sc,i64_w,i32_w]
          rfl
         refine take_ (i:=1) (N:=some 19) (v:=?_) (a':=?_) #[true,true,false,false,false,false,false] rfl rfl (by kernel_rfl) (fun _ _ _ h=>h) (Or.inl ⟨by rfl,?_⟩) hHeld ?_ ?_
         rotate_left
         ·
          rintro w' ⟨s0,s1⟩
          go_simp
          with_reducible rfl
         rotate_left
         ·
          simp only [Act.put,sa,sb,sc,i64_w,i32_w]
          rfl
         refine one_ (i:=2) (N:=some 20) #[true,true,true,false,false,false,false] rfl rfl (by kernel_rfl) (by decide) (fun K hK=>?_)
         refine Kd.R_make_step (Kd.int .u8) _ 5 (by rfl) (N:=20) rfl 26 _ _ rfl 64 rfl rfl Try.underlying26 (.int .u8 0) 1 info5 rfl (by decide) (by omega) 0 (ok:=fun _=>True) (okp:=fun _=>True) rfl (fun _ hk=>hk) trivial (by omega) (by omega) (Below.refl _ _) (Nat.le_refl _) ?_
         intro v194 w12 ho13 hb hg_ hnew_
         clear hg_ hnew_
         (first|rw [← Ny193.out] at ho13|(simp only [Int.reduceToNat] at ho13;rw [← Ny193.out] at ho13))
         have n0_:=A_ (Kd.S_elder' (by (with_reducible repeat (first|apply Kd.S_alloc|apply Kd.S_drewN|apply Kd.S_drew));exact HO_193000.out) (rs ho13) hb)
         have n1_:=A_ (Kd.R_lower ho13 (below_size (by repeat (first|(with_reducible first|exact HB.out|apply ba|apply bb|apply bc|refine below_set ?_ GE191.out|refine below_set ?_ GE192.out)|exact HB.out))))
         have n2_:=A_ (blk_below (g:=gb191) (o:=.cells #[.slice none 0 0,.slice none 0 0] 25 (0,0)) (by (with_reducible repeat (first|refine blk_drewN ?_ _|refine blk_drew ?_|refine blk_alloc ?_ _));exact BK191.out) hb)
         have n3_:=A_ (blk_below (g:=gb192) (o:=.cells #[u193000,.slice none 0 0] 25 (0,0)) (by (with_reducible repeat (first|refine blk_drewN ?_ _|refine blk_drew ?_|refine blk_alloc ?_ _));exact BK192.out) hb)
         have n4_:=A_ (below_step (by repeat (first|(with_reducible first|exact HB.out|apply ba|apply bb|apply bc|refine below_set ?_ GE191.out|refine below_set ?_ GE192.out)|exact HB.out)) hb)
         clear HO_193000
         clear BK191
         clear BK192
         clear HB
         have HO_193000:=n0_
         have HO195:=n1_
         have BK191:=n2_
         have BK192:=n3_
         have HB:=n4_
         clear n0_ n1_ n2_ n3_ n4_
         clear hb ho13
         obtain ⟨Ao15,co15,eo15⟩:=Kd.R_slice HO195.out
         (first|subst eo15|(injection eo15 with f1_ f2_ f3_;have f4_:=f1_.symm;have f5_:=f3_.symm;clear f1_ f2_ f3_;subst f4_;subst f5_))
         refine hK.out _ _ ⟨(blk_cell BK192.out 0).trans rfl,(blk_cell BK192.out 1).trans rfl⟩ (fun hHeld=>?_)
         clear hK K
         refine norm_ (a':=?_) ?_ ?_
         rotate_left
         ·
          show Act.put _ (some 20) _ = _
          simp only [Act.put,sa,sb,sc,i64_w,i32_w]
          rfl
         refine one_ (i:=3) (N:=some 21) #[true,true,true,true,false,false,false] rfl rfl (by kernel_rfl) (by decide) (fun K hK=>?_)
         refine value_ (w1:=?_) (v:=?_) (by rfl) rfl ?_ ?_
         rotate_left 2
         ·
          go_simp
          constructor
          ·
           rfl
          ·
           rfl
         refine hK.out _ _ ⟨(blk_cell (blk_alloc BK192.out _) 0).trans rfl,(blk_cell (blk_alloc BK192.out _) 1).trans rfl⟩ (fun hHeld=>?_)
         clear hK K
         refine norm_ (a':=?_) ?_ ?_
         rotate_left
         ·
          show Act.put _ (some 21) _ = _
          simp only [Act.put,sa,sb,sc,i64_w,i32_w]
          rfl
         refine one_ (i:=4) (N:=some 22) #[true,true,true,true,true,false,false] rfl rfl (by kernel_rfl) (by decide) (fun K hK=>?_)
         refine Kd.S_append_step (Kd.slice 5 (Kd.int .u8)) (w0:=w) w.heap.size (by rfl) (.tmp 19) (.tmp 21) 22 26 (.slice none 0 0) 24 rfl Try.underlying22 info26 rfl (by decide) (by omega) u193000 x193000_2 y193 [.slice Ao15 y193.length co15] (fun _=>True) (fun k_=>some k_ = (.slice Ao15 y193.length co15 : Value).ownBlock) rfl rfl ?aP (fun k_ hk_=>((rm (ok':=fun k_=>((fun _=>True)) k_∧some k_≠(u193000 : Value).ownBlock) (Kd.R_apart' (HO195.out) (Kd.S_typed HO_193000.out) (by decide)) (fun k_ hk=>⟨trivial,hk.2⟩))).1 k_ hk_.symm) ?aF ?aO ?aB ?aS ?aL ?_
         (case aP=>exact Kd.M_row (rm (Kd.R_tight rfl (rm (ok':=fun k_=>((fun _=>True)) k_∧some k_≠(u193000 : Value).ownBlock) (Kd.R_apart' (HO195.out) (Kd.S_typed HO_193000.out) (by decide)) (fun k_ hk=>⟨trivial,hk.2⟩))) (fun _ h_=>h_)))
         (case aB=>exact (by repeat (first|(with_reducible first|exact HB.out|apply ba|apply bb|apply bc|refine below_set ?_ GE191.out|refine below_set ?_ GE192.out)|exact HB.out)))
         (case aF=>exact (fun _ _=>trivial))
         (case aO=>exact (by (with_reducible repeat (first|apply Kd.S_alloc|apply Kd.S_drewN|apply Kd.S_drew));exact Kd.S_mono HO_193000.out (fun k_ hk=>⟨trivial,fun e_=>hk.2 e_⟩)))
         (case aS=>exact (below_size (by repeat (first|(with_reducible first|exact HB.out|apply ba|apply bb|apply bc|refine below_set ?_ GE191.out|refine below_set ?_ GE192.out)|exact HB.out))))
         (case aL=>have:=LMc10.out;omega)
         intro v197 w14 ho hb hg hat
         rw [← Ny196.out] at ho
         have n0_:=A_ (blk_grown (g:=gb191) (o:=.cells #[.slice none 0 0,.slice none 0 0] 25 (0,0)) (by (with_reducible repeat (first|refine blk_drewN ?_ _|refine blk_drew ?_|refine blk_alloc ?_ _));exact BK191.out) hg (Kd.S_ne HO_193000.out BK191.out (by decide)))
         have n1_:=A_ (blk_grown (g:=gb192) (o:=.cells #[u193000,.slice none 0 0] 25 (0,0)) (by (with_reducible repeat (first|refine blk_drewN ?_ _|refine blk_drew ?_|refine blk_alloc ?_ _));exact BK192.out) hg (Kd.S_ne HO_193000.out BK192.out (by decide)))
         have n2_:=A_ (hb)
         have n3_:=A_ (ho)
         clear BK191
         clear BK192
         clear HB
         clear HO_193000
         clear HO195
         have BK191:=n0_
         have BK192:=n1_
         have HB:=n2_
         have HO198:=n3_
         clear n0_ n1_ n2_ n3_
         clear ho hb hg hat
         obtain ⟨Ao16,co16,eo16⟩:=Kd.S_slice HO198.out
         (first|subst eo16|(injection eo16 with f1_ f2_ f3_;have f4_:=f1_.symm;have f5_:=f3_.symm;clear f1_ f2_ f3_;subst f4_;subst f5_))
         refine hK.out _ _ ⟨(blk_cell BK192.out 0).trans rfl,(blk_cell BK192.out 1).trans rfl⟩ (fun hHeld=>?_)
         clear hK K
         refine norm_ (a':=?_) ?_ ?_
         rotate_left
         ·
          show Act.put _ (some 22) _ = _
          simp only [Act.put,sa,sb,sc,i64_w,i32_w]
          rfl
         refine pure_ (i:=5) (N:=some 23) (v:=?_) (a':=?_) #[true,true,true,true,true,true,false] rfl rfl (by kernel_rfl) (fun _ _ _ h=>h) (Or.inl ⟨by rfl,?_⟩) ?_ ?_
         rotate_left
         ·
          intro w'
          go_simp
          with_reducible rfl
         rotate_left
         ·
          simp only [Act.put,sa,sb,sc,i64_w,i32_w]
          rfl
         refine last_ (i:=6) (N:=none) #[true,true,true,true,true,true,true] rfl rfl (by kernel_rfl) (by decide) (fun K hK=>?_)
         have hs17 : w14.cell? ⟨gb192,0,none⟩ = some (u193000):=(blk_cell BK192.out 0).trans rfl
         have hfs17:=blk_frozen BK192.out 0
         have hns17_0:=NB191_192.out
         have hms17_0:=NB192_191.out
         refine skip_ (w1:=?_) (by rfl) rfl ?_ ?_
         rotate_left
         ·
          go_simp
          rfl
         refine hK.out _ _ ?_
         clear hK K
         refine done_ (by kernel_rfl) ?_
         try go_wp2
         go_roundg k2
         case measure=>have:=HJ1.out;have:=HK2.out;omega
         case rel=>exact ⟨(wrap64 (x5_2 + 1)),(y196),(.slice Ao16 y196.length co16),(by first|rfl|(simp;done)|(simp [*];done)),H',⟨by have:=HJ1.out;have:=HK2.out;omega⟩,⟨by (with_reducible repeat (first|apply Kd.S_alloc|apply Kd.S_drewN|apply Kd.S_drew));exact Kd.S_mono (Kd.S_far (p:=⟨gb192,0,none⟩) (Kd.S_types HO198.out BK192.out (by decide)) (fun _ hk=>hk.2) (.slice Ao16 y196.length co16)) (fun _ hk=>trivial)⟩,⟨by (with_reducible repeat (first|refine blk_drewN ?_ _|refine blk_drew ?_|refine blk_alloc ?_ _));refine blk_far ?_ NB191_192.out _;(with_reducible repeat (first|refine blk_drewN ?_ _|refine blk_drew ?_|refine blk_alloc ?_ _));exact BK191.out⟩,⟨by (with_reducible repeat (first|refine blk_drewN ?_ _|refine blk_drew ?_|refine blk_alloc ?_ _));refine blk_put (cs:=#[u193000,.slice none 0 0]) ?_ 0 _ rfl;(with_reducible repeat (first|refine blk_drewN ?_ _|refine blk_drew ?_|refine blk_alloc ?_ _));exact BK192.out⟩,⟨by repeat (first|(with_reducible first|exact HB.out|apply ba|apply bb|apply bc|refine below_set ?_ GE191.out|refine below_set ?_ GE192.out)|exact HB.out)⟩⟩
        ·
         rw [if_neg c10] at H
         exact absurd H (by simp)
       ·
        rw [if_neg c9] at H
        exact absurd H (by simp)
      ·
       rw [if_neg c8] at H
       have c8b0 : decide (x5_2 < a0) = false:=decide_eq_false c8
       clear c8
       simp only [Option.some.injEq,Prod.mk.injEq] at H
       obtain ⟨rfl,rfl,rfl⟩:=H
       have hnb18:=NB192_191.out
       have hnc18:=NB191_192.out
       have hcz19_0 : wr.cell? ⟨gb192,0,none⟩ = some (u193000):=(blk_cell BK192.out 0).trans rfl
       have hcz19_1 : wr.cell? ⟨gb192,1,none⟩ = some (.slice none 0 0):=(blk_cell BK192.out 1).trans rfl
       have hfz19_0:=blk_frozen BK192.out 0
       have hfz19_1:=blk_frozen BK192.out 1
       obtain ⟨Ao20,co20,eo20⟩:=Kd.S_slice HO_193000.out
       subst eo20
       have hcz21_0 : wr.cell? ⟨gb191,0,none⟩ = some (.slice none 0 0):=(blk_cell BK191.out 0).trans rfl
       have hcz21_1 : wr.cell? ⟨gb191,1,none⟩ = some (.slice none 0 0):=(blk_cell BK191.out 1).trans rfl
       have hfz21_0:=blk_frozen BK191.out 0
       have hfz21_1:=blk_frozen BK191.out 1
       go_wp2
       refine bodyPost_ret (results_ct rfl _ _ gb191 25 #[.slice Ao20 x193000_2.length co20,.slice none 0 0] (0,0) _ rfl (by (with_reducible repeat (first|refine blk_drewN ?_ _|refine blk_drew ?_|refine blk_alloc ?_ _));refine blk_put (cs:=#[.slice Ao20 x193000_2.length co20,.slice none 0 0]) ?_ 1 _ rfl;(with_reducible repeat (first|refine blk_drewN ?_ _|refine blk_drew ?_|refine blk_alloc ?_ _));refine blk_put (cs:=#[.slice none 0 0,.slice none 0 0]) ?_ 0 _ rfl;(with_reducible repeat (first|refine blk_drewN ?_ _|refine blk_drew ?_|refine blk_alloc ?_ _));exact BK191.out) Try.underlying25 rfl (by kernel_rfl)) rfl ?_
       exact ⟨_,_,by first|rfl|(simp [errW_none,errW_some] <;> rfl)|(simp [*,errW_none,errW_some] <;> rfl),by (with_reducible repeat (first|apply Kd.S_alloc|apply Kd.S_drewN|apply Kd.S_drew));exact Kd.S_mono (Kd.S_far (p:=⟨gb191,1,none⟩) (Kd.S_far (p:=⟨gb191,0,none⟩) (Kd.S_types HO_193000.out BK191.out (by decide)) (fun _ hk=>hk.2) (.slice Ao20 x193000_2.length co20)) (fun _ hk=>hk.2) (.slice none 0 0)) (fun _ hk=>trivial),by first|exact Kd.S_nil _ _ _ _ _|exact Kd.N_nil _ _ _ _ _|exact Kd.V_nil _ _ _ _ _|exact Kd.Q_nil _ _ _ _ _|exact Kd.R_nil _ _ _ _ _,by repeat (first|(with_reducible first|exact HB.out|apply ba|apply bb|apply bc|refine below_set ?_ GE191.out|refine below_set ?_ GE192.out)|exact HB.out)⟩

end Go.Proofs.Ythpiafbloebpjaa.PDeviceSteps
