/- This file proves, function by function, what the Go functions that one law uses compute; most of it was printed by a program (wip/tools of this session, over the kit's print). -/
import Derived.Test.YtodipcfbgnljeaaPChannelsOrderx0
import Derived.Test.YtodipcfbgnljeaaPChannelsOrderx5
namespace Go.Proofs.Ytodipcfbgnljeaa.PChannelsOrder
open Go.RowKit Go.Proofs.YtodipcfbgnljeaaW.PrintWords Go.Proofs.YtodipcfbgnljeaaW.PrintLast Go.Proofs.YtodipcfbgnljeaaW.PrintMore
attribute [local go_sem] max2_int min2_int max_two min_two max_three min_three max_four min_four   -- for this text's walks alone
set_option linter.unusedVariables false
set_option linter.unusedSimpArgs false

/-! ### shapesearchlaw16_awake: function 15 -/
def shapesearchlaw16_awake.f (k : Nat)  : Option (Bool):=(some (([(([0,0,5] : List Int)),(([0,5,5] : List Int))] : List (List Int)) : List (List Int))).bind fun y261=>((some (([(([0,5,5] : List Int)),(([0,0,5] : List Int))] : List (List Int)) : List (List Int))).bind fun y270=>((channels_Apart.f k y261 y270 1).bind fun bt273=>((channels_Together.f k y261 y270 1).bind fun bt275=>(if bt273.2 = 0 then (if bt273.1 = 0 then (if bt275.2 = 0 then (some (bt275.1 == 50)) else (some false)) else (some false)) else (some false)))))
theorem shapesearchlaw16_awake.mono : ∀ k,LeO (shapesearchlaw16_awake.f k ) (shapesearchlaw16_awake.f (k + 1) ):=by
 intro  k
 unfold shapesearchlaw16_awake.f
 repeat' first
   | (with_reducible exact channels_Apart.mono _ _ _ _)
   | (with_reducible exact channels_Together.mono _ _ _ _)
   | (with_reducible exact LeO.refl _)
   | (with_reducible exact LeO.none _)
   | (with_reducible refine LeO.ite ?_ ?_)
   | (with_reducible refine LeO.bind ?_ (fun _=>?_))
   | exact channels_Apart.mono _ _ _ _
   | exact channels_Together.mono _ _ _ _
   | exact LeO.none _
   | refine LeO.ite ?_ ?_
   | refine LeO.bind ?_ (fun _=>?_)
set_option maxHeartbeats 8000000 in
set_option maxRecDepth 100000 in
theorem shapesearchlaw16_awake.calls (k : Nat)  (r : Bool) (w : World) (h : shapesearchlaw16_awake.f k  = some r) :
  Calls Try.prog 15 #[] w fun e w'=>e = .returned (.bool r)∧Below w.heap.size w w':=by
 have HB:=A_ (Below.refl w.heap.size w)
 have H : ((some (([(([0,0,5] : List Int)),(([0,5,5] : List Int))] : List (List Int)) : List (List Int))).bind fun y261=>((some (([(([0,5,5] : List Int)),(([0,0,5] : List Int))] : List (List Int)) : List (List Int))).bind fun y270=>((channels_Apart.f k y261 y270 1).bind fun bt273=>((channels_Together.f k y261 y270 1).bind fun bt275=>(if bt273.2 = 0 then (if bt273.1 = 0 then (if bt275.2 = 0 then (some (bt275.1 == 50)) else (some false)) else (some false)) else (some false)))))) = some r:=h
 clear h
 obtain ⟨y255,hy255⟩ : ∃ y_ : List Int,y_ = (([0,0,5] : List Int)):=⟨_,rfl⟩
 replace H : ((some (([y255,(([0,5,5] : List Int))] : List (List Int)) : List (List Int))).bind fun y261=>((some (([(([0,5,5] : List Int)),(([0,0,5] : List Int))] : List (List Int)) : List (List Int))).bind fun y270=>((channels_Apart.f k y261 y270 1).bind fun bt273=>((channels_Together.f k y261 y270 1).bind fun bt275=>(if bt273.2 = 0 then (if bt273.1 = 0 then (if bt275.2 = 0 then (some (bt275.1 == 50)) else (some false)) else (some false)) else (some false)))))) = some r:=by first|(rw [hy255];with_reducible exact H)|(have H2_:=(Option.bind_some _ _).symm.trans H;rw [hy255];with_reducible exact H2_)|(have H2_:=(Option.bind_some _ _).symm.trans H;with_reducible exact H2_)|with_reducible exact H|(rw [hy255];exact H)|exact H
 have Ny255:=A_ hy255
 clear hy255
 obtain ⟨y258,hy258⟩ : ∃ y_ : List Int,y_ = (([0,5,5] : List Int)):=⟨_,rfl⟩
 replace H : ((some (([y255,y258] : List (List Int)) : List (List Int))).bind fun y261=>((some (([(([0,5,5] : List Int)),(([0,0,5] : List Int))] : List (List Int)) : List (List Int))).bind fun y270=>((channels_Apart.f k y261 y270 1).bind fun bt273=>((channels_Together.f k y261 y270 1).bind fun bt275=>(if bt273.2 = 0 then (if bt273.1 = 0 then (if bt275.2 = 0 then (some (bt275.1 == 50)) else (some false)) else (some false)) else (some false)))))) = some r:=by first|(rw [hy258];with_reducible exact H)|(have H2_:=(Option.bind_some _ _).symm.trans H;rw [hy258];with_reducible exact H2_)|(have H2_:=(Option.bind_some _ _).symm.trans H;with_reducible exact H2_)|with_reducible exact H|(rw [hy258];exact H)|exact H
 have Ny258:=A_ hy258
 clear hy258
 obtain ⟨y261,hy261⟩ : ∃ y_ : List (List Int),y_ = (([y255,y258] : List (List Int))):=⟨_,rfl⟩
 replace H : ((some (([(([0,5,5] : List Int)),(([0,0,5] : List Int))] : List (List Int)) : List (List Int))).bind fun y270=>((channels_Apart.f k y261 y270 1).bind fun bt273=>((channels_Together.f k y261 y270 1).bind fun bt275=>(if bt273.2 = 0 then (if bt273.1 = 0 then (if bt275.2 = 0 then (some (bt275.1 == 50)) else (some false)) else (some false)) else (some false))))) = some r:=by first|(rw [hy261];with_reducible exact H)|(have H2_:=(Option.bind_some _ _).symm.trans H;rw [hy261];with_reducible exact H2_)|(have H2_:=(Option.bind_some _ _).symm.trans H;with_reducible exact H2_)|with_reducible exact H|(rw [hy261];exact H)|exact H
 have Ny261:=A_ hy261
 clear hy261
 obtain ⟨y264,hy264⟩ : ∃ y_ : List Int,y_ = (([0,5,5] : List Int)):=⟨_,rfl⟩
 replace H : ((some (([y264,(([0,0,5] : List Int))] : List (List Int)) : List (List Int))).bind fun y270=>((channels_Apart.f k y261 y270 1).bind fun bt273=>((channels_Together.f k y261 y270 1).bind fun bt275=>(if bt273.2 = 0 then (if bt273.1 = 0 then (if bt275.2 = 0 then (some (bt275.1 == 50)) else (some false)) else (some false)) else (some false))))) = some r:=by first|(rw [hy264];with_reducible exact H)|(have H2_:=(Option.bind_some _ _).symm.trans H;rw [hy264];with_reducible exact H2_)|(have H2_:=(Option.bind_some _ _).symm.trans H;with_reducible exact H2_)|with_reducible exact H|(rw [hy264];exact H)|exact H
 have Ny264:=A_ hy264
 clear hy264
 obtain ⟨y267,hy267⟩ : ∃ y_ : List Int,y_ = (([0,0,5] : List Int)):=⟨_,rfl⟩
 replace H : ((some (([y264,y267] : List (List Int)) : List (List Int))).bind fun y270=>((channels_Apart.f k y261 y270 1).bind fun bt273=>((channels_Together.f k y261 y270 1).bind fun bt275=>(if bt273.2 = 0 then (if bt273.1 = 0 then (if bt275.2 = 0 then (some (bt275.1 == 50)) else (some false)) else (some false)) else (some false))))) = some r:=by first|(rw [hy267];with_reducible exact H)|(have H2_:=(Option.bind_some _ _).symm.trans H;rw [hy267];with_reducible exact H2_)|(have H2_:=(Option.bind_some _ _).symm.trans H;with_reducible exact H2_)|with_reducible exact H|(rw [hy267];exact H)|exact H
 have Ny267:=A_ hy267
 clear hy267
 obtain ⟨y270,hy270⟩ : ∃ y_ : List (List Int),y_ = (([y264,y267] : List (List Int))):=⟨_,rfl⟩
 replace H : ((channels_Apart.f k y261 y270 1).bind fun bt273=>((channels_Together.f k y261 y270 1).bind fun bt275=>(if bt273.2 = 0 then (if bt273.1 = 0 then (if bt275.2 = 0 then (some (bt275.1 == 50)) else (some false)) else (some false)) else (some false)))) = some r:=by first|(rw [hy270];with_reducible exact H)|(have H2_:=(Option.bind_some _ _).symm.trans H;rw [hy270];with_reducible exact H2_)|(have H2_:=(Option.bind_some _ _).symm.trans H;with_reducible exact H2_)|with_reducible exact H|(rw [hy270];exact H)|exact H
 have Ny270:=A_ hy270
 clear hy270
 replace H:=Option.bind_eq_some_iff.mp H
 obtain ⟨⟨t273,t274⟩,A10,H⟩:=H
 replace H : ((channels_Together.f k y261 y270 1).bind fun bt275=>(if t274 = 0 then (if t273 = 0 then (if bt275.2 = 0 then (some (bt275.1 == 50)) else (some false)) else (some false)) else (some false))) = some r:=H
 have A1:=A_ A10
 clear A10
 replace H:=Option.bind_eq_some_iff.mp H
 obtain ⟨⟨t275,t276⟩,A20,H⟩:=H
 replace H : (if t274 = 0 then (if t273 = 0 then (if t276 = 0 then (some (t275 == 50)) else (some false)) else (some false)) else (some false)) = some r:=H
 have A2:=A_ A20
 clear A20
 by_cases c3 : t274 = 0
 ·
  rw [if_pos c3] at H
  have c3b0 : (t274 == 0) = true:=beq_iff_eq.mpr c3
  have c3b1 : (t274 != 0) = false:=bne_eq_false_iff_eq.mpr c3
  clear c3
  by_cases c4 : t273 = 0
  ·
   rw [if_pos c4] at H
   have c4b0 : (t273 == 0) = true:=beq_iff_eq.mpr c4
   have c4b1 : (t273 != 0) = false:=bne_eq_false_iff_eq.mpr c4
   clear c4
   by_cases c5 : t276 = 0
   ·
    rw [if_pos c5] at H
    have c5b0 : (t276 == 0) = true:=beq_iff_eq.mpr c5
    have c5b1 : (t276 != 0) = false:=bne_eq_false_iff_eq.mpr c5
    clear c5
    obtain rfl:=Option.some.inj H
    go_enter Try.func15,Try.ntmps15
    go_wp2_with (first|((with_reducible refine gate_dst (N:=7) rfl ?_);refine Kd.R_lit (Kd.int .i64) _ 3 ?hg (N:=7) ?hd (xs:=([0,0,5] : List Int)) (inner:=[.int .i64 0,.int .i64 0,.int .i64 5]) (ok:=fun _=>True) (okp:=fun _=>True) ?hr ?hp (fun _ hk=>hk) trivial (Below.refl _ _) (Nat.le_refl _) (by simp) ?_;(case hd=>rfl);(case hg=>rfl);(case hr=>first|(go_simp;done)|(go_simp;rfl));(case hp=>exact (Reps.one (show Kd.M (Kd.int .i64) _ _ _ 0 [.int .i64 0] from rfl) (Reps.one (show Kd.M (Kd.int .i64) _ _ _ 0 [.int .i64 0] from rfl) (Reps.one (show Kd.M (Kd.int .i64) _ _ _ 5 [.int .i64 5] from rfl) (Reps.none _ _)))));intro v256 w6 ho7 hb hg_ hnew_;clear hg_ hnew_;(first|rw [← Ny255.out] at ho7|(simp only [Int.reduceToNat] at ho7;rw [← Ny255.out] at ho7));have n0_:=A_ (Kd.R_lower ho7 (below_size (by repeat (first|(with_reducible first|exact HB.out|apply ba|apply bb|apply bc)|exact HB.out))));have n1_:=A_ (below_step (by repeat (first|(with_reducible first|exact HB.out|apply ba|apply bb|apply bc)|exact HB.out)) hb);clear HB;have HO257:=n0_;have HB:=n1_;clear n0_ n1_;clear hb ho7)|((with_reducible refine gate_dst (N:=8) rfl ?_);refine Kd.R_lit (Kd.int .i64) _ 3 ?hg (N:=8) ?hd (xs:=([0,5,5] : List Int)) (inner:=[.int .i64 0,.int .i64 5,.int .i64 5]) (ok:=fun _=>True) (okp:=fun _=>True) ?hr ?hp (fun _ hk=>hk) trivial (Below.refl _ _) (Nat.le_refl _) (by simp) ?_;(case hd=>rfl);(case hg=>rfl);(case hr=>first|(go_simp;done)|(go_simp;rfl));(case hp=>exact (Reps.one (show Kd.M (Kd.int .i64) _ _ _ 0 [.int .i64 0] from rfl) (Reps.one (show Kd.M (Kd.int .i64) _ _ _ 5 [.int .i64 5] from rfl) (Reps.one (show Kd.M (Kd.int .i64) _ _ _ 5 [.int .i64 5] from rfl) (Reps.none _ _)))));intro v259 w8 ho9 hb hg_ hnew_;clear hg_ hnew_;(first|rw [← Ny258.out] at ho9|(simp only [Int.reduceToNat] at ho9;rw [← Ny258.out] at ho9));have n0_:=A_ (re (by (with_reducible repeat (first|apply ra|apply rb|apply rc));exact HO257.out) (rs ho9) hb);have n1_:=A_ (Kd.R_lower (rn ho9 (rl (by (with_reducible repeat (first|apply ra|apply rb|apply rc));exact HO257.out))) (below_size (by repeat (first|(with_reducible first|exact HB.out|apply ba|apply bb|apply bc)|exact HB.out))));have n2_:=A_ (below_step (by repeat (first|(with_reducible first|exact HB.out|apply ba|apply bb|apply bc)|exact HB.out)) hb);clear HO257;clear HB;have HO257:=n0_;have HO260:=n1_;have HB:=n2_;clear n0_ n1_ n2_;clear hb ho9;obtain ⟨Ao10,co10,eo10⟩:=Kd.R_slice HO257.out;subst eo10;obtain ⟨Ao11,co11,eo11⟩:=Kd.R_slice HO260.out;subst eo11)|((with_reducible refine gate_dst (N:=9) rfl ?_);refine Kd.N_lit (Kd.slice 3 (Kd.int .i64)) _ 22 ?hg (N':=9) ?hd (xs:=([y255,y258] : List (List Int))) (inner:=[.slice Ao10 y255.length co10,.slice Ao11 y258.length co11]) (ok:=(fun _=>True)) (okp:=(fun _=>True)) ?hr ?hp (fun _ hk=>hk) ((show ∀ k_,w8.heap.size ≤ k_ → (fun _=>True) k_ from fun k_ hk=>trivial) _ (Nat.le_refl _)) (Below.refl _ _) (Nat.le_refl _) (by simp) ?_;(case hd=>rfl);(case hg=>rfl);(case hr=>first|(go_simp;done)|(go_simp;rfl));(case hp=>exact (Reps.one (show Kd.FK (Kd.slice 3 (Kd.int .i64)) _ _ y255 [.slice Ao10 y255.length co10] from (Kd.FK_slice_mk (rd_ (rm (ok':=(fun _=>True)) (HO257.out) (fun k_ hk=>trivial))).2.1 (Kd.R_F (rm (ok':=(fun _=>True)) (HO257.out) (fun k_ hk=>trivial))))) (Reps.one (show Kd.FK (Kd.slice 3 (Kd.int .i64)) _ _ y258 [.slice Ao11 y258.length co11] from (Kd.FK_slice_mk (rd_ (rm (ok':=(fun _=>True)) (HO260.out) (fun k_ hk=>trivial))).2.1 (Kd.R_F (rm (ok':=(fun _=>True)) (HO260.out) (fun k_ hk=>trivial))))) (Reps.none _ _))));intro v262 w12 ho13 hb hg_ hnew_;clear hg_ hnew_;(first|rw [← Ny261.out] at ho13|(simp only [Int.reduceToNat] at ho13;rw [← Ny261.out] at ho13));have n0_:=A_ (Kd.N_lower ho13 (below_size (by repeat (first|(with_reducible first|exact HB.out|apply ba|apply bb|apply bc)|exact HB.out))));have n1_:=A_ (below_step (by repeat (first|(with_reducible first|exact HB.out|apply ba|apply bb|apply bc)|exact HB.out)) hb);clear HB;clear HO257;clear HO260;have HO263:=n0_;have HB:=n1_;clear n0_ n1_;clear hb ho13)|((with_reducible refine gate_dst (N:=10) rfl ?_);refine Kd.R_lit (Kd.int .i64) _ 3 ?hg (N:=10) ?hd (xs:=([0,5,5] : List Int)) (inner:=[.int .i64 0,.int .i64 5,.int .i64 5]) (ok:=fun _=>True) (okp:=fun _=>True) ?hr ?hp (fun _ hk=>hk) trivial (Below.refl _ _) (Nat.le_refl _) (by simp) ?_;(case hd=>rfl);(case hg=>rfl);(case hr=>first|(go_simp;done)|(go_simp;rfl));(case hp=>exact (Reps.one (show Kd.M (Kd.int .i64) _ _ _ 0 [.int .i64 0] from rfl) (Reps.one (show Kd.M (Kd.int .i64) _ _ _ 5 [.int .i64 5] from rfl) (Reps.one (show Kd.M (Kd.int .i64) _ _ _ 5 [.int .i64 5] from rfl) (Reps.none _ _)))));intro v265 w14 ho15 hb hg_ hnew_;clear hg_ hnew_;(first|rw [← Ny264.out] at ho15|(simp only [Int.reduceToNat] at ho15;rw [← Ny264.out] at ho15));have n0_:=A_ (Kd.N_elder' (by (with_reducible repeat (first|apply na|apply nd_|apply ne_));exact HO263.out) (rs ho15) hb);have n1_:=A_ (Kd.R_lower ho15 (below_size (by repeat (first|(with_reducible first|exact HB.out|apply ba|apply bb|apply bc)|exact HB.out))));have n2_:=A_ (below_step (by repeat (first|(with_reducible first|exact HB.out|apply ba|apply bb|apply bc)|exact HB.out)) hb);clear HO263;clear HB;have HO263:=n0_;have HO266:=n1_;have HB:=n2_;clear n0_ n1_ n2_;clear hb ho15)|((with_reducible refine gate_dst (N:=11) rfl ?_);refine Kd.R_lit (Kd.int .i64) _ 3 ?hg (N:=11) ?hd (xs:=([0,0,5] : List Int)) (inner:=[.int .i64 0,.int .i64 0,.int .i64 5]) (ok:=fun _=>True) (okp:=fun _=>True) ?hr ?hp (fun _ hk=>hk) trivial (Below.refl _ _) (Nat.le_refl _) (by simp) ?_;(case hd=>rfl);(case hg=>rfl);(case hr=>first|(go_simp;done)|(go_simp;rfl));(case hp=>exact (Reps.one (show Kd.M (Kd.int .i64) _ _ _ 0 [.int .i64 0] from rfl) (Reps.one (show Kd.M (Kd.int .i64) _ _ _ 0 [.int .i64 0] from rfl) (Reps.one (show Kd.M (Kd.int .i64) _ _ _ 5 [.int .i64 5] from rfl) (Reps.none _ _)))));intro v268 w16 ho17 hb hg_ hnew_;clear hg_ hnew_;(first|rw [← Ny267.out] at ho17|(simp only [Int.reduceToNat] at ho17;rw [← Ny267.out] at ho17));have n0_:=A_ (Kd.N_elder' (by (with_reducible repeat (first|apply na|apply nd_|apply ne_));exact HO263.out) (rs ho17) hb);have n1_:=A_ (re (by (with_reducible repeat (first|apply ra|apply rb|apply rc));exact HO266.out) (rs ho17) hb);have n2_:=A_ (Kd.R_lower (rn ho17 (rl (by (with_reducible repeat (first|apply ra|apply rb|apply rc));exact HO266.out))) (below_size (by repeat (first|(with_reducible first|exact HB.out|apply ba|apply bb|apply bc)|exact HB.out))));have n3_:=A_ (below_step (by repeat (first|(with_reducible first|exact HB.out|apply ba|apply bb|apply bc)|exact HB.out)) hb);clear HO263;clear HO266;clear HB;have HO263:=n0_;have HO266:=n1_;have HO269:=n2_;have HB:=n3_;clear n0_ n1_ n2_ n3_;clear hb ho17;obtain ⟨Ao18,co18,eo18⟩:=Kd.R_slice HO266.out;subst eo18;obtain ⟨Ao19,co19,eo19⟩:=Kd.R_slice HO269.out;subst eo19)|((with_reducible refine gate_dst (N:=12) rfl ?_);refine Kd.N_lit (Kd.slice 3 (Kd.int .i64)) _ 22 ?hg (N':=12) ?hd (xs:=([y264,y267] : List (List Int))) (inner:=[.slice Ao18 y264.length co18,.slice Ao19 y267.length co19]) (ok:=(fun k_=>nb k_ v262)) (okp:=(fun k_=>nb k_ v262)) ?hr ?hp (fun _ hk=>hk) ((show ∀ k_,w16.heap.size ≤ k_ → (fun k_=>nb k_ v262) k_ from fun k_ hk=>rh (Kd.N_lt (by (with_reducible repeat (first|apply na|apply nd_|apply ne_));exact HO263.out)) k_ hk) _ (Nat.le_refl _)) (Below.refl _ _) (Nat.le_refl _) (by simp) ?_;(case hd=>rfl);(case hg=>rfl);(case hr=>first|(go_simp;done)|(go_simp;rfl));(case hp=>exact (Reps.one (show Kd.FK (Kd.slice 3 (Kd.int .i64)) _ _ y264 [.slice Ao18 y264.length co18] from (Kd.FK_slice_mk (rd_ (rm (ok':=(fun k_=>nb k_ v262)) (Kd.R_apart' (HO266.out) (Kd.N_typed HO263.out) (by decide)) (fun k_ hk=>hk.2))).2.1 (Kd.R_F (rm (ok':=(fun k_=>nb k_ v262)) (Kd.R_apart' (HO266.out) (Kd.N_typed HO263.out) (by decide)) (fun k_ hk=>hk.2))))) (Reps.one (show Kd.FK (Kd.slice 3 (Kd.int .i64)) _ _ y267 [.slice Ao19 y267.length co19] from (Kd.FK_slice_mk (rd_ (rm (ok':=(fun k_=>nb k_ v262)) (Kd.R_apart' (HO269.out) (Kd.N_typed HO263.out) (by decide)) (fun k_ hk=>hk.2))).2.1 (Kd.R_F (rm (ok':=(fun k_=>nb k_ v262)) (Kd.R_apart' (HO269.out) (Kd.N_typed HO263.out) (by decide)) (fun k_ hk=>hk.2))))) (Reps.none _ _))));intro v271 w20 ho21 hb hg_ hnew_;clear hg_ hnew_;(first|rw [← Ny270.out] at ho21|(simp only [Int.reduceToNat] at ho21;rw [← Ny270.out] at ho21));have n0_:=A_ (Kd.N_elder' (by (with_reducible repeat (first|apply na|apply nd_|apply ne_));exact HO263.out) (Kd.N_base ho21) hb);have n1_:=A_ (Kd.N_lower ho21 (below_size (by repeat (first|(with_reducible first|exact HB.out|apply ba|apply bb|apply bc)|exact HB.out))));have n2_:=A_ (below_step (by repeat (first|(with_reducible first|exact HB.out|apply ba|apply bb|apply bc)|exact HB.out)) hb);clear HO263;clear HB;clear HO266;clear HO269;have HO263:=n0_;have HO272:=n1_;have HB:=n2_;clear n0_ n1_ n2_;clear hb ho21;obtain ⟨Ao22,co22,eo22⟩:=Kd.N_slice HO263.out;subst eo22;obtain ⟨Ao23,co23,eo23⟩:=Kd.N_slice HO272.out;subst eo23)|((with_reducible refine gate_callee (f:=11) rfl ?_);refine goesL_ (some 16) rfl rfl Try.func11 (by kernel_rfl) rfl #[.slice Ao22 y261.length co22,.slice Ao23 y270.length co23,.int .i64 1] rfl (by (try simp only [List.map_toArray,List.map_cons,List.map_nil]);first|done|rfl|(simp only [List.length_drop,List.length_take];rfl)) ?_;(with_reducible refine (channels_Apart.calls k _ _ y261 _ _ y270 1 t273 t274 _ ?side1 ?side2 ?side3 ?side4 A1.out).mono ?_);(case side1=>repeat (first|exact (Kd.N_reads' HO263.out).2.2|(with_reducible refine ca ?_ _)|(with_reducible refine cb ?_ _)|(with_reducible refine cc ?_)));(case side2=>exact (Kd.N_reads' HO263.out).2.1);(case side3=>repeat (first|exact (Kd.N_reads' HO272.out).2.2|(with_reducible refine ca ?_ _)|(with_reducible refine cb ?_ _)|(with_reducible refine cc ?_)));(case side4=>exact (Kd.N_reads' HO272.out).2.1);rintro e w24 ⟨rfl,hb⟩;refine ⟨_,rfl,?_⟩;have n0_:=A_ (Kd.N_below (by (with_reducible repeat (first|apply na|apply nd_|apply ne_));exact HO263.out) hb);have n1_:=A_ (Kd.N_below (by (with_reducible repeat (first|apply na|apply nd_|apply ne_));exact HO272.out) hb);have n2_:=A_ (below_step (by repeat (first|(with_reducible first|exact HB.out|apply ba|apply bb|apply bc)|exact HB.out)) hb);clear HO263;clear HO272;clear HB;have HO263:=n0_;have HO272:=n1_;have HB:=n2_;clear n0_ n1_ n2_;(try clear hb);(try clear hb2);(try clear hk);(try clear hi))|((with_reducible refine gate_callee (f:=12) rfl ?_);refine goesL_ (some 22) rfl rfl Try.func12 (by kernel_rfl) rfl #[.slice Ao22 y261.length co22,.slice Ao23 y270.length co23,.int .i64 1] rfl (by (try simp only [List.map_toArray,List.map_cons,List.map_nil]);first|done|rfl|(simp only [List.length_drop,List.length_take];rfl)) ?_;(with_reducible refine (channels_Together.calls k _ _ y261 _ _ y270 1 t275 t276 _ ?side1 ?side2 ?side3 ?side4 A2.out).mono ?_);(case side1=>repeat (first|exact (Kd.N_reads' HO263.out).2.2|(with_reducible refine ca ?_ _)|(with_reducible refine cb ?_ _)|(with_reducible refine cc ?_)));(case side2=>exact (Kd.N_reads' HO263.out).2.1);(case side3=>repeat (first|exact (Kd.N_reads' HO272.out).2.2|(with_reducible refine ca ?_ _)|(with_reducible refine cb ?_ _)|(with_reducible refine cc ?_)));(case side4=>exact (Kd.N_reads' HO272.out).2.1);rintro e w25 ⟨rfl,hb⟩;refine ⟨_,rfl,?_⟩;have n0_:=A_ (Kd.N_below (by (with_reducible repeat (first|apply na|apply nd_|apply ne_));exact HO263.out) hb);have n1_:=A_ (Kd.N_below (by (with_reducible repeat (first|apply na|apply nd_|apply ne_));exact HO272.out) hb);have n2_:=A_ (below_step (by repeat (first|(with_reducible first|exact HB.out|apply ba|apply bb|apply bc)|exact HB.out)) hb);clear HO263;clear HO272;clear HB;have HO263:=n0_;have HO272:=n1_;have HB:=n2_;clear n0_ n1_ n2_;(try clear hb);(try clear hb2);(try clear hk);(try clear hi)))
    go_ret
    exact ⟨by first|rfl|(simp [errW_none,errW_some] <;> rfl)|(simp [*,errW_none,errW_some] <;> rfl),by repeat (first|(with_reducible first|exact HB.out|apply ba|apply bb|apply bc)|exact HB.out)⟩
   ·
    rw [if_neg c5] at H
    have c5b0 : (t276 == 0) = false:=beq_eq_false_iff_ne.mpr c5
    have c5b1 : (t276 != 0) = true:=bne_iff_ne.mpr c5
    obtain rfl:=Option.some.inj H
    go_enter Try.func15,Try.ntmps15
    go_wp2_with (first|((with_reducible refine gate_dst (N:=7) rfl ?_);refine Kd.R_lit (Kd.int .i64) _ 3 ?hg (N:=7) ?hd (xs:=([0,0,5] : List Int)) (inner:=[.int .i64 0,.int .i64 0,.int .i64 5]) (ok:=fun _=>True) (okp:=fun _=>True) ?hr ?hp (fun _ hk=>hk) trivial (Below.refl _ _) (Nat.le_refl _) (by simp) ?_;(case hd=>rfl);(case hg=>rfl);(case hr=>first|(go_simp;done)|(go_simp;rfl));(case hp=>exact (Reps.one (show Kd.M (Kd.int .i64) _ _ _ 0 [.int .i64 0] from rfl) (Reps.one (show Kd.M (Kd.int .i64) _ _ _ 0 [.int .i64 0] from rfl) (Reps.one (show Kd.M (Kd.int .i64) _ _ _ 5 [.int .i64 5] from rfl) (Reps.none _ _)))));intro v256 w26 ho27 hb hg_ hnew_;clear hg_ hnew_;(first|rw [← Ny255.out] at ho27|(simp only [Int.reduceToNat] at ho27;rw [← Ny255.out] at ho27));have n0_:=A_ (Kd.R_lower ho27 (below_size (by repeat (first|(with_reducible first|exact HB.out|apply ba|apply bb|apply bc)|exact HB.out))));have n1_:=A_ (below_step (by repeat (first|(with_reducible first|exact HB.out|apply ba|apply bb|apply bc)|exact HB.out)) hb);clear HB;have HO257:=n0_;have HB:=n1_;clear n0_ n1_;clear hb ho27)|((with_reducible refine gate_dst (N:=8) rfl ?_);refine Kd.R_lit (Kd.int .i64) _ 3 ?hg (N:=8) ?hd (xs:=([0,5,5] : List Int)) (inner:=[.int .i64 0,.int .i64 5,.int .i64 5]) (ok:=fun _=>True) (okp:=fun _=>True) ?hr ?hp (fun _ hk=>hk) trivial (Below.refl _ _) (Nat.le_refl _) (by simp) ?_;(case hd=>rfl);(case hg=>rfl);(case hr=>first|(go_simp;done)|(go_simp;rfl));(case hp=>exact (Reps.one (show Kd.M (Kd.int .i64) _ _ _ 0 [.int .i64 0] from rfl) (Reps.one (show Kd.M (Kd.int .i64) _ _ _ 5 [.int .i64 5] from rfl) (Reps.one (show Kd.M (Kd.int .i64) _ _ _ 5 [.int .i64 5] from rfl) (Reps.none _ _)))));intro v259 w28 ho29 hb hg_ hnew_;clear hg_ hnew_;(first|rw [← Ny258.out] at ho29|(simp only [Int.reduceToNat] at ho29;rw [← Ny258.out] at ho29));have n0_:=A_ (re (by (with_reducible repeat (first|apply ra|apply rb|apply rc));exact HO257.out) (rs ho29) hb);have n1_:=A_ (Kd.R_lower (rn ho29 (rl (by (with_reducible repeat (first|apply ra|apply rb|apply rc));exact HO257.out))) (below_size (by repeat (first|(with_reducible first|exact HB.out|apply ba|apply bb|apply bc)|exact HB.out))));have n2_:=A_ (below_step (by repeat (first|(with_reducible first|exact HB.out|apply ba|apply bb|apply bc)|exact HB.out)) hb);clear HO257;clear HB;have HO257:=n0_;have HO260:=n1_;have HB:=n2_;clear n0_ n1_ n2_;clear hb ho29;obtain ⟨Ao30,co30,eo30⟩:=Kd.R_slice HO257.out;subst eo30;obtain ⟨Ao31,co31,eo31⟩:=Kd.R_slice HO260.out;subst eo31)|((with_reducible refine gate_dst (N:=9) rfl ?_);refine Kd.N_lit (Kd.slice 3 (Kd.int .i64)) _ 22 ?hg (N':=9) ?hd (xs:=([y255,y258] : List (List Int))) (inner:=[.slice Ao30 y255.length co30,.slice Ao31 y258.length co31]) (ok:=(fun _=>True)) (okp:=(fun _=>True)) ?hr ?hp (fun _ hk=>hk) ((show ∀ k_,w28.heap.size ≤ k_ → (fun _=>True) k_ from fun k_ hk=>trivial) _ (Nat.le_refl _)) (Below.refl _ _) (Nat.le_refl _) (by simp) ?_;(case hd=>rfl);(case hg=>rfl);(case hr=>first|(go_simp;done)|(go_simp;rfl));(case hp=>exact (Reps.one (show Kd.FK (Kd.slice 3 (Kd.int .i64)) _ _ y255 [.slice Ao30 y255.length co30] from (Kd.FK_slice_mk (rd_ (rm (ok':=(fun _=>True)) (HO257.out) (fun k_ hk=>trivial))).2.1 (Kd.R_F (rm (ok':=(fun _=>True)) (HO257.out) (fun k_ hk=>trivial))))) (Reps.one (show Kd.FK (Kd.slice 3 (Kd.int .i64)) _ _ y258 [.slice Ao31 y258.length co31] from (Kd.FK_slice_mk (rd_ (rm (ok':=(fun _=>True)) (HO260.out) (fun k_ hk=>trivial))).2.1 (Kd.R_F (rm (ok':=(fun _=>True)) (HO260.out) (fun k_ hk=>trivial))))) (Reps.none _ _))));intro v262 w32 ho33 hb hg_ hnew_;clear hg_ hnew_;(first|rw [← Ny261.out] at ho33|(simp only [Int.reduceToNat] at ho33;rw [← Ny261.out] at ho33));have n0_:=A_ (Kd.N_lower ho33 (below_size (by repeat (first|(with_reducible first|exact HB.out|apply ba|apply bb|apply bc)|exact HB.out))));have n1_:=A_ (below_step (by repeat (first|(with_reducible first|exact HB.out|apply ba|apply bb|apply bc)|exact HB.out)) hb);clear HB;clear HO257;clear HO260;have HO263:=n0_;have HB:=n1_;clear n0_ n1_;clear hb ho33)|((with_reducible refine gate_dst (N:=10) rfl ?_);refine Kd.R_lit (Kd.int .i64) _ 3 ?hg (N:=10) ?hd (xs:=([0,5,5] : List Int)) (inner:=[.int .i64 0,.int .i64 5,.int .i64 5]) (ok:=fun _=>True) (okp:=fun _=>True) ?hr ?hp (fun _ hk=>hk) trivial (Below.refl _ _) (Nat.le_refl _) (by simp) ?_;(case hd=>rfl);(case hg=>rfl);(case hr=>first|(go_simp;done)|(go_simp;rfl));(case hp=>exact (Reps.one (show Kd.M (Kd.int .i64) _ _ _ 0 [.int .i64 0] from rfl) (Reps.one (show Kd.M (Kd.int .i64) _ _ _ 5 [.int .i64 5] from rfl) (Reps.one (show Kd.M (Kd.int .i64) _ _ _ 5 [.int .i64 5] from rfl) (Reps.none _ _)))));intro v265 w34 ho35 hb hg_ hnew_;clear hg_ hnew_;(first|rw [← Ny264.out] at ho35|(simp only [Int.reduceToNat] at ho35;rw [← Ny264.out] at ho35));have n0_:=A_ (Kd.N_elder' (by (with_reducible repeat (first|apply na|apply nd_|apply ne_));exact HO263.out) (rs ho35) hb);have n1_:=A_ (Kd.R_lower ho35 (below_size (by repeat (first|(with_reducible first|exact HB.out|apply ba|apply bb|apply bc)|exact HB.out))));have n2_:=A_ (below_step (by repeat (first|(with_reducible first|exact HB.out|apply ba|apply bb|apply bc)|exact HB.out)) hb);clear HO263;clear HB;have HO263:=n0_;have HO266:=n1_;have HB:=n2_;clear n0_ n1_ n2_;clear hb ho35)|((with_reducible refine gate_dst (N:=11) rfl ?_);refine Kd.R_lit (Kd.int .i64) _ 3 ?hg (N:=11) ?hd (xs:=([0,0,5] : List Int)) (inner:=[.int .i64 0,.int .i64 0,.int .i64 5]) (ok:=fun _=>True) (okp:=fun _=>True) ?hr ?hp (fun _ hk=>hk) trivial (Below.refl _ _) (Nat.le_refl _) (by simp) ?_;(case hd=>rfl);(case hg=>rfl);(case hr=>first|(go_simp;done)|(go_simp;rfl));(case hp=>exact (Reps.one (show Kd.M (Kd.int .i64) _ _ _ 0 [.int .i64 0] from rfl) (Reps.one (show Kd.M (Kd.int .i64) _ _ _ 0 [.int .i64 0] from rfl) (Reps.one (show Kd.M (Kd.int .i64) _ _ _ 5 [.int .i64 5] from rfl) (Reps.none _ _)))));intro v268 w36 ho37 hb hg_ hnew_;clear hg_ hnew_;(first|rw [← Ny267.out] at ho37|(simp only [Int.reduceToNat] at ho37;rw [← Ny267.out] at ho37));have n0_:=A_ (Kd.N_elder' (by (with_reducible repeat (first|apply na|apply nd_|apply ne_));exact HO263.out) (rs ho37) hb);have n1_:=A_ (re (by (with_reducible repeat (first|apply ra|apply rb|apply rc));exact HO266.out) (rs ho37) hb);have n2_:=A_ (Kd.R_lower (rn ho37 (rl (by (with_reducible repeat (first|apply ra|apply rb|apply rc));exact HO266.out))) (below_size (by repeat (first|(with_reducible first|exact HB.out|apply ba|apply bb|apply bc)|exact HB.out))));have n3_:=A_ (below_step (by repeat (first|(with_reducible first|exact HB.out|apply ba|apply bb|apply bc)|exact HB.out)) hb);clear HO263;clear HO266;clear HB;have HO263:=n0_;have HO266:=n1_;have HO269:=n2_;have HB:=n3_;clear n0_ n1_ n2_ n3_;clear hb ho37;obtain ⟨Ao38,co38,eo38⟩:=Kd.R_slice HO266.out;subst eo38;obtain ⟨Ao39,co39,eo39⟩:=Kd.R_slice HO269.out;subst eo39)|((with_reducible refine gate_dst (N:=12) rfl ?_);refine Kd.N_lit (Kd.slice 3 (Kd.int .i64)) _ 22 ?hg (N':=12) ?hd (xs:=([y264,y267] : List (List Int))) (inner:=[.slice Ao38 y264.length co38,.slice Ao39 y267.length co39]) (ok:=(fun k_=>nb k_ v262)) (okp:=(fun k_=>nb k_ v262)) ?hr ?hp (fun _ hk=>hk) ((show ∀ k_,w36.heap.size ≤ k_ → (fun k_=>nb k_ v262) k_ from fun k_ hk=>rh (Kd.N_lt (by (with_reducible repeat (first|apply na|apply nd_|apply ne_));exact HO263.out)) k_ hk) _ (Nat.le_refl _)) (Below.refl _ _) (Nat.le_refl _) (by simp) ?_;(case hd=>rfl);(case hg=>rfl);(case hr=>first|(go_simp;done)|(go_simp;rfl));(case hp=>exact (Reps.one (show Kd.FK (Kd.slice 3 (Kd.int .i64)) _ _ y264 [.slice Ao38 y264.length co38] from (Kd.FK_slice_mk (rd_ (rm (ok':=(fun k_=>nb k_ v262)) (Kd.R_apart' (HO266.out) (Kd.N_typed HO263.out) (by decide)) (fun k_ hk=>hk.2))).2.1 (Kd.R_F (rm (ok':=(fun k_=>nb k_ v262)) (Kd.R_apart' (HO266.out) (Kd.N_typed HO263.out) (by decide)) (fun k_ hk=>hk.2))))) (Reps.one (show Kd.FK (Kd.slice 3 (Kd.int .i64)) _ _ y267 [.slice Ao39 y267.length co39] from (Kd.FK_slice_mk (rd_ (rm (ok':=(fun k_=>nb k_ v262)) (Kd.R_apart' (HO269.out) (Kd.N_typed HO263.out) (by decide)) (fun k_ hk=>hk.2))).2.1 (Kd.R_F (rm (ok':=(fun k_=>nb k_ v262)) (Kd.R_apart' (HO269.out) (Kd.N_typed HO263.out) (by decide)) (fun k_ hk=>hk.2))))) (Reps.none _ _))));intro v271 w40 ho41 hb hg_ hnew_;clear hg_ hnew_;(first|rw [← Ny270.out] at ho41|(simp only [Int.reduceToNat] at ho41;rw [← Ny270.out] at ho41));have n0_:=A_ (Kd.N_elder' (by (with_reducible repeat (first|apply na|apply nd_|apply ne_));exact HO263.out) (Kd.N_base ho41) hb);have n1_:=A_ (Kd.N_lower ho41 (below_size (by repeat (first|(with_reducible first|exact HB.out|apply ba|apply bb|apply bc)|exact HB.out))));have n2_:=A_ (below_step (by repeat (first|(with_reducible first|exact HB.out|apply ba|apply bb|apply bc)|exact HB.out)) hb);clear HO263;clear HB;clear HO266;clear HO269;have HO263:=n0_;have HO272:=n1_;have HB:=n2_;clear n0_ n1_ n2_;clear hb ho41;obtain ⟨Ao42,co42,eo42⟩:=Kd.N_slice HO263.out;subst eo42;obtain ⟨Ao43,co43,eo43⟩:=Kd.N_slice HO272.out;subst eo43)|((with_reducible refine gate_callee (f:=11) rfl ?_);refine goesL_ (some 16) rfl rfl Try.func11 (by kernel_rfl) rfl #[.slice Ao42 y261.length co42,.slice Ao43 y270.length co43,.int .i64 1] rfl (by (try simp only [List.map_toArray,List.map_cons,List.map_nil]);first|done|rfl|(simp only [List.length_drop,List.length_take];rfl)) ?_;(with_reducible refine (channels_Apart.calls k _ _ y261 _ _ y270 1 t273 t274 _ ?side1 ?side2 ?side3 ?side4 A1.out).mono ?_);(case side1=>repeat (first|exact (Kd.N_reads' HO263.out).2.2|(with_reducible refine ca ?_ _)|(with_reducible refine cb ?_ _)|(with_reducible refine cc ?_)));(case side2=>exact (Kd.N_reads' HO263.out).2.1);(case side3=>repeat (first|exact (Kd.N_reads' HO272.out).2.2|(with_reducible refine ca ?_ _)|(with_reducible refine cb ?_ _)|(with_reducible refine cc ?_)));(case side4=>exact (Kd.N_reads' HO272.out).2.1);rintro e w44 ⟨rfl,hb⟩;refine ⟨_,rfl,?_⟩;have n0_:=A_ (Kd.N_below (by (with_reducible repeat (first|apply na|apply nd_|apply ne_));exact HO263.out) hb);have n1_:=A_ (Kd.N_below (by (with_reducible repeat (first|apply na|apply nd_|apply ne_));exact HO272.out) hb);have n2_:=A_ (below_step (by repeat (first|(with_reducible first|exact HB.out|apply ba|apply bb|apply bc)|exact HB.out)) hb);clear HO263;clear HO272;clear HB;have HO263:=n0_;have HO272:=n1_;have HB:=n2_;clear n0_ n1_ n2_;(try clear hb);(try clear hb2);(try clear hk);(try clear hi))|((with_reducible refine gate_callee (f:=12) rfl ?_);refine goesL_ (some 22) rfl rfl Try.func12 (by kernel_rfl) rfl #[.slice Ao42 y261.length co42,.slice Ao43 y270.length co43,.int .i64 1] rfl (by (try simp only [List.map_toArray,List.map_cons,List.map_nil]);first|done|rfl|(simp only [List.length_drop,List.length_take];rfl)) ?_;(with_reducible refine (channels_Together.calls k _ _ y261 _ _ y270 1 t275 t276 _ ?side1 ?side2 ?side3 ?side4 A2.out).mono ?_);(case side1=>repeat (first|exact (Kd.N_reads' HO263.out).2.2|(with_reducible refine ca ?_ _)|(with_reducible refine cb ?_ _)|(with_reducible refine cc ?_)));(case side2=>exact (Kd.N_reads' HO263.out).2.1);(case side3=>repeat (first|exact (Kd.N_reads' HO272.out).2.2|(with_reducible refine ca ?_ _)|(with_reducible refine cb ?_ _)|(with_reducible refine cc ?_)));(case side4=>exact (Kd.N_reads' HO272.out).2.1);rintro e w45 ⟨rfl,hb⟩;refine ⟨_,rfl,?_⟩;have n0_:=A_ (Kd.N_below (by (with_reducible repeat (first|apply na|apply nd_|apply ne_));exact HO263.out) hb);have n1_:=A_ (Kd.N_below (by (with_reducible repeat (first|apply na|apply nd_|apply ne_));exact HO272.out) hb);have n2_:=A_ (below_step (by repeat (first|(with_reducible first|exact HB.out|apply ba|apply bb|apply bc)|exact HB.out)) hb);clear HO263;clear HO272;clear HB;have HO263:=n0_;have HO272:=n1_;have HB:=n2_;clear n0_ n1_ n2_;(try clear hb);(try clear hb2);(try clear hk);(try clear hi)))
    go_ret
    exact ⟨by first|rfl|(simp [errW_none,errW_some] <;> rfl)|(simp [*,errW_none,errW_some] <;> rfl),by repeat (first|(with_reducible first|exact HB.out|apply ba|apply bb|apply bc)|exact HB.out)⟩
  ·
   rw [if_neg c4] at H
   have c4b0 : (t273 == 0) = false:=beq_eq_false_iff_ne.mpr c4
   have c4b1 : (t273 != 0) = true:=bne_iff_ne.mpr c4
   obtain rfl:=Option.some.inj H
   go_enter Try.func15,Try.ntmps15
   go_wp2_with (first|((with_reducible refine gate_dst (N:=7) rfl ?_);refine Kd.R_lit (Kd.int .i64) _ 3 ?hg (N:=7) ?hd (xs:=([0,0,5] : List Int)) (inner:=[.int .i64 0,.int .i64 0,.int .i64 5]) (ok:=fun _=>True) (okp:=fun _=>True) ?hr ?hp (fun _ hk=>hk) trivial (Below.refl _ _) (Nat.le_refl _) (by simp) ?_;(case hd=>rfl);(case hg=>rfl);(case hr=>first|(go_simp;done)|(go_simp;rfl));(case hp=>exact (Reps.one (show Kd.M (Kd.int .i64) _ _ _ 0 [.int .i64 0] from rfl) (Reps.one (show Kd.M (Kd.int .i64) _ _ _ 0 [.int .i64 0] from rfl) (Reps.one (show Kd.M (Kd.int .i64) _ _ _ 5 [.int .i64 5] from rfl) (Reps.none _ _)))));intro v256 w46 ho47 hb hg_ hnew_;clear hg_ hnew_;(first|rw [← Ny255.out] at ho47|(simp only [Int.reduceToNat] at ho47;rw [← Ny255.out] at ho47));have n0_:=A_ (Kd.R_lower ho47 (below_size (by repeat (first|(with_reducible first|exact HB.out|apply ba|apply bb|apply bc)|exact HB.out))));have n1_:=A_ (below_step (by repeat (first|(with_reducible first|exact HB.out|apply ba|apply bb|apply bc)|exact HB.out)) hb);clear HB;have HO257:=n0_;have HB:=n1_;clear n0_ n1_;clear hb ho47)|((with_reducible refine gate_dst (N:=8) rfl ?_);refine Kd.R_lit (Kd.int .i64) _ 3 ?hg (N:=8) ?hd (xs:=([0,5,5] : List Int)) (inner:=[.int .i64 0,.int .i64 5,.int .i64 5]) (ok:=fun _=>True) (okp:=fun _=>True) ?hr ?hp (fun _ hk=>hk) trivial (Below.refl _ _) (Nat.le_refl _) (by simp) ?_;(case hd=>rfl);(case hg=>rfl);(case hr=>first|(go_simp;done)|(go_simp;rfl));(case hp=>exact (Reps.one (show Kd.M (Kd.int .i64) _ _ _ 0 [.int .i64 0] from rfl) (Reps.one (show Kd.M (Kd.int .i64) _ _ _ 5 [.int .i64 5] from rfl) (Reps.one (show Kd.M (Kd.int .i64) _ _ _ 5 [.int .i64 5] from rfl) (Reps.none _ _)))));intro v259 w48 ho49 hb hg_ hnew_;clear hg_ hnew_;(first|rw [← Ny258.out] at ho49|(simp only [Int.reduceToNat] at ho49;rw [← Ny258.out] at ho49));have n0_:=A_ (re (by (with_reducible repeat (first|apply ra|apply rb|apply rc));exact HO257.out) (rs ho49) hb);have n1_:=A_ (Kd.R_lower (rn ho49 (rl (by (with_reducible repeat (first|apply ra|apply rb|apply rc));exact HO257.out))) (below_size (by repeat (first|(with_reducible first|exact HB.out|apply ba|apply bb|apply bc)|exact HB.out))));have n2_:=A_ (below_step (by repeat (first|(with_reducible first|exact HB.out|apply ba|apply bb|apply bc)|exact HB.out)) hb);clear HO257;clear HB;have HO257:=n0_;have HO260:=n1_;have HB:=n2_;clear n0_ n1_ n2_;clear hb ho49;obtain ⟨Ao50,co50,eo50⟩:=Kd.R_slice HO257.out;subst eo50;obtain ⟨Ao51,co51,eo51⟩:=Kd.R_slice HO260.out;subst eo51)|((with_reducible refine gate_dst (N:=9) rfl ?_);refine Kd.N_lit (Kd.slice 3 (Kd.int .i64)) _ 22 ?hg (N':=9) ?hd (xs:=([y255,y258] : List (List Int))) (inner:=[.slice Ao50 y255.length co50,.slice Ao51 y258.length co51]) (ok:=(fun _=>True)) (okp:=(fun _=>True)) ?hr ?hp (fun _ hk=>hk) ((show ∀ k_,w48.heap.size ≤ k_ → (fun _=>True) k_ from fun k_ hk=>trivial) _ (Nat.le_refl _)) (Below.refl _ _) (Nat.le_refl _) (by simp) ?_;(case hd=>rfl);(case hg=>rfl);(case hr=>first|(go_simp;done)|(go_simp;rfl));(case hp=>exact (Reps.one (show Kd.FK (Kd.slice 3 (Kd.int .i64)) _ _ y255 [.slice Ao50 y255.length co50] from (Kd.FK_slice_mk (rd_ (rm (ok':=(fun _=>True)) (HO257.out) (fun k_ hk=>trivial))).2.1 (Kd.R_F (rm (ok':=(fun _=>True)) (HO257.out) (fun k_ hk=>trivial))))) (Reps.one (show Kd.FK (Kd.slice 3 (Kd.int .i64)) _ _ y258 [.slice Ao51 y258.length co51] from (Kd.FK_slice_mk (rd_ (rm (ok':=(fun _=>True)) (HO260.out) (fun k_ hk=>trivial))).2.1 (Kd.R_F (rm (ok':=(fun _=>True)) (HO260.out) (fun k_ hk=>trivial))))) (Reps.none _ _))));intro v262 w52 ho53 hb hg_ hnew_;clear hg_ hnew_;(first|rw [← Ny261.out] at ho53|(simp only [Int.reduceToNat] at ho53;rw [← Ny261.out] at ho53));have n0_:=A_ (Kd.N_lower ho53 (below_size (by repeat (first|(with_reducible first|exact HB.out|apply ba|apply bb|apply bc)|exact HB.out))));have n1_:=A_ (below_step (by repeat (first|(with_reducible first|exact HB.out|apply ba|apply bb|apply bc)|exact HB.out)) hb);clear HB;clear HO257;clear HO260;have HO263:=n0_;have HB:=n1_;clear n0_ n1_;clear hb ho53)|((with_reducible refine gate_dst (N:=10) rfl ?_);refine Kd.R_lit (Kd.int .i64) _ 3 ?hg (N:=10) ?hd (xs:=([0,5,5] : List Int)) (inner:=[.int .i64 0,.int .i64 5,.int .i64 5]) (ok:=fun _=>True) (okp:=fun _=>True) ?hr ?hp (fun _ hk=>hk) trivial (Below.refl _ _) (Nat.le_refl _) (by simp) ?_;(case hd=>rfl);(case hg=>rfl);(case hr=>first|(go_simp;done)|(go_simp;rfl));(case hp=>exact (Reps.one (show Kd.M (Kd.int .i64) _ _ _ 0 [.int .i64 0] from rfl) (Reps.one (show Kd.M (Kd.int .i64) _ _ _ 5 [.int .i64 5] from rfl) (Reps.one (show Kd.M (Kd.int .i64) _ _ _ 5 [.int .i64 5] from rfl) (Reps.none _ _)))));intro v265 w54 ho55 hb hg_ hnew_;clear hg_ hnew_;(first|rw [← Ny264.out] at ho55|(simp only [Int.reduceToNat] at ho55;rw [← Ny264.out] at ho55));have n0_:=A_ (Kd.N_elder' (by (with_reducible repeat (first|apply na|apply nd_|apply ne_));exact HO263.out) (rs ho55) hb);have n1_:=A_ (Kd.R_lower ho55 (below_size (by repeat (first|(with_reducible first|exact HB.out|apply ba|apply bb|apply bc)|exact HB.out))));have n2_:=A_ (below_step (by repeat (first|(with_reducible first|exact HB.out|apply ba|apply bb|apply bc)|exact HB.out)) hb);clear HO263;clear HB;have HO263:=n0_;have HO266:=n1_;have HB:=n2_;clear n0_ n1_ n2_;clear hb ho55)|((with_reducible refine gate_dst (N:=11) rfl ?_);refine Kd.R_lit (Kd.int .i64) _ 3 ?hg (N:=11) ?hd (xs:=([0,0,5] : List Int)) (inner:=[.int .i64 0,.int .i64 0,.int .i64 5]) (ok:=fun _=>True) (okp:=fun _=>True) ?hr ?hp (fun _ hk=>hk) trivial (Below.refl _ _) (Nat.le_refl _) (by simp) ?_;(case hd=>rfl);(case hg=>rfl);(case hr=>first|(go_simp;done)|(go_simp;rfl));(case hp=>exact (Reps.one (show Kd.M (Kd.int .i64) _ _ _ 0 [.int .i64 0] from rfl) (Reps.one (show Kd.M (Kd.int .i64) _ _ _ 0 [.int .i64 0] from rfl) (Reps.one (show Kd.M (Kd.int .i64) _ _ _ 5 [.int .i64 5] from rfl) (Reps.none _ _)))));intro v268 w56 ho57 hb hg_ hnew_;clear hg_ hnew_;(first|rw [← Ny267.out] at ho57|(simp only [Int.reduceToNat] at ho57;rw [← Ny267.out] at ho57));have n0_:=A_ (Kd.N_elder' (by (with_reducible repeat (first|apply na|apply nd_|apply ne_));exact HO263.out) (rs ho57) hb);have n1_:=A_ (re (by (with_reducible repeat (first|apply ra|apply rb|apply rc));exact HO266.out) (rs ho57) hb);have n2_:=A_ (Kd.R_lower (rn ho57 (rl (by (with_reducible repeat (first|apply ra|apply rb|apply rc));exact HO266.out))) (below_size (by repeat (first|(with_reducible first|exact HB.out|apply ba|apply bb|apply bc)|exact HB.out))));have n3_:=A_ (below_step (by repeat (first|(with_reducible first|exact HB.out|apply ba|apply bb|apply bc)|exact HB.out)) hb);clear HO263;clear HO266;clear HB;have HO263:=n0_;have HO266:=n1_;have HO269:=n2_;have HB:=n3_;clear n0_ n1_ n2_ n3_;clear hb ho57;obtain ⟨Ao58,co58,eo58⟩:=Kd.R_slice HO266.out;subst eo58;obtain ⟨Ao59,co59,eo59⟩:=Kd.R_slice HO269.out;subst eo59)|((with_reducible refine gate_dst (N:=12) rfl ?_);refine Kd.N_lit (Kd.slice 3 (Kd.int .i64)) _ 22 ?hg (N':=12) ?hd (xs:=([y264,y267] : List (List Int))) (inner:=[.slice Ao58 y264.length co58,.slice Ao59 y267.length co59]) (ok:=(fun k_=>nb k_ v262)) (okp:=(fun k_=>nb k_ v262)) ?hr ?hp (fun _ hk=>hk) ((show ∀ k_,w56.heap.size ≤ k_ → (fun k_=>nb k_ v262) k_ from fun k_ hk=>rh (Kd.N_lt (by (with_reducible repeat (first|apply na|apply nd_|apply ne_));exact HO263.out)) k_ hk) _ (Nat.le_refl _)) (Below.refl _ _) (Nat.le_refl _) (by simp) ?_;(case hd=>rfl);(case hg=>rfl);(case hr=>first|(go_simp;done)|(go_simp;rfl));(case hp=>exact (Reps.one (show Kd.FK (Kd.slice 3 (Kd.int .i64)) _ _ y264 [.slice Ao58 y264.length co58] from (Kd.FK_slice_mk (rd_ (rm (ok':=(fun k_=>nb k_ v262)) (Kd.R_apart' (HO266.out) (Kd.N_typed HO263.out) (by decide)) (fun k_ hk=>hk.2))).2.1 (Kd.R_F (rm (ok':=(fun k_=>nb k_ v262)) (Kd.R_apart' (HO266.out) (Kd.N_typed HO263.out) (by decide)) (fun k_ hk=>hk.2))))) (Reps.one (show Kd.FK (Kd.slice 3 (Kd.int .i64)) _ _ y267 [.slice Ao59 y267.length co59] from (Kd.FK_slice_mk (rd_ (rm (ok':=(fun k_=>nb k_ v262)) (Kd.R_apart' (HO269.out) (Kd.N_typed HO263.out) (by decide)) (fun k_ hk=>hk.2))).2.1 (Kd.R_F (rm (ok':=(fun k_=>nb k_ v262)) (Kd.R_apart' (HO269.out) (Kd.N_typed HO263.out) (by decide)) (fun k_ hk=>hk.2))))) (Reps.none _ _))));intro v271 w60 ho61 hb hg_ hnew_;clear hg_ hnew_;(first|rw [← Ny270.out] at ho61|(simp only [Int.reduceToNat] at ho61;rw [← Ny270.out] at ho61));have n0_:=A_ (Kd.N_elder' (by (with_reducible repeat (first|apply na|apply nd_|apply ne_));exact HO263.out) (Kd.N_base ho61) hb);have n1_:=A_ (Kd.N_lower ho61 (below_size (by repeat (first|(with_reducible first|exact HB.out|apply ba|apply bb|apply bc)|exact HB.out))));have n2_:=A_ (below_step (by repeat (first|(with_reducible first|exact HB.out|apply ba|apply bb|apply bc)|exact HB.out)) hb);clear HO263;clear HB;clear HO266;clear HO269;have HO263:=n0_;have HO272:=n1_;have HB:=n2_;clear n0_ n1_ n2_;clear hb ho61;obtain ⟨Ao62,co62,eo62⟩:=Kd.N_slice HO263.out;subst eo62;obtain ⟨Ao63,co63,eo63⟩:=Kd.N_slice HO272.out;subst eo63)|((with_reducible refine gate_callee (f:=11) rfl ?_);refine goesL_ (some 16) rfl rfl Try.func11 (by kernel_rfl) rfl #[.slice Ao62 y261.length co62,.slice Ao63 y270.length co63,.int .i64 1] rfl (by (try simp only [List.map_toArray,List.map_cons,List.map_nil]);first|done|rfl|(simp only [List.length_drop,List.length_take];rfl)) ?_;(with_reducible refine (channels_Apart.calls k _ _ y261 _ _ y270 1 t273 t274 _ ?side1 ?side2 ?side3 ?side4 A1.out).mono ?_);(case side1=>repeat (first|exact (Kd.N_reads' HO263.out).2.2|(with_reducible refine ca ?_ _)|(with_reducible refine cb ?_ _)|(with_reducible refine cc ?_)));(case side2=>exact (Kd.N_reads' HO263.out).2.1);(case side3=>repeat (first|exact (Kd.N_reads' HO272.out).2.2|(with_reducible refine ca ?_ _)|(with_reducible refine cb ?_ _)|(with_reducible refine cc ?_)));(case side4=>exact (Kd.N_reads' HO272.out).2.1);rintro e w64 ⟨rfl,hb⟩;refine ⟨_,rfl,?_⟩;have n0_:=A_ (Kd.N_below (by (with_reducible repeat (first|apply na|apply nd_|apply ne_));exact HO263.out) hb);have n1_:=A_ (Kd.N_below (by (with_reducible repeat (first|apply na|apply nd_|apply ne_));exact HO272.out) hb);have n2_:=A_ (below_step (by repeat (first|(with_reducible first|exact HB.out|apply ba|apply bb|apply bc)|exact HB.out)) hb);clear HO263;clear HO272;clear HB;have HO263:=n0_;have HO272:=n1_;have HB:=n2_;clear n0_ n1_ n2_;(try clear hb);(try clear hb2);(try clear hk);(try clear hi))|((with_reducible refine gate_callee (f:=12) rfl ?_);refine goesL_ (some 22) rfl rfl Try.func12 (by kernel_rfl) rfl #[.slice Ao62 y261.length co62,.slice Ao63 y270.length co63,.int .i64 1] rfl (by (try simp only [List.map_toArray,List.map_cons,List.map_nil]);first|done|rfl|(simp only [List.length_drop,List.length_take];rfl)) ?_;(with_reducible refine (channels_Together.calls k _ _ y261 _ _ y270 1 t275 t276 _ ?side1 ?side2 ?side3 ?side4 A2.out).mono ?_);(case side1=>repeat (first|exact (Kd.N_reads' HO263.out).2.2|(with_reducible refine ca ?_ _)|(with_reducible refine cb ?_ _)|(with_reducible refine cc ?_)));(case side2=>exact (Kd.N_reads' HO263.out).2.1);(case side3=>repeat (first|exact (Kd.N_reads' HO272.out).2.2|(with_reducible refine ca ?_ _)|(with_reducible refine cb ?_ _)|(with_reducible refine cc ?_)));(case side4=>exact (Kd.N_reads' HO272.out).2.1);rintro e w65 ⟨rfl,hb⟩;refine ⟨_,rfl,?_⟩;have n0_:=A_ (Kd.N_below (by (with_reducible repeat (first|apply na|apply nd_|apply ne_));exact HO263.out) hb);have n1_:=A_ (Kd.N_below (by (with_reducible repeat (first|apply na|apply nd_|apply ne_));exact HO272.out) hb);have n2_:=A_ (below_step (by repeat (first|(with_reducible first|exact HB.out|apply ba|apply bb|apply bc)|exact HB.out)) hb);clear HO263;clear HO272;clear HB;have HO263:=n0_;have HO272:=n1_;have HB:=n2_;clear n0_ n1_ n2_;(try clear hb);(try clear hb2);(try clear hk);(try clear hi)))
   go_ret
   exact ⟨by first|rfl|(simp [errW_none,errW_some] <;> rfl)|(simp [*,errW_none,errW_some] <;> rfl),by repeat (first|(with_reducible first|exact HB.out|apply ba|apply bb|apply bc)|exact HB.out)⟩
 ·
  rw [if_neg c3] at H
  have c3b0 : (t274 == 0) = false:=beq_eq_false_iff_ne.mpr c3
  have c3b1 : (t274 != 0) = true:=bne_iff_ne.mpr c3
  obtain rfl:=Option.some.inj H
  go_enter Try.func15,Try.ntmps15
  go_wp2_with (first|((with_reducible refine gate_dst (N:=7) rfl ?_);refine Kd.R_lit (Kd.int .i64) _ 3 ?hg (N:=7) ?hd (xs:=([0,0,5] : List Int)) (inner:=[.int .i64 0,.int .i64 0,.int .i64 5]) (ok:=fun _=>True) (okp:=fun _=>True) ?hr ?hp (fun _ hk=>hk) trivial (Below.refl _ _) (Nat.le_refl _) (by simp) ?_;(case hd=>rfl);(case hg=>rfl);(case hr=>first|(go_simp;done)|(go_simp;rfl));(case hp=>exact (Reps.one (show Kd.M (Kd.int .i64) _ _ _ 0 [.int .i64 0] from rfl) (Reps.one (show Kd.M (Kd.int .i64) _ _ _ 0 [.int .i64 0] from rfl) (Reps.one (show Kd.M (Kd.int .i64) _ _ _ 5 [.int .i64 5] from rfl) (Reps.none _ _)))));intro v256 w66 ho67 hb hg_ hnew_;clear hg_ hnew_;(first|rw [← Ny255.out] at ho67|(simp only [Int.reduceToNat] at ho67;rw [← Ny255.out] at ho67));have n0_:=A_ (Kd.R_lower ho67 (below_size (by repeat (first|(with_reducible first|exact HB.out|apply ba|apply bb|apply bc)|exact HB.out))));have n1_:=A_ (below_step (by repeat (first|(with_reducible first|exact HB.out|apply ba|apply bb|apply bc)|exact HB.out)) hb);clear HB;have HO257:=n0_;have HB:=n1_;clear n0_ n1_;clear hb ho67)|((with_reducible refine gate_dst (N:=8) rfl ?_);refine Kd.R_lit (Kd.int .i64) _ 3 ?hg (N:=8) ?hd (xs:=([0,5,5] : List Int)) (inner:=[.int .i64 0,.int .i64 5,.int .i64 5]) (ok:=fun _=>True) (okp:=fun _=>True) ?hr ?hp (fun _ hk=>hk) trivial (Below.refl _ _) (Nat.le_refl _) (by simp) ?_;(case hd=>rfl);(case hg=>rfl);(case hr=>first|(go_simp;done)|(go_simp;rfl));(case hp=>exact (Reps.one (show Kd.M (Kd.int .i64) _ _ _ 0 [.int .i64 0] from rfl) (Reps.one (show Kd.M (Kd.int .i64) _ _ _ 5 [.int .i64 5] from rfl) (Reps.one (show Kd.M (Kd.int .i64) _ _ _ 5 [.int .i64 5] from rfl) (Reps.none _ _)))));intro v259 w68 ho69 hb hg_ hnew_;clear hg_ hnew_;(first|rw [← Ny258.out] at ho69|(simp only [Int.reduceToNat] at ho69;rw [← Ny258.out] at ho69));have n0_:=A_ (re (by (with_reducible repeat (first|apply ra|apply rb|apply rc));exact HO257.out) (rs ho69) hb);have n1_:=A_ (Kd.R_lower (rn ho69 (rl (by (with_reducible repeat (first|apply ra|apply rb|apply rc));exact HO257.out))) (below_size (by repeat (first|(with_reducible first|exact HB.out|apply ba|apply bb|apply bc)|exact HB.out))));have n2_:=A_ (below_step (by repeat (first|(with_reducible first|exact HB.out|apply ba|apply bb|apply bc)|exact HB.out)) hb);clear HO257;clear HB;have HO257:=n0_;have HO260:=n1_;have HB:=n2_;clear n0_ n1_ n2_;clear hb ho69;obtain ⟨Ao70,co70,eo70⟩:=Kd.R_slice HO257.out;subst eo70;obtain ⟨Ao71,co71,eo71⟩:=Kd.R_slice HO260.out;subst eo71)|((with_reducible refine gate_dst (N:=9) rfl ?_);refine Kd.N_lit (Kd.slice 3 (Kd.int .i64)) _ 22 ?hg (N':=9) ?hd (xs:=([y255,y258] : List (List Int))) (inner:=[.slice Ao70 y255.length co70,.slice Ao71 y258.length co71]) (ok:=(fun _=>True)) (okp:=(fun _=>True)) ?hr ?hp (fun _ hk=>hk) ((show ∀ k_,w68.heap.size ≤ k_ → (fun _=>True) k_ from fun k_ hk=>trivial) _ (Nat.le_refl _)) (Below.refl _ _) (Nat.le_refl _) (by simp) ?_;(case hd=>rfl);(case hg=>rfl);(case hr=>first|(go_simp;done)|(go_simp;rfl));(case hp=>exact (Reps.one (show Kd.FK (Kd.slice 3 (Kd.int .i64)) _ _ y255 [.slice Ao70 y255.length co70] from (Kd.FK_slice_mk (rd_ (rm (ok':=(fun _=>True)) (HO257.out) (fun k_ hk=>trivial))).2.1 (Kd.R_F (rm (ok':=(fun _=>True)) (HO257.out) (fun k_ hk=>trivial))))) (Reps.one (show Kd.FK (Kd.slice 3 (Kd.int .i64)) _ _ y258 [.slice Ao71 y258.length co71] from (Kd.FK_slice_mk (rd_ (rm (ok':=(fun _=>True)) (HO260.out) (fun k_ hk=>trivial))).2.1 (Kd.R_F (rm (ok':=(fun _=>True)) (HO260.out) (fun k_ hk=>trivial))))) (Reps.none _ _))));intro v262 w72 ho73 hb hg_ hnew_;clear hg_ hnew_;(first|rw [← Ny261.out] at ho73|(simp only [Int.reduceToNat] at ho73;rw [← Ny261.out] at ho73));have n0_:=A_ (Kd.N_lower ho73 (below_size (by repeat (first|(with_reducible first|exact HB.out|apply ba|apply bb|apply bc)|exact HB.out))));have n1_:=A_ (below_step (by repeat (first|(with_reducible first|exact HB.out|apply ba|apply bb|apply bc)|exact HB.out)) hb);clear HB;clear HO257;clear HO260;have HO263:=n0_;have HB:=n1_;clear n0_ n1_;clear hb ho73)|((with_reducible refine gate_dst (N:=10) rfl ?_);refine Kd.R_lit (Kd.int .i64) _ 3 ?hg (N:=10) ?hd (xs:=([0,5,5] : List Int)) (inner:=[.int .i64 0,.int .i64 5,.int .i64 5]) (ok:=fun _=>True) (okp:=fun _=>True) ?hr ?hp (fun _ hk=>hk) trivial (Below.refl _ _) (Nat.le_refl _) (by simp) ?_;(case hd=>rfl);(case hg=>rfl);(case hr=>first|(go_simp;done)|(go_simp;rfl));(case hp=>exact (Reps.one (show Kd.M (Kd.int .i64) _ _ _ 0 [.int .i64 0] from rfl) (Reps.one (show Kd.M (Kd.int .i64) _ _ _ 5 [.int .i64 5] from rfl) (Reps.one (show Kd.M (Kd.int .i64) _ _ _ 5 [.int .i64 5] from rfl) (Reps.none _ _)))));intro v265 w74 ho75 hb hg_ hnew_;clear hg_ hnew_;(first|rw [← Ny264.out] at ho75|(simp only [Int.reduceToNat] at ho75;rw [← Ny264.out] at ho75));have n0_:=A_ (Kd.N_elder' (by (with_reducible repeat (first|apply na|apply nd_|apply ne_));exact HO263.out) (rs ho75) hb);have n1_:=A_ (Kd.R_lower ho75 (below_size (by repeat (first|(with_reducible first|exact HB.out|apply ba|apply bb|apply bc)|exact HB.out))));have n2_:=A_ (below_step (by repeat (first|(with_reducible first|exact HB.out|apply ba|apply bb|apply bc)|exact HB.out)) hb);clear HO263;clear HB;have HO263:=n0_;have HO266:=n1_;have HB:=n2_;clear n0_ n1_ n2_;clear hb ho75)|((with_reducible refine gate_dst (N:=11) rfl ?_);refine Kd.R_lit (Kd.int .i64) _ 3 ?hg (N:=11) ?hd (xs:=([0,0,5] : List Int)) (inner:=[.int .i64 0,.int .i64 0,.int .i64 5]) (ok:=fun _=>True) (okp:=fun _=>True) ?hr ?hp (fun _ hk=>hk) trivial (Below.refl _ _) (Nat.le_refl _) (by simp) ?_;(case hd=>rfl);(case hg=>rfl);(case hr=>first|(go_simp;done)|(go_simp;rfl));(case hp=>exact (Reps.one (show Kd.M (Kd.int .i64) _ _ _ 0 [.int .i64 0] from rfl) (Reps.one (show Kd.M (Kd.int .i64) _ _ _ 0 [.int .i64 0] from rfl) (Reps.one (show Kd.M (Kd.int .i64) _ _ _ 5 [.int .i64 5] from rfl) (Reps.none _ _)))));intro v268 w76 ho77 hb hg_ hnew_;clear hg_ hnew_;(first|rw [← Ny267.out] at ho77|(simp only [Int.reduceToNat] at ho77;rw [← Ny267.out] at ho77));have n0_:=A_ (Kd.N_elder' (by (with_reducible repeat (first|apply na|apply nd_|apply ne_));exact HO263.out) (rs ho77) hb);have n1_:=A_ (re (by (with_reducible repeat (first|apply ra|apply rb|apply rc));exact HO266.out) (rs ho77) hb);have n2_:=A_ (Kd.R_lower (rn ho77 (rl (by (with_reducible repeat (first|apply ra|apply rb|apply rc));exact HO266.out))) (below_size (by repeat (first|(with_reducible first|exact HB.out|apply ba|apply bb|apply bc)|exact HB.out))));have n3_:=A_ (below_step (by repeat (first|(with_reducible first|exact HB.out|apply ba|apply bb|apply bc)|exact HB.out)) hb);clear HO263;clear HO266;clear HB;have HO263:=n0_;have HO266:=n1_;have HO269:=n2_;have HB:=n3_;clear n0_ n1_ n2_ n3_;clear hb ho77;obtain ⟨Ao78,co78,eo78⟩:=Kd.R_slice HO266.out;subst eo78;obtain ⟨Ao79,co79,eo79⟩:=Kd.R_slice HO269.out;subst eo79)|((with_reducible refine gate_dst (N:=12) rfl ?_);refine Kd.N_lit (Kd.slice 3 (Kd.int .i64)) _ 22 ?hg (N':=12) ?hd (xs:=([y264,y267] : List (List Int))) (inner:=[.slice Ao78 y264.length co78,.slice Ao79 y267.length co79]) (ok:=(fun k_=>nb k_ v262)) (okp:=(fun k_=>nb k_ v262)) ?hr ?hp (fun _ hk=>hk) ((show ∀ k_,w76.heap.size ≤ k_ → (fun k_=>nb k_ v262) k_ from fun k_ hk=>rh (Kd.N_lt (by (with_reducible repeat (first|apply na|apply nd_|apply ne_));exact HO263.out)) k_ hk) _ (Nat.le_refl _)) (Below.refl _ _) (Nat.le_refl _) (by simp) ?_;(case hd=>rfl);(case hg=>rfl);(case hr=>first|(go_simp;done)|(go_simp;rfl));(case hp=>exact (Reps.one (show Kd.FK (Kd.slice 3 (Kd.int .i64)) _ _ y264 [.slice Ao78 y264.length co78] from (Kd.FK_slice_mk (rd_ (rm (ok':=(fun k_=>nb k_ v262)) (Kd.R_apart' (HO266.out) (Kd.N_typed HO263.out) (by decide)) (fun k_ hk=>hk.2))).2.1 (Kd.R_F (rm (ok':=(fun k_=>nb k_ v262)) (Kd.R_apart' (HO266.out) (Kd.N_typed HO263.out) (by decide)) (fun k_ hk=>hk.2))))) (Reps.one (show Kd.FK (Kd.slice 3 (Kd.int .i64)) _ _ y267 [.slice Ao79 y267.length co79] from (Kd.FK_slice_mk (rd_ (rm (ok':=(fun k_=>nb k_ v262)) (Kd.R_apart' (HO269.out) (Kd.N_typed HO263.out) (by decide)) (fun k_ hk=>hk.2))).2.1 (Kd.R_F (rm (ok':=(fun k_=>nb k_ v262)) (Kd.R_apart' (HO269.out) (Kd.N_typed HO263.out) (by decide)) (fun k_ hk=>hk.2))))) (Reps.none _ _))));intro v271 w80 ho81 hb hg_ hnew_;clear hg_ hnew_;(first|rw [← Ny270.out] at ho81|(simp only [Int.reduceToNat] at ho81;rw [← Ny270.out] at ho81));have n0_:=A_ (Kd.N_elder' (by (with_reducible repeat (first|apply na|apply nd_|apply ne_));exact HO263.out) (Kd.N_base ho81) hb);have n1_:=A_ (Kd.N_lower ho81 (below_size (by repeat (first|(with_reducible first|exact HB.out|apply ba|apply bb|apply bc)|exact HB.out))));have n2_:=A_ (below_step (by repeat (first|(with_reducible first|exact HB.out|apply ba|apply bb|apply bc)|exact HB.out)) hb);clear HO263;clear HB;clear HO266;clear HO269;have HO263:=n0_;have HO272:=n1_;have HB:=n2_;clear n0_ n1_ n2_;clear hb ho81;obtain ⟨Ao82,co82,eo82⟩:=Kd.N_slice HO263.out;subst eo82;obtain ⟨Ao83,co83,eo83⟩:=Kd.N_slice HO272.out;subst eo83)|((with_reducible refine gate_callee (f:=11) rfl ?_);refine goesL_ (some 16) rfl rfl Try.func11 (by kernel_rfl) rfl #[.slice Ao82 y261.length co82,.slice Ao83 y270.length co83,.int .i64 1] rfl (by (try simp only [List.map_toArray,List.map_cons,List.map_nil]);first|done|rfl|(simp only [List.length_drop,List.length_take];rfl)) ?_;(with_reducible refine (channels_Apart.calls k _ _ y261 _ _ y270 1 t273 t274 _ ?side1 ?side2 ?side3 ?side4 A1.out).mono ?_);(case side1=>repeat (first|exact (Kd.N_reads' HO263.out).2.2|(with_reducible refine ca ?_ _)|(with_reducible refine cb ?_ _)|(with_reducible refine cc ?_)));(case side2=>exact (Kd.N_reads' HO263.out).2.1);(case side3=>repeat (first|exact (Kd.N_reads' HO272.out).2.2|(with_reducible refine ca ?_ _)|(with_reducible refine cb ?_ _)|(with_reducible refine cc ?_)));(case side4=>exact (Kd.N_reads' HO272.out).2.1);rintro e w84 ⟨rfl,hb⟩;refine ⟨_,rfl,?_⟩;have n0_:=A_ (Kd.N_below (by (with_reducible repeat (first|apply na|apply nd_|apply ne_));exact HO263.out) hb);have n1_:=A_ (Kd.N_below (by (with_reducible repeat (first|apply na|apply nd_|apply ne_));exact HO272.out) hb);have n2_:=A_ (below_step (by repeat (first|(with_reducible first|exact HB.out|apply ba|apply bb|apply bc)|exact HB.out)) hb);clear HO263;clear HO272;clear HB;have HO263:=n0_;have HO272:=n1_;have HB:=n2_;clear n0_ n1_ n2_;(try clear hb);(try clear hb2);(try clear hk);(try clear hi))|((with_reducible refine gate_callee (f:=12) rfl ?_);refine goesL_ (some 22) rfl rfl Try.func12 (by kernel_rfl) rfl #[.slice Ao82 y261.length co82,.slice Ao83 y270.length co83,.int .i64 1] rfl (by (try simp only [List.map_toArray,List.map_cons,List.map_nil]);first|done|rfl|(simp only [List.length_drop,List.length_take];rfl)) ?_;(with_reducible refine (channels_Together.calls k _ _ y261 _ _ y270 1 t275 t276 _ ?side1 ?side2 ?side3 ?side4 A2.out).mono ?_);(case side1=>repeat (first|exact (Kd.N_reads' HO263.out).2.2|(with_reducible refine ca ?_ _)|(with_reducible refine cb ?_ _)|(with_reducible refine cc ?_)));(case side2=>exact (Kd.N_reads' HO263.out).2.1);(case side3=>repeat (first|exact (Kd.N_reads' HO272.out).2.2|(with_reducible refine ca ?_ _)|(with_reducible refine cb ?_ _)|(with_reducible refine cc ?_)));(case side4=>exact (Kd.N_reads' HO272.out).2.1);rintro e w85 ⟨rfl,hb⟩;refine ⟨_,rfl,?_⟩;have n0_:=A_ (Kd.N_below (by (with_reducible repeat (first|apply na|apply nd_|apply ne_));exact HO263.out) hb);have n1_:=A_ (Kd.N_below (by (with_reducible repeat (first|apply na|apply nd_|apply ne_));exact HO272.out) hb);have n2_:=A_ (below_step (by repeat (first|(with_reducible first|exact HB.out|apply ba|apply bb|apply bc)|exact HB.out)) hb);clear HO263;clear HO272;clear HB;have HO263:=n0_;have HO272:=n1_;have HB:=n2_;clear n0_ n1_ n2_;(try clear hb);(try clear hb2);(try clear hk);(try clear hi)))
  go_ret
  exact ⟨by first|rfl|(simp [errW_none,errW_some] <;> rfl)|(simp [*,errW_none,errW_some] <;> rfl),by repeat (first|(with_reducible first|exact HB.out|apply ba|apply bb|apply bc)|exact HB.out)⟩

/-! ### window_Variance: function 78 -/
def window_Variance.f (a0_0 : Int) (a0_1 : Int) (a0_2 : Int) : Option (Int):=if a0_0 < 1 then (some 0) else (if a0_0 > 2000 then (some 0) else (if a0_1 < (wrap64 ((-1000) * a0_0)) then (some 0) else (if a0_1 > (wrap64 (1000 * a0_0)) then (some 0) else (if a0_2 < 0 then (some 0) else (if a0_2 > (wrap64 (1000000 * a0_0)) then (some 0) else (some (mx 0 (wrap64 ((wrap64 (a0_0 * a0_2)) - (wrap64 (a0_1 * a0_1)))))))))))
set_option maxHeartbeats 8000000 in
set_option maxRecDepth 100000 in
theorem window_Variance.calls (a0_0 : Int) (a0_1 : Int) (a0_2 : Int) (r : Int) (w : World) (h : window_Variance.f a0_0 a0_1 a0_2 = some r) :
  Calls Try.prog 78 #[.agg #[.int .i64 a0_0,.int .i64 a0_1,.int .i64 a0_2]] w fun e w'=>e = .returned (.int .i64 r)∧Below w.heap.size w w':=by
 have hu88:=Try.underlying88
 have HB:=A_ (Below.refl w.heap.size w)
 have H : (if a0_0 < 1 then (some 0) else (if a0_0 > 2000 then (some 0) else (if a0_1 < (wrap64 ((-1000) * a0_0)) then (some 0) else (if a0_1 > (wrap64 (1000 * a0_0)) then (some 0) else (if a0_2 < 0 then (some 0) else (if a0_2 > (wrap64 (1000000 * a0_0)) then (some 0) else (some (mx 0 (wrap64 ((wrap64 (a0_0 * a0_2)) - (wrap64 (a0_1 * a0_1)))))))))))) = some r:=h
 clear h
 by_cases c2 : a0_0 < 1
 ·
  rw [if_pos c2] at H
  have c2b0 : decide (a0_0 < 1) = true:=decide_eq_true c2
  clear c2
  obtain rfl:=Option.some.inj H
  go_enter Try.func78,Try.ntmps78
  go_wp2_with (first|((with_reducible refine gate_dst (N:=1) rfl ?_);refine box_event ?hg (N:=1) ?hd (cs:=#[.int .i64 a0_0,.int .i64 a0_1,.int .i64 a0_2]) (t:=88) ?hr ?_;(case hd=>rfl);(case hg=>rfl);(case hr=>first|(go_simp;done)|(go_simp;rfl));intro gb277 hg w3 hbox hb;have n0_:=A_ (below_step (by repeat (first|(with_reducible first|exact HB.out|apply ba|apply bb|apply bc)|exact HB.out)) hb);have n1_:=A_ (hbox);have n2_:=A_ ((by rw [hg];exact (below_size (by repeat (first|(with_reducible first|exact HB.out|apply ba|apply bb|apply bc)|exact HB.out))) : w.heap.size ≤ gb277));have n3_:=A_ ((by rw [hg];exact (below_size (by repeat (first|(with_reducible first|exact HB.out|apply ba|apply bb|apply bc)|exact HB.out))) : w.heap.size ≤ gb277));clear HB;have HB:=n0_;have BK277:=n1_;have GW277:=n2_;have GE277:=n3_;clear n0_ n1_ n2_ n3_;clear hb hbox hg;have hcz4_0 : w3.cell? ⟨gb277,0,none⟩ = some (.int .i64 a0_0):=(blk_cell BK277.out 0).trans rfl;have hcz4_1 : w3.cell? ⟨gb277,1,none⟩ = some (.int .i64 a0_1):=(blk_cell BK277.out 1).trans rfl;have hcz4_2 : w3.cell? ⟨gb277,2,none⟩ = some (.int .i64 a0_2):=(blk_cell BK277.out 2).trans rfl;have hfz4_0:=blk_frozen BK277.out 0;have hfz4_1:=blk_frozen BK277.out 1;have hfz4_2:=blk_frozen BK277.out 2))
  go_ret
  exact ⟨by first|rfl|(simp [errW_none,errW_some] <;> rfl)|(simp [*,errW_none,errW_some] <;> rfl),by repeat (first|(with_reducible first|exact HB.out|apply ba|apply bb|apply bc|refine below_set ?_ GE277.out)|exact HB.out)⟩
 ·
  rw [if_neg c2] at H
  have c2b0 : decide (a0_0 < 1) = false:=decide_eq_false c2
  clear c2
  by_cases c5 : a0_0 > 2000
  ·
   rw [if_pos c5] at H
   have c5b0 : decide (2000 < a0_0) = true:=decide_eq_true c5
   clear c5
   obtain rfl:=Option.some.inj H
   go_enter Try.func78,Try.ntmps78
   go_wp2_with (first|((with_reducible refine gate_dst (N:=1) rfl ?_);refine box_event ?hg (N:=1) ?hd (cs:=#[.int .i64 a0_0,.int .i64 a0_1,.int .i64 a0_2]) (t:=88) ?hr ?_;(case hd=>rfl);(case hg=>rfl);(case hr=>first|(go_simp;done)|(go_simp;rfl));intro gb277 hg w6 hbox hb;have n0_:=A_ (below_step (by repeat (first|(with_reducible first|exact HB.out|apply ba|apply bb|apply bc)|exact HB.out)) hb);have n1_:=A_ (hbox);have n2_:=A_ ((by rw [hg];exact (below_size (by repeat (first|(with_reducible first|exact HB.out|apply ba|apply bb|apply bc)|exact HB.out))) : w.heap.size ≤ gb277));have n3_:=A_ ((by rw [hg];exact (below_size (by repeat (first|(with_reducible first|exact HB.out|apply ba|apply bb|apply bc)|exact HB.out))) : w.heap.size ≤ gb277));clear HB;have HB:=n0_;have BK277:=n1_;have GW277:=n2_;have GE277:=n3_;clear n0_ n1_ n2_ n3_;clear hb hbox hg;have hcz7_0 : w6.cell? ⟨gb277,0,none⟩ = some (.int .i64 a0_0):=(blk_cell BK277.out 0).trans rfl;have hcz7_1 : w6.cell? ⟨gb277,1,none⟩ = some (.int .i64 a0_1):=(blk_cell BK277.out 1).trans rfl;have hcz7_2 : w6.cell? ⟨gb277,2,none⟩ = some (.int .i64 a0_2):=(blk_cell BK277.out 2).trans rfl;have hfz7_0:=blk_frozen BK277.out 0;have hfz7_1:=blk_frozen BK277.out 1;have hfz7_2:=blk_frozen BK277.out 2))
   go_ret
   exact ⟨by first|rfl|(simp [errW_none,errW_some] <;> rfl)|(simp [*,errW_none,errW_some] <;> rfl),by repeat (first|(with_reducible first|exact HB.out|apply ba|apply bb|apply bc|refine below_set ?_ GE277.out)|exact HB.out)⟩
  ·
   rw [if_neg c5] at H
   have c5b0 : decide (2000 < a0_0) = false:=decide_eq_false c5
   clear c5
   by_cases c8 : a0_1 < (wrap64 ((-1000) * a0_0))
   ·
    rw [if_pos c8] at H
    have c8b0 : decide (a0_1 < (wrap64 ((-1000) * a0_0))) = true:=decide_eq_true c8
    clear c8
    obtain rfl:=Option.some.inj H
    go_enter Try.func78,Try.ntmps78
    go_wp2_with (first|((with_reducible refine gate_dst (N:=1) rfl ?_);refine box_event ?hg (N:=1) ?hd (cs:=#[.int .i64 a0_0,.int .i64 a0_1,.int .i64 a0_2]) (t:=88) ?hr ?_;(case hd=>rfl);(case hg=>rfl);(case hr=>first|(go_simp;done)|(go_simp;rfl));intro gb277 hg w9 hbox hb;have n0_:=A_ (below_step (by repeat (first|(with_reducible first|exact HB.out|apply ba|apply bb|apply bc)|exact HB.out)) hb);have n1_:=A_ (hbox);have n2_:=A_ ((by rw [hg];exact (below_size (by repeat (first|(with_reducible first|exact HB.out|apply ba|apply bb|apply bc)|exact HB.out))) : w.heap.size ≤ gb277));have n3_:=A_ ((by rw [hg];exact (below_size (by repeat (first|(with_reducible first|exact HB.out|apply ba|apply bb|apply bc)|exact HB.out))) : w.heap.size ≤ gb277));clear HB;have HB:=n0_;have BK277:=n1_;have GW277:=n2_;have GE277:=n3_;clear n0_ n1_ n2_ n3_;clear hb hbox hg;have hcz10_0 : w9.cell? ⟨gb277,0,none⟩ = some (.int .i64 a0_0):=(blk_cell BK277.out 0).trans rfl;have hcz10_1 : w9.cell? ⟨gb277,1,none⟩ = some (.int .i64 a0_1):=(blk_cell BK277.out 1).trans rfl;have hcz10_2 : w9.cell? ⟨gb277,2,none⟩ = some (.int .i64 a0_2):=(blk_cell BK277.out 2).trans rfl;have hfz10_0:=blk_frozen BK277.out 0;have hfz10_1:=blk_frozen BK277.out 1;have hfz10_2:=blk_frozen BK277.out 2))
    go_ret
    exact ⟨by first|rfl|(simp [errW_none,errW_some] <;> rfl)|(simp [*,errW_none,errW_some] <;> rfl),by repeat (first|(with_reducible first|exact HB.out|apply ba|apply bb|apply bc|refine below_set ?_ GE277.out)|exact HB.out)⟩
   ·
    rw [if_neg c8] at H
    have c8b0 : decide (a0_1 < (wrap64 ((-1000) * a0_0))) = false:=decide_eq_false c8
    clear c8
    by_cases c11 : a0_1 > (wrap64 (1000 * a0_0))
    ·
     rw [if_pos c11] at H
     have c11b0 : decide ((wrap64 (1000 * a0_0)) < a0_1) = true:=decide_eq_true c11
     clear c11
     obtain rfl:=Option.some.inj H
     go_enter Try.func78,Try.ntmps78
     go_wp2_with (first|((with_reducible refine gate_dst (N:=1) rfl ?_);refine box_event ?hg (N:=1) ?hd (cs:=#[.int .i64 a0_0,.int .i64 a0_1,.int .i64 a0_2]) (t:=88) ?hr ?_;(case hd=>rfl);(case hg=>rfl);(case hr=>first|(go_simp;done)|(go_simp;rfl));intro gb277 hg w12 hbox hb;have n0_:=A_ (below_step (by repeat (first|(with_reducible first|exact HB.out|apply ba|apply bb|apply bc)|exact HB.out)) hb);have n1_:=A_ (hbox);have n2_:=A_ ((by rw [hg];exact (below_size (by repeat (first|(with_reducible first|exact HB.out|apply ba|apply bb|apply bc)|exact HB.out))) : w.heap.size ≤ gb277));have n3_:=A_ ((by rw [hg];exact (below_size (by repeat (first|(with_reducible first|exact HB.out|apply ba|apply bb|apply bc)|exact HB.out))) : w.heap.size ≤ gb277));clear HB;have HB:=n0_;have BK277:=n1_;have GW277:=n2_;have GE277:=n3_;clear n0_ n1_ n2_ n3_;clear hb hbox hg;have hcz13_0 : w12.cell? ⟨gb277,0,none⟩ = some (.int .i64 a0_0):=(blk_cell BK277.out 0).trans rfl;have hcz13_1 : w12.cell? ⟨gb277,1,none⟩ = some (.int .i64 a0_1):=(blk_cell BK277.out 1).trans rfl;have hcz13_2 : w12.cell? ⟨gb277,2,none⟩ = some (.int .i64 a0_2):=(blk_cell BK277.out 2).trans rfl;have hfz13_0:=blk_frozen BK277.out 0;have hfz13_1:=blk_frozen BK277.out 1;have hfz13_2:=blk_frozen BK277.out 2))
     go_ret
     exact ⟨by first|rfl|(simp [errW_none,errW_some] <;> rfl)|(simp [*,errW_none,errW_some] <;> rfl),by repeat (first|(with_reducible first|exact HB.out|apply ba|apply bb|apply bc|refine below_set ?_ GE277.out)|exact HB.out)⟩
    ·
     rw [if_neg c11] at H
     have c11b0 : decide ((wrap64 (1000 * a0_0)) < a0_1) = false:=decide_eq_false c11
     clear c11
     by_cases c14 : a0_2 < 0
     ·
      rw [if_pos c14] at H
      have c14b0 : decide (a0_2 < 0) = true:=decide_eq_true c14
      clear c14
      obtain rfl:=Option.some.inj H
      go_enter Try.func78,Try.ntmps78
      go_wp2_with (first|((with_reducible refine gate_dst (N:=1) rfl ?_);refine box_event ?hg (N:=1) ?hd (cs:=#[.int .i64 a0_0,.int .i64 a0_1,.int .i64 a0_2]) (t:=88) ?hr ?_;(case hd=>rfl);(case hg=>rfl);(case hr=>first|(go_simp;done)|(go_simp;rfl));intro gb277 hg w15 hbox hb;have n0_:=A_ (below_step (by repeat (first|(with_reducible first|exact HB.out|apply ba|apply bb|apply bc)|exact HB.out)) hb);have n1_:=A_ (hbox);have n2_:=A_ ((by rw [hg];exact (below_size (by repeat (first|(with_reducible first|exact HB.out|apply ba|apply bb|apply bc)|exact HB.out))) : w.heap.size ≤ gb277));have n3_:=A_ ((by rw [hg];exact (below_size (by repeat (first|(with_reducible first|exact HB.out|apply ba|apply bb|apply bc)|exact HB.out))) : w.heap.size ≤ gb277));clear HB;have HB:=n0_;have BK277:=n1_;have GW277:=n2_;have GE277:=n3_;clear n0_ n1_ n2_ n3_;clear hb hbox hg;have hcz16_0 : w15.cell? ⟨gb277,0,none⟩ = some (.int .i64 a0_0):=(blk_cell BK277.out 0).trans rfl;have hcz16_1 : w15.cell? ⟨gb277,1,none⟩ = some (.int .i64 a0_1):=(blk_cell BK277.out 1).trans rfl;have hcz16_2 : w15.cell? ⟨gb277,2,none⟩ = some (.int .i64 a0_2):=(blk_cell BK277.out 2).trans rfl;have hfz16_0:=blk_frozen BK277.out 0;have hfz16_1:=blk_frozen BK277.out 1;have hfz16_2:=blk_frozen BK277.out 2))
      go_ret
      exact ⟨by first|rfl|(simp [errW_none,errW_some] <;> rfl)|(simp [*,errW_none,errW_some] <;> rfl),by repeat (first|(with_reducible first|exact HB.out|apply ba|apply bb|apply bc|refine below_set ?_ GE277.out)|exact HB.out)⟩
     ·
      rw [if_neg c14] at H
      have c14b0 : decide (a0_2 < 0) = false:=decide_eq_false c14
      clear c14
      by_cases c17 : a0_2 > (wrap64 (1000000 * a0_0))
      ·
       rw [if_pos c17] at H
       have c17b0 : decide ((wrap64 (1000000 * a0_0)) < a0_2) = true:=decide_eq_true c17
       clear c17
       obtain rfl:=Option.some.inj H
       go_enter Try.func78,Try.ntmps78
       go_wp2_with (first|((with_reducible refine gate_dst (N:=1) rfl ?_);refine box_event ?hg (N:=1) ?hd (cs:=#[.int .i64 a0_0,.int .i64 a0_1,.int .i64 a0_2]) (t:=88) ?hr ?_;(case hd=>rfl);(case hg=>rfl);(case hr=>first|(go_simp;done)|(go_simp;rfl));intro gb277 hg w18 hbox hb;have n0_:=A_ (below_step (by repeat (first|(with_reducible first|exact HB.out|apply ba|apply bb|apply bc)|exact HB.out)) hb);have n1_:=A_ (hbox);have n2_:=A_ ((by rw [hg];exact (below_size (by repeat (first|(with_reducible first|exact HB.out|apply ba|apply bb|apply bc)|exact HB.out))) : w.heap.size ≤ gb277));have n3_:=A_ ((by rw [hg];exact (below_size (by repeat (first|(with_reducible first|exact HB.out|apply ba|apply bb|apply bc)|exact HB.out))) : w.heap.size ≤ gb277));clear HB;have HB:=n0_;have BK277:=n1_;have GW277:=n2_;have GE277:=n3_;clear n0_ n1_ n2_ n3_;clear hb hbox hg;have hcz19_0 : w18.cell? ⟨gb277,0,none⟩ = some (.int .i64 a0_0):=(blk_cell BK277.out 0).trans rfl;have hcz19_1 : w18.cell? ⟨gb277,1,none⟩ = some (.int .i64 a0_1):=(blk_cell BK277.out 1).trans rfl;have hcz19_2 : w18.cell? ⟨gb277,2,none⟩ = some (.int .i64 a0_2):=(blk_cell BK277.out 2).trans rfl;have hfz19_0:=blk_frozen BK277.out 0;have hfz19_1:=blk_frozen BK277.out 1;have hfz19_2:=blk_frozen BK277.out 2))
       go_ret
       exact ⟨by first|rfl|(simp [errW_none,errW_some] <;> rfl)|(simp [*,errW_none,errW_some] <;> rfl),by repeat (first|(with_reducible first|exact HB.out|apply ba|apply bb|apply bc|refine below_set ?_ GE277.out)|exact HB.out)⟩
      ·
       rw [if_neg c17] at H
       have c17b0 : decide ((wrap64 (1000000 * a0_0)) < a0_2) = false:=decide_eq_false c17
       clear c17
       obtain ⟨ji20,hji20⟩ : ∃ j_ : Int,(mx 0 (wrap64 ((wrap64 (a0_0 * a0_2)) - (wrap64 (a0_1 * a0_1))))) = j_:=⟨_,rfl⟩
       replace H : (some ji20) = some r:=by first|(rw [hji20] at H;exact H)|(simp only [hji20] at H ⊢;exact H)
       (try (have hji20l : 0 ≤ ji20:=by (rw [← hji20];unfold mx;(repeat' split) <;> omega)))
       (try (have hji20m : 0 ≤ ji20:=by omega))
       have hji20_ : (if 0 < (wrap64 ((wrap64 (a0_0 * a0_2)) - (wrap64 (a0_1 * a0_1)))) then (wrap64 ((wrap64 (a0_0 * a0_2)) - (wrap64 (a0_1 * a0_1)))) else 0) = ji20:=hji20
       obtain rfl:=Option.some.inj H
       go_enter Try.func78,Try.ntmps78
       go_wp2_with (first|((with_reducible refine gate_dst (N:=1) rfl ?_);refine box_event ?hg (N:=1) ?hd (cs:=#[.int .i64 a0_0,.int .i64 a0_1,.int .i64 a0_2]) (t:=88) ?hr ?_;(case hd=>rfl);(case hg=>rfl);(case hr=>first|(go_simp;done)|(go_simp;rfl));intro gb277 hg w21 hbox hb;have n0_:=A_ (below_step (by repeat (first|(with_reducible first|exact HB.out|apply ba|apply bb|apply bc)|exact HB.out)) hb);have n1_:=A_ (hbox);have n2_:=A_ ((by rw [hg];exact (below_size (by repeat (first|(with_reducible first|exact HB.out|apply ba|apply bb|apply bc)|exact HB.out))) : w.heap.size ≤ gb277));have n3_:=A_ ((by rw [hg];exact (below_size (by repeat (first|(with_reducible first|exact HB.out|apply ba|apply bb|apply bc)|exact HB.out))) : w.heap.size ≤ gb277));clear HB;have HB:=n0_;have BK277:=n1_;have GW277:=n2_;have GE277:=n3_;clear n0_ n1_ n2_ n3_;clear hb hbox hg;have hcz22_0 : w21.cell? ⟨gb277,0,none⟩ = some (.int .i64 a0_0):=(blk_cell BK277.out 0).trans rfl;have hcz22_1 : w21.cell? ⟨gb277,1,none⟩ = some (.int .i64 a0_1):=(blk_cell BK277.out 1).trans rfl;have hcz22_2 : w21.cell? ⟨gb277,2,none⟩ = some (.int .i64 a0_2):=(blk_cell BK277.out 2).trans rfl;have hfz22_0:=blk_frozen BK277.out 0;have hfz22_1:=blk_frozen BK277.out 1;have hfz22_2:=blk_frozen BK277.out 2))
       go_ret
       exact ⟨by first|rfl|(simp [errW_none,errW_some] <;> rfl)|(simp only [← hji20];first|rfl|(simp [errW_none,errW_some] <;> rfl))|(simp [*,errW_none,errW_some] <;> rfl),by repeat (first|(with_reducible first|exact HB.out|apply ba|apply bb|apply bc|refine below_set ?_ GE277.out)|exact HB.out)⟩

/-! ### normal_variance: function 70 -/
def normal_variance.l0 : Nat → List Int → Int → Int → Int → Int → Int → Option (Int)
 | 0,_,_,_,_,_,_=>none
 | k + 1,x9,x10,x11,x279000,x279001,x279002=>if x11 < x10 then (if 0 ≤ x11 then (if x11 < (x9.length : Int) then (normal_variance.l0 k x9 x10 (wrap64 (x11 + 1)) x279000 (wrap64 (x279001 + (rd x9 x11))) (wrap64 (x279002 + (wrap64 ((rd x9 x11) * (rd x9 x11)))))) else (none)) else (none)) else ((window_Variance.f x279000 x279001 x279002).bind fun t280=>(some t280))
def normal_variance.f (k : Nat) (l0 : List Int) : Option (Int):=normal_variance.l0 k l0 (l0.length : Int) 0 (l0.length : Int) 0 0
theorem normal_variance.mono_l : ∀ k,(∀ y0 y1 y2 y3 y4 y5,LeO (normal_variance.l0 k y0 y1 y2 y3 y4 y5) (normal_variance.l0 (k + 1) y0 y1 y2 y3 y4 y5))
 | 0=>fun _ _ _ _ _ _ r h=>by simp [normal_variance.l0] at h
 | k + 1=>by
  have ih0:=normal_variance.mono_l k
  ·
   intro y0 y1 y2 y3 y4 y5
   unfold normal_variance.l0
   repeat' first
   | (with_reducible exact ih0 _ _ _ _ _ _)
   | (with_reducible exact LeO.refl _)
   | (with_reducible exact LeO.none _)
   | (with_reducible refine LeO.ite ?_ ?_)
   | (with_reducible refine LeO.bind ?_ (fun _=>?_))
   | exact ih0 _ _ _ _ _ _
   | exact LeO.none _
   | refine LeO.ite ?_ ?_
   | refine LeO.bind ?_ (fun _=>?_)
theorem normal_variance.mono : ∀ a0 k,LeO (normal_variance.f k a0) (normal_variance.f (k + 1) a0):=by
 intro a0 k
 have ih0:=normal_variance.mono_l k
 unfold normal_variance.f
 repeat' first
   | (with_reducible exact ih0 _ _ _ _ _ _)
   | (with_reducible exact LeO.refl _)
   | (with_reducible exact LeO.none _)
   | (with_reducible refine LeO.ite ?_ ?_)
   | (with_reducible refine LeO.bind ?_ (fun _=>?_))
   | exact ih0 _ _ _ _ _ _
   | exact LeO.none _
   | refine LeO.ite ?_ ?_
   | refine LeO.bind ?_ (fun _=>?_)
set_option maxHeartbeats 8000000 in
set_option maxRecDepth 100000 in
theorem normal_variance.calls (k : Nat) (A0 : Option Addr) (c0 : Nat) (l0 : List Int) (r : Int) (w : World) (hr0 : Kd.C (Kd.int .i64) w A0 l0.length l0) (hc0 : l0.length ≤ c0) (h : normal_variance.f k l0 = some r) :
  Calls Try.prog 70 #[.slice A0 l0.length c0] w fun e w'=>e = .returned (.int .i64 r)∧Below w.heap.size w w':=by
 have hu88:=Try.underlying88
 have HR0:=A_ hr0
 have HC0:=A_ hc0
 clear hr0 hc0
 have HB:=A_ (Below.refl w.heap.size w)
 have H : (normal_variance.l0 k l0 (l0.length : Int) 0 (l0.length : Int) 0 0) = some r:=h
 clear h
 have H':=A_ H
 clear H
 go_enter Try.func70,Try.ntmps70
 go_wp2_with (first|((with_reducible refine gate_dst (N:=3) rfl ?_);refine box_event ?hg (N:=3) ?hd (cs:=#[.int .i64 0,.int .i64 0,.int .i64 0]) (t:=88) ?hr ?_;(case hd=>rfl);(case hg=>rfl);(case hr=>first|(go_simp;done)|(go_simp;rfl));intro gb278 hg w2 hbox hb;have n0_:=A_ (below_step (by repeat (first|(with_reducible first|exact HB.out|apply ba|apply bb|apply bc)|exact HB.out)) hb);have n1_:=A_ (hbox);have n2_:=A_ ((by rw [hg];exact (below_size (by repeat (first|(with_reducible first|exact HB.out|apply ba|apply bb|apply bc)|exact HB.out))) : w.heap.size ≤ gb278));have n3_:=A_ ((by rw [hg];exact (below_size (by repeat (first|(with_reducible first|exact HB.out|apply ba|apply bb|apply bc)|exact HB.out))) : w.heap.size ≤ gb278));clear HB;have HB:=n0_;have BK278:=n1_;have GW278:=n2_;have GE278:=n3_;clear n0_ n1_ n2_ n3_;clear hb hbox hg;have hcz3_0 : w2.cell? ⟨gb278,0,none⟩ = some (.int .i64 0):=(blk_cell BK278.out 0).trans rfl;have hcz3_1 : w2.cell? ⟨gb278,1,none⟩ = some (.int .i64 0):=(blk_cell BK278.out 1).trans rfl;have hcz3_2 : w2.cell? ⟨gb278,2,none⟩ = some (.int .i64 0):=(blk_cell BK278.out 2).trans rfl;have hfz3_0:=blk_frozen BK278.out 0;have hfz3_1:=blk_frozen BK278.out 1;have hfz3_2:=blk_frozen BK278.out 2))
 go_loopg [11] k (fun kq v11 w'=>∃ (x11_1 : Int) (x279001_1 : Int) (x279002_1 : Int),v11 = .int .i64 x11_1∧Aside0 (normal_variance.l0 kq l0 (l0.length : Int) x11_1 (l0.length : Int) x279001_1 x279002_1 = some r)∧Aside0 (kq ≤ k)∧Aside0 (w'.heap[gb278]? = some (.cells #[.int .i64 (l0.length : Int),.int .i64 x279001_1,.int .i64 x279002_1] 88 (0,0)))∧Aside0 (Below w.heap.size w w'))
 case atStart=>exact ⟨(0),(0),(0),(by first|rfl|(simp;done)|(simp [*];done)),H',⟨Nat.le_refl _⟩,⟨by (with_reducible repeat (first|refine blk_drewN ?_ _|refine blk_drew ?_|refine blk_alloc ?_ _));refine blk_put (cs:=#[.int .i64 (l0.length : Int),.int .i64 0,.int .i64 0]) ?_ 2 _ rfl;(with_reducible repeat (first|refine blk_drewN ?_ _|refine blk_drew ?_|refine blk_alloc ?_ _));refine blk_put (cs:=#[.int .i64 (l0.length : Int),.int .i64 0,.int .i64 0]) ?_ 1 _ rfl;(with_reducible repeat (first|refine blk_drewN ?_ _|refine blk_drew ?_|refine blk_alloc ?_ _));refine blk_put (cs:=#[.int .i64 0,.int .i64 0,.int .i64 0]) ?_ 0 _ rfl;(with_reducible repeat (first|refine blk_drewN ?_ _|refine blk_drew ?_|refine blk_alloc ?_ _));exact BK278.out⟩,⟨by repeat (first|(with_reducible first|exact HB.out|apply ba|apply bb|apply bc|refine below_set ?_ GE278.out)|exact HB.out)⟩⟩
 case round =>
  clear H'
  try clear p2
  try clear hcz3_0
  try clear hcz3_1
  try clear hcz3_2
  try clear hfz3_0
  try clear hfz3_1
  try clear hfz3_2
  obtain ⟨x11_1,x279001_1,x279002_1,rfl,HA,HK1,BK278,HB⟩:=hrel
  cases gk with
  | zero=>exact absurd HA.out (by simp [normal_variance.l0])
  | succ k1 =>
   have H:=HA.out
   clear HA
   simp only [normal_variance.l0] at H
   by_cases c4 : x11_1 < (l0.length : Int)
   ·
    rw [if_pos c4] at H
    have c4b0 : decide (x11_1 < (l0.length : Int)) = true:=decide_eq_true c4
    clear c4
    by_cases c5 : 0 ≤ x11_1
    ·
     rw [if_pos c5] at H
     have c5b0 : decide (0 ≤ x11_1) = true:=decide_eq_true c5
     clear c5
     by_cases c6 : x11_1 < (l0.length : Int)
     ·
      rw [if_pos c6] at H
      have c6b0 : decide (x11_1 < (l0.length : Int)) = true:=decide_eq_true c6
      clear c6
      have H':=A_ H
      clear H
      have p279 : 0 ≤ (x11_1 : Int):=of_decide_eq_true (by first|(with_reducible assumption)|assumption)
      have q279 : x11_1 < (l0.length : Int):=of_decide_eq_true (by first|(with_reducible assumption)|assumption)
      obtain ⟨ad279,e279,hx279_0⟩:=Kd.at_int HR0.out x11_1 p279 q279
      cases e279
      replace hx279_0:=(HB.out.cell (World.block_lt_of_cell? w _ hx279_0)).trans hx279_0
      replace p279:=eq_true p279
      replace q279:=eq_true q279
      have hcz7_0 : wr.cell? ⟨gb278,0,none⟩ = some (.int .i64 (l0.length : Int)):=(blk_cell BK278.out 0).trans rfl
      have hcz7_1 : wr.cell? ⟨gb278,1,none⟩ = some (.int .i64 x279001_1):=(blk_cell BK278.out 1).trans rfl
      have hcz7_2 : wr.cell? ⟨gb278,2,none⟩ = some (.int .i64 x279002_1):=(blk_cell BK278.out 2).trans rfl
      have hfz7_0:=blk_frozen BK278.out 0
      have hfz7_1:=blk_frozen BK278.out 1
      have hfz7_2:=blk_frozen BK278.out 2
      go_wp2
      go_roundg k1
      case measure=>have:=HK1.out;omega
      case rel=>exact ⟨(wrap64 (x11_1 + 1)),(wrap64 (x279001_1 + (rd l0 x11_1))),(wrap64 (x279002_1 + (wrap64 ((rd l0 x11_1) * (rd l0 x11_1))))),(by first|rfl|(simp;done)|(simp [*];done)),H',⟨by have:=HK1.out;omega⟩,⟨by (with_reducible repeat (first|refine blk_drewN ?_ _|refine blk_drew ?_|refine blk_alloc ?_ _));refine blk_put (cs:=#[.int .i64 (l0.length : Int),.int .i64 (wrap64 (x279001_1 + (rd l0 x11_1))),.int .i64 x279002_1]) ?_ 2 _ rfl;(with_reducible repeat (first|refine blk_drewN ?_ _|refine blk_drew ?_|refine blk_alloc ?_ _));refine blk_put (cs:=#[.int .i64 (l0.length : Int),.int .i64 x279001_1,.int .i64 x279002_1]) ?_ 1 _ rfl;(with_reducible repeat (first|refine blk_drewN ?_ _|refine blk_drew ?_|refine blk_alloc ?_ _));exact BK278.out⟩,⟨by repeat (first|(with_reducible first|exact HB.out|apply ba|apply bb|apply bc|refine below_set ?_ GE278.out)|exact HB.out)⟩⟩
     ·
      rw [if_neg c6] at H
      exact absurd H (by simp)
    ·
     rw [if_neg c5] at H
     exact absurd H (by simp)
   ·
    rw [if_neg c4] at H
    have c4b0 : decide (x11_1 < (l0.length : Int)) = false:=decide_eq_false c4
    clear c4
    replace H:=Option.bind_eq_some_iff.mp H
    obtain ⟨t280,A80,H⟩:=H
    replace H : (some t280) = some r:=H
    have A8:=A_ A80
    clear A80
    obtain rfl:=Option.some.inj H
    have hcz9_0 : wr.cell? ⟨gb278,0,none⟩ = some (.int .i64 (l0.length : Int)):=(blk_cell BK278.out 0).trans rfl
    have hcz9_1 : wr.cell? ⟨gb278,1,none⟩ = some (.int .i64 x279001_1):=(blk_cell BK278.out 1).trans rfl
    have hcz9_2 : wr.cell? ⟨gb278,2,none⟩ = some (.int .i64 x279002_1):=(blk_cell BK278.out 2).trans rfl
    have hfz9_0:=blk_frozen BK278.out 0
    have hfz9_1:=blk_frozen BK278.out 1
    have hfz9_2:=blk_frozen BK278.out 2
    go_wp2_with (first|((with_reducible refine gate_callee (f:=78) rfl ?_);refine goesL_ (some 29) rfl rfl Try.func78 (by kernel_rfl) rfl #[.agg #[.int .i64 (l0.length : Int),.int .i64 x279001_1,.int .i64 x279002_1]] rfl (by (try simp only [List.map_toArray,List.map_cons,List.map_nil]);first|done|rfl|(simp only [List.length_drop,List.length_take];rfl)) ?_;(with_reducible refine (window_Variance.calls (l0.length : Int) x279001_1 x279002_1 t280 _ A8.out).mono ?_);rintro e w10 ⟨rfl,hb⟩;refine ⟨_,rfl,?_⟩;have n0_:=A_ (blk_below (g:=gb278) (o:=.cells #[.int .i64 (l0.length : Int),.int .i64 x279001_1,.int .i64 x279002_1] 88 (0,0)) (by (with_reducible repeat (first|refine blk_drewN ?_ _|refine blk_drew ?_|refine blk_alloc ?_ _));exact BK278.out) hb);have n1_:=A_ (below_step (by repeat (first|(with_reducible first|exact HB.out|apply ba|apply bb|apply bc|refine below_set ?_ GE278.out)|exact HB.out)) hb);clear BK278;clear HB;have BK278:=n0_;have HB:=n1_;clear n0_ n1_;(try clear hb);(try clear hb2);(try clear hk);(try clear hi)))
    go_ret
    exact ⟨by first|rfl|(simp [errW_none,errW_some] <;> rfl)|(simp [*,errW_none,errW_some] <;> rfl),by repeat (first|(with_reducible first|exact HB.out|apply ba|apply bb|apply bc|refine below_set ?_ GE278.out)|exact HB.out)⟩

/-! ### ratio_divisor: function 79 -/
def ratio_divisor.l0 : Nat → Int → Int → Option (Int)
 | 0,_,_=>none
 | k + 1,x0,x1=>if x1 = 0 then (some x0) else (ratio_divisor.l0 k x1 (Int.tmod x0 x1))
def ratio_divisor.f (k : Nat) (a0 : Int) (a1 : Int) : Option (Int):=ratio_divisor.l0 k a0 a1
theorem ratio_divisor.mono_l : ∀ k,(∀ y0 y1,LeO (ratio_divisor.l0 k y0 y1) (ratio_divisor.l0 (k + 1) y0 y1))
 | 0=>fun _ _ r h=>by simp [ratio_divisor.l0] at h
 | k + 1=>by
  have ih0:=ratio_divisor.mono_l k
  ·
   intro y0 y1
   unfold ratio_divisor.l0
   repeat' first
   | (with_reducible exact ih0 _ _)
   | (with_reducible exact LeO.refl _)
   | (with_reducible exact LeO.none _)
   | (with_reducible refine LeO.ite ?_ ?_)
   | (with_reducible refine LeO.bind ?_ (fun _=>?_))
   | exact ih0 _ _
   | exact LeO.none _
   | refine LeO.ite ?_ ?_
   | refine LeO.bind ?_ (fun _=>?_)
theorem ratio_divisor.mono : ∀ a0 a1 k,LeO (ratio_divisor.f k a0 a1) (ratio_divisor.f (k + 1) a0 a1):=by
 intro a0 a1 k
 have ih0:=ratio_divisor.mono_l k
 unfold ratio_divisor.f
 repeat' first
   | (with_reducible exact ih0 _ _)
   | (with_reducible exact LeO.refl _)
   | (with_reducible exact LeO.none _)
   | (with_reducible refine LeO.ite ?_ ?_)
   | (with_reducible refine LeO.bind ?_ (fun _=>?_))
   | exact ih0 _ _
   | exact LeO.none _
   | refine LeO.ite ?_ ?_
   | refine LeO.bind ?_ (fun _=>?_)
set_option maxHeartbeats 8000000 in
set_option maxRecDepth 100000 in
theorem ratio_divisor.calls (k : Nat) (a0 : Int) (a1 : Int) (r : Int) (w : World) (h : ratio_divisor.f k a0 a1 = some r) :
  Calls Try.prog 79 #[.int .i64 a0,.int .i64 a1] w fun e w'=>e = .returned (.int .i64 r)∧Drawn0 w w':=by
 have H : (ratio_divisor.l0 k a0 a1) = some r:=h
 clear h
 have H':=A_ H
 clear H
 go_enter Try.func79,Try.ntmps79
 go_wp2
 repeat (go_quiet (fail);try go_wp2)
 go_loopg [0,1] k (fun kq v0 v1 w'=>∃ (x0_1 : Int) (x1_1 : Int),v0 = .int .i64 x0_1∧v1 = .int .i64 x1_1∧Aside0 (ratio_divisor.l0 kq x0_1 x1_1 = some r)∧Aside0 (kq ≤ k)∧Drawn0 w w')
 case atStart=>exact ⟨(a0),(a1),(by first|rfl|(simp;done)|(simp [*];done)),(by first|rfl|(simp;done)|(simp [*];done)),H',⟨Nat.le_refl _⟩,by repeat (first|exact Drawn0.refl _|apply Drawn0.step)⟩
 case round =>
  clear H'
  try clear p2
  obtain ⟨x0_1,x1_1,rfl,rfl,HA,HK1,⟨m1,rfl⟩⟩:=hrel
  cases gk with
  | zero=>exact absurd HA.out (by simp [ratio_divisor.l0])
  | succ k1 =>
   have H:=HA.out
   clear HA
   simp only [ratio_divisor.l0] at H
   by_cases c3 : x1_1 = 0
   ·
    rw [if_pos c3] at H
    have c3b0 : (x1_1 == 0) = true:=beq_iff_eq.mpr c3
    have c3b1 : (x1_1 != 0) = false:=bne_eq_false_iff_eq.mpr c3
    clear c3
    obtain rfl:=Option.some.inj H
    go_wp2
    repeat (go_quiet (fail);try go_wp2)
    go_ret
    exact ⟨by first|rfl|(simp;done)|(simp [*];done),by repeat (first|exact Drawn0.refl _|apply Drawn0.step)⟩
   ·
    rw [if_neg c3] at H
    have c3b0 : (x1_1 == 0) = false:=beq_eq_false_iff_ne.mpr c3
    have c3b1 : (x1_1 != 0) = true:=bne_iff_ne.mpr c3
    have H':=A_ H
    clear H
    go_wp2
    repeat (go_quiet (fail);try go_wp2)
    go_roundg k1
    case measure=>have:=HK1.out;omega
    case rel=>exact ⟨(x1_1),(Int.tmod x0_1 x1_1),(by first|rfl|(simp;done)|(simp [*];done)),(by first|rfl|(simp;done)|(simp [*];done)),H',⟨by have:=HK1.out;omega⟩,by repeat (first|exact Drawn0.refl _|apply Drawn0.step)⟩

/-! ### ratio_within: function 80 -/
def ratio_within.f (a0_0 : Int) (a0_1 : Int) : Option (Bool):=if a0_0 ≥ 0 then (if a0_0 ≤ 2305843009213693952 then (if a0_1 ≥ 1 then (some (decide (a0_1 ≤ 1152921504606846976))) else (some false)) else (some false)) else (some false)
set_option maxHeartbeats 8000000 in
set_option maxRecDepth 100000 in
theorem ratio_within.calls (a0_0 : Int) (a0_1 : Int) (r : Bool) (w : World) (h : ratio_within.f a0_0 a0_1 = some r) :
  Calls Try.prog 80 #[.agg #[.int .i64 a0_0,.int .i64 a0_1]] w fun e w'=>e = .returned (.bool r)∧Below w.heap.size w w':=by
 have hu36:=Try.underlying36
 have HB:=A_ (Below.refl w.heap.size w)
 have H : (if a0_0 ≥ 0 then (if a0_0 ≤ 2305843009213693952 then (if a0_1 ≥ 1 then (some (decide (a0_1 ≤ 1152921504606846976))) else (some false)) else (some false)) else (some false)) = some r:=h
 clear h
 by_cases c2 : a0_0 ≥ 0
 ·
  rw [if_pos c2] at H
  have c2b0 : decide (0 ≤ a0_0) = true:=decide_eq_true c2
  clear c2
  by_cases c3 : a0_0 ≤ 2305843009213693952
  ·
   rw [if_pos c3] at H
   have c3b0 : decide (a0_0 ≤ 2305843009213693952) = true:=decide_eq_true c3
   clear c3
   by_cases c4 : a0_1 ≥ 1
   ·
    rw [if_pos c4] at H
    have c4b0 : decide (1 ≤ a0_1) = true:=decide_eq_true c4
    clear c4
    obtain rfl:=Option.some.inj H
    go_enter Try.func80,Try.ntmps80
    go_wp2_with (first|((with_reducible refine gate_dst (N:=1) rfl ?_);refine box_event ?hg (N:=1) ?hd (cs:=#[.int .i64 a0_0,.int .i64 a0_1]) (t:=36) ?hr ?_;(case hd=>rfl);(case hg=>rfl);(case hr=>first|(go_simp;done)|(go_simp;rfl));intro gb281 hg w5 hbox hb;have n0_:=A_ (below_step (by repeat (first|(with_reducible first|exact HB.out|apply ba|apply bb|apply bc)|exact HB.out)) hb);have n1_:=A_ (hbox);have n2_:=A_ ((by rw [hg];exact (below_size (by repeat (first|(with_reducible first|exact HB.out|apply ba|apply bb|apply bc)|exact HB.out))) : w.heap.size ≤ gb281));have n3_:=A_ ((by rw [hg];exact (below_size (by repeat (first|(with_reducible first|exact HB.out|apply ba|apply bb|apply bc)|exact HB.out))) : w.heap.size ≤ gb281));clear HB;have HB:=n0_;have BK281:=n1_;have GW281:=n2_;have GE281:=n3_;clear n0_ n1_ n2_ n3_;clear hb hbox hg;have hcz6_0 : w5.cell? ⟨gb281,0,none⟩ = some (.int .i64 a0_0):=(blk_cell BK281.out 0).trans rfl;have hcz6_1 : w5.cell? ⟨gb281,1,none⟩ = some (.int .i64 a0_1):=(blk_cell BK281.out 1).trans rfl;have hfz6_0:=blk_frozen BK281.out 0;have hfz6_1:=blk_frozen BK281.out 1))
    go_ret
    exact ⟨by first|rfl|(simp [errW_none,errW_some] <;> rfl)|(simp [*,errW_none,errW_some] <;> rfl),by repeat (first|(with_reducible first|exact HB.out|apply ba|apply bb|apply bc|refine below_set ?_ GE281.out)|exact HB.out)⟩
   ·
    rw [if_neg c4] at H
    have c4b0 : decide (1 ≤ a0_1) = false:=decide_eq_false c4
    clear c4
    obtain rfl:=Option.some.inj H
    go_enter Try.func80,Try.ntmps80
    go_wp2_with (first|((with_reducible refine gate_dst (N:=1) rfl ?_);refine box_event ?hg (N:=1) ?hd (cs:=#[.int .i64 a0_0,.int .i64 a0_1]) (t:=36) ?hr ?_;(case hd=>rfl);(case hg=>rfl);(case hr=>first|(go_simp;done)|(go_simp;rfl));intro gb281 hg w7 hbox hb;have n0_:=A_ (below_step (by repeat (first|(with_reducible first|exact HB.out|apply ba|apply bb|apply bc)|exact HB.out)) hb);have n1_:=A_ (hbox);have n2_:=A_ ((by rw [hg];exact (below_size (by repeat (first|(with_reducible first|exact HB.out|apply ba|apply bb|apply bc)|exact HB.out))) : w.heap.size ≤ gb281));have n3_:=A_ ((by rw [hg];exact (below_size (by repeat (first|(with_reducible first|exact HB.out|apply ba|apply bb|apply bc)|exact HB.out))) : w.heap.size ≤ gb281));clear HB;have HB:=n0_;have BK281:=n1_;have GW281:=n2_;have GE281:=n3_;clear n0_ n1_ n2_ n3_;clear hb hbox hg;have hcz8_0 : w7.cell? ⟨gb281,0,none⟩ = some (.int .i64 a0_0):=(blk_cell BK281.out 0).trans rfl;have hcz8_1 : w7.cell? ⟨gb281,1,none⟩ = some (.int .i64 a0_1):=(blk_cell BK281.out 1).trans rfl;have hfz8_0:=blk_frozen BK281.out 0;have hfz8_1:=blk_frozen BK281.out 1))
    go_ret
    exact ⟨by first|rfl|(simp [errW_none,errW_some] <;> rfl)|(simp [*,errW_none,errW_some] <;> rfl),by repeat (first|(with_reducible first|exact HB.out|apply ba|apply bb|apply bc|refine below_set ?_ GE281.out)|exact HB.out)⟩
  ·
   rw [if_neg c3] at H
   have c3b0 : decide (a0_0 ≤ 2305843009213693952) = false:=decide_eq_false c3
   clear c3
   obtain rfl:=Option.some.inj H
   go_enter Try.func80,Try.ntmps80
   go_wp2_with (first|((with_reducible refine gate_dst (N:=1) rfl ?_);refine box_event ?hg (N:=1) ?hd (cs:=#[.int .i64 a0_0,.int .i64 a0_1]) (t:=36) ?hr ?_;(case hd=>rfl);(case hg=>rfl);(case hr=>first|(go_simp;done)|(go_simp;rfl));intro gb281 hg w9 hbox hb;have n0_:=A_ (below_step (by repeat (first|(with_reducible first|exact HB.out|apply ba|apply bb|apply bc)|exact HB.out)) hb);have n1_:=A_ (hbox);have n2_:=A_ ((by rw [hg];exact (below_size (by repeat (first|(with_reducible first|exact HB.out|apply ba|apply bb|apply bc)|exact HB.out))) : w.heap.size ≤ gb281));have n3_:=A_ ((by rw [hg];exact (below_size (by repeat (first|(with_reducible first|exact HB.out|apply ba|apply bb|apply bc)|exact HB.out))) : w.heap.size ≤ gb281));clear HB;have HB:=n0_;have BK281:=n1_;have GW281:=n2_;have GE281:=n3_;clear n0_ n1_ n2_ n3_;clear hb hbox hg;have hcz10_0 : w9.cell? ⟨gb281,0,none⟩ = some (.int .i64 a0_0):=(blk_cell BK281.out 0).trans rfl;have hcz10_1 : w9.cell? ⟨gb281,1,none⟩ = some (.int .i64 a0_1):=(blk_cell BK281.out 1).trans rfl;have hfz10_0:=blk_frozen BK281.out 0;have hfz10_1:=blk_frozen BK281.out 1))
   go_ret
   exact ⟨by first|rfl|(simp [errW_none,errW_some] <;> rfl)|(simp [*,errW_none,errW_some] <;> rfl),by repeat (first|(with_reducible first|exact HB.out|apply ba|apply bb|apply bc|refine below_set ?_ GE281.out)|exact HB.out)⟩
 ·
  rw [if_neg c2] at H
  have c2b0 : decide (0 ≤ a0_0) = false:=decide_eq_false c2
  clear c2
  obtain rfl:=Option.some.inj H
  go_enter Try.func80,Try.ntmps80
  go_wp2_with (first|((with_reducible refine gate_dst (N:=1) rfl ?_);refine box_event ?hg (N:=1) ?hd (cs:=#[.int .i64 a0_0,.int .i64 a0_1]) (t:=36) ?hr ?_;(case hd=>rfl);(case hg=>rfl);(case hr=>first|(go_simp;done)|(go_simp;rfl));intro gb281 hg w11 hbox hb;have n0_:=A_ (below_step (by repeat (first|(with_reducible first|exact HB.out|apply ba|apply bb|apply bc)|exact HB.out)) hb);have n1_:=A_ (hbox);have n2_:=A_ ((by rw [hg];exact (below_size (by repeat (first|(with_reducible first|exact HB.out|apply ba|apply bb|apply bc)|exact HB.out))) : w.heap.size ≤ gb281));have n3_:=A_ ((by rw [hg];exact (below_size (by repeat (first|(with_reducible first|exact HB.out|apply ba|apply bb|apply bc)|exact HB.out))) : w.heap.size ≤ gb281));clear HB;have HB:=n0_;have BK281:=n1_;have GW281:=n2_;have GE281:=n3_;clear n0_ n1_ n2_ n3_;clear hb hbox hg;have hcz12_0 : w11.cell? ⟨gb281,0,none⟩ = some (.int .i64 a0_0):=(blk_cell BK281.out 0).trans rfl;have hcz12_1 : w11.cell? ⟨gb281,1,none⟩ = some (.int .i64 a0_1):=(blk_cell BK281.out 1).trans rfl;have hfz12_0:=blk_frozen BK281.out 0;have hfz12_1:=blk_frozen BK281.out 1))
  go_ret
  exact ⟨by first|rfl|(simp [errW_none,errW_some] <;> rfl)|(simp [*,errW_none,errW_some] <;> rfl),by repeat (first|(with_reducible first|exact HB.out|apply ba|apply bb|apply bc|refine below_set ?_ GE281.out)|exact HB.out)⟩

/-! ### ratio_Make: function 71 -/
def ratio_Make.j0 : Nat → Int → Int → Bool → Option (Int × Int × Int)
 | 0,_,_,_=>none
 | k + 1,x0,x1,x13=>if x13 = true then (some (0,0,1)) else ((ratio_divisor.f k x0 x1).bind fun t283=>(if t283 = 0 then (none) else ((ratio_within.f (wrap64 (Int.tdiv x0 t283)) (wrap64 (Int.tdiv x1 t283))).bind fun t285=>(if t285 = true then (some (wrap64 (Int.tdiv x0 t283),wrap64 (Int.tdiv x1 t283),0)) else (some (0,0,1))))))
def ratio_Make.f (k : Nat) (a0 : Int) (a1 : Int) : Option (Int × Int × Int):=if a0 < 0 then (ratio_Make.j0 k a0 a1 true) else (ratio_Make.j0 k a0 a1 (decide (a1 < 1)))
theorem ratio_Make.mono_l : ∀ k,(∀ y0 y1 y2,LeO (ratio_Make.j0 k y0 y1 y2) (ratio_Make.j0 (k + 1) y0 y1 y2))
 | 0=>fun _ _ _ r h=>by simp [ratio_Make.j0] at h
 | k + 1=>by
  have ih0:=ratio_Make.mono_l k
  ·
   intro y0 y1 y2
   unfold ratio_Make.j0
   repeat' first
   | (with_reducible exact ih0 _ _ _)
   | (with_reducible exact ratio_divisor.mono _ _ _)
   | (with_reducible exact LeO.refl _)
   | (with_reducible exact LeO.none _)
   | (with_reducible refine LeO.ite ?_ ?_)
   | (with_reducible refine LeO.bind ?_ (fun _=>?_))
   | exact ih0 _ _ _
   | exact ratio_divisor.mono _ _ _
   | exact LeO.none _
   | refine LeO.ite ?_ ?_
   | refine LeO.bind ?_ (fun _=>?_)
theorem ratio_Make.mono : ∀ a0 a1 k,LeO (ratio_Make.f k a0 a1) (ratio_Make.f (k + 1) a0 a1):=by
 intro a0 a1 k
 have ih0:=ratio_Make.mono_l k
 unfold ratio_Make.f
 repeat' first
   | (with_reducible exact ih0 _ _ _)
   | (with_reducible exact ratio_divisor.mono _ _ _)
   | (with_reducible exact LeO.refl _)
   | (with_reducible exact LeO.none _)
   | (with_reducible refine LeO.ite ?_ ?_)
   | (with_reducible refine LeO.bind ?_ (fun _=>?_))
   | exact ih0 _ _ _
   | exact ratio_divisor.mono _ _ _
   | exact LeO.none _
   | refine LeO.ite ?_ ?_
   | refine LeO.bind ?_ (fun _=>?_)
def ratio_Make.T4 : Bool × List (List Nat × List Nat):=(true,[([],[]),([],[]),([0,1],[0,1]),([],[]),([],[]),([3,4],[3,4]),([2,5],[2,5]),([],[]),([7,6,0,1,2,3,4,5,6,7],[6,7])])
def ratio_Make.B4 : List Nat:=[0,0,3,0,0,24,63,0,255]
theorem ratio_Make.tab4 : rtab .any (opsOf Try.f71 4) = ratio_Make.T4:=by kernel_rfl
theorem ratio_Make.bits4 : waitsOk ratio_Make.T4.2 ratio_Make.B4 = true:=by kernel_rfl
set_option maxHeartbeats 8000000 in
set_option maxRecDepth 100000 in
theorem ratio_Make.calls (k : Nat) (a0 : Int) (a1 : Int) (r1 : Int) (r2 : Int) (r3 : Int) (w : World) (h : ratio_Make.f k a0 a1 = some (r1,r2,r3)) :
  Calls Try.prog 71 #[.int .i64 a0,.int .i64 a1] w fun e w'=>e = .returned (.tuple #[.agg #[.int .i64 r1,.int .i64 r2],.int .i64 r3])∧Below w.heap.size w w':=by
 have hu36:=Try.underlying36
 have HB:=A_ (Below.refl w.heap.size w)
 have H : (if a0 < 0 then (ratio_Make.j0 k a0 a1 true) else (ratio_Make.j0 k a0 a1 (decide (a1 < 1)))) = some (r1,r2,r3):=h
 clear h
 have HC3:=A_ H
 clear H
 go_enter Try.func71,Try.ntmps71
 go_upto_region 1 with (first|((with_reducible refine gate_dst (N:=4) rfl ?_);refine box_event ?hg (N:=4) ?hd (cs:=#[.int .i64 0,.int .i64 0]) (t:=36) ?hr ?_;(case hd=>rfl);(case hg=>rfl);(case hr=>first|(go_simp;done)|(go_simp;rfl));intro gb282 hg w4 hbox hb;have n0_:=A_ (below_step (by repeat (first|(with_reducible first|exact HB.out|apply ba|apply bb|apply bc)|exact HB.out)) hb);have n1_:=A_ (hbox);have n2_:=A_ ((by rw [hg];exact (below_size (by repeat (first|(with_reducible first|exact HB.out|apply ba|apply bb|apply bc)|exact HB.out))) : w.heap.size ≤ gb282));have n3_:=A_ ((by rw [hg];exact (below_size (by repeat (first|(with_reducible first|exact HB.out|apply ba|apply bb|apply bc)|exact HB.out))) : w.heap.size ≤ gb282));clear HB;have HB:=n0_;have BK282:=n1_;have GW282:=n2_;have GE282:=n3_;clear n0_ n1_ n2_ n3_;clear hb hbox hg))
 (try simp only [Act.put,List.setIfInBounds_toArray,List.set_cons_zero,List.set_cons_succ])
 go_cut [13] (fun v13 wc=>∃ (kq : Nat) (x13_2 : Bool),v13 = .bool x13_2∧Aside0 (ratio_Make.j0 kq a0 a1 x13_2 = some (r1,r2,r3))∧Aside0 (kq ≤ k)∧Aside0 (wc.heap[gb282]? = some (.cells #[.int .i64 0,.int .i64 0] 36 (0,0)))∧Aside0 (Below w.heap.size w wc))
 case first =>
  have H:=HC3.out
  clear HC3
  by_cases c5 : a0 < 0
  ·
   rw [if_pos c5] at H
   have c5b0 : decide (a0 < 0) = true:=decide_eq_true c5
   clear c5
   (first|rw [c5b0]|(simp only [i64_w,i32_w];rw [c5b0])|skip)
   have H':=A_ H
   clear H
   go_wp2
   go_meet
   case rel=>exact ⟨_,(true),(by first|rfl|(simp;done)|(simp [*];done)),H',⟨by first|omega|exact Nat.le_refl _⟩,⟨by (with_reducible repeat (first|refine blk_drewN ?_ _|refine blk_drew ?_|refine blk_alloc ?_ _));exact BK282.out⟩,⟨by repeat (first|(with_reducible first|exact HB.out|apply ba|apply bb|apply bc|refine below_set ?_ GE282.out)|exact HB.out)⟩⟩
  ·
   rw [if_neg c5] at H
   have c5b0 : decide (a0 < 0) = false:=decide_eq_false c5
   clear c5
   (first|rw [c5b0]|(simp only [i64_w,i32_w];rw [c5b0])|skip)
   have H':=A_ H
   clear H
   go_wp2
   go_meet
   case rel=>exact ⟨_,(decide (a1 < 1)),(by first|rfl|(simp;done)|(simp [*];done)),H',⟨by first|omega|exact Nat.le_refl _⟩,⟨by (with_reducible repeat (first|refine blk_drewN ?_ _|refine blk_drew ?_|refine blk_alloc ?_ _));exact BK282.out⟩,⟨by repeat (first|(with_reducible first|exact HB.out|apply ba|apply bb|apply bc|refine below_set ?_ GE282.out)|exact HB.out)⟩⟩
 case rest =>
  clear HC3
  try clear p2
  try clear c5
  try clear c5b0
  obtain ⟨kq,x13_2,rfl,HA,HJ2,BK282,HB⟩:=hcut
  cases kq with
  | zero=>exact absurd HA.out (by simp [ratio_Make.j0])
  | succ kj2 =>
   have H:=HA.out
   clear HA
   simp only [ratio_Make.j0] at H
   by_cases c6 : x13_2 = true
   ·
    subst c6
    have H1 : (some (0,0,1)) = some (r1,r2,r3):=by rw [if_pos rfl] at H;exact H
    clear H
    have H:=H1
    clear H1
    simp only [Option.some.injEq,Prod.mk.injEq] at H
    obtain ⟨rfl,rfl,rfl⟩:=H
    have hcz7_0 : wc.cell? ⟨gb282,0,none⟩ = some (.int .i64 0):=(blk_cell BK282.out 0).trans rfl
    have hcz7_1 : wc.cell? ⟨gb282,1,none⟩ = some (.int .i64 0):=(blk_cell BK282.out 1).trans rfl
    have hfz7_0:=blk_frozen BK282.out 0
    have hfz7_1:=blk_frozen BK282.out 1
    go_wp2
    refine bodyPost_ret (results_ct rfl _ _ gb282 36 #[.int .i64 0,.int .i64 0] (0,0) _ rfl (by (with_reducible repeat (first|refine blk_drewN ?_ _|refine blk_drew ?_|refine blk_alloc ?_ _));refine blk_put (cs:=#[.int .i64 0,.int .i64 0]) ?_ 1 _ rfl;(with_reducible repeat (first|refine blk_drewN ?_ _|refine blk_drew ?_|refine blk_alloc ?_ _));refine blk_put (cs:=#[.int .i64 0,.int .i64 0]) ?_ 0 _ rfl;(with_reducible repeat (first|refine blk_drewN ?_ _|refine blk_drew ?_|refine blk_alloc ?_ _));exact BK282.out) Try.underlying36 rfl (by kernel_rfl)) rfl ?_
    exact ⟨by first|rfl|(simp [errW_none,errW_some] <;> rfl)|(simp [*,errW_none,errW_some] <;> rfl),by repeat (first|(with_reducible first|exact HB.out|apply ba|apply bb|apply bc|refine below_set ?_ GE282.out)|exact HB.out)⟩
   ·
    replace c6:=Bool.eq_false_iff.mpr c6
    subst c6
    have H1 : ((ratio_divisor.f kj2 a0 a1).bind fun t283=>(if t283 = 0 then (none) else ((ratio_within.f (wrap64 (Int.tdiv a0 t283)) (wrap64 (Int.tdiv a1 t283))).bind fun t285=>(if t285 = true then (some (wrap64 (Int.tdiv a0 t283),wrap64 (Int.tdiv a1 t283),0)) else (some (0,0,1)))))) = some (r1,r2,r3):=by rw [if_neg (show ¬ (false = true) by decide)] at H;exact H
    clear H
    have H:=H1
    clear H1
    replace H:=Option.bind_eq_some_iff.mp H
    obtain ⟨t283,A80,H⟩:=H
    replace H : (if t283 = 0 then (none) else ((ratio_within.f (wrap64 (Int.tdiv a0 t283)) (wrap64 (Int.tdiv a1 t283))).bind fun t285=>(if t285 = true then (some (wrap64 (Int.tdiv a0 t283),wrap64 (Int.tdiv a1 t283),0)) else (some (0,0,1))))) = some (r1,r2,r3):=H
    have A8:=A_ A80
    clear A80
    by_cases c9 : t283 = 0
    ·
     rw [if_pos c9] at H
     exact absurd H (by simp)
    ·
     rw [if_neg c9] at H
     have c9b0 : (t283 == 0) = false:=beq_eq_false_iff_ne.mpr c9
     have c9b1 : (t283 != 0) = true:=bne_iff_ne.mpr c9
     replace H:=Option.bind_eq_some_iff.mp H
     obtain ⟨t285,A100,H⟩:=H
     replace H : (if t285 = true then (some (wrap64 (Int.tdiv a0 t283),wrap64 (Int.tdiv a1 t283),0)) else (some (0,0,1))) = some (r1,r2,r3):=H
     have A10:=A_ A100
     clear A100
     by_cases c11 : t285 = true
     ·
      subst c11
      have H1 : (some (wrap64 (Int.tdiv a0 t283),wrap64 (Int.tdiv a1 t283),0)) = some (r1,r2,r3):=by rw [if_pos rfl] at H;exact H
      clear H
      have H:=H1
      clear H1
      simp only [Option.some.injEq,Prod.mk.injEq] at H
      obtain ⟨rfl,rfl,rfl⟩:=H
      try go_wp2_with (first|((with_reducible refine gate_callee (f:=79) rfl ?_);refine goesL_ (some 17) rfl rfl Try.func79 (by kernel_rfl) rfl #[.int .i64 a0,.int .i64 a1] rfl (by (try simp only [List.map_toArray,List.map_cons,List.map_nil]);first|done|rfl|(simp only [List.length_drop,List.length_take];rfl)) ?_;(with_reducible refine (ratio_divisor.calls kj2 a0 a1 t283 _ A8.out).mono ?_);rintro e w' ⟨rfl,⟨nd,rfl⟩⟩;refine ⟨_,rfl,?_⟩;(try (rw [drewN_self wc];generalize hq_ : World.drewN wc _ = wc;have n0_ : Aside0 (wc.heap[gb282]? = some (.cells #[.int .i64 0,.int .i64 0] 36 (0,0))):=⟨by rw [← hq_];exact (by (with_reducible repeat (first|refine blk_drewN ?_ _|refine blk_drew ?_|refine blk_alloc ?_ _));exact BK282.out)⟩;have n1_ : Aside0 (Below w.heap.size w wc):=⟨by rw [← hq_];exact (by repeat (first|(with_reducible first|exact HB.out|apply ba|apply bb|apply bc|refine below_set ?_ GE282.out)|exact HB.out))⟩;clear BK282 HB hq_;have BK282:=n0_;have HB:=n1_;clear n0_ n1_))))
      (try (rw [drewN_self wc];generalize hq_ : World.drewN wc _ = wc;have n0_ : Aside0 (wc.heap[gb282]? = some (.cells #[.int .i64 0,.int .i64 0] 36 (0,0))):=⟨by rw [← hq_];exact (by (with_reducible repeat (first|refine blk_drewN ?_ _|refine blk_drew ?_|refine blk_alloc ?_ _));exact BK282.out)⟩;have n1_ : Aside0 (Below w.heap.size w wc):=⟨by rw [← hq_];exact (by repeat (first|(with_reducible first|exact HB.out|apply ba|apply bb|apply bc|refine below_set ?_ GE282.out)|exact HB.out))⟩;clear BK282 HB hq_;have BK282:=n0_;have HB:=n1_;clear n0_ n1_))
      have n0_:=A_ (blk_drew BK282.out)
      have n1_:=A_ (below_drew1 HB.out)
      clear BK282
      clear HB
      have BK282:=n0_
      have HB:=n1_
      clear n0_ n1_
      refine start_ (n:=9) (S:=fun w'=>True) (ds:=[]) #[false,false,false,false,false,false,false,false,false] (by kernel_rfl) rfl rfl trivial (fun hHeld=>?_);refine with_tabW ratio_Make.tab4 ratio_Make.bits4 (fun HT_ HW_=>?_)
      generalize wc.drew = w12 at BK282 HB hHeld ⊢
      refine pure_ (i:=0) (N:=some 18) (v:=?_) (a':=?_) #[true,false,false,false,false,false,false,false,false] rfl rfl (any_of HT_.out (by kernel_rfl)) (fun _ _ _ h=>h) (Or.inl ⟨by rfl,?_⟩) ?_ ?_
      rotate_left
      ·
       intro w'
       go_simp
       with_reducible rfl
      rotate_left
      ·
       simp only [Act.put,sa,sb,sc,i64_w,i32_w]
       rfl
      refine pure_ (i:=1) (N:=some 19) (v:=?_) (a':=?_) #[true,true,false,false,false,false,false,false,false] rfl rfl (any_of HT_.out (by kernel_rfl)) (fun _ _ _ h=>h) (Or.inl ⟨by rfl,?_⟩) ?_ ?_
      rotate_left
      ·
       intro w'
       go_simp
       with_reducible rfl
      rotate_left
      ·
       simp only [Act.put,sa,sb,sc,i64_w,i32_w]
       rfl
      refine pure_ (i:=2) (N:=some 20) (v:=?_) (a':=?_) #[true,true,true,false,false,false,false,false,false] rfl rfl (any_of HT_.out (by kernel_rfl)) (fun _ _ _ h=>h) (Or.inl ⟨by rfl,?_⟩) ?_ ?_
      rotate_left
      ·
       intro w'
       go_simp
       with_reducible rfl
      rotate_left
      ·
       simp only [Act.put,sa,sb,sc,i64_w,i32_w]
       rfl
      refine pure_ (i:=3) (N:=some 21) (v:=?_) (a':=?_) #[true,true,true,true,false,false,false,false,false] rfl rfl (any_of HT_.out (by kernel_rfl)) (fun _ _ _ h=>h) (Or.inl ⟨by rfl,?_⟩) ?_ ?_
      rotate_left
      ·
       intro w'
       go_simp
       with_reducible rfl
      rotate_left
      ·
       simp only [Act.put,sa,sb,sc,i64_w,i32_w]
       rfl
      refine pure_ (i:=4) (N:=some 22) (v:=?_) (a':=?_) #[true,true,true,true,true,false,false,false,false] rfl rfl (any_of HT_.out (by kernel_rfl)) (fun _ _ _ h=>h) (Or.inl ⟨by rfl,?_⟩) ?_ ?_
      rotate_left
      ·
       intro w'
       go_simp
       with_reducible rfl
      rotate_left
      ·
       simp only [Act.put,sa,sb,sc,i64_w,i32_w]
       rfl
      refine pure_ (i:=5) (N:=some 23) (v:=?_) (a':=?_) #[true,true,true,true,true,true,false,false,false] rfl rfl (any_of HT_.out (by kernel_rfl)) (fun _ _ _ h=>h) (Or.inl ⟨by rfl,?_⟩) ?_ ?_
      rotate_left
      ·
       intro w'
       go_simp
       with_reducible rfl
      rotate_left
      ·
       simp only [Act.put,sa,sb,sc,i64_w,i32_w]
       rfl
      refine pure_ (i:=6) (N:=some 24) (v:=?_) (a':=?_) #[true,true,true,true,true,true,true,false,false] rfl rfl (any_of HT_.out (by kernel_rfl)) (fun _ _ _ h=>h) (Or.inl ⟨by rfl,?_⟩) ?_ ?_
      rotate_left
      ·
       intro w'
       go_simp
       with_reducible rfl
      rotate_left
      ·
       simp only [Act.put,sa,sb,sc,i64_w,i32_w]
       rfl
      refine one_ (i:=7) (N:=some 7) #[true,true,true,true,true,true,true,true,false] rfl rfl (one_of HT_.out (by kernel_rfl)) (by decide) (fun K hK=>?_)
      refine box_step ?hg (N:=7) ?hd (cs:=#[.int .i64 0,.int .i64 0]) (t:=36) ?hr ?_;(case hd=>rfl);(case hg=>rfl);(case hr=>first|(go_simp;done)|(go_simp;rfl))
      intro gb284 hg w13 hbox hb
      have n0_:=A_ (blk_below (g:=gb282) (o:=.cells #[.int .i64 0,.int .i64 0] 36 (0,0)) (by (with_reducible repeat (first|refine blk_drewN ?_ _|refine blk_drew ?_|refine blk_alloc ?_ _));exact BK282.out) hb)
      have n1_:=A_ (below_step (by repeat (first|(with_reducible first|exact HB.out|apply ba|apply bb|apply bc|refine below_set ?_ GE282.out)|exact HB.out)) hb)
      have n2_:=A_ (hbox)
      have n3_:=A_ ((by rw [hg];exact (below_size (by repeat (first|(with_reducible first|exact HB.out|apply ba|apply bb|apply bc|refine below_set ?_ GE282.out)|exact HB.out))) : w.heap.size ≤ gb284))
      have n4_:=A_ ((by rw [hg];exact (below_size (by repeat (first|(with_reducible first|exact HB.out|apply ba|apply bb|apply bc|refine below_set ?_ GE282.out)|exact HB.out))) : w.heap.size ≤ gb284))
      have n5_:=A_ ((by rw [hg];exact Nat.ne_of_lt (blk_lt (g:=gb282) (o:=.cells #[.int .i64 0,.int .i64 0] 36 (0,0)) (by (with_reducible repeat (first|refine blk_drewN ?_ _|refine blk_drew ?_|refine blk_alloc ?_ _));exact BK282.out)) : gb282≠gb284))
      have n6_:=A_ ((by rw [hg];exact Nat.ne_of_gt (blk_lt (g:=gb282) (o:=.cells #[.int .i64 0,.int .i64 0] 36 (0,0)) (by (with_reducible repeat (first|refine blk_drewN ?_ _|refine blk_drew ?_|refine blk_alloc ?_ _));exact BK282.out)) : gb284≠gb282))
      clear BK282
      clear HB
      have BK282:=n0_
      have HB:=n1_
      have BK284:=n2_
      have GW284:=n3_
      have GE284:=n4_
      have NB282_284:=n5_
      have NB284_282:=n6_
      clear n0_ n1_ n2_ n3_ n4_ n5_ n6_
      clear hb hbox hg
      refine hK.out _ _ trivial (fun hHeld=>?_)
      clear hK K
      refine norm_ (a':=?_) ?_ ?_
      rotate_left
      ·
       show Act.put _ (some 7) _ = _
       simp only [Act.put,sa,sb,sc,i64_w,i32_w]
       rfl
      refine one_ (i:=8) (N:=none) #[true,true,true,true,true,true,true,true,true] rfl rfl (one_of HT_.out (by kernel_rfl)) (by decide) (fun K hK=>?_)
      have hs14 : w13.cell? ⟨gb284,0,none⟩ = some (.int .i64 0):=(blk_cell BK284.out 0).trans rfl
      have hfs14:=blk_frozen BK284.out 0
      have hns14_0:=NB282_284.out
      have hms14_0:=NB284_282.out
      have hs15 : w13.cell? ⟨gb284,1,none⟩ = some (.int .i64 0):=(blk_cell BK284.out 1).trans rfl
      have hfs15:=blk_frozen BK284.out 1
      have hns15_0:=NB282_284.out
      have hms15_0:=NB284_282.out
      refine skip_ (w1:=?_) (by rfl) rfl ?_ ?_
      rotate_left
      ·
       go_simp
       rfl
      refine hK.out _ _ trivial (fun hHeld=>?_)
      clear hK K
      refine done_ (done_of HT_.out (by kernel_rfl)) ?_
      have hnb16:=NB284_282.out
      have hnc16:=NB282_284.out
      have hcz17_0 : w13.cell? ⟨gb284,0,none⟩ = some (.int .i64 0):=(blk_cell BK284.out 0).trans rfl
      have hcz17_1 : w13.cell? ⟨gb284,1,none⟩ = some (.int .i64 0):=(blk_cell BK284.out 1).trans rfl
      have hfz17_0:=blk_frozen BK284.out 0
      have hfz17_1:=blk_frozen BK284.out 1
      try go_wp2_with (first|((with_reducible refine gate_callee (f:=80) rfl ?_);refine goesL_ (some 26) rfl rfl Try.func80 (by kernel_rfl) rfl #[.agg #[.int .i64 (wrap64 (Int.tdiv a0 t283)),.int .i64 (wrap64 (Int.tdiv a1 t283))]] rfl (by (try simp only [List.map_toArray,List.map_cons,List.map_nil]);first|done|rfl|(simp only [List.length_drop,List.length_take];rfl)) ?_;(with_reducible refine (ratio_within.calls (wrap64 (Int.tdiv a0 t283)) (wrap64 (Int.tdiv a1 t283)) true _ A10.out).mono ?_);rintro e w18 ⟨rfl,hb⟩;refine ⟨_,rfl,?_⟩;have n0_:=A_ (blk_below (g:=gb282) (o:=.cells #[.int .i64 0,.int .i64 0] 36 (0,0)) (by (with_reducible repeat (first|refine blk_drewN ?_ _|refine blk_drew ?_|refine blk_alloc ?_ _));refine blk_far ?_ NB282_284.out _;(with_reducible repeat (first|refine blk_drewN ?_ _|refine blk_drew ?_|refine blk_alloc ?_ _));refine blk_far ?_ NB282_284.out _;(with_reducible repeat (first|refine blk_drewN ?_ _|refine blk_drew ?_|refine blk_alloc ?_ _));exact BK282.out) hb);have n1_:=A_ (blk_below (g:=gb284) (o:=.cells #[.int .i64 (wrap64 (Int.tdiv a0 t283)),.int .i64 (wrap64 (Int.tdiv a1 t283))] 36 (0,0)) (by (with_reducible repeat (first|refine blk_drewN ?_ _|refine blk_drew ?_|refine blk_alloc ?_ _));refine blk_put (cs:=#[.int .i64 (wrap64 (Int.tdiv a0 t283)),.int .i64 0]) ?_ 1 _ rfl;(with_reducible repeat (first|refine blk_drewN ?_ _|refine blk_drew ?_|refine blk_alloc ?_ _));refine blk_put (cs:=#[.int .i64 0,.int .i64 0]) ?_ 0 _ rfl;(with_reducible repeat (first|refine blk_drewN ?_ _|refine blk_drew ?_|refine blk_alloc ?_ _));exact BK284.out) hb);have n2_:=A_ (below_step (by repeat (first|(with_reducible first|exact HB.out|apply ba|apply bb|apply bc|refine below_set ?_ GE282.out|refine below_set ?_ GE284.out)|exact HB.out)) hb);clear BK282;clear BK284;clear HB;have BK282:=n0_;have BK284:=n1_;have HB:=n2_;clear n0_ n1_ n2_;(try clear hb);(try clear hb2);(try clear hk);(try clear hi);have hcz19_0 : w18.cell? ⟨gb284,0,none⟩ = some (.int .i64 (wrap64 (Int.tdiv a0 t283))):=(blk_cell BK284.out 0).trans rfl;have hcz19_1 : w18.cell? ⟨gb284,1,none⟩ = some (.int .i64 (wrap64 (Int.tdiv a1 t283))):=(blk_cell BK284.out 1).trans rfl;have hfz19_0:=blk_frozen BK284.out 0;have hfz19_1:=blk_frozen BK284.out 1;have hcz20_0 : w18.cell? ⟨gb282,0,none⟩ = some (.int .i64 0):=(blk_cell BK282.out 0).trans rfl;have hcz20_1 : w18.cell? ⟨gb282,1,none⟩ = some (.int .i64 0):=(blk_cell BK282.out 1).trans rfl;have hfz20_0:=blk_frozen BK282.out 0;have hfz20_1:=blk_frozen BK282.out 1))
      refine bodyPost_ret (results_ct rfl _ _ gb282 36 #[.int .i64 (wrap64 (Int.tdiv a0 t283)),.int .i64 (wrap64 (Int.tdiv a1 t283))] (0,0) _ rfl (by (with_reducible repeat (first|refine blk_drewN ?_ _|refine blk_drew ?_|refine blk_alloc ?_ _));refine blk_put (cs:=#[.int .i64 (wrap64 (Int.tdiv a0 t283)),.int .i64 0]) ?_ 1 _ rfl;(with_reducible repeat (first|refine blk_drewN ?_ _|refine blk_drew ?_|refine blk_alloc ?_ _));refine blk_put (cs:=#[.int .i64 0,.int .i64 0]) ?_ 0 _ rfl;(with_reducible repeat (first|refine blk_drewN ?_ _|refine blk_drew ?_|refine blk_alloc ?_ _));exact BK282.out) Try.underlying36 rfl (by kernel_rfl)) rfl ?_
      exact ⟨by first|rfl|(simp [errW_none,errW_some] <;> rfl)|(simp [*,errW_none,errW_some] <;> rfl),by repeat (first|(with_reducible first|exact HB.out|apply ba|apply bb|apply bc|refine below_set ?_ GE282.out|refine below_set ?_ GE284.out)|exact HB.out)⟩
     ·
      replace c11:=Bool.eq_false_iff.mpr c11
      subst c11
      have H1 : (some (0,0,1)) = some (r1,r2,r3):=by rw [if_neg (show ¬ (false = true) by decide)] at H;exact H
      clear H
      have H:=H1
      clear H1
      simp only [Option.some.injEq,Prod.mk.injEq] at H
      obtain ⟨rfl,rfl,rfl⟩:=H
      try go_wp2_with (first|((with_reducible refine gate_callee (f:=79) rfl ?_);refine goesL_ (some 17) rfl rfl Try.func79 (by kernel_rfl) rfl #[.int .i64 a0,.int .i64 a1] rfl (by (try simp only [List.map_toArray,List.map_cons,List.map_nil]);first|done|rfl|(simp only [List.length_drop,List.length_take];rfl)) ?_;(with_reducible refine (ratio_divisor.calls kj2 a0 a1 t283 _ A8.out).mono ?_);rintro e w' ⟨rfl,⟨nd,rfl⟩⟩;refine ⟨_,rfl,?_⟩;(try (rw [drewN_self wc];generalize hq_ : World.drewN wc _ = wc;have n0_ : Aside0 (wc.heap[gb282]? = some (.cells #[.int .i64 0,.int .i64 0] 36 (0,0))):=⟨by rw [← hq_];exact (by (with_reducible repeat (first|refine blk_drewN ?_ _|refine blk_drew ?_|refine blk_alloc ?_ _));exact BK282.out)⟩;have n1_ : Aside0 (Below w.heap.size w wc):=⟨by rw [← hq_];exact (by repeat (first|(with_reducible first|exact HB.out|apply ba|apply bb|apply bc|refine below_set ?_ GE282.out)|exact HB.out))⟩;clear BK282 HB hq_;have BK282:=n0_;have HB:=n1_;clear n0_ n1_))))
      (try (rw [drewN_self wc];generalize hq_ : World.drewN wc _ = wc;have n0_ : Aside0 (wc.heap[gb282]? = some (.cells #[.int .i64 0,.int .i64 0] 36 (0,0))):=⟨by rw [← hq_];exact (by (with_reducible repeat (first|refine blk_drewN ?_ _|refine blk_drew ?_|refine blk_alloc ?_ _));exact BK282.out)⟩;have n1_ : Aside0 (Below w.heap.size w wc):=⟨by rw [← hq_];exact (by repeat (first|(with_reducible first|exact HB.out|apply ba|apply bb|apply bc|refine below_set ?_ GE282.out)|exact HB.out))⟩;clear BK282 HB hq_;have BK282:=n0_;have HB:=n1_;clear n0_ n1_))
      have n0_:=A_ (blk_drew BK282.out)
      have n1_:=A_ (below_drew1 HB.out)
      clear BK282
      clear HB
      have BK282:=n0_
      have HB:=n1_
      clear n0_ n1_
      refine start_ (n:=9) (S:=fun w'=>True) (ds:=[]) #[false,false,false,false,false,false,false,false,false] (by kernel_rfl) rfl rfl trivial (fun hHeld=>?_);refine with_tabW ratio_Make.tab4 ratio_Make.bits4 (fun HT_ HW_=>?_)
      generalize wc.drew = w21 at BK282 HB hHeld ⊢
      refine pure_ (i:=0) (N:=some 18) (v:=?_) (a':=?_) #[true,false,false,false,false,false,false,false,false] rfl rfl (any_of HT_.out (by kernel_rfl)) (fun _ _ _ h=>h) (Or.inl ⟨by rfl,?_⟩) ?_ ?_
      rotate_left
      ·
       intro w'
       go_simp
       with_reducible rfl
      rotate_left
      ·
       simp only [Act.put,sa,sb,sc,i64_w,i32_w]
       rfl
      refine pure_ (i:=1) (N:=some 19) (v:=?_) (a':=?_) #[true,true,false,false,false,false,false,false,false] rfl rfl (any_of HT_.out (by kernel_rfl)) (fun _ _ _ h=>h) (Or.inl ⟨by rfl,?_⟩) ?_ ?_
      rotate_left
      ·
       intro w'
       go_simp
       with_reducible rfl
      rotate_left
      ·
       simp only [Act.put,sa,sb,sc,i64_w,i32_w]
       rfl
      refine pure_ (i:=2) (N:=some 20) (v:=?_) (a':=?_) #[true,true,true,false,false,false,false,false,false] rfl rfl (any_of HT_.out (by kernel_rfl)) (fun _ _ _ h=>h) (Or.inl ⟨by rfl,?_⟩) ?_ ?_
      rotate_left
      ·
       intro w'
       go_simp
       with_reducible rfl
      rotate_left
      ·
       simp only [Act.put,sa,sb,sc,i64_w,i32_w]
       rfl
      refine pure_ (i:=3) (N:=some 21) (v:=?_) (a':=?_) #[true,true,true,true,false,false,false,false,false] rfl rfl (any_of HT_.out (by kernel_rfl)) (fun _ _ _ h=>h) (Or.inl ⟨by rfl,?_⟩) ?_ ?_
      rotate_left
      ·
       intro w'
       go_simp
       with_reducible rfl
      rotate_left
      ·
       simp only [Act.put,sa,sb,sc,i64_w,i32_w]
       rfl
      refine pure_ (i:=4) (N:=some 22) (v:=?_) (a':=?_) #[true,true,true,true,true,false,false,false,false] rfl rfl (any_of HT_.out (by kernel_rfl)) (fun _ _ _ h=>h) (Or.inl ⟨by rfl,?_⟩) ?_ ?_
      rotate_left
      ·
       intro w'
       go_simp
       with_reducible rfl
      rotate_left
      ·
       simp only [Act.put,sa,sb,sc,i64_w,i32_w]
       rfl
      refine pure_ (i:=5) (N:=some 23) (v:=?_) (a':=?_) #[true,true,true,true,true,true,false,false,false] rfl rfl (any_of HT_.out (by kernel_rfl)) (fun _ _ _ h=>h) (Or.inl ⟨by rfl,?_⟩) ?_ ?_
      rotate_left
      ·
       intro w'
       go_simp
       with_reducible rfl
      rotate_left
      ·
       simp only [Act.put,sa,sb,sc,i64_w,i32_w]
       rfl
      refine pure_ (i:=6) (N:=some 24) (v:=?_) (a':=?_) #[true,true,true,true,true,true,true,false,false] rfl rfl (any_of HT_.out (by kernel_rfl)) (fun _ _ _ h=>h) (Or.inl ⟨by rfl,?_⟩) ?_ ?_
      rotate_left
      ·
       intro w'
       go_simp
       with_reducible rfl
      rotate_left
      ·
       simp only [Act.put,sa,sb,sc,i64_w,i32_w]
       rfl
      refine one_ (i:=7) (N:=some 7) #[true,true,true,true,true,true,true,true,false] rfl rfl (one_of HT_.out (by kernel_rfl)) (by decide) (fun K hK=>?_)
      refine box_step ?hg (N:=7) ?hd (cs:=#[.int .i64 0,.int .i64 0]) (t:=36) ?hr ?_;(case hd=>rfl);(case hg=>rfl);(case hr=>first|(go_simp;done)|(go_simp;rfl))
      intro gb284 hg w22 hbox hb
      have n0_:=A_ (blk_below (g:=gb282) (o:=.cells #[.int .i64 0,.int .i64 0] 36 (0,0)) (by (with_reducible repeat (first|refine blk_drewN ?_ _|refine blk_drew ?_|refine blk_alloc ?_ _));exact BK282.out) hb)
      have n1_:=A_ (below_step (by repeat (first|(with_reducible first|exact HB.out|apply ba|apply bb|apply bc|refine below_set ?_ GE282.out)|exact HB.out)) hb)
      have n2_:=A_ (hbox)
      have n3_:=A_ ((by rw [hg];exact (below_size (by repeat (first|(with_reducible first|exact HB.out|apply ba|apply bb|apply bc|refine below_set ?_ GE282.out)|exact HB.out))) : w.heap.size ≤ gb284))
      have n4_:=A_ ((by rw [hg];exact (below_size (by repeat (first|(with_reducible first|exact HB.out|apply ba|apply bb|apply bc|refine below_set ?_ GE282.out)|exact HB.out))) : w.heap.size ≤ gb284))
      have n5_:=A_ ((by rw [hg];exact Nat.ne_of_lt (blk_lt (g:=gb282) (o:=.cells #[.int .i64 0,.int .i64 0] 36 (0,0)) (by (with_reducible repeat (first|refine blk_drewN ?_ _|refine blk_drew ?_|refine blk_alloc ?_ _));exact BK282.out)) : gb282≠gb284))
      have n6_:=A_ ((by rw [hg];exact Nat.ne_of_gt (blk_lt (g:=gb282) (o:=.cells #[.int .i64 0,.int .i64 0] 36 (0,0)) (by (with_reducible repeat (first|refine blk_drewN ?_ _|refine blk_drew ?_|refine blk_alloc ?_ _));exact BK282.out)) : gb284≠gb282))
      clear BK282
      clear HB
      have BK282:=n0_
      have HB:=n1_
      have BK284:=n2_
      have GW284:=n3_
      have GE284:=n4_
      have NB282_284:=n5_
      have NB284_282:=n6_
      clear n0_ n1_ n2_ n3_ n4_ n5_ n6_
      clear hb hbox hg
      refine hK.out _ _ trivial (fun hHeld=>?_)
      clear hK K
      refine norm_ (a':=?_) ?_ ?_
      rotate_left
      ·
       show Act.put _ (some 7) _ = _
       simp only [Act.put,sa,sb,sc,i64_w,i32_w]
       rfl
      refine one_ (i:=8) (N:=none) #[true,true,true,true,true,true,true,true,true] rfl rfl (one_of HT_.out (by kernel_rfl)) (by decide) (fun K hK=>?_)
      have hs23 : w22.cell? ⟨gb284,0,none⟩ = some (.int .i64 0):=(blk_cell BK284.out 0).trans rfl
      have hfs23:=blk_frozen BK284.out 0
      have hns23_0:=NB282_284.out
      have hms23_0:=NB284_282.out
      have hs24 : w22.cell? ⟨gb284,1,none⟩ = some (.int .i64 0):=(blk_cell BK284.out 1).trans rfl
      have hfs24:=blk_frozen BK284.out 1
      have hns24_0:=NB282_284.out
      have hms24_0:=NB284_282.out
      refine skip_ (w1:=?_) (by rfl) rfl ?_ ?_
      rotate_left
      ·
       go_simp
       rfl
      refine hK.out _ _ trivial (fun hHeld=>?_)
      clear hK K
      refine done_ (done_of HT_.out (by kernel_rfl)) ?_
      have hnb25:=NB284_282.out
      have hnc25:=NB282_284.out
      have hcz26_0 : w22.cell? ⟨gb284,0,none⟩ = some (.int .i64 0):=(blk_cell BK284.out 0).trans rfl
      have hcz26_1 : w22.cell? ⟨gb284,1,none⟩ = some (.int .i64 0):=(blk_cell BK284.out 1).trans rfl
      have hfz26_0:=blk_frozen BK284.out 0
      have hfz26_1:=blk_frozen BK284.out 1
      try go_wp2_with (first|((with_reducible refine gate_callee (f:=80) rfl ?_);refine goesL_ (some 26) rfl rfl Try.func80 (by kernel_rfl) rfl #[.agg #[.int .i64 (wrap64 (Int.tdiv a0 t283)),.int .i64 (wrap64 (Int.tdiv a1 t283))]] rfl (by (try simp only [List.map_toArray,List.map_cons,List.map_nil]);first|done|rfl|(simp only [List.length_drop,List.length_take];rfl)) ?_;(with_reducible refine (ratio_within.calls (wrap64 (Int.tdiv a0 t283)) (wrap64 (Int.tdiv a1 t283)) false _ A10.out).mono ?_);rintro e w27 ⟨rfl,hb⟩;refine ⟨_,rfl,?_⟩;have n0_:=A_ (blk_below (g:=gb282) (o:=.cells #[.int .i64 0,.int .i64 0] 36 (0,0)) (by (with_reducible repeat (first|refine blk_drewN ?_ _|refine blk_drew ?_|refine blk_alloc ?_ _));refine blk_far ?_ NB282_284.out _;(with_reducible repeat (first|refine blk_drewN ?_ _|refine blk_drew ?_|refine blk_alloc ?_ _));refine blk_far ?_ NB282_284.out _;(with_reducible repeat (first|refine blk_drewN ?_ _|refine blk_drew ?_|refine blk_alloc ?_ _));exact BK282.out) hb);have n1_:=A_ (blk_below (g:=gb284) (o:=.cells #[.int .i64 (wrap64 (Int.tdiv a0 t283)),.int .i64 (wrap64 (Int.tdiv a1 t283))] 36 (0,0)) (by (with_reducible repeat (first|refine blk_drewN ?_ _|refine blk_drew ?_|refine blk_alloc ?_ _));refine blk_put (cs:=#[.int .i64 (wrap64 (Int.tdiv a0 t283)),.int .i64 0]) ?_ 1 _ rfl;(with_reducible repeat (first|refine blk_drewN ?_ _|refine blk_drew ?_|refine blk_alloc ?_ _));refine blk_put (cs:=#[.int .i64 0,.int .i64 0]) ?_ 0 _ rfl;(with_reducible repeat (first|refine blk_drewN ?_ _|refine blk_drew ?_|refine blk_alloc ?_ _));exact BK284.out) hb);have n2_:=A_ (below_step (by repeat (first|(with_reducible first|exact HB.out|apply ba|apply bb|apply bc|refine below_set ?_ GE282.out|refine below_set ?_ GE284.out)|exact HB.out)) hb);clear BK282;clear BK284;clear HB;have BK282:=n0_;have BK284:=n1_;have HB:=n2_;clear n0_ n1_ n2_;(try clear hb);(try clear hb2);(try clear hk);(try clear hi);have hcz28_0 : w27.cell? ⟨gb282,0,none⟩ = some (.int .i64 0):=(blk_cell BK282.out 0).trans rfl;have hcz28_1 : w27.cell? ⟨gb282,1,none⟩ = some (.int .i64 0):=(blk_cell BK282.out 1).trans rfl;have hfz28_0:=blk_frozen BK282.out 0;have hfz28_1:=blk_frozen BK282.out 1))
      refine bodyPost_ret (results_ct rfl _ _ gb282 36 #[.int .i64 0,.int .i64 0] (0,0) _ rfl (by (with_reducible repeat (first|refine blk_drewN ?_ _|refine blk_drew ?_|refine blk_alloc ?_ _));refine blk_put (cs:=#[.int .i64 0,.int .i64 0]) ?_ 1 _ rfl;(with_reducible repeat (first|refine blk_drewN ?_ _|refine blk_drew ?_|refine blk_alloc ?_ _));refine blk_put (cs:=#[.int .i64 0,.int .i64 0]) ?_ 0 _ rfl;(with_reducible repeat (first|refine blk_drewN ?_ _|refine blk_drew ?_|refine blk_alloc ?_ _));exact BK282.out) Try.underlying36 rfl (by kernel_rfl)) rfl ?_
      exact ⟨by first|rfl|(simp [errW_none,errW_some] <;> rfl)|(simp [*,errW_none,errW_some] <;> rfl),by repeat (first|(with_reducible first|exact HB.out|apply ba|apply bb|apply bc|refine below_set ?_ GE282.out|refine below_set ?_ GE284.out)|exact HB.out)⟩

end Go.Proofs.Ytodipcfbgnljeaa.PChannelsOrder
