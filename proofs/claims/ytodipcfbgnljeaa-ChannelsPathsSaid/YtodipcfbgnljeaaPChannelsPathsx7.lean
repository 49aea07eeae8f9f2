/- This file proves, function by function, what the Go functions that one law uses compute; most of it was printed by a program (wip/tools of this session, over the kit's print). -/
import Derived.Test.YtodipcfbgnljeaaPChannelsPathsx0
import Derived.Test.YtodipcfbgnljeaaPChannelsPathsx5
import Derived.Test.YtodipcfbgnljeaaPChannelsPathsx6
namespace Go.Proofs.Ytodipcfbgnljeaa.PChannelsPaths
open Go.RowKit Go.Proofs.YtodipcfbgnljeaaW.PrintWords Go.Proofs.YtodipcfbgnljeaaW.PrintLast Go.Proofs.YtodipcfbgnljeaaW.PrintMore
attribute [local go_sem] max2_int min2_int max_two min_two max_three min_three max_four min_four   -- for this text's walks alone
set_option linter.unusedVariables false
set_option linter.unusedSimpArgs false

/-! ### shapesearchref14_Costs: function 39 -/
mutual
def shapesearchref14_Costs.l0 : Nat → List Int → List Int → List (List Int) → Int → Int → Option ((List (List Int)))
 | 0,_,_,_,_,_=>none
 | k + 1,x0,x1,x5,x12,x13=>if x13 < x12 then (shapesearchref14_Costs.l1 k x0 x1 x5 x13 x12 x13 (x1.length : Int) 0) else (some x5)
def shapesearchref14_Costs.l1 : Nat → List Int → List Int → List (List Int) → Int → Int → Int → Int → Int → Option ((List (List Int)))
 | 0,_,_,_,_,_,_,_,_=>none
 | k + 1,x0,x1,x5,x6,x12,x13,x17,x18=>if x18 < x17 then (if 0 ≤ x6 then (if x6 < (x5.length : Int) then (if x6 < (x0.length : Int) then (if 0 ≤ x18 then (if x18 < (x1.length : Int) then (if (rd_L1 x5 x6).length < 17592186044416 then (shapesearchref14_Costs.l1 k x0 x1 (x5.set (x6 : Int).toNat ((rd_L1 x5 x6) ++ [wrap64 ((wrap64 ((rd x0 x6) - (rd x1 x18))) * (wrap64 ((rd x0 x6) - (rd x1 x18))))])) x6 x12 x13 x17 (wrap64 (x18 + 1))) else (none)) else (none)) else (none)) else (none)) else (none)) else (none)) else (shapesearchref14_Costs.l0 k x0 x1 x5 x12 (wrap64 (x13 + 1)))
end
def shapesearchref14_Costs.f (k : Nat) (l0 : List Int) (l1 : List Int) : Option ((List (List Int))):=if 0 ≤ (l0.length : Int) then (if ((l0.length : Int) : Int).toNat ≤ 11728124029610 then (shapesearchref14_Costs.l0 k l0 l1 (List.replicate ((l0.length : Int) : Int).toNat []) (l0.length : Int) 0) else (none)) else (none)
theorem shapesearchref14_Costs.mono_l : ∀ k,(∀ y0 y1 y2 y3 y4,LeO (shapesearchref14_Costs.l0 k y0 y1 y2 y3 y4) (shapesearchref14_Costs.l0 (k + 1) y0 y1 y2 y3 y4))∧(∀ y0 y1 y2 y3 y4 y5 y6 y7,LeO (shapesearchref14_Costs.l1 k y0 y1 y2 y3 y4 y5 y6 y7) (shapesearchref14_Costs.l1 (k + 1) y0 y1 y2 y3 y4 y5 y6 y7))
 | 0=>⟨fun _ _ _ _ _ r h=>by simp [shapesearchref14_Costs.l0] at h,fun _ _ _ _ _ _ _ _ r h=>by simp [shapesearchref14_Costs.l1] at h⟩
 | k + 1=>by
  obtain ⟨ih0,ih1⟩:=shapesearchref14_Costs.mono_l k
  refine ⟨?_,?_⟩
  ·
   intro y0 y1 y2 y3 y4
   unfold shapesearchref14_Costs.l0
   repeat' first
   | (with_reducible exact ih0 _ _ _ _ _)
   | (with_reducible exact ih1 _ _ _ _ _ _ _ _)
   | (with_reducible exact LeO.refl _)
   | (with_reducible exact LeO.none _)
   | (with_reducible refine LeO.ite ?_ ?_)
   | (with_reducible refine LeO.bind ?_ (fun _=>?_))
   | exact ih0 _ _ _ _ _
   | exact ih1 _ _ _ _ _ _ _ _
   | exact LeO.none _
   | refine LeO.ite ?_ ?_
   | refine LeO.bind ?_ (fun _=>?_)
  ·
   intro y0 y1 y2 y3 y4 y5 y6 y7
   unfold shapesearchref14_Costs.l1
   repeat' first
   | (with_reducible exact ih0 _ _ _ _ _)
   | (with_reducible exact ih1 _ _ _ _ _ _ _ _)
   | (with_reducible exact LeO.refl _)
   | (with_reducible exact LeO.none _)
   | (with_reducible refine LeO.ite ?_ ?_)
   | (with_reducible refine LeO.bind ?_ (fun _=>?_))
   | exact ih0 _ _ _ _ _
   | exact ih1 _ _ _ _ _ _ _ _
   | exact LeO.none _
   | refine LeO.ite ?_ ?_
   | refine LeO.bind ?_ (fun _=>?_)
theorem shapesearchref14_Costs.mono : ∀ a0 a1 k,LeO (shapesearchref14_Costs.f k a0 a1) (shapesearchref14_Costs.f (k + 1) a0 a1):=by
 intro a0 a1 k
 obtain ⟨ih0,ih1⟩:=shapesearchref14_Costs.mono_l k
 unfold shapesearchref14_Costs.f
 repeat' first
   | (with_reducible exact ih0 _ _ _ _ _)
   | (with_reducible exact ih1 _ _ _ _ _ _ _ _)
   | (with_reducible exact LeO.refl _)
   | (with_reducible exact LeO.none _)
   | (with_reducible refine LeO.ite ?_ ?_)
   | (with_reducible refine LeO.bind ?_ (fun _=>?_))
   | exact ih0 _ _ _ _ _
   | exact ih1 _ _ _ _ _ _ _ _
   | exact LeO.none _
   | refine LeO.ite ?_ ?_
   | refine LeO.bind ?_ (fun _=>?_)
def shapesearchref14_Costs.T8 : Bool × List (List Nat × List Nat):=(true,[([],[]),([],[]),([],[]),([],[]),([2,3],[2,3]),([4],[4]),([],[]),([],[]),([6,7],[6,7]),([8],[8]),([],[]),([],[]),([10,11],[10,11]),([12],[12]),([9,13],[9,13]),([],[]),([],[]),([15,16],[15,16]),([17],[17]),([],[]),([],[]),([19,20],[19,20]),([21],[21]),([18,22],[18,22]),([14,23],[14,23]),([24],[24]),([5,25],[5,25]),([0,1,0,1,2,3,4,5,6,7,8,9,10,11,12,13,14,15,16,17,18,19,20,21,22,23,24,25,26],[0,1]),([27,26,26,0,1,2,3,4,5,6,7,8,9,10,11,12,13,14,15,16,17,18,19,20,21,22,23,24,25,26],[26,27])])
def shapesearchref14_Costs.B8 : List Nat:=[0,0,0,0,12,28,0,0,192,448,0,0,3072,7168,16320,0,0,98304,229376,0,0,1572864,3670016,8355840,16777152,33554368,67108860,134217727,268435455]
theorem shapesearchref14_Costs.tab8 : rtab .any (opsOf Try.f39 8) = shapesearchref14_Costs.T8:=by kernel_rfl
theorem shapesearchref14_Costs.bits8 : waitsOk shapesearchref14_Costs.T8.2 shapesearchref14_Costs.B8 = true:=by kernel_rfl
set_option maxHeartbeats 8000000 in
set_option maxRecDepth 100000 in
theorem shapesearchref14_Costs.calls (k : Nat) (A0 : Option Addr) (c0 : Nat) (l0 : List Int) (A1 : Option Addr) (c1 : Nat) (l1 : List Int) (r : List (List Int)) (w : World) (hr0 : Kd.C (Kd.int .i64) w A0 l0.length l0) (hc0 : l0.length ≤ c0) (hr1 : Kd.C (Kd.int .i64) w A1 l1.length l1) (hc1 : l1.length ≤ c1) (h : shapesearchref14_Costs.f k l0 l1 = some r) :
  Calls Try.prog 39 #[.slice A0 l0.length c0,.slice A1 l1.length c1] w fun e w'=>∃ v0_ : Value,e = .returned (v0_)∧Kd.S (Kd.slice 3 (Kd.int .i64)) 22 w' w.heap.size (fun _=>True) v0_ r∧Below w.heap.size w w':=by
 have HR0:=A_ hr0
 have HC0:=A_ hc0
 clear hr0 hc0
 have HR1:=A_ hr1
 have HC1:=A_ hc1
 clear hr1 hc1
 have HB:=A_ (Below.refl w.heap.size w)
 have H : (if 0 ≤ (l0.length : Int) then (if ((l0.length : Int) : Int).toNat ≤ 11728124029610 then (shapesearchref14_Costs.l0 k l0 l1 (List.replicate ((l0.length : Int) : Int).toNat []) (l0.length : Int) 0) else (none)) else (none)) = some r:=h
 clear h
 by_cases c3 : 0 ≤ (l0.length : Int)
 ·
  rw [if_pos c3] at H
  have c3b0:=eq_true c3
  have c3b1 : decide (0 ≤ (l0.length : Int)) = true:=decide_eq_true c3
  clear c3
  by_cases c4 : ((l0.length : Int) : Int).toNat ≤ 11728124029610
  ·
   rw [if_pos c4] at H
   have c4b0:=eq_true c4
   have c4b1 : decide (((l0.length : Int) : Int).toNat ≤ 11728124029610) = true:=decide_eq_true c4
   clear c4
   obtain ⟨y284,hy284⟩ : ∃ y_ : List (List Int),y_ = (List.replicate ((l0.length : Int) : Int).toNat []):=⟨_,rfl⟩
   replace H : (shapesearchref14_Costs.l0 k l0 l1 y284 (l0.length : Int) 0) = some r:=by first|(rw [hy284];with_reducible exact H)|(have H2_:=(Option.bind_some _ _).symm.trans H;rw [hy284];with_reducible exact H2_)|(have H2_:=(Option.bind_some _ _).symm.trans H;with_reducible exact H2_)|with_reducible exact H|(rw [hy284];exact H)|exact H
   have Ny284:=A_ hy284
   clear hy284
   have H':=A_ H
   clear H
   go_enter Try.func39,Try.ntmps39
   go_wp2_with (first|((with_reducible refine gate_dst (N:=10) rfl ?_);refine Kd.S_make (Kd.slice 3 (Kd.int .i64)) _ 22 rfl (N:=10) rfl 23 _ _ rfl (l0.length : Int) rfl rfl Try.underlying23 (.slice none 0 0) 24 info22 rfl (by decide) (by omega) [] (ok:=fun _=>True) (okp:=fun _=>True) ⟨_,rfl,Kd.R_nil _ _ _ _ _⟩ (fun _ hk=>hk) trivial (of_decide_eq_true (by first|(with_reducible assumption)|assumption)) (Nat.le_trans (Nat.mul_le_mul_right _ (of_decide_eq_true (by first|(with_reducible assumption)|assumption) : (l0.length : Int).toNat ≤ 11728124029610)) (by omega)) (Below.refl _ _) (Nat.le_refl _) ?_;intro v285 w5 ho6 hb hg_ hnew_;clear hg_ hnew_;(first|rw [← Ny284.out] at ho6|(simp only [Int.reduceToNat] at ho6;rw [← Ny284.out] at ho6));have n0_:=A_ (Kd.S_lower ho6 (below_size (by repeat (first|(with_reducible first|exact HB.out|apply ba|apply bb|apply bc)|exact HB.out))));have n1_:=A_ (below_step (by repeat (first|(with_reducible first|exact HB.out|apply ba|apply bb|apply bc)|exact HB.out)) hb);clear HB;have HO286:=n0_;have HB:=n1_;clear n0_ n1_;clear hb ho6))
   go_loopg [13] k (fun kq v13 w'=>∃ (x5_1 : List (List Int)) (x13_1 : Int),v13 = .int .i64 x13_1∧Aside0 (shapesearchref14_Costs.l0 kq l0 l1 x5_1 (l0.length : Int) x13_1 = some r)∧Aside0 (kq ≤ k)∧Aside0 (Kd.S (Kd.slice 3 (Kd.int .i64)) 22 w' w.heap.size (fun _=>True) v285 x5_1)∧Aside0 (Below w.heap.size w w'))
   case atStart=>exact ⟨(y284),(0),(by first|rfl|(simp;done)|(simp [*];done)),H',⟨Nat.le_refl _⟩,⟨by (with_reducible repeat (first|apply sa_|apply sd_|apply se_));exact HO286.out⟩,⟨by repeat (first|(with_reducible first|exact HB.out|apply ba|apply bb|apply bc)|exact HB.out)⟩⟩
   case round =>
    clear H'
    try clear c1
    try clear p2
    try clear c3
    try clear c3b0
    try clear c3b1
    try clear c4
    try clear c4b0
    try clear c4b1
    obtain ⟨x5_1,x13_1,rfl,HA,HK1,HO_5,HB⟩:=hrel
    cases gk with
    | zero=>exact absurd HA.out (by simp [shapesearchref14_Costs.l0])
    | succ k1 =>
     have H:=HA.out
     clear HA
     simp only [shapesearchref14_Costs.l0] at H
     by_cases c7 : x13_1 < (l0.length : Int)
     ·
      rw [if_pos c7] at H
      have c7b0 : decide (x13_1 < (l0.length : Int)) = true:=decide_eq_true c7
      clear c7
      have H':=A_ H
      clear H
      go_wp2
      go_loopg [18] k1 (fun kq v18 w'=>∃ (x5_2 : List (List Int)) (x18_2 : Int),v18 = .int .i64 x18_2∧Aside0 (shapesearchref14_Costs.l1 kq l0 l1 x5_2 x13_1 (l0.length : Int) x13_1 (l1.length : Int) x18_2 = some r)∧Aside0 (kq ≤ k1)∧Aside0 (Kd.S (Kd.slice 3 (Kd.int .i64)) 22 w' w.heap.size (fun _=>True) v285 x5_2)∧Aside0 (Below w.heap.size w w'))
      case atStart=>exact ⟨(x5_1),(0),(by first|rfl|(simp;done)|(simp [*];done)),H',⟨Nat.le_refl _⟩,⟨by (with_reducible repeat (first|apply sa_|apply sd_|apply se_));exact HO_5.out⟩,⟨by repeat (first|(with_reducible first|exact HB.out|apply ba|apply bb|apply bc)|exact HB.out)⟩⟩
      case round =>
       clear H'
       try clear c1
       try clear p2
       try clear c3
       try clear c3b0
       try clear c3b1
       try clear c4
       try clear c4b0
       try clear c4b1
       try clear c7
       try clear c7b0
       try clear p2
       obtain ⟨x5_2,x18_2,rfl,HA,HK2,HO_5,HB⟩:=hrel
       cases gk with
       | zero=>exact absurd HA.out (by simp [shapesearchref14_Costs.l1])
       | succ k2 =>
        have H:=HA.out
        clear HA
        simp only [shapesearchref14_Costs.l1] at H
        by_cases c8 : x18_2 < (l1.length : Int)
        ·
         rw [if_pos c8] at H
         have c8b0 : decide (x18_2 < (l1.length : Int)) = true:=decide_eq_true c8
         clear c8
         by_cases c9 : 0 ≤ x13_1
         ·
          rw [if_pos c9] at H
          have c9b0 : decide (0 ≤ x13_1) = true:=decide_eq_true c9
          clear c9
          by_cases c10 : x13_1 < (x5_2.length : Int)
          ·
           rw [if_pos c10] at H
           have c10b0 : decide (x13_1 < (x5_2.length : Int)) = true:=decide_eq_true c10
           clear c10
           by_cases c11 : x13_1 < (l0.length : Int)
           ·
            rw [if_pos c11] at H
            have c11b0 : decide (x13_1 < (l0.length : Int)) = true:=decide_eq_true c11
            clear c11
            by_cases c12 : 0 ≤ x18_2
            ·
             rw [if_pos c12] at H
             have c12b0 : decide (0 ≤ x18_2) = true:=decide_eq_true c12
             clear c12
             by_cases c13 : x18_2 < (l1.length : Int)
             ·
              rw [if_pos c13] at H
              have c13b0 : decide (x18_2 < (l1.length : Int)) = true:=decide_eq_true c13
              clear c13
              by_cases c14 : (rd_L1 x5_2 x13_1).length < 17592186044416
              ·
               rw [if_pos c14] at H
               have LMc14:=A_ c14
               clear c14
               obtain ⟨y292,hy292⟩ : ∃ y_ : List Int,y_ = ((rd_L1 x5_2 x13_1) ++ [wrap64 ((wrap64 ((rd l0 x13_1) - (rd l1 x18_2))) * (wrap64 ((rd l0 x13_1) - (rd l1 x18_2))))]):=⟨_,rfl⟩
               replace H : (shapesearchref14_Costs.l1 k2 l0 l1 (x5_2.set (x13_1 : Int).toNat y292) x13_1 (l0.length : Int) x13_1 (l1.length : Int) (wrap64 (x18_2 + 1))) = some r:=by first|(rw [hy292];with_reducible exact H)|(have H2_:=(Option.bind_some _ _).symm.trans H;rw [hy292];with_reducible exact H2_)|(have H2_:=(Option.bind_some _ _).symm.trans H;with_reducible exact H2_)|with_reducible exact H|(rw [hy292];exact H)|exact H
               have Ny292:=A_ hy292
               clear hy292
               obtain ⟨y295,hy295⟩ : ∃ y_ : List (List Int),y_ = (x5_2.set (x13_1 : Int).toNat y292):=⟨_,rfl⟩
               replace H : (shapesearchref14_Costs.l1 k2 l0 l1 y295 x13_1 (l0.length : Int) x13_1 (l1.length : Int) (wrap64 (x18_2 + 1))) = some r:=by first|(rw [hy295];with_reducible exact H)|(have H2_:=(Option.bind_some _ _).symm.trans H;rw [hy295];with_reducible exact H2_)|(have H2_:=(Option.bind_some _ _).symm.trans H;with_reducible exact H2_)|with_reducible exact H|(rw [hy295];exact H)|exact H
               have Ny295:=A_ hy295
               clear hy295
               have H':=A_ H
               clear H
               try go_wp2
               have n0_:=A_ (Kd.S_drew HO_5.out)
               have n1_:=A_ (below_drew1 HB.out)
               clear HO_5
               clear HB
               have HO_5:=n0_
               have HB:=n1_
               clear n0_ n1_
               obtain ⟨Ao17,co17,eo17⟩:=Kd.S_slice HO_5.out
               (first|subst eo17|(injection eo17 with f1_ f2_ f3_;have f4_:=f1_.symm;have f5_:=f3_.symm;clear f1_ f2_ f3_;subst f4_;subst f5_))
               have p287 : 0 ≤ (x13_1 : Int):=of_decide_eq_true (by first|(with_reducible assumption)|assumption)
               have q287 : x13_1 < (x5_2.length : Int):=of_decide_eq_true (by first|(with_reducible assumption)|assumption)
               obtain ⟨ad287,A287_0,c287_0,e287,hx287_0,hl287_0,hi287_0⟩:=at_L1 (Kd.S_reads' HO_5.out).2.2 x13_1 p287 q287
               cases e287
               obtain ⟨ce287,hce287,hMe287,hcc287⟩:=Kd.S_get HO_5.out [] x13_1 p287 (by first|exact q287|exact of_decide_eq_true (by first|(with_reducible assumption)|assumption)|(have e_:=(Kd.S_reads' HO_5.out).1;omega))
               obtain ⟨ve287_0,rfl,ge287_0⟩:=hMe287
               have hv287_0:=hcc287 0 _ rfl
               rw [Nat.add_zero,show ((Kd.slice 3 (Kd.int .i64))).sz = 1 from rfl,Nat.mul_one] at hv287_0
               replace hv287_0:=Option.some.inj (hv287_0.symm.trans hx287_0)
               rw [hv287_0] at ge287_0
               have HL287_0:=A_ (show Kd.R (Kd.int .i64) 3 _ _ _ _ (rd_L1 x5_2 x13_1) from ge287_0)
               clear hv287_0 ge287_0
               have HX287_0:=A_ hx287_0
               clear hcc287 hce287
               have HR287_0:=A_ hi287_0
               have HC287_0:=A_ hl287_0
               clear hi287_0 hl287_0
               replace p287:=eq_true p287
               replace q287:=eq_true q287
               have p288 : 0 ≤ (x13_1 : Int):=of_decide_eq_true (by first|(with_reducible assumption)|assumption)
               have q288 : x13_1 < (l0.length : Int):=of_decide_eq_true (by first|(with_reducible assumption)|assumption)
               obtain ⟨ad288,e288,hx288_0⟩:=Kd.at_int HR0.out x13_1 p288 q288
               have hw288_0:=hx288_0
               cases e288
               replace hx288_0:=(HB.out.cell (World.block_lt_of_cell? w _ hx288_0)).trans hx288_0
               replace p288:=eq_true p288
               replace q288:=eq_true q288
               have p289 : 0 ≤ (x18_2 : Int):=of_decide_eq_true (by first|(with_reducible assumption)|assumption)
               have q289 : x18_2 < (l1.length : Int):=of_decide_eq_true (by first|(with_reducible assumption)|assumption)
               obtain ⟨ad289,e289,hx289_0⟩:=Kd.at_int HR1.out x18_2 p289 q289
               have hw289_0:=hx289_0
               cases e289
               replace hx289_0:=(HB.out.cell (World.block_lt_of_cell? w _ hx289_0)).trans hx289_0
               replace p289:=eq_true p289
               replace q289:=eq_true q289
               have p290 : 0 ≤ (x13_1 : Int):=of_decide_eq_true (by first|(with_reducible assumption)|assumption)
               have q290 : x13_1 < (l0.length : Int):=of_decide_eq_true (by first|(with_reducible assumption)|assumption)
               obtain ⟨ad290,e290,hx290_0⟩:=Kd.at_int HR0.out x13_1 p290 q290
               have hw290_0:=hx290_0
               obtain rfl : ad288 = ad290:=(by injection e290)
               replace hx290_0:=(HB.out.cell (World.block_lt_of_cell? w _ hx290_0)).trans hx290_0
               replace p290:=eq_true p290
               replace q290:=eq_true q290
               have p291 : 0 ≤ (x18_2 : Int):=of_decide_eq_true (by first|(with_reducible assumption)|assumption)
               have q291 : x18_2 < (l1.length : Int):=of_decide_eq_true (by first|(with_reducible assumption)|assumption)
               obtain ⟨ad291,e291,hx291_0⟩:=Kd.at_int HR1.out x18_2 p291 q291
               have hw291_0:=hx291_0
               obtain rfl : ad289 = ad291:=(by injection e291)
               replace hx291_0:=(HB.out.cell (World.block_lt_of_cell? w _ hx291_0)).trans hx291_0
               replace p291:=eq_true p291
               replace q291:=eq_true q291
               obtain ⟨go18,co18,eo18,gb18,gl18,cl18,HG18⟩:=Kd.S_form HO_5.out (by have h_ : (x13_1 : Int) < ((x5_2.length : Int) : Int):=of_decide_eq_true (by first|(with_reducible assumption)|assumption);have h2_ : 0 ≤ (x13_1 : Int):=(of_decide_eq_true (by first|(with_reducible assumption)|assumption));omega)
               (first|cases eo18|(injection eo18 with ea_ en_ ec_;(first|subst ea_|(injection ea_ with ea_;subst ea_));subst ec_;clear en_))
               have GB18:=A_ gb18
               have GG18:=A_ HG18
               clear gb18 gl18 HG18
               (first|simp only [add_plain] at hx287_0|skip)
               obtain ⟨oki18,ce18,hcl18,hM18,hcc18,_,_,hH18⟩:=Kd.S_elem HO_5.out [] (x13_1 : Int) (of_decide_eq_true (by first|(with_reducible assumption)|assumption)) (by have h_ : (x13_1 : Int) < ((x5_2.length : Int) : Int):=of_decide_eq_true (by first|(with_reducible assumption)|assumption);first|exact h_|(have e_:=(Kd.S_reads' HO_5.out).1;omega)|simpa using h_)
               obtain ⟨ve18_0,rfl,ge18_0⟩:=hM18
               have hv18:=hcc18 0 _ rfl
               have hX18:=HX287_0.out
               (try simp only [add_plain] at hX18)
               (try simp only [Nat.add_zero] at hv18)
               (try rw [show ((Kd.slice 3 (Kd.int .i64))).sz = 1 from rfl,Nat.mul_one] at hv18)
               replace hv18:=Option.some.inj (hv18.symm.trans hX18)
               subst hv18
               clear hX18 hcc18 hcl18
               have UU18:=A_ (show Kd.R (Kd.int .i64) 3 _ w.heap.size oki18 (.slice A287_0 (rd_L1 x5_2 x13_1).length c287_0) (rd_L1 x5_2 x13_1) from ge18_0)
               have HH18:=A_ hH18
               have HN18:=A_ (Kd.S_reads' HO_5.out).1
               clear hH18 ge18_0
               refine start_ (n:=29) (S:=fun w'=>w'.cell? ⟨go18,(x13_1).toNat,none⟩ = some (.slice A287_0 (rd_L1 x5_2 x13_1).length c287_0)∧w'.cell? (ad288.add (x13_1).toNat) = some (.int .i64 (rd l0 x13_1))∧w'.cell? (ad289.add (x18_2).toNat) = some (.int .i64 (rd l1 x18_2))∧w'.cell? (ad288.add (x13_1).toNat) = some (.int .i64 (rd l0 x13_1))∧w'.cell? (ad289.add (x18_2).toNat) = some (.int .i64 (rd l1 x18_2))) (ds:=[28]) #[false,false,false,false,false,false,false,false,false,false,false,false,false,false,false,false,false,false,false,false,false,false,false,false,false,false,false,false,false] (by kernel_rfl) rfl rfl ⟨hx287_0,((HB.out.cell (World.block_lt_of_cell? w _ hw288_0)).trans hw288_0),((HB.out.cell (World.block_lt_of_cell? w _ hw289_0)).trans hw289_0),((HB.out.cell (World.block_lt_of_cell? w _ hw290_0)).trans hw290_0),((HB.out.cell (World.block_lt_of_cell? w _ hw291_0)).trans hw291_0)⟩ (fun hHeld=>?_);refine with_tabW shapesearchref14_Costs.tab8 shapesearchref14_Costs.bits8 (fun HT_ HW_=>?_)
               generalize wr.drew = w16 at HO_5 HB GG18 HH18 HL287_0 HR287_0 HX287_0 UU18 hx287_0 hx288_0 hx289_0 hx290_0 hx291_0 hHeld ⊢
               refine pure_ (i:=0) (N:=some 21) (v:=?_) (a':=?_) #[true,false,false,false,false,false,false,false,false,false,false,false,false,false,false,false,false,false,false,false,false,false,false,false,false,false,false,false,false] rfl rfl (any_of HT_.out (by kernel_rfl)) (fun _ _ _ h=>h) (Or.inl ⟨by rfl,?_⟩) ?_ ?_
               rotate_left
               ·
                intro w'
                go_simp
                with_reducible rfl
               rotate_left
               ·
                simp only [Act.put,sa,sb,sc,i64_w,i32_w]
                rfl
               refine pure_ (i:=1) (N:=some 22) (v:=?_) (a':=?_) #[true,true,false,false,false,false,false,false,false,false,false,false,false,false,false,false,false,false,false,false,false,false,false,false,false,false,false,false,false] rfl rfl (any_of HT_.out (by kernel_rfl)) (fun _ _ _ h=>h) (Or.inl ⟨by rfl,?_⟩) ?_ ?_
               rotate_left
               ·
                intro w'
                go_simp
                with_reducible rfl
               rotate_left
               ·
                simp only [Act.put,sa,sb,sc,i64_w,i32_w]
                rfl
               refine pure_ (i:=2) (N:=some 23) (v:=?_) (a':=?_) #[true,true,true,false,false,false,false,false,false,false,false,false,false,false,false,false,false,false,false,false,false,false,false,false,false,false,false,false,false] rfl rfl (any_of HT_.out (by kernel_rfl)) (fun _ _ _ h=>h) (Or.inl ⟨by rfl,?_⟩) ?_ ?_
               rotate_left
               ·
                intro w'
                go_simp
                with_reducible rfl
               rotate_left
               ·
                simp only [Act.put,sa,sb,sc,i64_w,i32_w]
                rfl
               refine pure_ (i:=3) (N:=some 24) (v:=?_) (a':=?_) #[true,true,true,true,false,false,false,false,false,false,false,false,false,false,false,false,false,false,false,false,false,false,false,false,false,false,false,false,false] rfl rfl (any_of HT_.out (by kernel_rfl)) (fun _ _ _ h=>h) (Or.inl ⟨by rfl,?_⟩) ?_ ?_
               rotate_left
               ·
                intro w'
                go_simp
                with_reducible rfl
               rotate_left
               ·
                simp only [Act.put,sa,sb,sc,i64_w,i32_w]
                rfl
               refine pure_ (i:=4) (N:=some 25) (v:=?_) (a':=?_) #[true,true,true,true,true,false,false,false,false,false,false,false,false,false,false,false,false,false,false,false,false,false,false,false,false,false,false,false,false] rfl rfl (any_of HT_.out (by kernel_rfl)) (fun _ _ _ h=>h) (Or.inl ⟨by rfl,?_⟩) ?_ ?_
               rotate_left
               ·
                intro w'
                go_simp
                with_reducible rfl
               rotate_left
               ·
                simp only [Act.put,sa,sb,sc,i64_w,i32_w]
                rfl
               refine pure_ (i:=6) (N:=some 27) (v:=?_) (a':=?_) #[true,true,true,true,true,false,true,false,false,false,false,false,false,false,false,false,false,false,false,false,false,false,false,false,false,false,false,false,false] rfl rfl (any_of HT_.out (by kernel_rfl)) (fun _ _ _ h=>h) (Or.inl ⟨by rfl,?_⟩) ?_ ?_
               rotate_left
               ·
                intro w'
                go_simp
                with_reducible rfl
               rotate_left
               ·
                simp only [Act.put,sa,sb,sc,i64_w,i32_w]
                rfl
               refine pure_ (i:=7) (N:=some 28) (v:=?_) (a':=?_) #[true,true,true,true,true,false,true,true,false,false,false,false,false,false,false,false,false,false,false,false,false,false,false,false,false,false,false,false,false] rfl rfl (any_of HT_.out (by kernel_rfl)) (fun _ _ _ h=>h) (Or.inl ⟨by rfl,?_⟩) ?_ ?_
               rotate_left
               ·
                intro w'
                go_simp
                with_reducible rfl
               rotate_left
               ·
                simp only [Act.put,sa,sb,sc,i64_w,i32_w]
                rfl
               refine pure_ (i:=8) (N:=some 29) (v:=?_) (a':=?_) #[true,true,true,true,true,false,true,true,true,false,false,false,false,false,false,false,false,false,false,false,false,false,false,false,false,false,false,false,false] rfl rfl (any_of HT_.out (by kernel_rfl)) (fun _ _ _ h=>h) (Or.inl ⟨by rfl,?_⟩) ?_ ?_
               rotate_left
               ·
                intro w'
                go_simp
                with_reducible rfl
               rotate_left
               ·
                simp only [Act.put,sa,sb,sc,i64_w,i32_w]
                rfl
               refine pure_ (i:=10) (N:=some 31) (v:=?_) (a':=?_) #[true,true,true,true,true,false,true,true,true,false,true,false,false,false,false,false,false,false,false,false,false,false,false,false,false,false,false,false,false] rfl rfl (any_of HT_.out (by kernel_rfl)) (fun _ _ _ h=>h) (Or.inl ⟨by rfl,?_⟩) ?_ ?_
               rotate_left
               ·
                intro w'
                go_simp
                with_reducible rfl
               rotate_left
               ·
                simp only [Act.put,sa,sb,sc,i64_w,i32_w]
                rfl
               refine pure_ (i:=11) (N:=some 32) (v:=?_) (a':=?_) #[true,true,true,true,true,false,true,true,true,false,true,true,false,false,false,false,false,false,false,false,false,false,false,false,false,false,false,false,false] rfl rfl (any_of HT_.out (by kernel_rfl)) (fun _ _ _ h=>h) (Or.inl ⟨by rfl,?_⟩) ?_ ?_
               rotate_left
               ·
                intro w'
                go_simp
                with_reducible rfl
               rotate_left
               ·
                simp only [Act.put,sa,sb,sc,i64_w,i32_w]
                rfl
               refine pure_ (i:=12) (N:=some 33) (v:=?_) (a':=?_) #[true,true,true,true,true,false,true,true,true,false,true,true,true,false,false,false,false,false,false,false,false,false,false,false,false,false,false,false,false] rfl rfl (any_of HT_.out (by kernel_rfl)) (fun _ _ _ h=>h) (Or.inl ⟨by rfl,?_⟩) ?_ ?_
               rotate_left
               ·
                intro w'
                go_simp
                with_reducible rfl
               rotate_left
               ·
                simp only [Act.put,sa,sb,sc,i64_w,i32_w]
                rfl
               refine pure_ (i:=15) (N:=some 36) (v:=?_) (a':=?_) #[true,true,true,true,true,false,true,true,true,false,true,true,true,false,false,true,false,false,false,false,false,false,false,false,false,false,false,false,false] rfl rfl (any_of HT_.out (by kernel_rfl)) (fun _ _ _ h=>h) (Or.inl ⟨by rfl,?_⟩) ?_ ?_
               rotate_left
               ·
                intro w'
                go_simp
                with_reducible rfl
               rotate_left
               ·
                simp only [Act.put,sa,sb,sc,i64_w,i32_w]
                rfl
               refine pure_ (i:=16) (N:=some 37) (v:=?_) (a':=?_) #[true,true,true,true,true,false,true,true,true,false,true,true,true,false,false,true,true,false,false,false,false,false,false,false,false,false,false,false,false] rfl rfl (any_of HT_.out (by kernel_rfl)) (fun _ _ _ h=>h) (Or.inl ⟨by rfl,?_⟩) ?_ ?_
               rotate_left
               ·
                intro w'
                go_simp
                with_reducible rfl
               rotate_left
               ·
                simp only [Act.put,sa,sb,sc,i64_w,i32_w]
                rfl
               refine pure_ (i:=17) (N:=some 38) (v:=?_) (a':=?_) #[true,true,true,true,true,false,true,true,true,false,true,true,true,false,false,true,true,true,false,false,false,false,false,false,false,false,false,false,false] rfl rfl (any_of HT_.out (by kernel_rfl)) (fun _ _ _ h=>h) (Or.inl ⟨by rfl,?_⟩) ?_ ?_
               rotate_left
               ·
                intro w'
                go_simp
                with_reducible rfl
               rotate_left
               ·
                simp only [Act.put,sa,sb,sc,i64_w,i32_w]
                rfl
               refine pure_ (i:=19) (N:=some 40) (v:=?_) (a':=?_) #[true,true,true,true,true,false,true,true,true,false,true,true,true,false,false,true,true,true,false,true,false,false,false,false,false,false,false,false,false] rfl rfl (any_of HT_.out (by kernel_rfl)) (fun _ _ _ h=>h) (Or.inl ⟨by rfl,?_⟩) ?_ ?_
               rotate_left
               ·
                intro w'
                go_simp
                with_reducible rfl
               rotate_left
               ·
                simp only [Act.put,sa,sb,sc,i64_w,i32_w]
                rfl
               refine pure_ (i:=20) (N:=some 41) (v:=?_) (a':=?_) #[true,true,true,true,true,false,true,true,true,false,true,true,true,false,false,true,true,true,false,true,true,false,false,false,false,false,false,false,false] rfl rfl (any_of HT_.out (by kernel_rfl)) (fun _ _ _ h=>h) (Or.inl ⟨by rfl,?_⟩) ?_ ?_
               rotate_left
               ·
                intro w'
                go_simp
                with_reducible rfl
               rotate_left
               ·
                simp only [Act.put,sa,sb,sc,i64_w,i32_w]
                rfl
               refine pure_ (i:=21) (N:=some 42) (v:=?_) (a':=?_) #[true,true,true,true,true,false,true,true,true,false,true,true,true,false,false,true,true,true,false,true,true,true,false,false,false,false,false,false,false] rfl rfl (any_of HT_.out (by kernel_rfl)) (fun _ _ _ h=>h) (Or.inl ⟨by rfl,?_⟩) ?_ ?_
               rotate_left
               ·
                intro w'
                go_simp
                with_reducible rfl
               rotate_left
               ·
                simp only [Act.put,sa,sb,sc,i64_w,i32_w]
                rfl
               refine take_ (i:=5) (N:=some 26) (v:=?_) (a':=?_) #[true,true,true,true,true,true,true,true,true,false,true,true,true,false,false,true,true,true,false,true,true,true,false,false,false,false,false,false,false] rfl rfl (take_ofW HT_.out HW_.out (by kernel_rfl)) (fun _ _ _ h=>h) (Or.inl ⟨by rfl,?_⟩) hHeld ?_ ?_
               rotate_left
               ·
                rintro w' ⟨s0,s1,s2,s3,s4⟩
                go_simp
                with_reducible rfl
               rotate_left
               ·
                simp only [Act.put,sa,sb,sc,i64_w,i32_w]
                rfl
               refine take_ (i:=9) (N:=some 30) (v:=?_) (a':=?_) #[true,true,true,true,true,true,true,true,true,true,true,true,true,false,false,true,true,true,false,true,true,true,false,false,false,false,false,false,false] rfl rfl (take_ofW HT_.out HW_.out (by kernel_rfl)) (fun _ _ _ h=>h) (Or.inl ⟨by rfl,?_⟩) hHeld ?_ ?_
               rotate_left
               ·
                rintro w' ⟨s0,s1,s2,s3,s4⟩
                go_simp
                with_reducible rfl
               rotate_left
               ·
                simp only [Act.put,sa,sb,sc,i64_w,i32_w]
                rfl
               refine take_ (i:=13) (N:=some 34) (v:=?_) (a':=?_) #[true,true,true,true,true,true,true,true,true,true,true,true,true,true,false,true,true,true,false,true,true,true,false,false,false,false,false,false,false] rfl rfl (take_ofW HT_.out HW_.out (by kernel_rfl)) (fun _ _ _ h=>h) (Or.inl ⟨by rfl,?_⟩) hHeld ?_ ?_
               rotate_left
               ·
                rintro w' ⟨s0,s1,s2,s3,s4⟩
                go_simp
                with_reducible rfl
               rotate_left
               ·
                simp only [Act.put,sa,sb,sc,i64_w,i32_w]
                rfl
               refine pure_ (i:=14) (N:=some 35) (v:=?_) (a':=?_) #[true,true,true,true,true,true,true,true,true,true,true,true,true,true,true,true,true,true,false,true,true,true,false,false,false,false,false,false,false] rfl rfl (any_of HT_.out (by kernel_rfl)) (fun _ _ _ h=>h) (Or.inl ⟨by rfl,?_⟩) ?_ ?_
               rotate_left
               ·
                intro w'
                go_simp
                with_reducible rfl
               rotate_left
               ·
                simp only [Act.put,sa,sb,sc,i64_w,i32_w]
                rfl
               refine take_ (i:=18) (N:=some 39) (v:=?_) (a':=?_) #[true,true,true,true,true,true,true,true,true,true,true,true,true,true,true,true,true,true,true,true,true,true,false,false,false,false,false,false,false] rfl rfl (take_ofW HT_.out HW_.out (by kernel_rfl)) (fun _ _ _ h=>h) (Or.inl ⟨by rfl,?_⟩) hHeld ?_ ?_
               rotate_left
               ·
                rintro w' ⟨s0,s1,s2,s3,s4⟩
                go_simp
                with_reducible rfl
               rotate_left
               ·
                simp only [Act.put,sa,sb,sc,i64_w,i32_w]
                rfl
               refine take_ (i:=22) (N:=some 43) (v:=?_) (a':=?_) #[true,true,true,true,true,true,true,true,true,true,true,true,true,true,true,true,true,true,true,true,true,true,true,false,false,false,false,false,false] rfl rfl (take_ofW HT_.out HW_.out (by kernel_rfl)) (fun _ _ _ h=>h) (Or.inl ⟨by rfl,?_⟩) hHeld ?_ ?_
               rotate_left
               ·
                rintro w' ⟨s0,s1,s2,s3,s4⟩
                go_simp
                with_reducible rfl
               rotate_left
               ·
                simp only [Act.put,sa,sb,sc,i64_w,i32_w]
                rfl
               refine pure_ (i:=23) (N:=some 44) (v:=?_) (a':=?_) #[true,true,true,true,true,true,true,true,true,true,true,true,true,true,true,true,true,true,true,true,true,true,true,true,false,false,false,false,false] rfl rfl (any_of HT_.out (by kernel_rfl)) (fun _ _ _ h=>h) (Or.inl ⟨by rfl,?_⟩) ?_ ?_
               rotate_left
               ·
                intro w'
                go_simp
                with_reducible rfl
               rotate_left
               ·
                simp only [Act.put,sa,sb,sc,i64_w,i32_w]
                rfl
               refine pure_ (i:=24) (N:=some 45) (v:=?_) (a':=?_) #[true,true,true,true,true,true,true,true,true,true,true,true,true,true,true,true,true,true,true,true,true,true,true,true,true,false,false,false,false] rfl rfl (any_of HT_.out (by kernel_rfl)) (fun _ _ _ h=>h) (Or.inl ⟨by rfl,?_⟩) ?_ ?_
               rotate_left
               ·
                intro w'
                go_simp
                with_reducible rfl
               rotate_left
               ·
                simp only [Act.put,sa,sb,sc,i64_w,i32_w]
                rfl
               refine one_ (i:=25) (N:=some 46) #[true,true,true,true,true,true,true,true,true,true,true,true,true,true,true,true,true,true,true,true,true,true,true,true,true,true,false,false,false] rfl rfl (one_of HT_.out (by kernel_rfl)) (by decide) (fun K hK=>?_)
               refine value_ (w1:=?_) (v:=?_) (by rfl) rfl ?_ ?_
               rotate_left 2
               ·
                go_simp
                constructor
                ·
                 rfl
                ·
                 rfl
               refine hK.out _ _ ⟨(World.cell?_alloc_lt _ _ _ (World.block_lt_of_cell? _ _ (hHeld.1))).trans (hHeld.1),(World.cell?_alloc_lt _ _ _ (World.block_lt_of_cell? _ _ (((HB.out.cell (World.block_lt_of_cell? w _ hw288_0)).trans hw288_0)))).trans (((HB.out.cell (World.block_lt_of_cell? w _ hw288_0)).trans hw288_0)),(World.cell?_alloc_lt _ _ _ (World.block_lt_of_cell? _ _ (((HB.out.cell (World.block_lt_of_cell? w _ hw289_0)).trans hw289_0)))).trans (((HB.out.cell (World.block_lt_of_cell? w _ hw289_0)).trans hw289_0)),(World.cell?_alloc_lt _ _ _ (World.block_lt_of_cell? _ _ (((HB.out.cell (World.block_lt_of_cell? w _ hw290_0)).trans hw290_0)))).trans (((HB.out.cell (World.block_lt_of_cell? w _ hw290_0)).trans hw290_0)),(World.cell?_alloc_lt _ _ _ (World.block_lt_of_cell? _ _ (((HB.out.cell (World.block_lt_of_cell? w _ hw291_0)).trans hw291_0)))).trans (((HB.out.cell (World.block_lt_of_cell? w _ hw291_0)).trans hw291_0))⟩ (fun hHeld=>?_)
               clear hK K
               refine norm_ (a':=?_) ?_ ?_
               rotate_left
               ·
                show Act.put _ (some 46) _ = _
                simp only [Act.put,sa,sb,sc,i64_w,i32_w]
                rfl
               refine one_ (i:=26) (N:=some 47) #[true,true,true,true,true,true,true,true,true,true,true,true,true,true,true,true,true,true,true,true,true,true,true,true,true,true,true,false,false] rfl rfl (one_of HT_.out (by kernel_rfl)) (by decide) (fun K hK=>?_)
               refine Kd.R_append_step (Kd.int .i64) (w0:=w) w.heap.size (by rfl) (.tmp 26) (.tmp 46) 22 3 (.int .i64 0) 8 rfl Try.underlying22 info3 rfl (by decide) (by omega) (.slice A287_0 (rd_L1 x5_2 x13_1).length c287_0) (rd_L1 x5_2 x13_1) (wrap64 ((wrap64 ((rd l0 x13_1) - (rd l1 x18_2))) * (wrap64 ((rd l0 x13_1) - (rd l1 x18_2))))) [.int .i64 (wrap64 ((wrap64 ((rd l0 x13_1) - (rd l1 x18_2))) * (wrap64 ((rd l0 x13_1) - (rd l1 x18_2)))))] (fun k_=>oki18 k_ ∨ ((fun _=>True)) k_∧w16.heap.size ≤ k_) (fun _=>False) rfl rfl ?aP (fun _ hk=>hk.elim) ?aF ?aO ?aB ?aS ?aL ?_
               (case aP=>exact rfl)
               (case aB=>exact (by repeat (first|(with_reducible first|exact HB.out|apply ba|apply bb|apply bc)|exact HB.out)))
               (case aF=>exact (fun k_ hk=>.inr ⟨trivial,hk⟩))
               (case aO=>exact (by (with_reducible repeat (first|apply ra|apply rb|apply rc));exact rm UU18.out (fun _ hk=>.inl hk)))
               (case aS=>exact (below_size (by repeat (first|(with_reducible first|exact HB.out|apply ba|apply bb|apply bc)|exact HB.out))))
               (case aL=>have:=LMc14.out;omega)
               intro v293 w19 ho hb hg hat
               (first|have HS0_:=cell_grown hg (hHeld.1) (by first|(rw [add_block];exact (fun e_=>((HL287_0.out.1 _ e_.symm).2) rfl))|(show some (Addr.add _ _).block≠_;rw [add_block];exact (fun e_=>((HL287_0.out.1 _ e_.symm).2) rfl))|exact (fun e_=>((HL287_0.out.1 _ e_.symm).2) rfl))|have HS0_:=cell_grown hg (cell_unalloc (hHeld.1) (by first|(rw [add_block];exact Kd.S_lt HO_5.out _ rfl)|(show (Addr.add _ _).block < _;rw [add_block];exact Kd.S_lt HO_5.out _ rfl)|exact Kd.S_lt HO_5.out _ rfl)) (by first|(rw [add_block];exact (fun e_=>((HL287_0.out.1 _ e_.symm).2) rfl))|(show some (Addr.add _ _).block≠_;rw [add_block];exact (fun e_=>((HL287_0.out.1 _ e_.symm).2) rfl))|exact (fun e_=>((HL287_0.out.1 _ e_.symm).2) rfl)))
               rw [← Ny292.out] at ho
               have n0_:=A_ (hb)
               have n1_:=A_ (Kd.H_grown (Kd.H_widen (by repeat (first|exact HH18.out|refine Kd.H_alloc ?_ _|refine Kd.H_drewN ?_ _|refine Kd.H_drew ?_))) hg (fun k_ e_=>.inl (UU18.out.1 k_ e_)))
               have n2_:=A_ (ho)
               clear HB
               clear HH18
               clear HO_5
               clear UU18
               clear HL287_0
               have HB:=n0_
               have HH18:=n1_
               have HO294:=n2_
               clear n0_ n1_ n2_
               clear ho hb hg hat
               have p15 : 0 ≤ (x13_1 : Int):=of_decide_eq_true (by first|(with_reducible assumption)|assumption)
               have q15 : (x13_1 : Int) < ((x5_2.length : Int) : Int):=of_decide_eq_true (by first|(with_reducible assumption)|assumption)
               replace p15:=eq_true p15
               replace q15:=eq_true q15
               obtain ⟨Ao22,co22,eo22⟩:=Kd.R_slice HO294.out
               (first|subst eo22|(injection eo22 with f1_ f2_ f3_;have f4_:=f1_.symm;have f5_:=f3_.symm;clear f1_ f2_ f3_;subst f4_;subst f5_))
               obtain ⟨_,_,hraw20,_,_,hcc20,_⟩:=Kd.H_raw HH18.out (of_decide_eq_true (by first|(with_reducible assumption)|assumption)) (by have h_ : (x13_1 : Int) < ((x5_2.length : Int) : Int):=of_decide_eq_true (by first|(with_reducible assumption)|assumption);first|exact h_|(have e_:=(HN18.out);omega)|simpa using h_)
               obtain ⟨_,hfr20⟩:=Kd.H_at HH18.out (of_decide_eq_true (by first|(with_reducible assumption)|assumption)) (by have h_ : (x13_1 : Int) < ((x5_2.length : Int) : Int):=of_decide_eq_true (by first|(with_reducible assumption)|assumption);first|exact h_|(have e_:=(HN18.out);omega)|simpa using h_)
               have hx20_0:=hcc20 0 _ rfl
               have hf20_0:=hfr20 0
               (try simp only [Nat.add_zero] at hx20_0 hf20_0)
               (try rw [show ((Kd.slice 3 (Kd.int .i64))).sz = 1 from rfl,Nat.mul_one] at hx20_0)
               (try rw [show ((Kd.slice 3 (Kd.int .i64))).sz = 1 from rfl,Nat.mul_one] at hf20_0)
               have HP20:=Kd.S_seg0 HH18.out (of_decide_eq_true (by first|(with_reducible assumption)|assumption)) (by have h_ : (x13_1 : Int) < ((x5_2.length : Int) : Int):=of_decide_eq_true (by first|(with_reducible assumption)|assumption);first|exact h_|(have e_:=(HN18.out);omega)|simpa using h_) (seg:=[.slice Ao22 y292.length co22]) (j:=0) (show 1 ≤ 1 from by decide) (x':=y292) (Kd.M_row HO294.out) (fun _ hk=>hk)
               (try simp only [show ((Kd.slice 3 (Kd.int .i64))).sz = 1 from rfl,Nat.mul_one,Nat.add_zero] at HP20)
               clear hcc20 hfr20
               have HS20:=HP20.1
               rw [← Ny295.out] at HS20
               have HQ20:=A_ HS20
               obtain ⟨_,hgg20⟩:=Kd.R_typed hraw20 go18 rfl
               have GG20_:=A_ hgg20
               clear HP20 HS20 hgg20
               refine hK.out _ _ ⟨HS0_,((HB.out.cell (World.block_lt_of_cell? w _ hw288_0)).trans hw288_0),((HB.out.cell (World.block_lt_of_cell? w _ hw289_0)).trans hw289_0),((HB.out.cell (World.block_lt_of_cell? w _ hw290_0)).trans hw290_0),((HB.out.cell (World.block_lt_of_cell? w _ hw291_0)).trans hw291_0)⟩ (fun hHeld=>?_)
               clear hK K
               refine norm_ (a':=?_) ?_ ?_
               rotate_left
               ·
                show Act.put _ (some 47) _ = _
                simp only [Act.put,sa,sb,sc,i64_w,i32_w]
                rfl
               refine pure_ (i:=27) (N:=some 48) (v:=?_) (a':=?_) #[true,true,true,true,true,true,true,true,true,true,true,true,true,true,true,true,true,true,true,true,true,true,true,true,true,true,true,true,false] rfl rfl (any_of HT_.out (by kernel_rfl)) (fun _ _ _ h=>h) (Or.inl ⟨by rfl,?_⟩) ?_ ?_
               rotate_left
               ·
                intro w'
                go_simp
                with_reducible rfl
               rotate_left
               ·
                simp only [Act.put,sa,sb,sc,i64_w,i32_w]
                rfl
               refine last_ (i:=28) (N:=none) #[true,true,true,true,true,true,true,true,true,true,true,true,true,true,true,true,true,true,true,true,true,true,true,true,true,true,true,true,true] rfl rfl (one_of HT_.out (by kernel_rfl)) (by decide) (fun K hK=>?_)
               refine skip_ (w1:=?_) (by rfl) rfl ?_ ?_
               rotate_left
               ·
                go_simp
                rfl
               refine hK.out _ _ ?_
               clear hK K
               refine done_ (done_of HT_.out (by kernel_rfl)) ?_
               try go_wp2
               go_roundg k2
               case measure=>have:=HK1.out;have:=HK2.out;omega
               case rel=>exact ⟨(y295),(wrap64 (x18_2 + 1)),(by first|rfl|(simp;done)|(simp [*];done)),H',⟨by have:=HK1.out;have:=HK2.out;omega⟩,⟨by (with_reducible repeat (first|apply sa_|apply sd_|apply se_));exact HQ20.out⟩,⟨by repeat (first|(with_reducible first|exact HB.out|apply ba|apply bb|apply bc|refine below_set ?_ GB18.out)|exact HB.out)⟩⟩
              ·
               rw [if_neg c14] at H
               exact absurd H (by simp)
             ·
              rw [if_neg c13] at H
              exact absurd H (by simp)
            ·
             rw [if_neg c12] at H
             exact absurd H (by simp)
           ·
            rw [if_neg c11] at H
            exact absurd H (by simp)
          ·
           rw [if_neg c10] at H
           exact absurd H (by simp)
         ·
          rw [if_neg c9] at H
          exact absurd H (by simp)
        ·
         rw [if_neg c8] at H
         have c8b0 : decide (x18_2 < (l1.length : Int)) = false:=decide_eq_false c8
         clear c8
         have H':=A_ H
         clear H
         go_wp2
         go_roundg k2
         case measure=>have:=HK1.out;have:=HK2.out;omega
         case rel=>exact ⟨(x5_2),(wrap64 (x13_1 + 1)),(by first|rfl|(simp;done)|(simp [*];done)),H',⟨by have:=HK1.out;have:=HK2.out;omega⟩,⟨by (with_reducible repeat (first|apply sa_|apply sd_|apply se_));exact HO_5.out⟩,⟨by repeat (first|(with_reducible first|exact HB.out|apply ba|apply bb|apply bc)|exact HB.out)⟩⟩
     ·
      rw [if_neg c7] at H
      have c7b0 : decide (x13_1 < (l0.length : Int)) = false:=decide_eq_false c7
      clear c7
      obtain rfl:=Option.some.inj H
      go_wp2
      go_ret
      exact ⟨_,by first|rfl|(simp [errW_none,errW_some] <;> rfl)|(simp [*,errW_none,errW_some] <;> rfl),by (with_reducible repeat (first|apply sa_|apply sd_|apply se_));exact HO_5.out,by repeat (first|(with_reducible first|exact HB.out|apply ba|apply bb|apply bc)|exact HB.out)⟩
  ·
   rw [if_neg c4] at H
   exact absurd H (by simp)
 ·
  rw [if_neg c3] at H
  exact absurd H (by simp)

/-! ### shapesearchref14_Distance: function 13 -/
def shapesearchref14_Distance.f (k : Nat) (l0 : List Int) (l1 : List Int) (a2 : Int) : Option (Int × Int):=(shapesearchref14_Check.f k l0 l1 a2).bind fun t296=>(if t296 = 0 then ((shapesearchref14_Costs.f k l0 l1).bind fun t297=>((shapesearchref14_Fill.f k t297 a2).bind fun t300=>(if 0 ≤ (wrap64 ((l0.length : Int) - 1)) then (if (wrap64 ((l0.length : Int) - 1)) < (t300.length : Int) then (if 0 ≤ (wrap64 ((l1.length : Int) - 1)) then (if (wrap64 ((l1.length : Int) - 1)) < ((rd_L1 t300 (wrap64 ((l0.length : Int) - 1))).length : Int) then (some (rd (rd_L1 t300 (wrap64 ((l0.length : Int) - 1))) (wrap64 ((l1.length : Int) - 1)),0)) else (none)) else (none)) else (none)) else (none)))) else (some (0,t296)))
theorem shapesearchref14_Distance.mono : ∀ a0 a1 a2 k,LeO (shapesearchref14_Distance.f k a0 a1 a2) (shapesearchref14_Distance.f (k + 1) a0 a1 a2):=by
 intro a0 a1 a2 k
 unfold shapesearchref14_Distance.f
 repeat' first
   | (with_reducible exact shapesearchref14_Check.mono _ _ _ _)
   | (with_reducible exact shapesearchref14_Costs.mono _ _ _)
   | (with_reducible exact shapesearchref14_Fill.mono _ _ _)
   | (with_reducible exact LeO.refl _)
   | (with_reducible exact LeO.none _)
   | (with_reducible refine LeO.ite ?_ ?_)
   | (with_reducible refine LeO.bind ?_ (fun _=>?_))
   | exact shapesearchref14_Check.mono _ _ _ _
   | exact shapesearchref14_Costs.mono _ _ _
   | exact shapesearchref14_Fill.mono _ _ _
   | exact LeO.none _
   | refine LeO.ite ?_ ?_
   | refine LeO.bind ?_ (fun _=>?_)
set_option maxHeartbeats 8000000 in
set_option maxRecDepth 100000 in
theorem shapesearchref14_Distance.calls (k : Nat) (A0 : Option Addr) (c0 : Nat) (l0 : List Int) (A1 : Option Addr) (c1 : Nat) (l1 : List Int) (a2 : Int) (r1 : Int) (r2 : Int) (w : World) (hr0 : Kd.C (Kd.int .i64) w A0 l0.length l0) (hc0 : l0.length ≤ c0) (hr1 : Kd.C (Kd.int .i64) w A1 l1.length l1) (hc1 : l1.length ≤ c1) (h : shapesearchref14_Distance.f k l0 l1 a2 = some (r1,r2)) :
  Calls Try.prog 13 #[.slice A0 l0.length c0,.slice A1 l1.length c1,.int .i64 a2] w fun e w'=>e = .returned (.tuple #[.int .i64 r1,.int .i64 r2])∧Below w.heap.size w w':=by
 have HR0:=A_ hr0
 have HC0:=A_ hc0
 clear hr0 hc0
 have HR1:=A_ hr1
 have HC1:=A_ hc1
 clear hr1 hc1
 have HB:=A_ (Below.refl w.heap.size w)
 have H : ((shapesearchref14_Check.f k l0 l1 a2).bind fun t296=>(if t296 = 0 then ((shapesearchref14_Costs.f k l0 l1).bind fun t297=>((shapesearchref14_Fill.f k t297 a2).bind fun t300=>(if 0 ≤ (wrap64 ((l0.length : Int) - 1)) then (if (wrap64 ((l0.length : Int) - 1)) < (t300.length : Int) then (if 0 ≤ (wrap64 ((l1.length : Int) - 1)) then (if (wrap64 ((l1.length : Int) - 1)) < ((rd_L1 t300 (wrap64 ((l0.length : Int) - 1))).length : Int) then (some (rd (rd_L1 t300 (wrap64 ((l0.length : Int) - 1))) (wrap64 ((l1.length : Int) - 1)),0)) else (none)) else (none)) else (none)) else (none)))) else (some (0,t296)))) = some (r1,r2):=h
 clear h
 replace H:=Option.bind_eq_some_iff.mp H
 obtain ⟨t296,A40,H⟩:=H
 replace H : (if t296 = 0 then ((shapesearchref14_Costs.f k l0 l1).bind fun t297=>((shapesearchref14_Fill.f k t297 a2).bind fun t300=>(if 0 ≤ (wrap64 ((l0.length : Int) - 1)) then (if (wrap64 ((l0.length : Int) - 1)) < (t300.length : Int) then (if 0 ≤ (wrap64 ((l1.length : Int) - 1)) then (if (wrap64 ((l1.length : Int) - 1)) < ((rd_L1 t300 (wrap64 ((l0.length : Int) - 1))).length : Int) then (some (rd (rd_L1 t300 (wrap64 ((l0.length : Int) - 1))) (wrap64 ((l1.length : Int) - 1)),0)) else (none)) else (none)) else (none)) else (none)))) else (some (0,t296))) = some (r1,r2):=H
 have A4:=A_ A40
 clear A40
 by_cases c5 : t296 = 0
 ·
  rw [if_pos c5] at H
  have c5b0 : (t296 == 0) = true:=beq_iff_eq.mpr c5
  have c5b1 : (t296 != 0) = false:=bne_eq_false_iff_eq.mpr c5
  clear c5
  replace H:=Option.bind_eq_some_iff.mp H
  obtain ⟨t297,A60,H⟩:=H
  replace H : ((shapesearchref14_Fill.f k t297 a2).bind fun t300=>(if 0 ≤ (wrap64 ((l0.length : Int) - 1)) then (if (wrap64 ((l0.length : Int) - 1)) < (t300.length : Int) then (if 0 ≤ (wrap64 ((l1.length : Int) - 1)) then (if (wrap64 ((l1.length : Int) - 1)) < ((rd_L1 t300 (wrap64 ((l0.length : Int) - 1))).length : Int) then (some (rd (rd_L1 t300 (wrap64 ((l0.length : Int) - 1))) (wrap64 ((l1.length : Int) - 1)),0)) else (none)) else (none)) else (none)) else (none))) = some (r1,r2):=H
  have A6:=A_ A60
  clear A60
  replace H:=Option.bind_eq_some_iff.mp H
  obtain ⟨t300,A70,H⟩:=H
  replace H : (if 0 ≤ (wrap64 ((l0.length : Int) - 1)) then (if (wrap64 ((l0.length : Int) - 1)) < (t300.length : Int) then (if 0 ≤ (wrap64 ((l1.length : Int) - 1)) then (if (wrap64 ((l1.length : Int) - 1)) < ((rd_L1 t300 (wrap64 ((l0.length : Int) - 1))).length : Int) then (some (rd (rd_L1 t300 (wrap64 ((l0.length : Int) - 1))) (wrap64 ((l1.length : Int) - 1)),0)) else (none)) else (none)) else (none)) else (none)) = some (r1,r2):=H
  have A7:=A_ A70
  clear A70
  obtain ⟨ji8,hji8⟩ : ∃ j_ : Int,(wrap64 ((l0.length : Int) - 1)) = j_:=⟨_,rfl⟩
  replace H : (if 0 ≤ (ji8) then (if (ji8) < (t300.length : Int) then (if 0 ≤ (wrap64 ((l1.length : Int) - 1)) then (if (wrap64 ((l1.length : Int) - 1)) < ((rd_L1 t300 (ji8)).length : Int) then (some (rd (rd_L1 t300 (ji8)) (wrap64 ((l1.length : Int) - 1)),0)) else (none)) else (none)) else (none)) else (none)) = some (r1,r2):=by first|(rw [hji8] at H;exact H)|(simp only [hji8] at H ⊢;exact H)
  (try rw [hji8] at A4)
  (try rw [hji8] at A6)
  (try rw [hji8] at A7)
  have hji8w : (IntKind.i64.wrap ((l0.length : Int) - 1)) = ji8:=(i64_w _).trans hji8
  by_cases c9 : 0 ≤ (ji8)
  ·
   rw [if_pos c9] at H
   have c9b0 : decide (0 ≤ (ji8)) = true:=decide_eq_true c9
   clear c9
   by_cases c10 : (ji8) < (t300.length : Int)
   ·
    rw [if_pos c10] at H
    have c10b0 : decide ((ji8) < (t300.length : Int)) = true:=decide_eq_true c10
    clear c10
    obtain ⟨ji11,hji11⟩ : ∃ j_ : Int,(wrap64 ((l1.length : Int) - 1)) = j_:=⟨_,rfl⟩
    replace H : (if 0 ≤ (ji11) then (if (ji11) < ((rd_L1 t300 (ji8)).length : Int) then (some (rd (rd_L1 t300 (ji8)) (ji11),0)) else (none)) else (none)) = some (r1,r2):=by first|(rw [hji11] at H;exact H)|(simp only [hji11] at H ⊢;exact H)
    (try rw [hji11] at A4)
    (try rw [hji11] at A6)
    (try rw [hji11] at A7)
    have hji11w : (IntKind.i64.wrap ((l1.length : Int) - 1)) = ji11:=(i64_w _).trans hji11
    by_cases c12 : 0 ≤ (ji11)
    ·
     rw [if_pos c12] at H
     have c12b0 : decide (0 ≤ (ji11)) = true:=decide_eq_true c12
     clear c12
     by_cases c13 : (ji11) < ((rd_L1 t300 (ji8)).length : Int)
     ·
      rw [if_pos c13] at H
      have c13b0 : decide ((ji11) < ((rd_L1 t300 (ji8)).length : Int)) = true:=decide_eq_true c13
      clear c13
      simp only [Option.some.injEq,Prod.mk.injEq] at H
      obtain ⟨rfl,rfl⟩:=H
      go_enter Try.func13,Try.ntmps13
      go_wp2_with (first|((with_reducible refine gate_callee (f:=37) rfl ?_);refine goesL_ (some 12) rfl rfl Try.func37 (by kernel_rfl) rfl #[.slice A0 l0.length c0,.slice A1 l1.length c1,.int .i64 a2] rfl (by (try simp only [List.map_toArray,List.map_cons,List.map_nil]);first|done|rfl|(simp only [List.length_drop,List.length_take];rfl)) ?_;(with_reducible refine (shapesearchref14_Check.calls k _ _ l0 _ _ l1 a2 t296 _ ?side1 ?side2 ?side3 ?side4 A4.out).mono ?_);(case side1=>repeat (first|exact HR0.out|(with_reducible refine ca ?_ _)|(with_reducible refine cb ?_ _)|(with_reducible refine cc ?_)));(case side2=>exact HC0.out);(case side3=>repeat (first|exact HR1.out|(with_reducible refine ca ?_ _)|(with_reducible refine cb ?_ _)|(with_reducible refine cc ?_)));(case side4=>exact HC1.out);rintro e w' ⟨rfl,⟨nd,rfl⟩⟩;refine ⟨_,rfl,?_⟩)|((with_reducible refine gate_callee (f:=39) rfl ?_);refine goesL_ (some 18) rfl rfl Try.func39 (by kernel_rfl) rfl #[.slice A0 l0.length c0,.slice A1 l1.length c1] rfl (by (try simp only [List.map_toArray,List.map_cons,List.map_nil]);first|done|rfl|(simp only [List.length_drop,List.length_take];rfl)) ?_;(with_reducible refine (shapesearchref14_Costs.calls k _ _ l0 _ _ l1 t297 _ ?side1 ?side2 ?side3 ?side4 A6.out).mono ?_);(case side1=>repeat (first|exact HR0.out|(with_reducible refine ca ?_ _)|(with_reducible refine cb ?_ _)|(with_reducible refine cc ?_)));(case side2=>exact HC0.out);(case side3=>repeat (first|exact HR1.out|(with_reducible refine ca ?_ _)|(with_reducible refine cb ?_ _)|(with_reducible refine cc ?_)));(case side4=>exact HC1.out);rintro e w14 ⟨v298,rfl,ho0,hb⟩;refine ⟨_,rfl,?_⟩;have n0_:=A_ (Kd.S_lower ho0 (below_size (by repeat (first|(with_reducible first|exact HB.out|apply ba|apply bb|apply bc)|exact HB.out))));have n1_:=A_ (below_step (by repeat (first|(with_reducible first|exact HB.out|apply ba|apply bb|apply bc)|exact HB.out)) hb);clear HB;have HO299:=n0_;have HB:=n1_;clear n0_ n1_;(try clear hb);(try clear hb2);(try clear hk);(try clear hi);(try clear ho0);obtain ⟨Ao15,co15,eo15⟩:=Kd.S_slice HO299.out;subst eo15)|((with_reducible refine gate_callee (f:=38) rfl ?_);refine goesL_ (some 20) rfl rfl Try.func38 (by kernel_rfl) rfl #[.slice Ao15 t297.length co15,.int .i64 a2] rfl (by (try simp only [List.map_toArray,List.map_cons,List.map_nil]);first|done|rfl|(simp only [List.length_drop,List.length_take];rfl)) ?_;(with_reducible refine (shapesearchref14_Fill.calls k _ _ t297 a2 t300 _ ?side1 ?side2 A7.out).mono ?_);(case side1=>repeat (first|exact (Kd.S_reads' HO299.out).2.2|(with_reducible refine ca ?_ _)|(with_reducible refine cb ?_ _)|(with_reducible refine cc ?_)));(case side2=>exact (Kd.S_reads' HO299.out).2.1);rintro e w16 ⟨v301,rfl,ho0,hb⟩;refine ⟨_,rfl,?_⟩;have n0_:=A_ (Kd.S_elder' (by (with_reducible repeat (first|apply sa_|apply sd_|apply se_));exact HO299.out) (Kd.S_base ho0) hb);have n1_:=A_ (Kd.S_lower (Kd.S_new' ho0 (Kd.S_lt (by (with_reducible repeat (first|apply sa_|apply sd_|apply se_));exact HO299.out))) (below_size (by repeat (first|(with_reducible first|exact HB.out|apply ba|apply bb|apply bc)|exact HB.out))));have n2_:=A_ (below_step (by repeat (first|(with_reducible first|exact HB.out|apply ba|apply bb|apply bc)|exact HB.out)) hb);clear HO299;clear HB;have HO299:=n0_;have HO302:=n1_;have HB:=n2_;clear n0_ n1_ n2_;(try clear hb);(try clear hb2);(try clear hk);(try clear hi);(try clear ho0);obtain ⟨Ao17,co17,eo17⟩:=Kd.S_slice HO302.out;subst eo17;have p303 : 0 ≤ ((ji8) : Int):=of_decide_eq_true (by first|(with_reducible assumption)|assumption);have q303 : (ji8) < (t300.length : Int):=of_decide_eq_true (by first|(with_reducible assumption)|assumption);obtain ⟨ad303,A303_0,c303_0,e303,hx303_0,hl303_0,hi303_0⟩:=at_L1 (Kd.S_reads' HO302.out).2.2 (ji8) p303 q303;cases e303;obtain ⟨ce303,hce303,hMe303,hcc303⟩:=Kd.S_get HO302.out [] (ji8) p303 (by first|exact q303|exact of_decide_eq_true (by first|(with_reducible assumption)|assumption)|(have e_:=(Kd.S_reads' HO302.out).1;omega));obtain ⟨ve303_0,rfl,ge303_0⟩:=hMe303;have hv303_0:=hcc303 0 _ rfl;rw [Nat.add_zero,show ((Kd.slice 3 (Kd.int .i64))).sz = 1 from rfl,Nat.mul_one] at hv303_0;replace hv303_0:=Option.some.inj (hv303_0.symm.trans hx303_0);rw [hv303_0] at ge303_0;have HL303_0:=A_ (show Kd.R (Kd.int .i64) 3 _ _ _ _ (rd_L1 t300 (ji8)) from ge303_0);clear hv303_0 ge303_0;clear hcc303 hce303;have HR303_0:=A_ hi303_0;have HC303_0:=A_ hl303_0;clear hi303_0 hl303_0;replace p303:=eq_true p303;replace q303:=eq_true q303;have p304 : 0 ≤ ((ji11) : Int):=of_decide_eq_true (by first|(with_reducible assumption)|assumption);have q304 : (ji11) < ((rd_L1 t300 (ji8)).length : Int):=of_decide_eq_true (by first|(with_reducible assumption)|assumption);obtain ⟨ad304,e304,hx304_0⟩:=Kd.at_int (by repeat (first|(with_reducible exact HR303_0.out)|(with_reducible refine ca ?_ _)|(with_reducible refine cb ?_ _)|(with_reducible refine cc ?_)|exact HR303_0.out)) (ji11) p304 q304;cases e304;replace p304:=eq_true p304;replace q304:=eq_true q304))
      go_ret2
      exact ⟨by first|rfl|(simp [errW_none,errW_some] <;> rfl)|(simp only [← hji8,← hji11];first|rfl|(simp [errW_none,errW_some] <;> rfl))|(simp [*,errW_none,errW_some] <;> rfl),by repeat (first|(with_reducible first|exact HB.out|apply ba|apply bb|apply bc)|exact HB.out)⟩
     ·
      rw [if_neg c13] at H
      exact absurd H (by simp)
    ·
     rw [if_neg c12] at H
     exact absurd H (by simp)
   ·
    rw [if_neg c10] at H
    exact absurd H (by simp)
  ·
   rw [if_neg c9] at H
   exact absurd H (by simp)
 ·
  rw [if_neg c5] at H
  have c5b0 : (t296 == 0) = false:=beq_eq_false_iff_ne.mpr c5
  have c5b1 : (t296 != 0) = true:=bne_iff_ne.mpr c5
  simp only [Option.some.injEq,Prod.mk.injEq] at H
  obtain ⟨rfl,rfl⟩:=H
  go_enter Try.func13,Try.ntmps13
  go_wp2_with (first|((with_reducible refine gate_callee (f:=37) rfl ?_);refine goesL_ (some 12) rfl rfl Try.func37 (by kernel_rfl) rfl #[.slice A0 l0.length c0,.slice A1 l1.length c1,.int .i64 a2] rfl (by (try simp only [List.map_toArray,List.map_cons,List.map_nil]);first|done|rfl|(simp only [List.length_drop,List.length_take];rfl)) ?_;(with_reducible refine (shapesearchref14_Check.calls k _ _ l0 _ _ l1 a2 t296 _ ?side1 ?side2 ?side3 ?side4 A4.out).mono ?_);(case side1=>repeat (first|exact HR0.out|(with_reducible refine ca ?_ _)|(with_reducible refine cb ?_ _)|(with_reducible refine cc ?_)));(case side2=>exact HC0.out);(case side3=>repeat (first|exact HR1.out|(with_reducible refine ca ?_ _)|(with_reducible refine cb ?_ _)|(with_reducible refine cc ?_)));(case side4=>exact HC1.out);rintro e w' ⟨rfl,⟨nd,rfl⟩⟩;refine ⟨_,rfl,?_⟩))
  go_ret2
  exact ⟨by first|rfl|(simp [errW_none,errW_some] <;> rfl)|(simp [*,errW_none,errW_some] <;> rfl),by repeat (first|(with_reducible first|exact HB.out|apply ba|apply bb|apply bc)|exact HB.out)⟩

/-! ### channels_square: function 34 -/
def channels_square.f (a0 : Int) (a1 : Int) : Option (Int):=some (wrap64 ((wrap64 (a0 - a1)) * (wrap64 (a0 - a1))))
set_option maxHeartbeats 8000000 in
set_option maxRecDepth 100000 in
theorem channels_square.calls (a0 : Int) (a1 : Int) (r : Int) (w : World) (h : channels_square.f a0 a1 = some r) :
  Calls Try.prog 34 #[.int .i64 a0,.int .i64 a1] w fun e w'=>e = .returned (.int .i64 r)∧Drawn0 w w':=by
 have H : (some (wrap64 ((wrap64 (a0 - a1)) * (wrap64 (a0 - a1))))) = some r:=h
 clear h
 obtain rfl:=Option.some.inj H
 go_enter Try.func34,Try.ntmps34
 go_wp2
 go_ret
 exact ⟨by first|rfl|(simp;done)|(simp [*];done),by repeat (first|exact Drawn0.refl _|apply Drawn0.step)⟩

end Go.Proofs.Ytodipcfbgnljeaa.PChannelsPaths
