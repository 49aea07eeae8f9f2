/- This file proves, function by function, what the Go functions that one law uses compute; most of it was printed by a program (wip/tools of this session, over the kit's print). -/
import Derived.Test.YtodipcfbgnljeaaPChannelsPathsx0
import Derived.Test.YtodipcfbgnljeaaPChannelsPathsx5
namespace Go.Proofs.Ytodipcfbgnljeaa.PChannelsPaths
open Go.RowKit Go.Proofs.YtodipcfbgnljeaaW.PrintWords Go.Proofs.YtodipcfbgnljeaaW.PrintLast Go.Proofs.YtodipcfbgnljeaaW.PrintMore
attribute [local go_sem] max2_int min2_int max_two min_two max_three min_three max_four min_four   -- for this text's walks alone
set_option linter.unusedVariables false
set_option linter.unusedSimpArgs false

/-! ### shapesearchref14_Fill: function 38 -/
mutual
def shapesearchref14_Fill.l0 : Nat → List (List Int) → Int → List (List Int) → Int → Int → Option ((List (List Int)))
 | 0,_,_,_,_,_=>none
 | k + 1,x0,x1,x5,x14,x15=>if x15 < x14 then (if 0 ≤ x15 then (if x15 < (x0.length : Int) then (if 0 ≤ ((rd_L1 x0 x15).length : Int) then (if (((rd_L1 x0 x15).length : Int) : Int).toNat ≤ 35184372088832 then (if x15 < (x5.length : Int) then (shapesearchref14_Fill.l0 k x0 x1 (x5.set (x15 : Int).toNat (List.replicate (((rd_L1 x0 x15).length : Int) : Int).toNat 0)) x14 (wrap64 (x15 + 1))) else (none)) else (none)) else (none)) else (none)) else (none)) else (shapesearchref14_Fill.l1 k x0 x1 x5 (x0.length : Int) 0)
def shapesearchref14_Fill.l1 : Nat → List (List Int) → Int → List (List Int) → Int → Int → Option ((List (List Int)))
 | 0,_,_,_,_,_=>none
 | k + 1,x0,x1,x5,x29,x30=>if x30 < x29 then (if 0 ≤ x30 then (if x30 < (x0.length : Int) then (shapesearchref14_Fill.l2 k x0 x1 x5 x30 x29 x30 ((rd_L1 x0 x30).length : Int) 0) else (none)) else (none)) else (some x5)
def shapesearchref14_Fill.l2 : Nat → List (List Int) → Int → List (List Int) → Int → Int → Int → Int → Int → Option ((List (List Int)))
 | 0,_,_,_,_,_,_,_,_=>none
 | k + 1,x0,x1,x5,x7,x29,x30,x37,x38=>if x38 < x37 then (if 0 ≤ x7 then (if x7 < (x0.length : Int) then ((shapesearchref14_out.f (x0.length : Int) ((rd_L1 x0 x7).length : Int) x1 x7 x38).bind fun t268=>(if t268 = true then (shapesearchref14_Fill.l2 k x0 x1 x5 x7 x29 x30 x37 (wrap64 (x38 + 1))) else (if x7 < (x5.length : Int) then (if 0 ≤ x38 then (if x38 < ((rd_L1 x0 x7).length : Int) then (if x38 < ((rd_L1 x5 x7).length : Int) then ((some (x5.set (x7 : Int).toNat ((rd_L1 x5 x7).set (x38 : Int).toNat (rd (rd_L1 x0 x7) x38)) : List (List Int))).bind fun y274=>(if (wrap64 (x7 + x38)) > 0 then ((shapesearchref14_Before.f y274 x1 x7 x38).bind fun bt275=>(if x38 < ((rd_L1 y274 x7).length : Int) then ((shapesearchref14_At.f y274 x1 bt275.1 bt275.2).bind fun t280=>(shapesearchref14_Fill.l2 k x0 x1 (y274.set (x7 : Int).toNat ((rd_L1 y274 x7).set (x38 : Int).toNat (wrap64 ((rd (rd_L1 y274 x7) x38) + t280)))) x7 x29 x30 x37 (wrap64 (x38 + 1)))) else (none))) else (shapesearchref14_Fill.l2 k x0 x1 y274 x7 x29 x30 x37 (wrap64 (x38 + 1))))) else (none)) else (none)) else (none)) else (none)))) else (none)) else (none)) else (shapesearchref14_Fill.l1 k x0 x1 x5 x29 (wrap64 (x30 + 1)))
end
def shapesearchref14_Fill.f (k : Nat) (l0 : List (List Int)) (a1 : Int) : Option ((List (List Int))):=if 0 ≤ (l0.length : Int) then (if ((l0.length : Int) : Int).toNat ≤ 11728124029610 then (shapesearchref14_Fill.l0 k l0 a1 (List.replicate ((l0.length : Int) : Int).toNat []) (l0.length : Int) 0) else (none)) else (none)
theorem shapesearchref14_Fill.mono_l : ∀ k,(∀ y0 y1 y2 y3 y4,LeO (shapesearchref14_Fill.l0 k y0 y1 y2 y3 y4) (shapesearchref14_Fill.l0 (k + 1) y0 y1 y2 y3 y4))∧(∀ y0 y1 y2 y3 y4,LeO (shapesearchref14_Fill.l1 k y0 y1 y2 y3 y4) (shapesearchref14_Fill.l1 (k + 1) y0 y1 y2 y3 y4))∧(∀ y0 y1 y2 y3 y4 y5 y6 y7,LeO (shapesearchref14_Fill.l2 k y0 y1 y2 y3 y4 y5 y6 y7) (shapesearchref14_Fill.l2 (k + 1) y0 y1 y2 y3 y4 y5 y6 y7))
 | 0=>⟨fun _ _ _ _ _ r h=>by simp [shapesearchref14_Fill.l0] at h,fun _ _ _ _ _ r h=>by simp [shapesearchref14_Fill.l1] at h,fun _ _ _ _ _ _ _ _ r h=>by simp [shapesearchref14_Fill.l2] at h⟩
 | k + 1=>by
  obtain ⟨ih0,ih1,ih2⟩:=shapesearchref14_Fill.mono_l k
  refine ⟨?_,?_,?_⟩
  ·
   intro y0 y1 y2 y3 y4
   unfold shapesearchref14_Fill.l0
   repeat' first
   | (with_reducible exact ih0 _ _ _ _ _)
   | (with_reducible exact ih1 _ _ _ _ _)
   | (with_reducible exact ih2 _ _ _ _ _ _ _ _)
   | (with_reducible exact LeO.refl _)
   | (with_reducible exact LeO.none _)
   | (with_reducible refine LeO.ite ?_ ?_)
   | (with_reducible refine LeO.bind ?_ (fun _=>?_))
   | exact ih0 _ _ _ _ _
   | exact ih1 _ _ _ _ _
   | exact ih2 _ _ _ _ _ _ _ _
   | exact LeO.none _
   | refine LeO.ite ?_ ?_
   | refine LeO.bind ?_ (fun _=>?_)
  ·
   intro y0 y1 y2 y3 y4
   unfold shapesearchref14_Fill.l1
   repeat' first
   | (with_reducible exact ih0 _ _ _ _ _)
   | (with_reducible exact ih1 _ _ _ _ _)
   | (with_reducible exact ih2 _ _ _ _ _ _ _ _)
   | (with_reducible exact LeO.refl _)
   | (with_reducible exact LeO.none _)
   | (with_reducible refine LeO.ite ?_ ?_)
   | (with_reducible refine LeO.bind ?_ (fun _=>?_))
   | exact ih0 _ _ _ _ _
   | exact ih1 _ _ _ _ _
   | exact ih2 _ _ _ _ _ _ _ _
   | exact LeO.none _
   | refine LeO.ite ?_ ?_
   | refine LeO.bind ?_ (fun _=>?_)
  ·
   intro y0 y1 y2 y3 y4 y5 y6 y7
   unfold shapesearchref14_Fill.l2
   repeat' first
   | (with_reducible exact ih0 _ _ _ _ _)
   | (with_reducible exact ih1 _ _ _ _ _)
   | (with_reducible exact ih2 _ _ _ _ _ _ _ _)
   | (with_reducible exact LeO.refl _)
   | (with_reducible exact LeO.none _)
   | (with_reducible refine LeO.ite ?_ ?_)
   | (with_reducible refine LeO.bind ?_ (fun _=>?_))
   | exact ih0 _ _ _ _ _
   | exact ih1 _ _ _ _ _
   | exact ih2 _ _ _ _ _ _ _ _
   | exact LeO.none _
   | refine LeO.ite ?_ ?_
   | refine LeO.bind ?_ (fun _=>?_)
theorem shapesearchref14_Fill.mono : ∀ a0 a1 k,LeO (shapesearchref14_Fill.f k a0 a1) (shapesearchref14_Fill.f (k + 1) a0 a1):=by
 intro a0 a1 k
 obtain ⟨ih0,ih1,ih2⟩:=shapesearchref14_Fill.mono_l k
 unfold shapesearchref14_Fill.f
 repeat' first
   | (with_reducible exact ih0 _ _ _ _ _)
   | (with_reducible exact ih1 _ _ _ _ _)
   | (with_reducible exact ih2 _ _ _ _ _ _ _ _)
   | (with_reducible exact LeO.refl _)
   | (with_reducible exact LeO.none _)
   | (with_reducible refine LeO.ite ?_ ?_)
   | (with_reducible refine LeO.bind ?_ (fun _=>?_))
   | exact ih0 _ _ _ _ _
   | exact ih1 _ _ _ _ _
   | exact ih2 _ _ _ _ _ _ _ _
   | exact LeO.none _
   | refine LeO.ite ?_ ?_
   | refine LeO.bind ?_ (fun _=>?_)
def shapesearchref14_Fill.T14 : Bool × List (List Nat × List Nat):=(true,[([],[]),([],[]),([0,1],[0,1]),([2],[2]),([],[]),([],[]),([],[]),([5,6],[5,6]),([7],[7]),([],[]),([8,9],[8,9]),([10],[10]),([3,4,0,1,2,3,4,5,6,7,8,9,10,11],[3,4]),([12,11,0,1,2,3,4,5,6,7,8,9,10,11],[11,12])])
def shapesearchref14_Fill.B14 : List Nat:=[0,0,3,7,0,0,0,96,224,0,992,2016,4095,8191]
theorem shapesearchref14_Fill.tab14 : rtab .any (opsOf Try.f38 14) = shapesearchref14_Fill.T14:=by kernel_rfl
theorem shapesearchref14_Fill.bits14 : waitsOk shapesearchref14_Fill.T14.2 shapesearchref14_Fill.B14 = true:=by kernel_rfl
def shapesearchref14_Fill.T17 : Bool × List (List Nat × List Nat):=(true,[([],[]),([],[]),([0,1],[0,1]),([2],[2]),([],[]),([3,4],[3,4]),([5],[5]),([],[]),([],[]),([],[]),([9],[9]),([],[]),([11],[11]),([7,8,10,12],[7,8,10,12]),([6,13],[6,13]),([3,4,0,1,2,3,4,5,6,7,8,9,10,11,12,13,14],[3,4]),([15,14,13,0,1,2,3,4,5,6,7,8,9,10,11,12,13,14],[14,15])])
def shapesearchref14_Fill.B17 : List Nat:=[0,0,3,7,0,31,63,0,0,0,512,0,2048,8064,16383,32767,65535]
theorem shapesearchref14_Fill.tab17 : rtab .any (opsOf Try.f38 17) = shapesearchref14_Fill.T17:=by kernel_rfl
theorem shapesearchref14_Fill.bits17 : waitsOk shapesearchref14_Fill.T17.2 shapesearchref14_Fill.B17 = true:=by kernel_rfl
set_option maxHeartbeats 8000000 in
set_option maxRecDepth 100000 in
theorem shapesearchref14_Fill.calls (k : Nat) (A0 : Option Addr) (c0 : Nat) (l0 : List (List Int)) (a1 : Int) (r : List (List Int)) (w : World) (hr0 : Kd.C (Kd.slice 3 (Kd.int .i64)) w A0 l0.length l0) (hc0 : l0.length ≤ c0) (h : shapesearchref14_Fill.f k l0 a1 = some r) :
  Calls Try.prog 38 #[.slice A0 l0.length c0,.int .i64 a1] w fun e w'=>∃ v0_ : Value,e = .returned (v0_)∧Kd.S (Kd.slice 3 (Kd.int .i64)) 22 w' w.heap.size (fun _=>True) v0_ r∧Below w.heap.size w w':=by
 have hu73:=Try.underlying73
 have HR0:=A_ hr0
 have HC0:=A_ hc0
 clear hr0 hc0
 have HB:=A_ (Below.refl w.heap.size w)
 have H : (if 0 ≤ (l0.length : Int) then (if ((l0.length : Int) : Int).toNat ≤ 11728124029610 then (shapesearchref14_Fill.l0 k l0 a1 (List.replicate ((l0.length : Int) : Int).toNat []) (l0.length : Int) 0) else (none)) else (none)) = some r:=h
 clear h
 by_cases c3 : 0 ≤ (l0.length : Int)
 ·
  rw [if_pos c3] at H
  have c3b0:=eq_true c3
  have c3b1 : decide (0 ≤ (l0.length : Int)) = true:=decide_eq_true c3
  clear c3
  by_cases c4 : ((l0.length : Int) : Int).toNat ≤ 11728124029610
  ·
   rw [if_pos c4] at H
   have c4b0:=eq_true c4
   have c4b1 : decide (((l0.length : Int) : Int).toNat ≤ 11728124029610) = true:=decide_eq_true c4
   clear c4
   obtain ⟨y258,hy258⟩ : ∃ y_ : List (List Int),y_ = (List.replicate ((l0.length : Int) : Int).toNat []):=⟨_,rfl⟩
   replace H : (shapesearchref14_Fill.l0 k l0 a1 y258 (l0.length : Int) 0) = some r:=by first|(rw [hy258];with_reducible exact H)|(have H2_:=(Option.bind_some _ _).symm.trans H;rw [hy258];with_reducible exact H2_)|(have H2_:=(Option.bind_some _ _).symm.trans H;with_reducible exact H2_)|with_reducible exact H|(rw [hy258];exact H)|exact H
   have Ny258:=A_ hy258
   clear hy258
   have H':=A_ H
   clear H
   go_enter Try.func38,Try.ntmps38
   go_wp2_with (first|((with_reducible refine gate_dst (N:=12) rfl ?_);refine Kd.S_make (Kd.slice 3 (Kd.int .i64)) _ 22 rfl (N:=12) rfl 23 _ _ rfl (l0.length : Int) rfl rfl Try.underlying23 (.slice none 0 0) 24 info22 rfl (by decide) (by omega) [] (ok:=fun _=>True) (okp:=fun _=>True) ⟨_,rfl,Kd.R_nil _ _ _ _ _⟩ (fun _ hk=>hk) trivial (of_decide_eq_true (by first|(with_reducible assumption)|assumption)) (Nat.le_trans (Nat.mul_le_mul_right _ (of_decide_eq_true (by first|(with_reducible assumption)|assumption) : (l0.length : Int).toNat ≤ 11728124029610)) (by omega)) (Below.refl _ _) (Nat.le_refl _) ?_;intro v259 w5 ho6 hb hg_ hnew_;clear hg_ hnew_;(first|rw [← Ny258.out] at ho6|(simp only [Int.reduceToNat] at ho6;rw [← Ny258.out] at ho6));have n0_:=A_ (Kd.S_lower ho6 (below_size (by repeat (first|(with_reducible first|exact HB.out|apply ba|apply bb|apply bc)|exact HB.out))));have n1_:=A_ (below_step (by repeat (first|(with_reducible first|exact HB.out|apply ba|apply bb|apply bc)|exact HB.out)) hb);clear HB;have HO260:=n0_;have HB:=n1_;clear n0_ n1_;clear hb ho6))
   go_loopg [15] k (fun kq v15 w'=>∃ (x5_1 : List (List Int)) (x15_1 : Int),v15 = .int .i64 x15_1∧Aside0 (shapesearchref14_Fill.l0 kq l0 a1 x5_1 (l0.length : Int) x15_1 = some r)∧Aside0 (kq ≤ k)∧Aside0 (Kd.S (Kd.slice 3 (Kd.int .i64)) 22 w' w.heap.size (fun _=>True) v259 x5_1)∧Aside0 (Below w.heap.size w w'))
   case atStart=>exact ⟨(y258),(0),(by first|rfl|(simp;done)|(simp [*];done)),H',⟨Nat.le_refl _⟩,⟨by (with_reducible repeat (first|apply sa_|apply sd_|apply se_));exact HO260.out⟩,⟨by repeat (first|(with_reducible first|exact HB.out|apply ba|apply bb|apply bc)|exact HB.out)⟩⟩
   case round =>
    clear H'
    try clear p2
    try clear c3
    try clear c3b0
    try clear c3b1
    try clear c4
    try clear c4b0
    try clear c4b1
    obtain ⟨x5_1,x15_1,rfl,HA,HK1,HO_5,HB⟩:=hrel
    cases gk with
    | zero=>exact absurd HA.out (by simp [shapesearchref14_Fill.l0])
    | succ k1 =>
     have H:=HA.out
     clear HA
     simp only [shapesearchref14_Fill.l0] at H
     by_cases c7 : x15_1 < (l0.length : Int)
     ·
      rw [if_pos c7] at H
      have c7b0 : decide (x15_1 < (l0.length : Int)) = true:=decide_eq_true c7
      clear c7
      by_cases c8 : 0 ≤ x15_1
      ·
       rw [if_pos c8] at H
       have c8b0 : decide (0 ≤ x15_1) = true:=decide_eq_true c8
       clear c8
       by_cases c9 : x15_1 < (l0.length : Int)
       ·
        rw [if_pos c9] at H
        have c9b0 : decide (x15_1 < (l0.length : Int)) = true:=decide_eq_true c9
        clear c9
        by_cases c10 : 0 ≤ ((rd_L1 l0 x15_1).length : Int)
        ·
         rw [if_pos c10] at H
         have c10b0:=eq_true c10
         have c10b1 : decide (0 ≤ ((rd_L1 l0 x15_1).length : Int)) = true:=decide_eq_true c10
         clear c10
         by_cases c11 : (((rd_L1 l0 x15_1).length : Int) : Int).toNat ≤ 35184372088832
         ·
          rw [if_pos c11] at H
          have c11b0:=eq_true c11
          have c11b1 : decide ((((rd_L1 l0 x15_1).length : Int) : Int).toNat ≤ 35184372088832) = true:=decide_eq_true c11
          clear c11
          obtain ⟨y262,hy262⟩ : ∃ y_ : List Int,y_ = (List.replicate (((rd_L1 l0 x15_1).length : Int) : Int).toNat 0):=⟨_,rfl⟩
          replace H : (if x15_1 < (x5_1.length : Int) then (shapesearchref14_Fill.l0 k1 l0 a1 (x5_1.set (x15_1 : Int).toNat y262) (l0.length : Int) (wrap64 (x15_1 + 1))) else (none)) = some r:=by first|(rw [hy262];with_reducible exact H)|(have H2_:=(Option.bind_some _ _).symm.trans H;rw [hy262];with_reducible exact H2_)|(have H2_:=(Option.bind_some _ _).symm.trans H;with_reducible exact H2_)|with_reducible exact H|(rw [hy262];exact H)|exact H
          have Ny262:=A_ hy262
          clear hy262
          by_cases c12 : x15_1 < (x5_1.length : Int)
          ·
           rw [if_pos c12] at H
           have c12b0 : decide (x15_1 < (x5_1.length : Int)) = true:=decide_eq_true c12
           clear c12
           obtain ⟨y265,hy265⟩ : ∃ y_ : List (List Int),y_ = (x5_1.set (x15_1 : Int).toNat y262):=⟨_,rfl⟩
           replace H : (shapesearchref14_Fill.l0 k1 l0 a1 y265 (l0.length : Int) (wrap64 (x15_1 + 1))) = some r:=by first|(rw [hy265];with_reducible exact H)|(have H2_:=(Option.bind_some _ _).symm.trans H;rw [hy265];with_reducible exact H2_)|(have H2_:=(Option.bind_some _ _).symm.trans H;with_reducible exact H2_)|with_reducible exact H|(rw [hy265];exact H)|exact H
           have Ny265:=A_ hy265
           clear hy265
           have H':=A_ H
           clear H
           have p261 : 0 ≤ (x15_1 : Int):=of_decide_eq_true (by first|(with_reducible assumption)|assumption)
           have q261 : x15_1 < (l0.length : Int):=of_decide_eq_true (by first|(with_reducible assumption)|assumption)
           obtain ⟨ad261,A261_0,c261_0,e261,hx261_0,hl261_0,hi261_0⟩:=at_L1 HR0.out x15_1 p261 q261
           cases e261
           replace hx261_0:=(HB.out.cell (World.block_lt_of_cell? w _ hx261_0)).trans hx261_0
           have HR261_0:=A_ hi261_0
           have HC261_0:=A_ hl261_0
           clear hi261_0 hl261_0
           replace p261:=eq_true p261
           replace q261:=eq_true q261
           go_wp2_with (first|((with_reducible refine gate_dst (N:=25) rfl ?_);refine Kd.R_make (Kd.int .i64) _ 3 rfl (N:=25) rfl 22 _ _ rfl ((rd_L1 l0 x15_1).length : Int) rfl rfl Try.underlying22 (.int .i64 0) 8 info3 rfl (by decide) (by omega) 0 (ok:=fun _=>True) (okp:=fun _=>True) rfl (fun _ hk=>hk) trivial (of_decide_eq_true (by first|(with_reducible assumption)|assumption)) (Nat.le_trans (Nat.mul_le_mul_right _ (of_decide_eq_true (by first|(with_reducible assumption)|assumption) : ((rd_L1 l0 x15_1).length : Int).toNat ≤ 35184372088832)) (by omega)) (Below.refl _ _) (Nat.le_refl _) ?_;intro v263 w14 ho15 hb hg_ hnew_;clear hg_ hnew_;(first|rw [← Ny262.out] at ho15|(simp only [Int.reduceToNat] at ho15;rw [← Ny262.out] at ho15));have n0_:=A_ (Kd.S_elder' (by (with_reducible repeat (first|apply sa_|apply sd_|apply se_));exact HO_5.out) (rs ho15) hb);have n1_:=A_ (Kd.R_lower ho15 (below_size (by repeat (first|(with_reducible first|exact HB.out|apply ba|apply bb|apply bc)|exact HB.out))));have n2_:=A_ (below_step (by repeat (first|(with_reducible first|exact HB.out|apply ba|apply bb|apply bc)|exact HB.out)) hb);clear HO_5;clear HB;have HO_5:=n0_;have HO264:=n1_;have HB:=n2_;clear n0_ n1_ n2_;clear hb ho15;have p13 : 0 ≤ (x15_1 : Int):=of_decide_eq_true (by first|(with_reducible assumption)|assumption);have q13 : (x15_1 : Int) < ((x5_1.length : Int) : Int):=of_decide_eq_true (by first|(with_reducible assumption)|assumption);obtain ⟨go13,co13,eo13,gb13,gl13,cl13,HG13⟩:=Kd.S_form HO_5.out (by omega);(first|cases eo13|(injection eo13 with ea_ en_ ec_;(first|subst ea_|(injection ea_ with ea_;subst ea_));subst ec_;clear en_));have GB13:=A_ gb13;have GG13:=A_ HG13;clear gb13 gl13 HG13;obtain ⟨_,ce13,hcl13,hM13,hcc13,hfr13,_,_⟩:=Kd.S_elem HO_5.out [] (x15_1 : Int) p13 q13;obtain ⟨ve13_0,rfl,ge13_0⟩:=hM13;have hx13_0:=hcc13 0 _ rfl;have hf13_0:=hfr13 0;(try simp only [show ((Kd.slice 3 (Kd.int .i64))).sz = 1 from rfl,Nat.mul_one,Nat.add_zero] at hx13_0);(try simp only [show ((Kd.slice 3 (Kd.int .i64))).sz = 1 from rfl,Nat.mul_one,Nat.add_zero] at hf13_0);clear hcl13 hcc13 hfr13;(try clear hM13);replace p13:=eq_true p13;replace q13:=eq_true q13;have n_:=A_ (Kd.S_mono (ok':=(fun k_=>nb k_ v263)) HO_5.out (fun k_ hk=>hk.2));clear HO_5;have HO_5:=n_;clear n_;have HX16:=A_ (show Kd.S (Kd.slice 3 (Kd.int .i64)) 22 w14 w.heap.size (fun k_=>((fun _=>True)) k_∧¬ ((fun k_=>some k_ = (v263 : Value).ownBlock)) k_) (.slice (some ⟨go13,0,none⟩) x5_1.length co13) x5_1 from (by (with_reducible repeat (first|apply sa_|apply sd_|apply se_));exact Kd.S_mono HO_5.out (fun k_ hk=>⟨trivial,fun e_=>hk e_⟩)));obtain ⟨oki16,ce16,hcl16,hM16,hcc16,hfr16,hoki16,hH16⟩:=Kd.S_elem HX16.out [] (x15_1 : Int) (of_decide_eq_true (by first|(with_reducible assumption)|assumption)) (by have h_ : (x15_1 : Int) < ((x5_1.length : Int) : Int):=of_decide_eq_true (by first|(with_reducible assumption)|assumption);first|exact h_|(have e_:=(Kd.S_reads' HO_5.out).1;omega)|simpa using h_);obtain ⟨ve16_0,rfl,ge16_0⟩:=hM16;have HP16:=Kd.S_seg hH16 (of_decide_eq_true (by first|(with_reducible assumption)|assumption)) (by have h_ : (x15_1 : Int) < ((x5_1.length : Int) : Int):=of_decide_eq_true (by first|(with_reducible assumption)|assumption);first|exact h_|(have e_:=(Kd.S_reads' HO_5.out).1;omega)|simpa using h_) (seg:=[v263]) (j:=0) (show 1 ≤ 1 from by decide) (x':=y262) (Kd.M_row (rm (Kd.R_tight rfl (rm (ok':=fun k_=>((fun _=>True)) k_∧k_≠go13) (Kd.R_apart' (HO264.out) (Kd.S_typed HO_5.out) (by decide)) (fun k_ hk=>⟨trivial,fun e_=>(hk.2) (by rw [e_];rfl)⟩))) (fun _ h_=>Or.inr (h_)))) (fun _ hk=>hk) (fun k_ hk_=>((rm (ok':=fun k_=>((fun _=>True)) k_∧k_≠go13) (Kd.R_apart' (HO264.out) (Kd.S_typed HO_5.out) (by decide)) (fun k_ hk=>⟨trivial,fun e_=>(hk.2) (by rw [e_];rfl)⟩))).1 k_ hk_.symm);have hx16_0:=hcc16 0 _ rfl;(try simp only [show ((Kd.slice 3 (Kd.int .i64))).sz = 1 from rfl,Nat.mul_one,Nat.add_zero] at hx16_0);have hf16_0:=hfr16 0;(try simp only [show ((Kd.slice 3 (Kd.int .i64))).sz = 1 from rfl,Nat.mul_one,Nat.add_zero] at hf16_0);clear hcl16 hcc16 hfr16;(try clear hM16);(try clear hoki16);(try clear hH16);(try simp only [show ((Kd.slice 3 (Kd.int .i64))).sz = 1 from rfl,Nat.mul_one,Nat.add_zero] at HP16);obtain ⟨Ao263,co263,eo263⟩:=Kd.R_slice HO264.out;subst eo263)|((with_reducible refine gate_store (t:=22) (p:=26) rfl ?_);refine store_event (t:=22) (p:=26) (v:=?vo_w17) (w1:=(w14.setCell ⟨go13,(x15_1 : Int).toNat,none⟩ (.slice Ao263 y262.length co263))) ?hg ?ho ?hn ?hr ?_;(case ho=>rfl);(case hg=>rfl);(case hn=>rfl);(case hr=>first|(go_simp;done)|(go_simp;rfl));intro w17 hw;have hg : w14.grownBy w17 (some go13):=(by rw [hw];exact HP16.2);have hp_ : Kd.S (Kd.slice 3 (Kd.int .i64)) 22 w17 w.heap.size (fun _=>True) (.slice (some ⟨go13,0,none⟩) x5_1.length co13) y265:=(by rw [hw,Ny265.out];exact HP16.1);clear HP16;have n0_:=A_ (hp_);have n1_:=A_ ((by rw [hw];exact below_set (HB.out) GB13.out : Below w.heap.size w w17));clear HO_5;clear HB;clear HO264;have HO_5:=n0_;have HB:=n1_;clear n0_ n1_;clear hg hw hp_))
           go_roundg k1
           case measure=>have:=HK1.out;omega
           case rel=>exact ⟨(y265),(wrap64 (x15_1 + 1)),(by first|rfl|(simp;done)|(simp [*];done)),H',⟨by have:=HK1.out;omega⟩,⟨by (with_reducible repeat (first|apply sa_|apply sd_|apply se_));exact HO_5.out⟩,⟨by repeat (first|(with_reducible first|exact HB.out|apply ba|apply bb|apply bc)|exact HB.out)⟩⟩
          ·
           rw [if_neg c12] at H
           exact absurd H (by simp)
         ·
          rw [if_neg c11] at H
          exact absurd H (by simp)
        ·
         rw [if_neg c10] at H
         exact absurd H (by simp)
       ·
        rw [if_neg c9] at H
        exact absurd H (by simp)
      ·
       rw [if_neg c8] at H
       exact absurd H (by simp)
     ·
      rw [if_neg c7] at H
      have c7b0 : decide (x15_1 < (l0.length : Int)) = false:=decide_eq_false c7
      clear c7
      have H':=A_ H
      clear H
      go_wp2
      go_loopg [30] k1 (fun kq v30 w'=>∃ (x5_2 : List (List Int)) (x30_2 : Int),v30 = .int .i64 x30_2∧Aside0 (shapesearchref14_Fill.l1 kq l0 a1 x5_2 (l0.length : Int) x30_2 = some r)∧Aside0 (kq ≤ k1)∧Aside0 (Kd.S (Kd.slice 3 (Kd.int .i64)) 22 w' w.heap.size (fun _=>True) v259 x5_2)∧Aside0 (Below w.heap.size w w'))
      case atStart=>exact ⟨(x5_1),(0),(by first|rfl|(simp;done)|(simp [*];done)),H',⟨Nat.le_refl _⟩,⟨by (with_reducible repeat (first|apply sa_|apply sd_|apply se_));exact HO_5.out⟩,⟨by repeat (first|(with_reducible first|exact HB.out|apply ba|apply bb|apply bc)|exact HB.out)⟩⟩
      case round =>
       clear H'
       try clear c1
       try clear p1
       try clear q1
       try clear hx1
       try clear c2
       try clear p2
       try clear q2
       try clear hx2
       try clear c3
       try clear c3b0
       try clear c3b1
       try clear c4
       try clear c4b0
       try clear c4b1
       try clear p6
       try clear c7
       try clear c7b0
       try clear c8
       try clear c8b0
       try clear c9
       try clear c9b0
       try clear c10
       try clear c10b0
       try clear c10b1
       try clear c11
       try clear c11b0
       try clear c11b1
       try clear c12
       try clear c12b0
       try clear c13
       try clear p13
       try clear q13
       try clear hx13
       try clear hf13
       try clear c16
       try clear hx16
       try clear hf16
       try clear hx13_0
       try clear hx16_0
       try clear hx261_0
       try clear p13
       try clear p2
       try clear p261
       try clear q13
       try clear q261
       obtain ⟨x5_2,x30_2,rfl,HA,HK2,HO_5,HB⟩:=hrel
       cases gk with
       | zero=>exact absurd HA.out (by simp [shapesearchref14_Fill.l1])
       | succ k2 =>
        have H:=HA.out
        clear HA
        simp only [shapesearchref14_Fill.l1] at H
        by_cases c18 : x30_2 < (l0.length : Int)
        ·
         rw [if_pos c18] at H
         have c18b0 : decide (x30_2 < (l0.length : Int)) = true:=decide_eq_true c18
         clear c18
         by_cases c19 : 0 ≤ x30_2
         ·
          rw [if_pos c19] at H
          have c19b0 : decide (0 ≤ x30_2) = true:=decide_eq_true c19
          clear c19
          by_cases c20 : x30_2 < (l0.length : Int)
          ·
           rw [if_pos c20] at H
           have c20b0 : decide (x30_2 < (l0.length : Int)) = true:=decide_eq_true c20
           clear c20
           have H':=A_ H
           clear H
           have p266 : 0 ≤ (x30_2 : Int):=of_decide_eq_true (by first|(with_reducible assumption)|assumption)
           have q266 : x30_2 < (l0.length : Int):=of_decide_eq_true (by first|(with_reducible assumption)|assumption)
           obtain ⟨ad266,A266_0,c266_0,e266,hx266_0,hl266_0,hi266_0⟩:=at_L1 HR0.out x30_2 p266 q266
           cases e266
           replace hx266_0:=(HB.out.cell (World.block_lt_of_cell? w _ hx266_0)).trans hx266_0
           have HR266_0:=A_ hi266_0
           have HC266_0:=A_ hl266_0
           clear hi266_0 hl266_0
           replace p266:=eq_true p266
           replace q266:=eq_true q266
           go_wp2
           go_loopg [38] k2 (fun kq v38 w'=>∃ (x5_3 : List (List Int)) (x38_3 : Int),v38 = .int .i64 x38_3∧Aside0 (shapesearchref14_Fill.l2 kq l0 a1 x5_3 x30_2 (l0.length : Int) x30_2 ((rd_L1 l0 x30_2).length : Int) x38_3 = some r)∧Aside0 (kq ≤ k2)∧Aside0 (Kd.S (Kd.slice 3 (Kd.int .i64)) 22 w' w.heap.size (fun _=>True) v259 x5_3)∧Aside0 (Below w.heap.size w w'))
           case atStart=>exact ⟨(x5_2),(0),(by first|rfl|(simp;done)|(simp [*];done)),H',⟨Nat.le_refl _⟩,⟨by (with_reducible repeat (first|apply sa_|apply sd_|apply se_));exact HO_5.out⟩,⟨by repeat (first|(with_reducible first|exact HB.out|apply ba|apply bb|apply bc)|exact HB.out)⟩⟩
           case round =>
            clear H'
            try clear c1
            try clear p1
            try clear q1
            try clear hx1
            try clear c2
            try clear p2
            try clear q2
            try clear hx2
            try clear c3
            try clear c3b0
            try clear c3b1
            try clear c4
            try clear c4b0
            try clear c4b1
            try clear p6
            try clear c7
            try clear c7b0
            try clear c8
            try clear c8b0
            try clear c9
            try clear c9b0
            try clear c10
            try clear c10b0
            try clear c10b1
            try clear c11
            try clear c11b0
            try clear c11b1
            try clear c12
            try clear c12b0
            try clear c13
            try clear p13
            try clear q13
            try clear hx13
            try clear hf13
            try clear c16
            try clear hx16
            try clear hf16
            try clear c18
            try clear c18b0
            try clear c19
            try clear c19b0
            try clear c20
            try clear c20b0
            try clear hx13_0
            try clear hx16_0
            try clear hx261_0
            try clear hx266_0
            try clear p1
            try clear p13
            try clear p2
            try clear p261
            try clear p266
            try clear p6
            try clear q1
            try clear q13
            try clear q2
            try clear q261
            try clear q266
            obtain ⟨x5_3,x38_3,rfl,HA,HK3,HO_5,HB⟩:=hrel
            cases gk with
            | zero=>exact absurd HA.out (by simp [shapesearchref14_Fill.l2])
            | succ k3 =>
             have H:=HA.out
             clear HA
             simp only [shapesearchref14_Fill.l2] at H
             by_cases c21 : x38_3 < ((rd_L1 l0 x30_2).length : Int)
             ·
              rw [if_pos c21] at H
              have c21b0 : decide (x38_3 < ((rd_L1 l0 x30_2).length : Int)) = true:=decide_eq_true c21
              clear c21
              by_cases c22 : 0 ≤ x30_2
              ·
               rw [if_pos c22] at H
               have c22b0 : decide (0 ≤ x30_2) = true:=decide_eq_true c22
               clear c22
               by_cases c23 : x30_2 < (l0.length : Int)
               ·
                rw [if_pos c23] at H
                have c23b0 : decide (x30_2 < (l0.length : Int)) = true:=decide_eq_true c23
                clear c23
                replace H:=Option.bind_eq_some_iff.mp H
                obtain ⟨t268,A240,H⟩:=H
                replace H : (if t268 = true then (shapesearchref14_Fill.l2 k3 l0 a1 x5_3 x30_2 (l0.length : Int) x30_2 ((rd_L1 l0 x30_2).length : Int) (wrap64 (x38_3 + 1))) else (if x30_2 < (x5_3.length : Int) then (if 0 ≤ x38_3 then (if x38_3 < ((rd_L1 l0 x30_2).length : Int) then (if x38_3 < ((rd_L1 x5_3 x30_2).length : Int) then ((some (x5_3.set (x30_2 : Int).toNat ((rd_L1 x5_3 x30_2).set (x38_3 : Int).toNat (rd (rd_L1 l0 x30_2) x38_3)) : List (List Int))).bind fun y274=>(if (wrap64 (x30_2 + x38_3)) > 0 then ((shapesearchref14_Before.f y274 a1 x30_2 x38_3).bind fun bt275=>(if x38_3 < ((rd_L1 y274 x30_2).length : Int) then ((shapesearchref14_At.f y274 a1 bt275.1 bt275.2).bind fun t280=>(shapesearchref14_Fill.l2 k3 l0 a1 (y274.set (x30_2 : Int).toNat ((rd_L1 y274 x30_2).set (x38_3 : Int).toNat (wrap64 ((rd (rd_L1 y274 x30_2) x38_3) + t280)))) x30_2 (l0.length : Int) x30_2 ((rd_L1 l0 x30_2).length : Int) (wrap64 (x38_3 + 1)))) else (none))) else (shapesearchref14_Fill.l2 k3 l0 a1 y274 x30_2 (l0.length : Int) x30_2 ((rd_L1 l0 x30_2).length : Int) (wrap64 (x38_3 + 1))))) else (none)) else (none)) else (none)) else (none))) = some r:=H
                have A24:=A_ A240
                clear A240
                by_cases c25 : t268 = true
                ·
                 subst c25
                 have H1 : (shapesearchref14_Fill.l2 k3 l0 a1 x5_3 x30_2 (l0.length : Int) x30_2 ((rd_L1 l0 x30_2).length : Int) (wrap64 (x38_3 + 1))) = some r:=by rw [if_pos rfl] at H;exact H
                 clear H
                 have H:=H1
                 clear H1
                 have H':=A_ H
                 clear H
                 have p267 : 0 ≤ (x30_2 : Int):=of_decide_eq_true (by first|(with_reducible assumption)|assumption)
                 have q267 : x30_2 < (l0.length : Int):=of_decide_eq_true (by first|(with_reducible assumption)|assumption)
                 obtain ⟨ad267,A267_0,c267_0,e267,hx267_0,hl267_0,hi267_0⟩:=at_L1 HR0.out x30_2 p267 q267
                 obtain rfl : ad266 = ad267:=(by injection e267)
                 replace hx267_0:=(HB.out.cell (World.block_lt_of_cell? w _ hx267_0)).trans hx267_0
                 have HR267_0:=A_ hi267_0
                 have HC267_0:=A_ hl267_0
                 clear hi267_0 hl267_0
                 replace p267:=eq_true p267
                 replace q267:=eq_true q267
                 go_wp2_with (first|((with_reducible refine gate_callee (f:=58) rfl ?_);refine goesL_ (some 51) rfl rfl Try.func58 (by kernel_rfl) rfl #[.int .i64 (l0.length : Int),.int .i64 ((rd_L1 l0 x30_2).length : Int),.int .i64 a1,.int .i64 x30_2,.int .i64 x38_3] rfl (by (try simp only [List.map_toArray,List.map_cons,List.map_nil]);first|done|rfl|(simp only [List.length_drop,List.length_take];rfl)) ?_;(with_reducible refine (shapesearchref14_out.calls (l0.length : Int) ((rd_L1 l0 x30_2).length : Int) a1 x30_2 x38_3 true _ A24.out).mono ?_);rintro e w' ⟨rfl,⟨nd,rfl⟩⟩;refine ⟨_,rfl,?_⟩))
                 go_roundg k3
                 case measure=>have:=HK1.out;have:=HK2.out;have:=HK3.out;omega
                 case rel=>exact ⟨(x5_3),(wrap64 (x38_3 + 1)),(by first|rfl|(simp;done)|(simp [*];done)),H',⟨by have:=HK1.out;have:=HK2.out;have:=HK3.out;omega⟩,⟨by (with_reducible repeat (first|apply sa_|apply sd_|apply se_));exact HO_5.out⟩,⟨by repeat (first|(with_reducible first|exact HB.out|apply ba|apply bb|apply bc)|exact HB.out)⟩⟩
                ·
                 replace c25:=Bool.eq_false_iff.mpr c25
                 subst c25
                 have H1 : (if x30_2 < (x5_3.length : Int) then (if 0 ≤ x38_3 then (if x38_3 < ((rd_L1 l0 x30_2).length : Int) then (if x38_3 < ((rd_L1 x5_3 x30_2).length : Int) then ((some (x5_3.set (x30_2 : Int).toNat ((rd_L1 x5_3 x30_2).set (x38_3 : Int).toNat (rd (rd_L1 l0 x30_2) x38_3)) : List (List Int))).bind fun y274=>(if (wrap64 (x30_2 + x38_3)) > 0 then ((shapesearchref14_Before.f y274 a1 x30_2 x38_3).bind fun bt275=>(if x38_3 < ((rd_L1 y274 x30_2).length : Int) then ((shapesearchref14_At.f y274 a1 bt275.1 bt275.2).bind fun t280=>(shapesearchref14_Fill.l2 k3 l0 a1 (y274.set (x30_2 : Int).toNat ((rd_L1 y274 x30_2).set (x38_3 : Int).toNat (wrap64 ((rd (rd_L1 y274 x30_2) x38_3) + t280)))) x30_2 (l0.length : Int) x30_2 ((rd_L1 l0 x30_2).length : Int) (wrap64 (x38_3 + 1)))) else (none))) else (shapesearchref14_Fill.l2 k3 l0 a1 y274 x30_2 (l0.length : Int) x30_2 ((rd_L1 l0 x30_2).length : Int) (wrap64 (x38_3 + 1))))) else (none)) else (none)) else (none)) else (none)) = some r:=by rw [if_neg (show ¬ (false = true) by decide)] at H;exact H
                 clear H
                 have H:=H1
                 clear H1
                 by_cases c26 : x30_2 < (x5_3.length : Int)
                 ·
                  rw [if_pos c26] at H
                  have c26b0 : decide (x30_2 < (x5_3.length : Int)) = true:=decide_eq_true c26
                  clear c26
                  by_cases c27 : 0 ≤ x38_3
                  ·
                   rw [if_pos c27] at H
                   have c27b0 : decide (0 ≤ x38_3) = true:=decide_eq_true c27
                   clear c27
                   by_cases c28 : x38_3 < ((rd_L1 l0 x30_2).length : Int)
                   ·
                    rw [if_pos c28] at H
                    have c28b0 : decide (x38_3 < ((rd_L1 l0 x30_2).length : Int)) = true:=decide_eq_true c28
                    clear c28
                    by_cases c29 : x38_3 < ((rd_L1 x5_3 x30_2).length : Int)
                    ·
                     rw [if_pos c29] at H
                     have c29b0 : decide (x38_3 < ((rd_L1 x5_3 x30_2).length : Int)) = true:=decide_eq_true c29
                     clear c29
                     obtain ⟨y272,hy272⟩ : ∃ y_ : List Int,y_ = ((rd_L1 x5_3 x30_2).set (x38_3 : Int).toNat (rd (rd_L1 l0 x30_2) x38_3)):=⟨_,rfl⟩
                     replace H : ((some (x5_3.set (x30_2 : Int).toNat y272 : List (List Int))).bind fun y274=>(if (wrap64 (x30_2 + x38_3)) > 0 then ((shapesearchref14_Before.f y274 a1 x30_2 x38_3).bind fun bt275=>(if x38_3 < ((rd_L1 y274 x30_2).length : Int) then ((shapesearchref14_At.f y274 a1 bt275.1 bt275.2).bind fun t280=>(shapesearchref14_Fill.l2 k3 l0 a1 (y274.set (x30_2 : Int).toNat ((rd_L1 y274 x30_2).set (x38_3 : Int).toNat (wrap64 ((rd (rd_L1 y274 x30_2) x38_3) + t280)))) x30_2 (l0.length : Int) x30_2 ((rd_L1 l0 x30_2).length : Int) (wrap64 (x38_3 + 1)))) else (none))) else (shapesearchref14_Fill.l2 k3 l0 a1 y274 x30_2 (l0.length : Int) x30_2 ((rd_L1 l0 x30_2).length : Int) (wrap64 (x38_3 + 1))))) = some r:=by first|(rw [hy272];with_reducible exact H)|(have H2_:=(Option.bind_some _ _).symm.trans H;rw [hy272];with_reducible exact H2_)|(have H2_:=(Option.bind_some _ _).symm.trans H;with_reducible exact H2_)|with_reducible exact H|(rw [hy272];exact H)|exact H
                     have Ny272:=A_ hy272
                     clear hy272
                     obtain ⟨y274,hy274⟩ : ∃ y_ : List (List Int),y_ = (x5_3.set (x30_2 : Int).toNat y272):=⟨_,rfl⟩
                     replace H : (if (wrap64 (x30_2 + x38_3)) > 0 then ((shapesearchref14_Before.f y274 a1 x30_2 x38_3).bind fun bt275=>(if x38_3 < ((rd_L1 y274 x30_2).length : Int) then ((shapesearchref14_At.f y274 a1 bt275.1 bt275.2).bind fun t280=>(shapesearchref14_Fill.l2 k3 l0 a1 (y274.set (x30_2 : Int).toNat ((rd_L1 y274 x30_2).set (x38_3 : Int).toNat (wrap64 ((rd (rd_L1 y274 x30_2) x38_3) + t280)))) x30_2 (l0.length : Int) x30_2 ((rd_L1 l0 x30_2).length : Int) (wrap64 (x38_3 + 1)))) else (none))) else (shapesearchref14_Fill.l2 k3 l0 a1 y274 x30_2 (l0.length : Int) x30_2 ((rd_L1 l0 x30_2).length : Int) (wrap64 (x38_3 + 1)))) = some r:=by first|(rw [hy274];with_reducible exact H)|(have H2_:=(Option.bind_some _ _).symm.trans H;rw [hy274];with_reducible exact H2_)|(have H2_:=(Option.bind_some _ _).symm.trans H;with_reducible exact H2_)|with_reducible exact H|(rw [hy274];exact H)|exact H
                     have Ny274:=A_ hy274
                     clear hy274
                     by_cases c31 : (wrap64 (x30_2 + x38_3)) > 0
                     ·
                      rw [if_pos c31] at H
                      have c31b0 : decide (0 < (wrap64 (x30_2 + x38_3))) = true:=decide_eq_true c31
                      clear c31
                      replace H:=Option.bind_eq_some_iff.mp H
                      obtain ⟨⟨t275,t276⟩,A320,H⟩:=H
                      replace H : (if x38_3 < ((rd_L1 y274 x30_2).length : Int) then ((shapesearchref14_At.f y274 a1 t275 t276).bind fun t280=>(shapesearchref14_Fill.l2 k3 l0 a1 (y274.set (x30_2 : Int).toNat ((rd_L1 y274 x30_2).set (x38_3 : Int).toNat (wrap64 ((rd (rd_L1 y274 x30_2) x38_3) + t280)))) x30_2 (l0.length : Int) x30_2 ((rd_L1 l0 x30_2).length : Int) (wrap64 (x38_3 + 1)))) else (none)) = some r:=H
                      have A32:=A_ A320
                      clear A320
                      by_cases c33 : x38_3 < ((rd_L1 y274 x30_2).length : Int)
                      ·
                       rw [if_pos c33] at H
                       have c33b0 : decide (x38_3 < ((rd_L1 y274 x30_2).length : Int)) = true:=decide_eq_true c33
                       clear c33
                       replace H:=Option.bind_eq_some_iff.mp H
                       obtain ⟨t280,A340,H⟩:=H
                       replace H : (shapesearchref14_Fill.l2 k3 l0 a1 (y274.set (x30_2 : Int).toNat ((rd_L1 y274 x30_2).set (x38_3 : Int).toNat (wrap64 ((rd (rd_L1 y274 x30_2) x38_3) + t280)))) x30_2 (l0.length : Int) x30_2 ((rd_L1 l0 x30_2).length : Int) (wrap64 (x38_3 + 1))) = some r:=H
                       have A34:=A_ A340
                       clear A340
                       obtain ⟨y281,hy281⟩ : ∃ y_ : List Int,y_ = ((rd_L1 y274 x30_2).set (x38_3 : Int).toNat (wrap64 ((rd (rd_L1 y274 x30_2) x38_3) + t280))):=⟨_,rfl⟩
                       replace H : (shapesearchref14_Fill.l2 k3 l0 a1 (y274.set (x30_2 : Int).toNat y281) x30_2 (l0.length : Int) x30_2 ((rd_L1 l0 x30_2).length : Int) (wrap64 (x38_3 + 1))) = some r:=by first|(rw [hy281];with_reducible exact H)|(have H2_:=(Option.bind_some _ _).symm.trans H;rw [hy281];with_reducible exact H2_)|(have H2_:=(Option.bind_some _ _).symm.trans H;with_reducible exact H2_)|with_reducible exact H|(rw [hy281];exact H)|exact H
                       have Ny281:=A_ hy281
                       clear hy281
                       obtain ⟨y283,hy283⟩ : ∃ y_ : List (List Int),y_ = (y274.set (x30_2 : Int).toNat y281):=⟨_,rfl⟩
                       replace H : (shapesearchref14_Fill.l2 k3 l0 a1 y283 x30_2 (l0.length : Int) x30_2 ((rd_L1 l0 x30_2).length : Int) (wrap64 (x38_3 + 1))) = some r:=by first|(rw [hy283];with_reducible exact H)|(have H2_:=(Option.bind_some _ _).symm.trans H;rw [hy283];with_reducible exact H2_)|(have H2_:=(Option.bind_some _ _).symm.trans H;with_reducible exact H2_)|with_reducible exact H|(rw [hy283];exact H)|exact H
                       have Ny283:=A_ hy283
                       clear hy283
                       have H':=A_ H
                       clear H
                       have p267 : 0 ≤ (x30_2 : Int):=of_decide_eq_true (by first|(with_reducible assumption)|assumption)
                       have q267 : x30_2 < (l0.length : Int):=of_decide_eq_true (by first|(with_reducible assumption)|assumption)
                       obtain ⟨ad267,A267_0,c267_0,e267,hx267_0,hl267_0,hi267_0⟩:=at_L1 HR0.out x30_2 p267 q267
                       obtain rfl : ad266 = ad267:=(by injection e267)
                       replace hx267_0:=(HB.out.cell (World.block_lt_of_cell? w _ hx267_0)).trans hx267_0
                       have HR267_0:=A_ hi267_0
                       have HC267_0:=A_ hl267_0
                       clear hi267_0 hl267_0
                       replace p267:=eq_true p267
                       replace q267:=eq_true q267
                       try go_wp2_with (first|((with_reducible refine gate_callee (f:=58) rfl ?_);refine goesL_ (some 51) rfl rfl Try.func58 (by kernel_rfl) rfl #[.int .i64 (l0.length : Int),.int .i64 ((rd_L1 l0 x30_2).length : Int),.int .i64 a1,.int .i64 x30_2,.int .i64 x38_3] rfl (by (try simp only [List.map_toArray,List.map_cons,List.map_nil]);first|done|rfl|(simp only [List.length_drop,List.length_take];rfl)) ?_;(with_reducible refine (shapesearchref14_out.calls (l0.length : Int) ((rd_L1 l0 x30_2).length : Int) a1 x30_2 x38_3 false _ A24.out).mono ?_);rintro e w' ⟨rfl,⟨nd,rfl⟩⟩;refine ⟨_,rfl,?_⟩;(try (rw [drewN_self wr];generalize hq_ : World.drewN wr _ = wr;have n0_ : Aside0 (Kd.S (Kd.slice 3 (Kd.int .i64)) 22 wr w.heap.size (fun _=>True) v259 x5_3):=⟨by rw [← hq_];exact (by (with_reducible repeat (first|apply sa_|apply sd_|apply se_));exact HO_5.out)⟩;have n1_ : Aside0 (Below w.heap.size w wr):=⟨by rw [← hq_];exact (by repeat (first|(with_reducible first|exact HB.out|apply ba|apply bb|apply bc)|exact HB.out))⟩;clear HO_5 HB hq_;have HO_5:=n0_;have HB:=n1_;clear n0_ n1_))))
                       (try (rw [drewN_self wr];generalize hq_ : World.drewN wr _ = wr;have n0_ : Aside0 (Kd.S (Kd.slice 3 (Kd.int .i64)) 22 wr w.heap.size (fun _=>True) v259 x5_3):=⟨by rw [← hq_];exact (by (with_reducible repeat (first|apply sa_|apply sd_|apply se_));exact HO_5.out)⟩;have n1_ : Aside0 (Below w.heap.size w wr):=⟨by rw [← hq_];exact (by repeat (first|(with_reducible first|exact HB.out|apply ba|apply bb|apply bc)|exact HB.out))⟩;clear HO_5 HB hq_;have HO_5:=n0_;have HB:=n1_;clear n0_ n1_))
                       have n0_:=A_ (Kd.S_drew HO_5.out)
                       have n1_:=A_ (below_drew1 HB.out)
                       clear HO_5
                       clear HB
                       have HO_5:=n0_
                       have HB:=n1_
                       clear n0_ n1_
                       obtain ⟨Ao37,co37,eo37⟩:=Kd.S_slice HO_5.out
                       (first|subst eo37|(injection eo37 with f1_ f2_ f3_;have f4_:=f1_.symm;have f5_:=f3_.symm;clear f1_ f2_ f3_;subst f4_;subst f5_))
                       have p269 : 0 ≤ (x30_2 : Int):=of_decide_eq_true (by first|(with_reducible assumption)|assumption)
                       have q269 : x30_2 < (x5_3.length : Int):=of_decide_eq_true (by first|(with_reducible assumption)|assumption)
                       obtain ⟨ad269,A269_0,c269_0,e269,hx269_0,hl269_0,hi269_0⟩:=at_L1 (Kd.S_reads' HO_5.out).2.2 x30_2 p269 q269
                       cases e269
                       obtain ⟨ce269,hce269,hMe269,hcc269⟩:=Kd.S_get HO_5.out [] x30_2 p269 (by first|exact q269|exact of_decide_eq_true (by first|(with_reducible assumption)|assumption)|(have e_:=(Kd.S_reads' HO_5.out).1;omega))
                       obtain ⟨ve269_0,rfl,ge269_0⟩:=hMe269
                       have hv269_0:=hcc269 0 _ rfl
                       rw [Nat.add_zero,show ((Kd.slice 3 (Kd.int .i64))).sz = 1 from rfl,Nat.mul_one] at hv269_0
                       replace hv269_0:=Option.some.inj (hv269_0.symm.trans hx269_0)
                       rw [hv269_0] at ge269_0
                       have HL269_0:=A_ (show Kd.R (Kd.int .i64) 3 _ _ _ _ (rd_L1 x5_3 x30_2) from ge269_0)
                       clear hv269_0 ge269_0
                       have HX269_0:=A_ hx269_0
                       clear hcc269 hce269
                       have HR269_0:=A_ hi269_0
                       have HC269_0:=A_ hl269_0
                       clear hi269_0 hl269_0
                       replace p269:=eq_true p269
                       replace q269:=eq_true q269
                       have p270 : 0 ≤ (x30_2 : Int):=of_decide_eq_true (by first|(with_reducible assumption)|assumption)
                       have q270 : x30_2 < (l0.length : Int):=of_decide_eq_true (by first|(with_reducible assumption)|assumption)
                       obtain ⟨ad270,A270_0,c270_0,e270,hx270_0,hl270_0,hi270_0⟩:=at_L1 HR0.out x30_2 p270 q270
                       have hw270_0:=hx270_0
                       obtain rfl : ad266 = ad270:=(by injection e270)
                       replace hx270_0:=(HB.out.cell (World.block_lt_of_cell? w _ hx270_0)).trans hx270_0
                       have HR270_0:=A_ hi270_0
                       have HC270_0:=A_ hl270_0
                       clear hi270_0 hl270_0
                       replace p270:=eq_true p270
                       replace q270:=eq_true q270
                       have p271 : 0 ≤ (x38_3 : Int):=of_decide_eq_true (by first|(with_reducible assumption)|assumption)
                       have q271 : x38_3 < ((rd_L1 l0 x30_2).length : Int):=of_decide_eq_true (by first|(with_reducible assumption)|assumption)
                       obtain ⟨ad271,e271,hx271_0⟩:=Kd.at_int HR270_0.out x38_3 p271 q271
                       have hw271_0:=hx271_0
                       cases e271
                       replace hx271_0:=(HB.out.cell (World.block_lt_of_cell? w _ hx271_0)).trans hx271_0
                       replace p271:=eq_true p271
                       replace q271:=eq_true q271
                       have p30 : 0 ≤ (x38_3 : Int):=of_decide_eq_true (by first|(with_reducible assumption)|assumption)
                       have q30 : (x38_3 : Int) < (((rd_L1 x5_3 x30_2).length : Int) : Int):=of_decide_eq_true (by first|(with_reducible assumption)|assumption)
                       obtain ⟨go30,co30,eo30,gb30,gl30,cl30,HG30⟩:=Kd.R_form HL269_0.out (by omega)
                       (first|cases eo30|(injection eo30 with ea_ en_ ec_;(first|subst ea_|(injection ea_ with ea_;subst ea_));subst ec_;clear en_))
                       have GB30:=A_ gb30
                       have GG30:=A_ HG30
                       clear gb30 gl30 HG30
                       obtain ⟨hx30_0,hf30_0⟩:=Kd.R_celln 0 HL269_0.out (x38_3 : Int) p30 q30
                       replace p30:=eq_true p30
                       replace q30:=eq_true q30
                       have hq38 : (x30_2 : Int) < (x5_3.length : Int):=(by have h_ : (x30_2 : Int) < ((x5_3.length : Int) : Int):=of_decide_eq_true (by first|(with_reducible assumption)|assumption);first|exact h_|(have e_:=(Kd.S_reads' HO_5.out).1;omega)|simpa only [List.length_set,List.length_set] using h_)
                       obtain ⟨oki38,ce38,hcl38,hM38,hcc38,hok38,hbk38⟩:=Kd.S_borrow HO_5.out [] (x30_2 : Int) (of_decide_eq_true (by first|(with_reducible assumption)|assumption)) hq38
                       obtain ⟨ve38_0,rfl,ge38_0⟩:=hM38
                       have hv38:=hcc38 0 _ rfl
                       rw [Nat.add_zero,show ((Kd.slice 3 (Kd.int .i64))).sz = 1 from rfl,Nat.mul_one] at hv38
                       replace hv38:=Option.some.inj (hv38.symm.trans HX269_0.out)
                       subst hv38
                       clear hcc38 hcl38
                       replace ge38_0:=(show Kd.R (Kd.int .i64) 3 _ _ _ _ (rd_L1 x5_3 x30_2) from ge38_0)
                       have HP38:=Kd.R_putg ge38_0 (x38_3 : Int) (rd (rd_L1 l0 x30_2) x38_3)
                       rw [← Ny272.out] at HP38
                       have HS38:=hbk38 HP38.2 (fun k_ e_=>by injection e_ with e_;subst e_;exact ge38_0.1 _ rfl) (x':=y272) (Kd.M_row HP38.1)
                       rw [← Ny274.out] at HS38
                       have HQ38:=A_ HS38
                       clear HP38 HS38 hbk38 hok38
                       refine start_ (n:=14) (S:=fun w'=>w'.cell? (ad269.add (x30_2).toNat) = some (.slice (some ⟨go30,0,none⟩) (rd_L1 x5_3 x30_2).length c269_0)∧w'.cell? (ad266.add (x30_2).toNat) = some (.slice (some ad271) (rd_L1 l0 x30_2).length c270_0)∧w'.cell? (ad271.add (x38_3).toNat) = some (.int .i64 (rd (rd_L1 l0 x30_2) x38_3))) (ds:=[13]) #[false,false,false,false,false,false,false,false,false,false,false,false,false,false] (by kernel_rfl) rfl rfl ⟨hx269_0,((HB.out.cell (World.block_lt_of_cell? w _ hw270_0)).trans hw270_0),((HB.out.cell (World.block_lt_of_cell? w _ hw271_0)).trans hw271_0)⟩ (fun hHeld=>?_);refine with_tabW shapesearchref14_Fill.tab14 shapesearchref14_Fill.bits14 (fun HT_ HW_=>?_)
                       generalize wr.drew = w36 at HO_5 HB GG30 HL269_0 HQ38 HR269_0 HR270_0 HX269_0 hf30_0 hx269_0 hx270_0 hx271_0 hx30_0 hHeld ⊢
                       refine pure_ (i:=0) (N:=some 52) (v:=?_) (a':=?_) #[true,false,false,false,false,false,false,false,false,false,false,false,false,false] rfl rfl (any_of HT_.out (by kernel_rfl)) (fun _ _ _ h=>h) (Or.inl ⟨by rfl,?_⟩) ?_ ?_
                       rotate_left
                       ·
                        intro w'
                        go_simp
                        with_reducible rfl
                       rotate_left
                       ·
                        simp only [Act.put,sa,sb,sc,i64_w,i32_w]
                        rfl
                       refine pure_ (i:=1) (N:=some 53) (v:=?_) (a':=?_) #[true,true,false,false,false,false,false,false,false,false,false,false,false,false] rfl rfl (any_of HT_.out (by kernel_rfl)) (fun _ _ _ h=>h) (Or.inl ⟨by rfl,?_⟩) ?_ ?_
                       rotate_left
                       ·
                        intro w'
                        go_simp
                        with_reducible rfl
                       rotate_left
                       ·
                        simp only [Act.put,sa,sb,sc,i64_w,i32_w]
                        rfl
                       refine pure_ (i:=2) (N:=some 54) (v:=?_) (a':=?_) #[true,true,true,false,false,false,false,false,false,false,false,false,false,false] rfl rfl (any_of HT_.out (by kernel_rfl)) (fun _ _ _ h=>h) (Or.inl ⟨by rfl,?_⟩) ?_ ?_
                       rotate_left
                       ·
                        intro w'
                        go_simp
                        with_reducible rfl
                       rotate_left
                       ·
                        simp only [Act.put,sa,sb,sc,i64_w,i32_w]
                        rfl
                       refine pure_ (i:=4) (N:=some 56) (v:=?_) (a':=?_) #[true,true,true,false,true,false,false,false,false,false,false,false,false,false] rfl rfl (any_of HT_.out (by kernel_rfl)) (fun _ _ _ h=>h) (Or.inl ⟨by rfl,?_⟩) ?_ ?_
                       rotate_left
                       ·
                        intro w'
                        go_simp
                        with_reducible rfl
                       rotate_left
                       ·
                        simp only [Act.put,sa,sb,sc,i64_w,i32_w]
                        rfl
                       refine pure_ (i:=5) (N:=some 57) (v:=?_) (a':=?_) #[true,true,true,false,true,true,false,false,false,false,false,false,false,false] rfl rfl (any_of HT_.out (by kernel_rfl)) (fun _ _ _ h=>h) (Or.inl ⟨by rfl,?_⟩) ?_ ?_
                       rotate_left
                       ·
                        intro w'
                        go_simp
                        with_reducible rfl
                       rotate_left
                       ·
                        simp only [Act.put,sa,sb,sc,i64_w,i32_w]
                        rfl
                       refine pure_ (i:=6) (N:=some 58) (v:=?_) (a':=?_) #[true,true,true,false,true,true,true,false,false,false,false,false,false,false] rfl rfl (any_of HT_.out (by kernel_rfl)) (fun _ _ _ h=>h) (Or.inl ⟨by rfl,?_⟩) ?_ ?_
                       rotate_left
                       ·
                        intro w'
                        go_simp
                        with_reducible rfl
                       rotate_left
                       ·
                        simp only [Act.put,sa,sb,sc,i64_w,i32_w]
                        rfl
                       refine pure_ (i:=7) (N:=some 59) (v:=?_) (a':=?_) #[true,true,true,false,true,true,true,true,false,false,false,false,false,false] rfl rfl (any_of HT_.out (by kernel_rfl)) (fun _ _ _ h=>h) (Or.inl ⟨by rfl,?_⟩) ?_ ?_
                       rotate_left
                       ·
                        intro w'
                        go_simp
                        with_reducible rfl
                       rotate_left
                       ·
                        simp only [Act.put,sa,sb,sc,i64_w,i32_w]
                        rfl
                       refine pure_ (i:=9) (N:=some 61) (v:=?_) (a':=?_) #[true,true,true,false,true,true,true,true,false,true,false,false,false,false] rfl rfl (any_of HT_.out (by kernel_rfl)) (fun _ _ _ h=>h) (Or.inl ⟨by rfl,?_⟩) ?_ ?_
                       rotate_left
                       ·
                        intro w'
                        go_simp
                        with_reducible rfl
                       rotate_left
                       ·
                        simp only [Act.put,sa,sb,sc,i64_w,i32_w]
                        rfl
                       refine take_ (i:=3) (N:=some 55) (v:=?_) (a':=?_) #[true,true,true,true,true,true,true,true,false,true,false,false,false,false] rfl rfl (take_ofW HT_.out HW_.out (by kernel_rfl)) (fun _ _ _ h=>h) (Or.inl ⟨by rfl,?_⟩) hHeld ?_ ?_
                       rotate_left
                       ·
                        rintro w' ⟨s0,s1,s2⟩
                        go_simp
                        with_reducible rfl
                       rotate_left
                       ·
                        simp only [Act.put,sa,sb,sc,i64_w,i32_w]
                        rfl
                       refine take_ (i:=8) (N:=some 60) (v:=?_) (a':=?_) #[true,true,true,true,true,true,true,true,true,true,false,false,false,false] rfl rfl (take_ofW HT_.out HW_.out (by kernel_rfl)) (fun _ _ _ h=>h) (Or.inl ⟨by rfl,?_⟩) hHeld ?_ ?_
                       rotate_left
                       ·
                        rintro w' ⟨s0,s1,s2⟩
                        go_simp
                        with_reducible rfl
                       rotate_left
                       ·
                        simp only [Act.put,sa,sb,sc,i64_w,i32_w]
                        rfl
                       refine pure_ (i:=10) (N:=some 62) (v:=?_) (a':=?_) #[true,true,true,true,true,true,true,true,true,true,true,false,false,false] rfl rfl (any_of HT_.out (by kernel_rfl)) (fun _ _ _ h=>h) (Or.inl ⟨by rfl,?_⟩) ?_ ?_
                       rotate_left
                       ·
                        intro w'
                        go_simp
                        with_reducible rfl
                       rotate_left
                       ·
                        simp only [Act.put,sa,sb,sc,i64_w,i32_w]
                        rfl
                       refine take_ (i:=11) (N:=some 63) (v:=?_) (a':=?_) #[true,true,true,true,true,true,true,true,true,true,true,true,false,false] rfl rfl (take_ofW HT_.out HW_.out (by kernel_rfl)) (fun _ _ _ h=>h) (Or.inl ⟨by rfl,?_⟩) hHeld ?_ ?_
                       rotate_left
                       ·
                        rintro w' ⟨s0,s1,s2⟩
                        go_simp
                        with_reducible rfl
                       rotate_left
                       ·
                        simp only [Act.put,sa,sb,sc,i64_w,i32_w]
                        rfl
                       refine pure_ (i:=12) (N:=some 64) (v:=?_) (a':=?_) #[true,true,true,true,true,true,true,true,true,true,true,true,true,false] rfl rfl (any_of HT_.out (by kernel_rfl)) (fun _ _ _ h=>h) (Or.inl ⟨by rfl,?_⟩) ?_ ?_
                       rotate_left
                       ·
                        intro w'
                        go_simp
                        with_reducible rfl
                       rotate_left
                       ·
                        simp only [Act.put,sa,sb,sc,i64_w,i32_w]
                        rfl
                       refine last_ (i:=13) (N:=none) #[true,true,true,true,true,true,true,true,true,true,true,true,true,true] rfl rfl (one_of HT_.out (by kernel_rfl)) (by decide) (fun K hK=>?_)
                       refine skip_ (w1:=?_) (by rfl) rfl ?_ ?_
                       rotate_left
                       ·
                        go_simp
                        rfl
                       refine hK.out _ _ ?_
                       clear hK K
                       refine done_ (done_of HT_.out (by kernel_rfl)) ?_
                       have n0_ : Aside0 (Kd.S (Kd.slice 3 (Kd.int .i64)) 22 (w36.setCell ⟨go30,(x38_3 : Int).toNat,none⟩ (.int .i64 (rd (rd_L1 l0 x30_2) x38_3))) w.heap.size (fun _=>True) (.slice (some ad269) x5_3.length co37) y274):=⟨by (with_reducible repeat (first|apply sa_|apply sd_|apply se_));exact HQ38.out⟩
                       have n1_ : Aside0 (Below w.heap.size w (w36.setCell ⟨go30,(x38_3 : Int).toNat,none⟩ (.int .i64 (rd (rd_L1 l0 x30_2) x38_3)))):=⟨by repeat (first|(with_reducible first|exact HB.out|apply ba|apply bb|apply bc|refine below_set ?_ GB30.out)|exact HB.out)⟩
                       (try clear HO_5)
                       (try clear HB)
                       generalize (w36.setCell ⟨go30,(x38_3 : Int).toNat,none⟩ (.int .i64 (rd (rd_L1 l0 x30_2) x38_3))) = w40 at n0_ n1_ ⊢
                       have HO_5:=n0_
                       have HB:=n1_
                       clear n0_ n1_
                       try go_wp2_with (first|((with_reducible refine gate_callee (f:=59) rfl ?_);refine goesL_ (some 73) rfl rfl Try.func59 (by kernel_rfl) rfl #[.slice (some ad269) y274.length co37,.int .i64 a1,.int .i64 x30_2,.int .i64 x38_3] rfl (by (try simp only [List.map_toArray,List.map_cons,List.map_nil]);first|done|(rw [show y274.length = x5_3.length from (Kd.S_reads' HO_5.out).1.symm] <;> rfl)|rfl|(simp only [List.length_drop,List.length_take];rfl)) ?_;(with_reducible refine (shapesearchref14_Before.calls _ _ y274 a1 x30_2 x38_3 t275 t276 _ ?side1 ?side2 A32.out).mono ?_);(case side1=>repeat (first|exact (Kd.S_reads' HO_5.out).2.2|(with_reducible refine ca ?_ _)|(with_reducible refine cb ?_ _)|(with_reducible refine cc ?_)));(case side2=>rw [show y274.length = x5_3.length from (Kd.S_reads' HO_5.out).1.symm];exact (Kd.S_reads' HO_5.out).2.1);rintro e w41 ⟨rfl,hb⟩;refine ⟨_,rfl,?_⟩;have n0_:=A_ (Kd.S_below (by (with_reducible repeat (first|apply sa_|apply sd_|apply se_));exact HO_5.out) hb);have n1_:=A_ (below_step (by repeat (first|(with_reducible first|exact HB.out|apply ba|apply bb|apply bc)|exact HB.out)) hb);clear HO_5;clear HB;have HO_5:=n0_;have HB:=n1_;clear n0_ n1_;(try clear hb);(try clear hb2);(try clear hk);(try clear hi))|((with_reducible refine gate_dst (N:=9) rfl ?_);refine box_event ?hg (N:=9) ?hd (cs:=#[.int .i64 0,.int .i64 0]) (t:=73) ?hr ?_;(case hd=>rfl);(case hg=>rfl);(case hr=>first|(go_simp;done)|(go_simp;rfl));intro gb277 hg w42 hbox hb;have n0_:=A_ (Kd.S_below (by (with_reducible repeat (first|apply sa_|apply sd_|apply se_));exact HO_5.out) hb);have n1_:=A_ (below_step (by repeat (first|(with_reducible first|exact HB.out|apply ba|apply bb|apply bc)|exact HB.out)) hb);have n2_:=A_ (hbox);have n3_:=A_ ((by rw [hg];exact (below_size (by repeat (first|(with_reducible first|exact HB.out|apply ba|apply bb|apply bc)|exact HB.out))) : w.heap.size ≤ gb277));have n4_:=A_ ((by rw [hg];exact (below_size (by repeat (first|(with_reducible first|exact HB.out|apply ba|apply bb|apply bc)|exact HB.out))) : w.heap.size ≤ gb277));clear HO_5;clear HB;have HO_5:=n0_;have HB:=n1_;have BK277:=n2_;have GW277:=n3_;have GE277:=n4_;clear n0_ n1_ n2_ n3_ n4_;clear hb hbox hg;have hcz43_0 : w42.cell? ⟨gb277,0,none⟩ = some (.int .i64 0):=(blk_cell BK277.out 0).trans rfl;have hcz43_1 : w42.cell? ⟨gb277,1,none⟩ = some (.int .i64 0):=(blk_cell BK277.out 1).trans rfl;have hfz43_0:=blk_frozen BK277.out 0;have hfz43_1:=blk_frozen BK277.out 1))
                       have n0_ : Aside0 (Kd.S (Kd.slice 3 (Kd.int .i64)) 22 ((w42.setCell ⟨gb277,0,none⟩ (.int .i64 t275)).setCell ⟨gb277,1,none⟩ (.int .i64 t276)) w.heap.size (fun _=>True) (.slice (some ad269) x5_3.length co37) y274):=⟨by (with_reducible repeat (first|apply sa_|apply sd_|apply se_));exact Kd.S_mono (Kd.S_far (p:=⟨gb277,1,none⟩) (Kd.S_far (p:=⟨gb277,0,none⟩) (Kd.S_types HO_5.out BK277.out (by decide)) (fun _ hk=>hk.2) (.int .i64 t275)) (fun _ hk=>hk.2) (.int .i64 t276)) (fun _ hk=>trivial)⟩
                       have n1_ : Aside0 (((w42.setCell ⟨gb277,0,none⟩ (.int .i64 t275)).setCell ⟨gb277,1,none⟩ (.int .i64 t276)).heap[gb277]? = some (.cells #[.int .i64 t275,.int .i64 t276] 73 (0,0))):=⟨by (with_reducible repeat (first|refine blk_drewN ?_ _|refine blk_drew ?_|refine blk_alloc ?_ _));refine blk_put (cs:=#[.int .i64 t275,.int .i64 0]) ?_ 1 _ rfl;(with_reducible repeat (first|refine blk_drewN ?_ _|refine blk_drew ?_|refine blk_alloc ?_ _));refine blk_put (cs:=#[.int .i64 0,.int .i64 0]) ?_ 0 _ rfl;(with_reducible repeat (first|refine blk_drewN ?_ _|refine blk_drew ?_|refine blk_alloc ?_ _));exact BK277.out⟩
                       have n2_ : Aside0 (Below w.heap.size w ((w42.setCell ⟨gb277,0,none⟩ (.int .i64 t275)).setCell ⟨gb277,1,none⟩ (.int .i64 t276))):=⟨by repeat (first|(with_reducible first|exact HB.out|apply ba|apply bb|apply bc|refine below_set ?_ GE277.out)|exact HB.out)⟩
                       (try clear HO_5)
                       (try clear BK277)
                       (try clear HB)
                       generalize ((w42.setCell ⟨gb277,0,none⟩ (.int .i64 t275)).setCell ⟨gb277,1,none⟩ (.int .i64 t276)) = w44 at n0_ n1_ n2_ ⊢
                       have HO_5:=n0_
                       have BK277:=n1_
                       have HB:=n2_
                       clear n0_ n1_ n2_
                       have n0_:=A_ (Kd.S_drew HO_5.out)
                       have n1_:=A_ (blk_drew BK277.out)
                       have n2_:=A_ (below_drew1 HB.out)
                       clear HO_5
                       clear BK277
                       clear HB
                       have HO_5:=n0_
                       have BK277:=n1_
                       have HB:=n2_
                       clear n0_ n1_ n2_
                       have p278 : 0 ≤ (x30_2 : Int):=of_decide_eq_true (by first|(with_reducible assumption)|assumption)
                       have q278 : x30_2 < (y274.length : Int):=(by have h_ : (x30_2 : Int) < ((x5_3.length : Int) : Int):=of_decide_eq_true (by first|(with_reducible assumption)|assumption);first|(have e_:=(Kd.S_reads' HO_5.out).1;omega)|simpa only [Ny274.out,List.length_set] using h_)
                       have ql278 : ((x30_2 : Int) < ((x5_3.length : Int) : Int)) = True:=eq_true (of_decide_eq_true (by first|(with_reducible assumption)|assumption))
                       obtain ⟨ad278,A278_0,c278_0,e278,hx278_0,hl278_0,hi278_0⟩:=at_L1 (Kd.S_reads' HO_5.out).2.2 x30_2 p278 q278
                       obtain rfl : ad269 = ad278:=(by injection e278)
                       obtain ⟨ce278,hce278,hMe278,hcc278⟩:=Kd.S_get HO_5.out [] x30_2 p278 (by first|exact q278|exact of_decide_eq_true (by first|(with_reducible assumption)|assumption)|(have e_:=(Kd.S_reads' HO_5.out).1;omega))
                       obtain ⟨ve278_0,rfl,ge278_0⟩:=hMe278
                       have hv278_0:=hcc278 0 _ rfl
                       rw [Nat.add_zero,show ((Kd.slice 3 (Kd.int .i64))).sz = 1 from rfl,Nat.mul_one] at hv278_0
                       replace hv278_0:=Option.some.inj (hv278_0.symm.trans hx278_0)
                       rw [hv278_0] at ge278_0
                       have HL278_0:=A_ (show Kd.R (Kd.int .i64) 3 _ _ _ _ (rd_L1 y274 x30_2) from ge278_0)
                       clear hv278_0 ge278_0
                       have HX278_0:=A_ hx278_0
                       clear hcc278 hce278
                       have HR278_0:=A_ hi278_0
                       have HC278_0:=A_ hl278_0
                       clear hi278_0 hl278_0
                       replace p278:=eq_true p278
                       replace q278:=eq_true q278
                       have p279 : 0 ≤ (x38_3 : Int):=of_decide_eq_true (by first|(with_reducible assumption)|assumption)
                       have q279 : x38_3 < ((rd_L1 y274 x30_2).length : Int):=of_decide_eq_true (by first|(with_reducible assumption)|assumption)
                       obtain ⟨ad279,e279,hx279_0⟩:=Kd.at_int (by repeat (first|(with_reducible exact HR278_0.out)|(with_reducible refine ca ?_ _)|(with_reducible refine cb ?_ _)|(with_reducible refine cc ?_)|exact HR278_0.out)) x38_3 p279 q279
                       cases e279
                       replace p279:=eq_true p279
                       replace q279:=eq_true q279
                       refine start_ (n:=17) (S:=fun w'=>w'.cell? ⟨gb277,0,none⟩ = some (.int .i64 t275)∧w'.cell? ⟨gb277,1,none⟩ = some (.int .i64 t276)∧w'.cell? (ad269.add (x30_2).toNat) = some (.slice (some ad279) (rd_L1 y274 x30_2).length c278_0)∧w'.cell? (ad279.add (x38_3).toNat) = some (.int .i64 (rd (rd_L1 y274 x30_2) x38_3))) (ds:=[16]) #[false,false,false,false,false,false,false,false,false,false,false,false,false,false,false,false,false] (by kernel_rfl) rfl rfl ⟨(blk_cell BK277.out 0).trans rfl,(blk_cell BK277.out 1).trans rfl,hx278_0,hx279_0⟩ (fun hHeld=>?_);refine with_tabW shapesearchref14_Fill.tab17 shapesearchref14_Fill.bits17 (fun HT_ HW_=>?_)
                       generalize w44.drew = w45 at HO_5 BK277 HB HL278_0 HR278_0 HX278_0 hx278_0 hx279_0 hHeld ⊢
                       refine pure_ (i:=0) (N:=some 74) (v:=?_) (a':=?_) #[true,false,false,false,false,false,false,false,false,false,false,false,false,false,false,false,false] rfl rfl (any_of HT_.out (by kernel_rfl)) (fun _ _ _ h=>h) (Or.inl ⟨by rfl,?_⟩) ?_ ?_
                       rotate_left
                       ·
                        intro w'
                        go_simp
                        with_reducible rfl
                       rotate_left
                       ·
                        simp only [Act.put,sa,sb,sc,i64_w,i32_w]
                        rfl
                       refine pure_ (i:=1) (N:=some 75) (v:=?_) (a':=?_) #[true,true,false,false,false,false,false,false,false,false,false,false,false,false,false,false,false] rfl rfl (any_of HT_.out (by kernel_rfl)) (fun _ _ _ h=>h) (Or.inl ⟨by rfl,?_⟩) ?_ ?_
                       rotate_left
                       ·
                        intro w'
                        go_simp
                        with_reducible rfl
                       rotate_left
                       ·
                        simp only [Act.put,sa,sb,sc,i64_w,i32_w]
                        rfl
                       refine pure_ (i:=2) (N:=some 76) (v:=?_) (a':=?_) #[true,true,true,false,false,false,false,false,false,false,false,false,false,false,false,false,false] rfl rfl (any_of HT_.out (by kernel_rfl)) (fun _ _ _ h=>h) (Or.inl ⟨by rfl,?_⟩) ?_ ?_
                       rotate_left
                       ·
                        intro w'
                        go_simp
                        with_reducible rfl
                       rotate_left
                       ·
                        simp only [Act.put,sa,sb,sc,i64_w,i32_w]
                        rfl
                       refine pure_ (i:=4) (N:=some 78) (v:=?_) (a':=?_) #[true,true,true,false,true,false,false,false,false,false,false,false,false,false,false,false,false] rfl rfl (any_of HT_.out (by kernel_rfl)) (fun _ _ _ h=>h) (Or.inl ⟨by rfl,?_⟩) ?_ ?_
                       rotate_left
                       ·
                        intro w'
                        go_simp
                        with_reducible rfl
                       rotate_left
                       ·
                        simp only [Act.put,sa,sb,sc,i64_w,i32_w]
                        rfl
                       refine pure_ (i:=7) (N:=some 81) (v:=?_) (a':=?_) #[true,true,true,false,true,false,false,true,false,false,false,false,false,false,false,false,false] rfl rfl (any_of HT_.out (by kernel_rfl)) (fun _ _ _ h=>h) (Or.inl ⟨by rfl,?_⟩) ?_ ?_
                       rotate_left
                       ·
                        intro w'
                        go_simp
                        with_reducible rfl
                       rotate_left
                       ·
                        simp only [Act.put,sa,sb,sc,i64_w,i32_w]
                        rfl
                       refine pure_ (i:=8) (N:=some 82) (v:=?_) (a':=?_) #[true,true,true,false,true,false,false,true,true,false,false,false,false,false,false,false,false] rfl rfl (any_of HT_.out (by kernel_rfl)) (fun _ _ _ h=>h) (Or.inl ⟨by rfl,?_⟩) ?_ ?_
                       rotate_left
                       ·
                        intro w'
                        go_simp
                        with_reducible rfl
                       rotate_left
                       ·
                        simp only [Act.put,sa,sb,sc,i64_w,i32_w]
                        rfl
                       refine pure_ (i:=9) (N:=some 83) (v:=?_) (a':=?_) #[true,true,true,false,true,false,false,true,true,true,false,false,false,false,false,false,false] rfl rfl (any_of HT_.out (by kernel_rfl)) (fun _ _ _ h=>h) (Or.inl ⟨by rfl,?_⟩) ?_ ?_
                       rotate_left
                       ·
                        intro w'
                        go_simp
                        with_reducible rfl
                       rotate_left
                       ·
                        simp only [Act.put,sa,sb,sc,i64_w,i32_w]
                        rfl
                       refine pure_ (i:=11) (N:=some 85) (v:=?_) (a':=?_) #[true,true,true,false,true,false,false,true,true,true,false,true,false,false,false,false,false] rfl rfl (any_of HT_.out (by kernel_rfl)) (fun _ _ _ h=>h) (Or.inl ⟨by rfl,?_⟩) ?_ ?_
                       rotate_left
                       ·
                        intro w'
                        go_simp
                        with_reducible rfl
                       rotate_left
                       ·
                        simp only [Act.put,sa,sb,sc,i64_w,i32_w]
                        rfl
                       refine take_ (i:=3) (N:=some 77) (v:=?_) (a':=?_) #[true,true,true,true,true,false,false,true,true,true,false,true,false,false,false,false,false] rfl rfl (take_ofW HT_.out HW_.out (by kernel_rfl)) (fun _ _ _ h=>h) (Or.inl ⟨by rfl,?_⟩) hHeld ?_ ?_
                       rotate_left
                       ·
                        rintro w' ⟨s0,s1,s2,s3⟩
                        go_simp
                        with_reducible rfl
                       rotate_left
                       ·
                        simp only [Act.put,sa,sb,sc,i64_w,i32_w]
                        rfl
                       refine pure_ (i:=5) (N:=some 79) (v:=?_) (a':=?_) #[true,true,true,true,true,true,false,true,true,true,false,true,false,false,false,false,false] rfl rfl (any_of HT_.out (by kernel_rfl)) (fun _ _ _ h=>h) (Or.inl ⟨by rfl,?_⟩) ?_ ?_
                       rotate_left
                       ·
                        intro w'
                        go_simp
                        with_reducible rfl
                       rotate_left
                       ·
                        simp only [Act.put,sa,sb,sc,i64_w,i32_w]
                        rfl
                       refine take_ (i:=6) (N:=some 80) (v:=?_) (a':=?_) #[true,true,true,true,true,true,true,true,true,true,false,true,false,false,false,false,false] rfl rfl (take_ofW HT_.out HW_.out (by kernel_rfl)) (fun _ _ _ h=>h) (Or.inl ⟨by rfl,?_⟩) hHeld ?_ ?_
                       rotate_left
                       ·
                        rintro w' ⟨s0,s1,s2,s3⟩
                        go_simp
                        with_reducible rfl
                       rotate_left
                       ·
                        simp only [Act.put,sa,sb,sc,i64_w,i32_w]
                        rfl
                       refine take_ (i:=10) (N:=some 84) (v:=?_) (a':=?_) #[true,true,true,true,true,true,true,true,true,true,true,true,false,false,false,false,false] rfl rfl (take_ofW HT_.out HW_.out (by kernel_rfl)) (fun _ _ _ h=>h) (Or.inl ⟨by rfl,?_⟩) hHeld ?_ ?_
                       rotate_left
                       ·
                        rintro w' ⟨s0,s1,s2,s3⟩
                        go_simp
                        with_reducible rfl
                       rotate_left
                       ·
                        simp only [Act.put,sa,sb,sc,i64_w,i32_w]
                        rfl
                       refine take_ (i:=12) (N:=some 86) (v:=?_) (a':=?_) #[true,true,true,true,true,true,true,true,true,true,true,true,true,false,false,false,false] rfl rfl (take_ofW HT_.out HW_.out (by kernel_rfl)) (fun _ _ _ h=>h) (Or.inl ⟨by rfl,?_⟩) hHeld ?_ ?_
                       rotate_left
                       ·
                        rintro w' ⟨s0,s1,s2,s3⟩
                        go_simp
                        with_reducible rfl
                       rotate_left
                       ·
                        simp only [Act.put,sa,sb,sc,i64_w,i32_w]
                        rfl
                       refine one_ (i:=13) (N:=some 87) #[true,true,true,true,true,true,true,true,true,true,true,true,true,true,false,false,false] rfl rfl (one_of HT_.out (by kernel_rfl)) (by decide) (fun K hK=>?_)
                       refine goes_ Try.func60 (by kernel_rfl) rfl #[.slice (some ad269) y274.length co37,.int .i64 a1,.int .i64 t275,.int .i64 t276] (by rfl) rfl rfl (by (try simp only [List.map_toArray,List.map_cons,List.map_nil]);first|done|(rw [show y274.length = x5_3.length from (Kd.S_reads' HO_5.out).1.symm] <;> rfl)|rfl|(simp only [List.length_drop,List.length_take];rfl)) ?_
                       with_reducible refine (shapesearchref14_At.calls _ _ y274 a1 t275 t276 t280 _ ?side1 ?side2 A34.out).mono ?_
                       (case side1=>repeat (first|exact (Kd.S_reads' HO_5.out).2.2|(with_reducible refine ca ?_ _)|(with_reducible refine cb ?_ _)|(with_reducible refine cc ?_)))
                       (case side2=>rw [show y274.length = x5_3.length from (Kd.S_reads' HO_5.out).1.symm];exact (Kd.S_reads' HO_5.out).2.1)
                       rintro e w' ⟨rfl,⟨nd,rfl⟩⟩
                       refine ⟨_,rfl,?_⟩
                       have p35 : 0 ≤ (x38_3 : Int):=of_decide_eq_true (by first|(with_reducible assumption)|assumption)
                       have q35 : (x38_3 : Int) < (((rd_L1 y274 x30_2).length : Int) : Int):=of_decide_eq_true (by first|(with_reducible assumption)|assumption)
                       obtain ⟨go35,co35,eo35,gb35,gl35,cl35,HG35⟩:=Kd.R_form HL278_0.out (by omega)
                       (first|cases eo35|(injection eo35 with ea_ en_ ec_;(first|subst ea_|(injection ea_ with ea_;subst ea_));subst ec_;clear en_))
                       have GB35:=A_ gb35
                       have GG35:=A_ HG35
                       clear gb35 gl35 HG35
                       (first|simp only [add_plain] at hx279_0|skip)
                       obtain ⟨hx35_0,hf35_0⟩:=Kd.R_celln 0 HL278_0.out (x38_3 : Int) p35 q35
                       replace p35:=eq_true p35
                       replace q35:=eq_true q35
                       have hq46 : (x30_2 : Int) < (y274.length : Int):=(by have h_ : (x30_2 : Int) < ((x5_3.length : Int) : Int):=of_decide_eq_true (by first|(with_reducible assumption)|assumption);first|exact h_|(have e_:=(Kd.S_reads' HO_5.out).1;omega)|simpa only [Ny274.out,List.length_set] using h_)
                       obtain ⟨oki46,ce46,hcl46,hM46,hcc46,hok46,hbk46⟩:=Kd.S_borrow HO_5.out [] (x30_2 : Int) (of_decide_eq_true (by first|(with_reducible assumption)|assumption)) (by first|exact hq46|exact of_decide_eq_true (by first|(with_reducible assumption)|assumption)|(have e_:=(Kd.S_reads' HO_5.out).1;omega))
                       obtain ⟨ve46_0,rfl,ge46_0⟩:=hM46
                       have hv46:=hcc46 0 _ rfl
                       rw [Nat.add_zero,show ((Kd.slice 3 (Kd.int .i64))).sz = 1 from rfl,Nat.mul_one] at hv46
                       replace hv46:=Option.some.inj (hv46.symm.trans HX278_0.out)
                       subst hv46
                       clear hcc46 hcl46
                       replace ge46_0:=(show Kd.R (Kd.int .i64) 3 _ _ _ _ (rd_L1 y274 x30_2) from ge46_0)
                       have HP46:=Kd.R_putg ge46_0 (x38_3 : Int) (wrap64 ((rd (rd_L1 y274 x30_2) x38_3) + t280))
                       rw [← Ny281.out] at HP46
                       have HS46:=hbk46 HP46.2 (fun k_ e_=>by injection e_ with e_;subst e_;exact ge46_0.1 _ rfl) (x':=y281) (Kd.M_row HP46.1)
                       rw [← Ny283.out] at HS46
                       have HQ46:=A_ HS46
                       clear HP46 HS46 hbk46 hok46
                       refine hK.out _ _ ⟨(blk_cell BK277.out 0).trans rfl,(blk_cell BK277.out 1).trans rfl,hHeld.2.2.1,hHeld.2.2.2⟩ (fun hHeld=>?_)
                       clear hK K
                       refine norm_ (a':=?_) ?_ ?_
                       rotate_left
                       ·
                        show Act.put _ (some 87) _ = _
                        simp only [Act.put,sa,sb,sc,i64_w,i32_w]
                        rfl
                       refine pure_ (i:=14) (N:=some 88) (v:=?_) (a':=?_) #[true,true,true,true,true,true,true,true,true,true,true,true,true,true,true,false,false] rfl rfl (any_of HT_.out (by kernel_rfl)) (fun _ _ _ h=>h) (Or.inl ⟨by rfl,?_⟩) ?_ ?_
                       rotate_left
                       ·
                        intro w'
                        go_simp
                        with_reducible rfl
                       rotate_left
                       ·
                        simp only [Act.put,sa,sb,sc,i64_w,i32_w]
                        rfl
                       refine pure_ (i:=15) (N:=some 89) (v:=?_) (a':=?_) #[true,true,true,true,true,true,true,true,true,true,true,true,true,true,true,true,false] rfl rfl (any_of HT_.out (by kernel_rfl)) (fun _ _ _ h=>h) (Or.inl ⟨by rfl,?_⟩) ?_ ?_
                       rotate_left
                       ·
                        intro w'
                        go_simp
                        with_reducible rfl
                       rotate_left
                       ·
                        simp only [Act.put,sa,sb,sc,i64_w,i32_w]
                        rfl
                       refine last_ (i:=16) (N:=none) #[true,true,true,true,true,true,true,true,true,true,true,true,true,true,true,true,true] rfl rfl (one_of HT_.out (by kernel_rfl)) (by decide) (fun K hK=>?_)
                       refine skip_ (w1:=?_) (by rfl) rfl ?_ ?_
                       rotate_left
                       ·
                        go_simp
                        rfl
                       refine hK.out _ _ ?_
                       clear hK K
                       refine done_ (done_of HT_.out (by kernel_rfl)) ?_
                       try go_wp2
                       go_roundg k3
                       case measure=>have:=HK1.out;have:=HK2.out;have:=HK3.out;omega
                       case rel=>exact ⟨(y283),(wrap64 (x38_3 + 1)),(by first|rfl|(simp;done)|(simp [*];done)),H',⟨by have:=HK1.out;have:=HK2.out;have:=HK3.out;omega⟩,⟨by (with_reducible repeat (first|apply sa_|apply sd_|apply se_));exact HQ46.out⟩,⟨by repeat (first|(with_reducible first|exact HB.out|apply ba|apply bb|apply bc|refine below_set ?_ GB35.out|refine below_set ?_ GE277.out)|exact HB.out)⟩⟩
                      ·
                       rw [if_neg c33] at H
                       exact absurd H (by simp)
                     ·
                      rw [if_neg c31] at H
                      have c31b0 : decide (0 < (wrap64 (x30_2 + x38_3))) = false:=decide_eq_false c31
                      clear c31
                      have H':=A_ H
                      clear H
                      have p267 : 0 ≤ (x30_2 : Int):=of_decide_eq_true (by first|(with_reducible assumption)|assumption)
                      have q267 : x30_2 < (l0.length : Int):=of_decide_eq_true (by first|(with_reducible assumption)|assumption)
                      obtain ⟨ad267,A267_0,c267_0,e267,hx267_0,hl267_0,hi267_0⟩:=at_L1 HR0.out x30_2 p267 q267
                      obtain rfl : ad266 = ad267:=(by injection e267)
                      replace hx267_0:=(HB.out.cell (World.block_lt_of_cell? w _ hx267_0)).trans hx267_0
                      have HR267_0:=A_ hi267_0
                      have HC267_0:=A_ hl267_0
                      clear hi267_0 hl267_0
                      replace p267:=eq_true p267
                      replace q267:=eq_true q267
                      try go_wp2_with (first|((with_reducible refine gate_callee (f:=58) rfl ?_);refine goesL_ (some 51) rfl rfl Try.func58 (by kernel_rfl) rfl #[.int .i64 (l0.length : Int),.int .i64 ((rd_L1 l0 x30_2).length : Int),.int .i64 a1,.int .i64 x30_2,.int .i64 x38_3] rfl (by (try simp only [List.map_toArray,List.map_cons,List.map_nil]);first|done|rfl|(simp only [List.length_drop,List.length_take];rfl)) ?_;(with_reducible refine (shapesearchref14_out.calls (l0.length : Int) ((rd_L1 l0 x30_2).length : Int) a1 x30_2 x38_3 false _ A24.out).mono ?_);rintro e w' ⟨rfl,⟨nd,rfl⟩⟩;refine ⟨_,rfl,?_⟩;(try (rw [drewN_self wr];generalize hq_ : World.drewN wr _ = wr;have n0_ : Aside0 (Kd.S (Kd.slice 3 (Kd.int .i64)) 22 wr w.heap.size (fun _=>True) v259 x5_3):=⟨by rw [← hq_];exact (by (with_reducible repeat (first|apply sa_|apply sd_|apply se_));exact HO_5.out)⟩;have n1_ : Aside0 (Below w.heap.size w wr):=⟨by rw [← hq_];exact (by repeat (first|(with_reducible first|exact HB.out|apply ba|apply bb|apply bc)|exact HB.out))⟩;clear HO_5 HB hq_;have HO_5:=n0_;have HB:=n1_;clear n0_ n1_))))
                      (try (rw [drewN_self wr];generalize hq_ : World.drewN wr _ = wr;have n0_ : Aside0 (Kd.S (Kd.slice 3 (Kd.int .i64)) 22 wr w.heap.size (fun _=>True) v259 x5_3):=⟨by rw [← hq_];exact (by (with_reducible repeat (first|apply sa_|apply sd_|apply se_));exact HO_5.out)⟩;have n1_ : Aside0 (Below w.heap.size w wr):=⟨by rw [← hq_];exact (by repeat (first|(with_reducible first|exact HB.out|apply ba|apply bb|apply bc)|exact HB.out))⟩;clear HO_5 HB hq_;have HO_5:=n0_;have HB:=n1_;clear n0_ n1_))
                      have n0_:=A_ (Kd.S_drew HO_5.out)
                      have n1_:=A_ (below_drew1 HB.out)
                      clear HO_5
                      clear HB
                      have HO_5:=n0_
                      have HB:=n1_
                      clear n0_ n1_
                      obtain ⟨Ao49,co49,eo49⟩:=Kd.S_slice HO_5.out
                      (first|subst eo49|(injection eo49 with f1_ f2_ f3_;have f4_:=f1_.symm;have f5_:=f3_.symm;clear f1_ f2_ f3_;subst f4_;subst f5_))
                      have p269 : 0 ≤ (x30_2 : Int):=of_decide_eq_true (by first|(with_reducible assumption)|assumption)
                      have q269 : x30_2 < (x5_3.length : Int):=of_decide_eq_true (by first|(with_reducible assumption)|assumption)
                      obtain ⟨ad269,A269_0,c269_0,e269,hx269_0,hl269_0,hi269_0⟩:=at_L1 (Kd.S_reads' HO_5.out).2.2 x30_2 p269 q269
                      cases e269
                      obtain ⟨ce269,hce269,hMe269,hcc269⟩:=Kd.S_get HO_5.out [] x30_2 p269 (by first|exact q269|exact of_decide_eq_true (by first|(with_reducible assumption)|assumption)|(have e_:=(Kd.S_reads' HO_5.out).1;omega))
                      obtain ⟨ve269_0,rfl,ge269_0⟩:=hMe269
                      have hv269_0:=hcc269 0 _ rfl
                      rw [Nat.add_zero,show ((Kd.slice 3 (Kd.int .i64))).sz = 1 from rfl,Nat.mul_one] at hv269_0
                      replace hv269_0:=Option.some.inj (hv269_0.symm.trans hx269_0)
                      rw [hv269_0] at ge269_0
                      have HL269_0:=A_ (show Kd.R (Kd.int .i64) 3 _ _ _ _ (rd_L1 x5_3 x30_2) from ge269_0)
                      clear hv269_0 ge269_0
                      have HX269_0:=A_ hx269_0
                      clear hcc269 hce269
                      have HR269_0:=A_ hi269_0
                      have HC269_0:=A_ hl269_0
                      clear hi269_0 hl269_0
                      replace p269:=eq_true p269
                      replace q269:=eq_true q269
                      have p270 : 0 ≤ (x30_2 : Int):=of_decide_eq_true (by first|(with_reducible assumption)|assumption)
                      have q270 : x30_2 < (l0.length : Int):=of_decide_eq_true (by first|(with_reducible assumption)|assumption)
                      obtain ⟨ad270,A270_0,c270_0,e270,hx270_0,hl270_0,hi270_0⟩:=at_L1 HR0.out x30_2 p270 q270
                      have hw270_0:=hx270_0
                      obtain rfl : ad266 = ad270:=(by injection e270)
                      replace hx270_0:=(HB.out.cell (World.block_lt_of_cell? w _ hx270_0)).trans hx270_0
                      have HR270_0:=A_ hi270_0
                      have HC270_0:=A_ hl270_0
                      clear hi270_0 hl270_0
                      replace p270:=eq_true p270
                      replace q270:=eq_true q270
                      have p271 : 0 ≤ (x38_3 : Int):=of_decide_eq_true (by first|(with_reducible assumption)|assumption)
                      have q271 : x38_3 < ((rd_L1 l0 x30_2).length : Int):=of_decide_eq_true (by first|(with_reducible assumption)|assumption)
                      obtain ⟨ad271,e271,hx271_0⟩:=Kd.at_int HR270_0.out x38_3 p271 q271
                      have hw271_0:=hx271_0
                      cases e271
                      replace hx271_0:=(HB.out.cell (World.block_lt_of_cell? w _ hx271_0)).trans hx271_0
                      replace p271:=eq_true p271
                      replace q271:=eq_true q271
                      have p30 : 0 ≤ (x38_3 : Int):=of_decide_eq_true (by first|(with_reducible assumption)|assumption)
                      have q30 : (x38_3 : Int) < (((rd_L1 x5_3 x30_2).length : Int) : Int):=of_decide_eq_true (by first|(with_reducible assumption)|assumption)
                      obtain ⟨go30,co30,eo30,gb30,gl30,cl30,HG30⟩:=Kd.R_form HL269_0.out (by omega)
                      (first|cases eo30|(injection eo30 with ea_ en_ ec_;(first|subst ea_|(injection ea_ with ea_;subst ea_));subst ec_;clear en_))
                      have GB30:=A_ gb30
                      have GG30:=A_ HG30
                      clear gb30 gl30 HG30
                      obtain ⟨hx30_0,hf30_0⟩:=Kd.R_celln 0 HL269_0.out (x38_3 : Int) p30 q30
                      replace p30:=eq_true p30
                      replace q30:=eq_true q30
                      have hq50 : (x30_2 : Int) < (x5_3.length : Int):=(by have h_ : (x30_2 : Int) < ((x5_3.length : Int) : Int):=of_decide_eq_true (by first|(with_reducible assumption)|assumption);first|exact h_|(have e_:=(Kd.S_reads' HO_5.out).1;omega)|simpa only [List.length_set,List.length_set] using h_)
                      obtain ⟨oki50,ce50,hcl50,hM50,hcc50,hok50,hbk50⟩:=Kd.S_borrow HO_5.out [] (x30_2 : Int) (of_decide_eq_true (by first|(with_reducible assumption)|assumption)) hq50
                      obtain ⟨ve50_0,rfl,ge50_0⟩:=hM50
                      have hv50:=hcc50 0 _ rfl
                      rw [Nat.add_zero,show ((Kd.slice 3 (Kd.int .i64))).sz = 1 from rfl,Nat.mul_one] at hv50
                      replace hv50:=Option.some.inj (hv50.symm.trans HX269_0.out)
                      subst hv50
                      clear hcc50 hcl50
                      replace ge50_0:=(show Kd.R (Kd.int .i64) 3 _ _ _ _ (rd_L1 x5_3 x30_2) from ge50_0)
                      have HP50:=Kd.R_putg ge50_0 (x38_3 : Int) (rd (rd_L1 l0 x30_2) x38_3)
                      rw [← Ny272.out] at HP50
                      have HS50:=hbk50 HP50.2 (fun k_ e_=>by injection e_ with e_;subst e_;exact ge50_0.1 _ rfl) (x':=y272) (Kd.M_row HP50.1)
                      rw [← Ny274.out] at HS50
                      have HQ50:=A_ HS50
                      clear HP50 HS50 hbk50 hok50
                      refine start_ (n:=14) (S:=fun w'=>w'.cell? (ad269.add (x30_2).toNat) = some (.slice (some ⟨go30,0,none⟩) (rd_L1 x5_3 x30_2).length c269_0)∧w'.cell? (ad266.add (x30_2).toNat) = some (.slice (some ad271) (rd_L1 l0 x30_2).length c270_0)∧w'.cell? (ad271.add (x38_3).toNat) = some (.int .i64 (rd (rd_L1 l0 x30_2) x38_3))) (ds:=[13]) #[false,false,false,false,false,false,false,false,false,false,false,false,false,false] (by kernel_rfl) rfl rfl ⟨hx269_0,((HB.out.cell (World.block_lt_of_cell? w _ hw270_0)).trans hw270_0),((HB.out.cell (World.block_lt_of_cell? w _ hw271_0)).trans hw271_0)⟩ (fun hHeld=>?_);refine with_tabW shapesearchref14_Fill.tab14 shapesearchref14_Fill.bits14 (fun HT_ HW_=>?_)
                      generalize wr.drew = w48 at HO_5 HB GG30 HL269_0 HQ50 HR269_0 HR270_0 HX269_0 hf30_0 hx269_0 hx270_0 hx271_0 hx30_0 hHeld ⊢
                      refine pure_ (i:=0) (N:=some 52) (v:=?_) (a':=?_) #[true,false,false,false,false,false,false,false,false,false,false,false,false,false] rfl rfl (any_of HT_.out (by kernel_rfl)) (fun _ _ _ h=>h) (Or.inl ⟨by rfl,?_⟩) ?_ ?_
                      rotate_left
                      ·
                       intro w'
                       go_simp
                       with_reducible rfl
                      rotate_left
                      ·
                       simp only [Act.put,sa,sb,sc,i64_w,i32_w]
                       rfl
                      refine pure_ (i:=1) (N:=some 53) (v:=?_) (a':=?_) #[true,true,false,false,false,false,false,false,false,false,false,false,false,false] rfl rfl (any_of HT_.out (by kernel_rfl)) (fun _ _ _ h=>h) (Or.inl ⟨by rfl,?_⟩) ?_ ?_
                      rotate_left
                      ·
                       intro w'
                       go_simp
                       with_reducible rfl
                      rotate_left
                      ·
                       simp only [Act.put,sa,sb,sc,i64_w,i32_w]
                       rfl
                      refine pure_ (i:=2) (N:=some 54) (v:=?_) (a':=?_) #[true,true,true,false,false,false,false,false,false,false,false,false,false,false] rfl rfl (any_of HT_.out (by kernel_rfl)) (fun _ _ _ h=>h) (Or.inl ⟨by rfl,?_⟩) ?_ ?_
                      rotate_left
                      ·
                       intro w'
                       go_simp
                       with_reducible rfl
                      rotate_left
                      ·
                       simp only [Act.put,sa,sb,sc,i64_w,i32_w]
                       rfl
                      refine pure_ (i:=4) (N:=some 56) (v:=?_) (a':=?_) #[true,true,true,false,true,false,false,false,false,false,false,false,false,false] rfl rfl (any_of HT_.out (by kernel_rfl)) (fun _ _ _ h=>h) (Or.inl ⟨by rfl,?_⟩) ?_ ?_
                      rotate_left
                      ·
                       intro w'
                       go_simp
                       with_reducible rfl
                      rotate_left
                      ·
                       simp only [Act.put,sa,sb,sc,i64_w,i32_w]
                       rfl
                      refine pure_ (i:=5) (N:=some 57) (v:=?_) (a':=?_) #[true,true,true,false,true,true,false,false,false,false,false,false,false,false] rfl rfl (any_of HT_.out (by kernel_rfl)) (fun _ _ _ h=>h) (Or.inl ⟨by rfl,?_⟩) ?_ ?_
                      rotate_left
                      ·
                       intro w'
                       go_simp
                       with_reducible rfl
                      rotate_left
                      ·
                       simp only [Act.put,sa,sb,sc,i64_w,i32_w]
                       rfl
                      refine pure_ (i:=6) (N:=some 58) (v:=?_) (a':=?_) #[true,true,true,false,true,true,true,false,false,false,false,false,false,false] rfl rfl (any_of HT_.out (by kernel_rfl)) (fun _ _ _ h=>h) (Or.inl ⟨by rfl,?_⟩) ?_ ?_
                      rotate_left
                      ·
                       intro w'
                       go_simp
                       with_reducible rfl
                      rotate_left
                      ·
                       simp only [Act.put,sa,sb,sc,i64_w,i32_w]
                       rfl
                      refine pure_ (i:=7) (N:=some 59) (v:=?_) (a':=?_) #[true,true,true,false,true,true,true,true,false,false,false,false,false,false] rfl rfl (any_of HT_.out (by kernel_rfl)) (fun _ _ _ h=>h) (Or.inl ⟨by rfl,?_⟩) ?_ ?_
                      rotate_left
                      ·
                       intro w'
                       go_simp
                       with_reducible rfl
                      rotate_left
                      ·
                       simp only [Act.put,sa,sb,sc,i64_w,i32_w]
                       rfl
                      refine pure_ (i:=9) (N:=some 61) (v:=?_) (a':=?_) #[true,true,true,false,true,true,true,true,false,true,false,false,false,false] rfl rfl (any_of HT_.out (by kernel_rfl)) (fun _ _ _ h=>h) (Or.inl ⟨by rfl,?_⟩) ?_ ?_
                      rotate_left
                      ·
                       intro w'
                       go_simp
                       with_reducible rfl
                      rotate_left
                      ·
                       simp only [Act.put,sa,sb,sc,i64_w,i32_w]
                       rfl
                      refine take_ (i:=3) (N:=some 55) (v:=?_) (a':=?_) #[true,true,true,true,true,true,true,true,false,true,false,false,false,false] rfl rfl (take_ofW HT_.out HW_.out (by kernel_rfl)) (fun _ _ _ h=>h) (Or.inl ⟨by rfl,?_⟩) hHeld ?_ ?_
                      rotate_left
                      ·
                       rintro w' ⟨s0,s1,s2⟩
                       go_simp
                       with_reducible rfl
                      rotate_left
                      ·
                       simp only [Act.put,sa,sb,sc,i64_w,i32_w]
                       rfl
                      refine take_ (i:=8) (N:=some 60) (v:=?_) (a':=?_) #[true,true,true,true,true,true,true,true,true,true,false,false,false,false] rfl rfl (take_ofW HT_.out HW_.out (by kernel_rfl)) (fun _ _ _ h=>h) (Or.inl ⟨by rfl,?_⟩) hHeld ?_ ?_
                      rotate_left
                      ·
                       rintro w' ⟨s0,s1,s2⟩
                       go_simp
                       with_reducible rfl
                      rotate_left
                      ·
                       simp only [Act.put,sa,sb,sc,i64_w,i32_w]
                       rfl
                      refine pure_ (i:=10) (N:=some 62) (v:=?_) (a':=?_) #[true,true,true,true,true,true,true,true,true,true,true,false,false,false] rfl rfl (any_of HT_.out (by kernel_rfl)) (fun _ _ _ h=>h) (Or.inl ⟨by rfl,?_⟩) ?_ ?_
                      rotate_left
                      ·
                       intro w'
                       go_simp
                       with_reducible rfl
                      rotate_left
                      ·
                       simp only [Act.put,sa,sb,sc,i64_w,i32_w]
                       rfl
                      refine take_ (i:=11) (N:=some 63) (v:=?_) (a':=?_) #[true,true,true,true,true,true,true,true,true,true,true,true,false,false] rfl rfl (take_ofW HT_.out HW_.out (by kernel_rfl)) (fun _ _ _ h=>h) (Or.inl ⟨by rfl,?_⟩) hHeld ?_ ?_
                      rotate_left
                      ·
                       rintro w' ⟨s0,s1,s2⟩
                       go_simp
                       with_reducible rfl
                      rotate_left
                      ·
                       simp only [Act.put,sa,sb,sc,i64_w,i32_w]
                       rfl
                      refine pure_ (i:=12) (N:=some 64) (v:=?_) (a':=?_) #[true,true,true,true,true,true,true,true,true,true,true,true,true,false] rfl rfl (any_of HT_.out (by kernel_rfl)) (fun _ _ _ h=>h) (Or.inl ⟨by rfl,?_⟩) ?_ ?_
                      rotate_left
                      ·
                       intro w'
                       go_simp
                       with_reducible rfl
                      rotate_left
                      ·
                       simp only [Act.put,sa,sb,sc,i64_w,i32_w]
                       rfl
                      refine last_ (i:=13) (N:=none) #[true,true,true,true,true,true,true,true,true,true,true,true,true,true] rfl rfl (one_of HT_.out (by kernel_rfl)) (by decide) (fun K hK=>?_)
                      refine skip_ (w1:=?_) (by rfl) rfl ?_ ?_
                      rotate_left
                      ·
                       go_simp
                       rfl
                      refine hK.out _ _ ?_
                      clear hK K
                      refine done_ (done_of HT_.out (by kernel_rfl)) ?_
                      try go_wp2
                      go_roundg k3
                      case measure=>have:=HK1.out;have:=HK2.out;have:=HK3.out;omega
                      case rel=>exact ⟨(y274),(wrap64 (x38_3 + 1)),(by first|rfl|(simp;done)|(simp [*];done)),H',⟨by have:=HK1.out;have:=HK2.out;have:=HK3.out;omega⟩,⟨by (with_reducible repeat (first|apply sa_|apply sd_|apply se_));exact HQ50.out⟩,⟨by repeat (first|(with_reducible first|exact HB.out|apply ba|apply bb|apply bc|refine below_set ?_ GB30.out)|exact HB.out)⟩⟩
                    ·
                     rw [if_neg c29] at H
                     exact absurd H (by simp)
                   ·
                    rw [if_neg c28] at H
                    exact absurd H (by simp)
                  ·
                   rw [if_neg c27] at H
                   exact absurd H (by simp)
                 ·
                  rw [if_neg c26] at H
                  exact absurd H (by simp)
               ·
                rw [if_neg c23] at H
                exact absurd H (by simp)
              ·
               rw [if_neg c22] at H
               exact absurd H (by simp)
             ·
              rw [if_neg c21] at H
              have c21b0 : decide (x38_3 < ((rd_L1 l0 x30_2).length : Int)) = false:=decide_eq_false c21
              clear c21
              have H':=A_ H
              clear H
              go_wp2
              go_roundg k3
              case measure=>have:=HK1.out;have:=HK2.out;have:=HK3.out;omega
              case rel=>exact ⟨(x5_3),(wrap64 (x30_2 + 1)),(by first|rfl|(simp;done)|(simp [*];done)),H',⟨by have:=HK1.out;have:=HK2.out;have:=HK3.out;omega⟩,⟨by (with_reducible repeat (first|apply sa_|apply sd_|apply se_));exact HO_5.out⟩,⟨by repeat (first|(with_reducible first|exact HB.out|apply ba|apply bb|apply bc)|exact HB.out)⟩⟩
          ·
           rw [if_neg c20] at H
           exact absurd H (by simp)
         ·
          rw [if_neg c19] at H
          exact absurd H (by simp)
        ·
         rw [if_neg c18] at H
         have c18b0 : decide (x30_2 < (l0.length : Int)) = false:=decide_eq_false c18
         clear c18
         obtain rfl:=Option.some.inj H
         go_wp2
         go_ret
         exact ⟨_,by first|rfl|(simp [errW_none,errW_some] <;> rfl)|(simp [*,errW_none,errW_some] <;> rfl),by (with_reducible repeat (first|apply sa_|apply sd_|apply se_));exact HO_5.out,by repeat (first|(with_reducible first|exact HB.out|apply ba|apply bb|apply bc)|exact HB.out)⟩
  ·
   rw [if_neg c4] at H
   exact absurd H (by simp)
 ·
  rw [if_neg c3] at H
  exact absurd H (by simp)

end Go.Proofs.Ytodipcfbgnljeaa.PChannelsPaths
