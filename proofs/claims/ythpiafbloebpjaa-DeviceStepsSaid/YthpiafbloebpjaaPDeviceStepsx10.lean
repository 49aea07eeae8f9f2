/- This file proves, function by function, what the Go functions that one law uses compute; most of it was printed by a program (wip/tools of this session, over the kit's print). -/
import Derived.Test.YthpiafbloebpjaaPDeviceStepsx0
import Derived.Test.YthpiafbloebpjaaXAgree
import Derived.Test.YthpiafbloebpjaaPDeviceStepsx5
import Derived.Test.YthpiafbloebpjaaPDeviceStepsx8
import Derived.Test.YthpiafbloebpjaaPDeviceStepsx9
namespace Go.Proofs.Ythpiafbloebpjaa.PDeviceSteps
open Go.RowKit Go.Proofs.YthpiafbloebpjaaW.PrintWords Go.Proofs.YthpiafbloebpjaaW.PrintLast Go.Proofs.YthpiafbloebpjaaW.PrintMore
attribute [local go_sem] max2_int min2_int max_two min_two max_three min_three max_four min_four   -- for this text's walks alone
set_option linter.unusedVariables false
set_option linter.unusedSimpArgs false

/-! ### shapesearchlaw24_DeviceSteps: function 4 -/
mutual
def shapesearchlaw24_DeviceSteps.l0 : Nat → List Int → Int → Int → List (List Int) → List (S42) → Option (Bool)
 | 0,_,_,_,_,_=>none
 | k + 1,x0,x1,x7,x255000,x255001=>if x7 < (x0.length : Int) then (if 0 ≤ x7 then (if 0 ≤ (Int.tmod (wrap64 ((rd x0 x7) / 32)) 66) then (if (Int.tmod (wrap64 ((rd x0 x7) / 32)) 66 : Int).toNat ≤ 281474976710656 then (shapesearchlaw24_DeviceSteps.l1 k x0 x1 x7 (Int.tmod (wrap64 ((rd x0 x7) / 8)) 5) (List.replicate (Int.tmod (wrap64 ((rd x0 x7) / 32)) 66 : Int).toNat 0) 0 x255000 x255001) else (none)) else (none)) else (none)) else (if x1 > 200 then (shapesearchlaw24_DeviceSteps.j2 k x1 (decide ((x255001.length : Int) > 0)) x255000 x255001) else (shapesearchlaw24_DeviceSteps.j2 k x1 false x255000 x255001))
def shapesearchlaw24_DeviceSteps.l1 : Nat → List Int → Int → Int → Int → List Int → Int → List (List Int) → List (S42) → Option (Bool)
 | 0,_,_,_,_,_,_,_,_=>none
 | k + 1,x0,x1,x7,x8,x9,x10,x255000,x255001=>if x10 < (x9.length : Int) then (if 0 ≤ x10 then (shapesearchlaw24_DeviceSteps.l1 k x0 x1 x7 x8 (x9.set (x10 : Int).toNat ((wrap64 (x7 + 1)) % 256)) (wrap64 (x10 + 1)) x255000 x255001) else (none)) else (if 0 ≤ x7 then (if x7 < (x0.length : Int) then ((some (([wrap64 ((Int.tmod (wrap64 ((rd x0 x7) / 64)) 70) - 2),Int.tmod (wrap64 ((rd x0 x7) / 512)) 66,Int.tmod (wrap64 (rd x0 x7)) 65] : List Int) : List Int)).bind fun y264=>((zAgree.f k x255000 x255001 x8 x9 y264).bind fun t267=>(if t267 = true then (if (Int.tmod (rd x0 x7) 8) = 0 then ((zFlush.f k x255000 x255001).bind fun bt269=>(shapesearchlaw24_DeviceSteps.l0 k x0 x1 (wrap64 (x7 + 1)) bt269.1 bt269.2.1)) else (if (Int.tmod (rd x0 x7) 8) = 1 then ((zCrash.f k x255000 x255001 y264).bind fun bt276=>(shapesearchlaw24_DeviceSteps.l0 k x0 x1 (wrap64 (x7 + 1)) bt276.1 bt276.2.1)) else ((zWrite.f k x255000 x255001 x8 x9).bind fun bt283=>(shapesearchlaw24_DeviceSteps.l0 k x0 x1 (wrap64 (x7 + 1)) bt283.1 bt283.2.1)))) else (some false)))) else (none)) else (none))
def shapesearchlaw24_DeviceSteps.j2 : Nat → Int → Bool → List (List Int) → List (S42) → Option (Bool)
 | 0,_,_,_,_=>none
 | k + 1,x1,x115,x255000,x255001=>if x115 = true then (if 0 < (x255001.length : Int) then ((zAgree.f k x255000 (x255001.set (0 : Int).toNat (⟨wrap64 ((wrap64 (x1)) - 220),(rd_T42 x255001 0).f1⟩ : S42)) 1 (([9] : List Int)) (([3] : List Int))).bind fun t297=>(if t297 = true then ((shapesearchlaw24_awake.f k).bind fun t298=>(some t298)) else (some false))) else (none)) else (if x1 > 150 then (if 1 < (x255000.length : Int) then (if 0 ≤ (mn (wrap64 ((wrap64 (x1)) - 151)) 64) then (if (mn (wrap64 ((wrap64 (x1)) - 151)) 64) ≤ ((rd_L1 x255000 1).length : Int) then ((zAgree.f k (x255000.set (1 : Int).toNat ((rd_L1 x255000 1).take ((mn (wrap64 ((wrap64 (x1)) - 151)) 64) : Int).toNat)) x255001 1 (([9] : List Int)) (([3] : List Int))).bind fun t312=>(if t312 = true then ((shapesearchlaw24_awake.f k).bind fun t313=>(some t313)) else (some false))) else (none)) else (none)) else (none)) else ((zAgree.f k x255000 x255001 1 (([9] : List Int)) (([3] : List Int))).bind fun t320=>(if t320 = true then ((shapesearchlaw24_awake.f k).bind fun t321=>(some t321)) else (some false))))
end
def shapesearchlaw24_DeviceSteps.f (k : Nat) (l0 : List Int) (a1 : Int) : Option (Bool):=if (l0.length : Int) > 40 then ((shapesearchlaw24_awake.f k).bind fun t246=>(some t246)) else ((shapesearchref24_New.f k 4).bind fun bt247=>(shapesearchlaw24_DeviceSteps.l0 k l0 a1 0 bt247.1 bt247.2.1))
theorem shapesearchlaw24_DeviceSteps.mono_l : ∀ k,(∀ y0 y1 y2 y3 y4,LeO (shapesearchlaw24_DeviceSteps.l0 k y0 y1 y2 y3 y4) (shapesearchlaw24_DeviceSteps.l0 (k + 1) y0 y1 y2 y3 y4))∧(∀ y0 y1 y2 y3 y4 y5 y6 y7,LeO (shapesearchlaw24_DeviceSteps.l1 k y0 y1 y2 y3 y4 y5 y6 y7) (shapesearchlaw24_DeviceSteps.l1 (k + 1) y0 y1 y2 y3 y4 y5 y6 y7))∧(∀ y0 y1 y2 y3,LeO (shapesearchlaw24_DeviceSteps.j2 k y0 y1 y2 y3) (shapesearchlaw24_DeviceSteps.j2 (k + 1) y0 y1 y2 y3))
 | 0=>⟨fun _ _ _ _ _ r h=>by simp [shapesearchlaw24_DeviceSteps.l0] at h,fun _ _ _ _ _ _ _ _ r h=>by simp [shapesearchlaw24_DeviceSteps.l1] at h,fun _ _ _ _ r h=>by simp [shapesearchlaw24_DeviceSteps.j2] at h⟩
 | k + 1=>by
  obtain ⟨ih0,ih1,ih2⟩:=shapesearchlaw24_DeviceSteps.mono_l k
  refine ⟨?_,?_,?_⟩
  ·
   intro y0 y1 y2 y3 y4
   unfold shapesearchlaw24_DeviceSteps.l0
   repeat' first
   | (with_reducible exact ih0 _ _ _ _ _)
   | (with_reducible exact ih1 _ _ _ _ _ _ _ _)
   | (with_reducible exact ih2 _ _ _ _)
   | (with_reducible exact zAgree.mono _ _ _ _ _ _)
   | (with_reducible exact shapesearchlaw24_awake.mono _)
   | (with_reducible exact zCrash.mono _ _ _ _)
   | (with_reducible exact zFlush.mono _ _ _)
   | (with_reducible exact shapesearchref24_New.mono _ _)
   | (with_reducible exact zWrite.mono _ _ _ _ _)
   | (with_reducible exact LeO.refl _)
   | (with_reducible exact LeO.none _)
   | (with_reducible refine LeO.ite ?_ ?_)
   | (with_reducible refine LeO.bind ?_ (fun _=>?_))
   | exact ih0 _ _ _ _ _
   | exact ih1 _ _ _ _ _ _ _ _
   | exact ih2 _ _ _ _
   | exact zAgree.mono _ _ _ _ _ _
   | exact shapesearchlaw24_awake.mono _
   | exact zCrash.mono _ _ _ _
   | exact zFlush.mono _ _ _
   | exact shapesearchref24_New.mono _ _
   | exact zWrite.mono _ _ _ _ _
   | exact LeO.none _
   | refine LeO.ite ?_ ?_
   | refine LeO.bind ?_ (fun _=>?_)
  ·
   intro y0 y1 y2 y3 y4 y5 y6 y7
   unfold shapesearchlaw24_DeviceSteps.l1
   repeat' first
   | (with_reducible exact ih0 _ _ _ _ _)
   | (with_reducible exact ih1 _ _ _ _ _ _ _ _)
   | (with_reducible exact ih2 _ _ _ _)
   | (with_reducible exact zAgree.mono _ _ _ _ _ _)
   | (with_reducible exact shapesearchlaw24_awake.mono _)
   | (with_reducible exact zCrash.mono _ _ _ _)
   | (with_reducible exact zFlush.mono _ _ _)
   | (with_reducible exact shapesearchref24_New.mono _ _)
   | (with_reducible exact zWrite.mono _ _ _ _ _)
   | (with_reducible exact LeO.refl _)
   | (with_reducible exact LeO.none _)
   | (with_reducible refine LeO.ite ?_ ?_)
   | (with_reducible refine LeO.bind ?_ (fun _=>?_))
   | exact ih0 _ _ _ _ _
   | exact ih1 _ _ _ _ _ _ _ _
   | exact ih2 _ _ _ _
   | exact zAgree.mono _ _ _ _ _ _
   | exact shapesearchlaw24_awake.mono _
   | exact zCrash.mono _ _ _ _
   | exact zFlush.mono _ _ _
   | exact shapesearchref24_New.mono _ _
   | exact zWrite.mono _ _ _ _ _
   | exact LeO.none _
   | refine LeO.ite ?_ ?_
   | refine LeO.bind ?_ (fun _=>?_)
  ·
   intro y0 y1 y2 y3
   unfold shapesearchlaw24_DeviceSteps.j2
   repeat' first
   | (with_reducible exact ih0 _ _ _ _ _)
   | (with_reducible exact ih1 _ _ _ _ _ _ _ _)
   | (with_reducible exact ih2 _ _ _ _)
   | (with_reducible exact zAgree.mono _ _ _ _ _ _)
   | (with_reducible exact shapesearchlaw24_awake.mono _)
   | (with_reducible exact zCrash.mono _ _ _ _)
   | (with_reducible exact zFlush.mono _ _ _)
   | (with_reducible exact shapesearchref24_New.mono _ _)
   | (with_reducible exact zWrite.mono _ _ _ _ _)
   | (with_reducible exact LeO.refl _)
   | (with_reducible exact LeO.none _)
   | (with_reducible refine LeO.ite ?_ ?_)
   | (with_reducible refine LeO.bind ?_ (fun _=>?_))
   | exact ih0 _ _ _ _ _
   | exact ih1 _ _ _ _ _ _ _ _
   | exact ih2 _ _ _ _
   | exact zAgree.mono _ _ _ _ _ _
   | exact shapesearchlaw24_awake.mono _
   | exact zCrash.mono _ _ _ _
   | exact zFlush.mono _ _ _
   | exact shapesearchref24_New.mono _ _
   | exact zWrite.mono _ _ _ _ _
   | exact LeO.none _
   | refine LeO.ite ?_ ?_
   | refine LeO.bind ?_ (fun _=>?_)
theorem shapesearchlaw24_DeviceSteps.mono : ∀ a0 a1 k,LeO (shapesearchlaw24_DeviceSteps.f k a0 a1) (shapesearchlaw24_DeviceSteps.f (k + 1) a0 a1):=by
 intro a0 a1 k
 obtain ⟨ih0,ih1,ih2⟩:=shapesearchlaw24_DeviceSteps.mono_l k
 unfold shapesearchlaw24_DeviceSteps.f
 repeat' first
   | (with_reducible exact ih0 _ _ _ _ _)
   | (with_reducible exact ih1 _ _ _ _ _ _ _ _)
   | (with_reducible exact ih2 _ _ _ _)
   | (with_reducible exact zAgree.mono _ _ _ _ _ _)
   | (with_reducible exact shapesearchlaw24_awake.mono _)
   | (with_reducible exact zCrash.mono _ _ _ _)
   | (with_reducible exact zFlush.mono _ _ _)
   | (with_reducible exact shapesearchref24_New.mono _ _)
   | (with_reducible exact zWrite.mono _ _ _ _ _)
   | (with_reducible exact LeO.refl _)
   | (with_reducible exact LeO.none _)
   | (with_reducible refine LeO.ite ?_ ?_)
   | (with_reducible refine LeO.bind ?_ (fun _=>?_))
   | exact ih0 _ _ _ _ _
   | exact ih1 _ _ _ _ _ _ _ _
   | exact ih2 _ _ _ _
   | exact zAgree.mono _ _ _ _ _ _
   | exact shapesearchlaw24_awake.mono _
   | exact zCrash.mono _ _ _ _
   | exact zFlush.mono _ _ _
   | exact shapesearchref24_New.mono _ _
   | exact zWrite.mono _ _ _ _ _
   | exact LeO.none _
   | refine LeO.ite ?_ ?_
   | refine LeO.bind ?_ (fun _=>?_)
def shapesearchlaw24_DeviceSteps.T13 : Bool × List (List Nat × List Nat):=(true,[([],[]),([],[]),([0,1],[0,1]),([2],[2]),([3],[3]),([4],[4]),([5],[5]),([6],[6]),([],[]),([],[]),([8,9],[8,9]),([10],[10]),([11],[11]),([12],[12]),([13],[13]),([],[]),([],[]),([15,16],[15,16]),([17],[17]),([18],[18]),([19],[19]),([7,14,20],[7,14,20]),([21,0,1,2,3,4,5,6,7,8,9,10,11,12,13,14,15,16,17,18,19,20,21],[21])])
def shapesearchlaw24_DeviceSteps.B13 : List Nat:=[0,0,3,7,15,31,63,127,0,0,768,1792,3840,7936,16128,0,0,98304,229376,491520,1015808,2097151,4194303]
theorem shapesearchlaw24_DeviceSteps.tab13 : rtab .any (opsOf Try.f4 13) = shapesearchlaw24_DeviceSteps.T13:=by kernel_rfl
theorem shapesearchlaw24_DeviceSteps.bits13 : waitsOk shapesearchlaw24_DeviceSteps.T13.2 shapesearchlaw24_DeviceSteps.B13 = true:=by kernel_rfl
def shapesearchlaw24_DeviceSteps.T25 : Bool × List (List Nat × List Nat):=(true,[([],[]),([0],[0]),([],[]),([2],[2]),([3],[3]),([4],[4]),([],[]),([6],[6]),([7],[7]),([8],[8]),([5,9],[5,9]),([1,0,1,2,3,4,5,6,7,8,9,10],[1]),([11,10,0,1,2,3,4,5,6,7,8,9,10],[10,11])])
def shapesearchlaw24_DeviceSteps.B25 : List Nat:=[0,1,0,4,12,28,0,64,192,448,1020,2047,4095]
theorem shapesearchlaw24_DeviceSteps.tab25 : rtab .any (opsOf Try.f4 25) = shapesearchlaw24_DeviceSteps.T25:=by kernel_rfl
theorem shapesearchlaw24_DeviceSteps.bits25 : waitsOk shapesearchlaw24_DeviceSteps.T25.2 shapesearchlaw24_DeviceSteps.B25 = true:=by kernel_rfl
set_option maxHeartbeats 8000000 in
set_option maxRecDepth 100000 in
theorem shapesearchlaw24_DeviceSteps.calls (k : Nat) (A0 : Option Addr) (c0 : Nat) (l0 : List Int) (a1 : Int) (r : Bool) (w : World) (hr0 : Kd.C (Kd.int .u16) w A0 l0.length l0) (hc0 : l0.length ≤ c0) (h : shapesearchlaw24_DeviceSteps.f k l0 a1 = some r) (hT_ : r = true) :
  Calls Try.prog 4 #[.slice A0 l0.length c0,.int .u8 a1] w fun e w'=>e = .returned (.bool r)∧Below w.heap.size w w':=by
 have HTR_:=A_ hT_
 clear hT_
 have hu25:=Try.underlying25
 have HR0:=A_ hr0
 have HC0:=A_ hc0
 clear hr0 hc0
 have HB:=A_ (Below.refl w.heap.size w)
 have H : (if (l0.length : Int) > 40 then ((shapesearchlaw24_awake.f k).bind fun t246=>(some t246)) else ((shapesearchref24_New.f k 4).bind fun bt247=>(shapesearchlaw24_DeviceSteps.l0 k l0 a1 0 bt247.1 bt247.2.1))) = some r:=h
 clear h
 by_cases c3 : (l0.length : Int) > 40
 ·
  rw [if_pos c3] at H
  have c3b0 : decide (40 < (l0.length : Int)) = true:=decide_eq_true c3
  have c3b1 : decide (40 < l0.length) = true:=decide_eq_true (by omega)
  clear c3
  replace H:=Option.bind_eq_some_iff.mp H
  obtain ⟨t246,A40,H⟩:=H
  replace H : (some t246) = some r:=H
  have A4:=A_ A40
  clear A40
  obtain rfl:=Option.some.inj H
  go_enter Try.func4,Try.ntmps4
  go_wp2_with (first|((with_reducible refine gate_callee (f:=6) rfl ?_);refine goesL_ (some 15) rfl rfl Try.func6 (by kernel_rfl) rfl #[] rfl (by (try simp only [List.map_toArray,List.map_cons,List.map_nil]);first|done|rfl|(simp only [List.length_drop,List.length_take];rfl)|((try rw [KY109.out]);rfl)) ?_;(with_reducible refine (shapesearchlaw24_awake.calls k  t246 _ A4.out).mono ?_);rintro e w5 ⟨rfl,hb⟩;refine ⟨_,rfl,?_⟩;have n0_:=A_ (below_step (by repeat (first|(with_reducible first|exact HB.out|apply ba|apply bb|apply bc)|exact HB.out)) hb);clear HB;have HB:=n0_;clear n0_;(try clear hb);(try clear hb2);(try clear hk);(try clear hi)))
  go_ret
  exact ⟨by first|rfl|(simp [errW_none,errW_some] <;> rfl)|(simp [*,errW_none,errW_some] <;> rfl),by repeat (first|(with_reducible first|exact HB.out|apply ba|apply bb|apply bc)|exact HB.out)⟩
 ·
  rw [if_neg c3] at H
  have c3b0 : decide (40 < (l0.length : Int)) = false:=decide_eq_false c3
  have c3b1 : decide (40 < l0.length) = false:=decide_eq_false (by omega)
  clear c3
  replace H:=Option.bind_eq_some_iff.mp H
  obtain ⟨⟨t247,t250,t253⟩,A60,H⟩:=H
  replace H : (shapesearchlaw24_DeviceSteps.l0 k l0 a1 0 t247 t250) = some r:=H
  have A6:=A_ A60
  clear A60
  have H':=A_ H
  clear H
  go_enter Try.func4,Try.ntmps4
  go_wp2_with (first|((with_reducible refine gate_callee (f:=8) rfl ?_);refine goesL_ (some 17) rfl rfl Try.func8 (by kernel_rfl) rfl #[.int .i64 4] rfl (by (try simp only [List.map_toArray,List.map_cons,List.map_nil]);first|done|rfl|(simp only [List.length_drop,List.length_take];rfl)|((try rw [KY109.out]);rfl)) ?_;(with_reducible refine (shapesearchref24_New.calls k 4 t247 t250 t253 _ A6.out).mono ?_);rintro e w7 ⟨v248,v251,rfl,ho0,ho1,hb⟩;refine ⟨_,rfl,?_⟩;have n0_:=A_ (Kd.N_lower (Kd.N_mono (ok':=fun k_=>nb k_ v251) (Kd.S_N (Kd.S_bound (Kd.S_apart' ho0 (Kd.S_typed ho1) (by decide)))) (fun k_ hk_=>hk_.1.2)) (below_size (by repeat (first|(with_reducible first|exact HB.out|apply ba|apply bb|apply bc)|exact HB.out))));have n1_:=A_ (Kd.N_lower (Kd.N_mono (ok':=fun k_=>nb k_ v248) (Kd.S_N (Kd.S_bound (Kd.S_apart' ho1 (Kd.S_typed ho0) (by decide)))) (fun k_ hk_=>hk_.1.2)) (below_size (by repeat (first|(with_reducible first|exact HB.out|apply ba|apply bb|apply bc)|exact HB.out))));have n2_:=A_ (below_step (by repeat (first|(with_reducible first|exact HB.out|apply ba|apply bb|apply bc)|exact HB.out)) hb);clear HB;have HO249:=n0_;have HO252:=n1_;have HB:=n2_;clear n0_ n1_ n2_;(try clear hb);(try clear hb2);(try clear hk);(try clear hi);(try clear ho0);(try clear ho1))|((with_reducible refine gate_dst (N:=5) rfl ?_);(try (refine gate_guard (by rfl) ?_;dsimp only));refine box_event ?hg (N:=5) ?hd (cs:=#[.slice none 0 0,.slice none 0 0]) (t:=25) ?hr ?_;(case hd=>rfl);(case hg=>rfl);(case hr=>first|(go_simp;done)|(go_simp;rfl));intro gb254 hg w8 hbox hb;have n0_:=A_ (Kd.N_below (Kd.N_elderB (by (with_reducible repeat (first|apply Kd.N_alloc|apply Kd.N_drewN|apply Kd.N_drew));exact HO249.out) gb254 (Nat.le_of_eq hg.symm)) hb);have n1_:=A_ (Kd.N_below (Kd.N_elderB (by (with_reducible repeat (first|apply Kd.N_alloc|apply Kd.N_drewN|apply Kd.N_drew));exact HO252.out) gb254 (Nat.le_of_eq hg.symm)) hb);have n2_:=A_ (below_step (by repeat (first|(with_reducible first|exact HB.out|apply ba|apply bb|apply bc)|exact HB.out)) hb);have n3_:=A_ (hbox);have n4_:=A_ ((by rw [hg];exact (below_size (by repeat (first|(with_reducible first|exact HB.out|apply ba|apply bb|apply bc)|exact HB.out))) : w.heap.size ≤ gb254));have n5_:=A_ ((by rw [hg];exact (below_size (by repeat (first|(with_reducible first|exact HB.out|apply ba|apply bb|apply bc)|exact HB.out))) : w.heap.size ≤ gb254));clear HO249;clear HO252;clear HB;have HO249:=n0_;have HO252:=n1_;have HB:=n2_;have BK254:=n3_;have GW254:=n4_;have GE254:=n5_;clear n0_ n1_ n2_ n3_ n4_ n5_;clear hb hbox hg;obtain ⟨Ao9,co9,eo9⟩:=Kd.N_slice HO249.out;subst eo9;have hcz10_0 : w8.cell? ⟨gb254,0,none⟩ = some (.slice none 0 0):=(blk_cell BK254.out 0).trans rfl;have hcz10_1 : w8.cell? ⟨gb254,1,none⟩ = some (.slice none 0 0):=(blk_cell BK254.out 1).trans rfl;have hfz10_0:=blk_frozen BK254.out 0;have hfz10_1:=blk_frozen BK254.out 1;obtain ⟨Ao11,co11,eo11⟩:=Kd.N_slice HO252.out;subst eo11))
  go_loopg [7] k (fun kq v7 w'=>∃ (x7_1 : Int) (x255000_1 : List (List Int)) (x255001_1 : List (S42)) (u255000 : Value) (u255001 : Value),v7 = .int .i64 x7_1∧Aside0 (shapesearchlaw24_DeviceSteps.l0 kq l0 a1 x7_1 x255000_1 x255001_1 = some r)∧Aside0 (kq ≤ k)∧Aside0 (Kd.N (Kd.slice 5 (Kd.int .u8)) 26 w' w.heap.size (fun k_=>some k_≠(u255001 : Value).ownBlock∧k_≠gb254) u255000 x255000_1)∧Aside0 (Kd.N k42 42 w' w.heap.size (fun k_=>some k_≠(u255000 : Value).ownBlock∧k_≠gb254) u255001 x255001_1)∧Aside0 (w'.heap[gb254]? = some (.cells #[u255000,u255001] 25 (0,0)))∧Aside0 (Below w.heap.size w w'))
  case atStart=>exact ⟨(0),(t247),(t250),(.slice Ao9 t247.length co9),(.slice Ao11 t250.length co11),(by first|rfl|(simp;done)|(simp [*];done)),H',⟨Nat.le_refl _⟩,⟨by (with_reducible repeat (first|apply Kd.N_alloc|apply Kd.N_drewN|apply Kd.N_drew));exact Kd.N_mono (Kd.N_far (p:=⟨gb254,1,none⟩) (Kd.N_far (p:=⟨gb254,0,none⟩) (Kd.N_mono HO249.out (fun k_ hk=>(⟨hk,hk.2⟩ : _∧k_≠gb254))) (fun _ hk=>hk.2) (.slice Ao9 t247.length co9)) (fun _ hk=>hk.2) (.slice Ao11 t250.length co11)) (fun _ hk=>⟨hk.1.1,hk.1.2⟩)⟩,⟨by (with_reducible repeat (first|apply Kd.N_alloc|apply Kd.N_drewN|apply Kd.N_drew));exact Kd.N_mono (Kd.N_far (p:=⟨gb254,1,none⟩) (Kd.N_far (p:=⟨gb254,0,none⟩) (Kd.N_mono HO252.out (fun k_ hk=>(⟨hk,hk.2⟩ : _∧k_≠gb254))) (fun _ hk=>hk.2) (.slice Ao9 t247.length co9)) (fun _ hk=>hk.2) (.slice Ao11 t250.length co11)) (fun _ hk=>⟨hk.1.1,hk.1.2⟩)⟩,⟨by (with_reducible repeat (first|refine blk_drewN ?_ _|refine blk_drew ?_|refine blk_alloc ?_ _));refine blk_put (cs:=#[.slice Ao9 t247.length co9,.slice none 0 0]) ?_ 1 _ rfl;(with_reducible repeat (first|refine blk_drewN ?_ _|refine blk_drew ?_|refine blk_alloc ?_ _));refine blk_put (cs:=#[.slice none 0 0,.slice none 0 0]) ?_ 0 _ rfl;(with_reducible repeat (first|refine blk_drewN ?_ _|refine blk_drew ?_|refine blk_alloc ?_ _));exact BK254.out⟩,⟨by repeat (first|(with_reducible first|exact HB.out|apply ba|apply bb|apply bc|refine below_set ?_ GE254.out)|exact HB.out)⟩⟩
  case round =>
   clear H'
   try clear p2
   try clear c3
   try clear c3b0
   try clear c3b1
   try clear c4
   try clear c6
   try clear c8
   try clear hcz10_0
   try clear hcz10_1
   try clear hfz10_0
   try clear hfz10_1
   obtain ⟨x7_1,x255000_1,x255001_1,u255000,u255001,rfl,HA,HK1,HO_255000,HO_255001,BK254,HB⟩:=hrel
   cases gk with
   | zero=>exact absurd HA.out (by simp [shapesearchlaw24_DeviceSteps.l0])
   | succ k1 =>
    have H:=HA.out
    clear HA
    simp only [shapesearchlaw24_DeviceSteps.l0] at H
    by_cases c12 : x7_1 < (l0.length : Int)
    ·
     rw [if_pos c12] at H
     have c12b0 : decide (x7_1 < (l0.length : Int)) = true:=decide_eq_true c12
     clear c12
     by_cases c13 : 0 ≤ x7_1
     ·
      rw [if_pos c13] at H
      have c13b0 : decide (0 ≤ x7_1) = true:=decide_eq_true c13
      clear c13
      obtain ⟨ji14,hji14⟩ : ∃ j_ : Int,(Int.tmod (wrap64 ((rd l0 x7_1) / 32)) 66) = j_:=⟨_,rfl⟩
      replace H : (if 0 ≤ (ji14) then (if (ji14 : Int).toNat ≤ 281474976710656 then (shapesearchlaw24_DeviceSteps.l1 k1 l0 a1 x7_1 (Int.tmod (wrap64 ((rd l0 x7_1) / 8)) 5) (List.replicate (ji14 : Int).toNat 0) 0 x255000_1 x255001_1) else (none)) else (none)) = some r:=by first|(rw [hji14] at H;exact H)|(simp only [hji14] at H ⊢;exact H)
      by_cases c15 : 0 ≤ (ji14)
      ·
       rw [if_pos c15] at H
       have c15b0:=eq_true c15
       have c15b1 : decide (0 ≤ (ji14)) = true:=decide_eq_true c15
       clear c15
       by_cases c16 : (ji14 : Int).toNat ≤ 281474976710656
       ·
        rw [if_pos c16] at H
        have c16b0:=eq_true c16
        have c16b1 : decide ((ji14 : Int).toNat ≤ 281474976710656) = true:=decide_eq_true c16
        clear c16
        obtain ⟨y257,hy257⟩ : ∃ y_ : List Int,y_ = (List.replicate (ji14 : Int).toNat 0):=⟨_,rfl⟩
        replace H : (shapesearchlaw24_DeviceSteps.l1 k1 l0 a1 x7_1 (Int.tmod (wrap64 ((rd l0 x7_1) / 8)) 5) y257 0 x255000_1 x255001_1) = some r:=by first|(rw [hy257];with_reducible exact H)|(have H2_:=(Option.bind_some _ _).symm.trans H;rw [hy257];with_reducible exact H2_)|(have H2_:=(Option.bind_some _ _).symm.trans H;with_reducible exact H2_)|with_reducible exact H|(rw [hy257];exact H)|exact H
        have Ny257:=A_ hy257
        clear hy257
        have H':=A_ H
        clear H
        have p255 : 0 ≤ (x7_1 : Int):=of_decide_eq_true (by first|(with_reducible assumption)|assumption)
        have q255 : x7_1 < (l0.length : Int):=of_decide_eq_true (by first|(with_reducible assumption)|assumption)
        obtain ⟨ad255,e255,hx255_0⟩:=Kd.at_int HR0.out x7_1 p255 q255
        cases e255
        replace hx255_0:=(HB.out.cell (World.block_lt_of_cell? w _ hx255_0)).trans hx255_0
        replace p255:=eq_true p255
        replace q255:=eq_true q255
        have p256 : 0 ≤ (x7_1 : Int):=of_decide_eq_true (by first|(with_reducible assumption)|assumption)
        have q256 : x7_1 < (l0.length : Int):=of_decide_eq_true (by first|(with_reducible assumption)|assumption)
        obtain ⟨ad256,e256,hx256_0⟩:=Kd.at_int HR0.out x7_1 p256 q256
        obtain rfl : ad255 = ad256:=(by injection e256)
        replace hx256_0:=(HB.out.cell (World.block_lt_of_cell? w _ hx256_0)).trans hx256_0
        replace p256:=eq_true p256
        replace q256:=eq_true q256
        go_wp2_with (first|((with_reducible refine gate_dst (N:=40) rfl ?_);(try (refine gate_guard (by rfl) ?_;dsimp only));refine Kd.R_make (Kd.int .u8) _ 5 rfl (N:=40) rfl 26 _ _ rfl ji14 rfl rfl Try.underlying26 (.int .u8 0) 1 info5 rfl (by decide) (by omega) 0 (ok:=fun _=>True) (okp:=fun _=>True) rfl (fun _ hk=>hk) trivial (of_decide_eq_true (by first|(with_reducible assumption)|assumption)) (Nat.le_trans (Nat.mul_le_mul_right _ (of_decide_eq_true (by first|(with_reducible assumption)|assumption) : ji14.toNat ≤ 281474976710656)) (by omega)) (Below.refl _ _) (Nat.le_refl _) ?_;intro v258 w17 ho18 hb hg_ hnew_;clear hg_ hnew_;(first|rw [← Ny257.out] at ho18|(simp only [Int.reduceToNat] at ho18;rw [← Ny257.out] at ho18));have n0_:=A_ (Kd.N_elder' (by (with_reducible repeat (first|apply Kd.N_alloc|apply Kd.N_drewN|apply Kd.N_drew));exact HO_255000.out) (rs ho18) hb);have n1_:=A_ (Kd.N_elder' (by (with_reducible repeat (first|apply Kd.N_alloc|apply Kd.N_drewN|apply Kd.N_drew));exact HO_255001.out) (rs ho18) hb);have n2_:=A_ (Kd.R_lower ho18 (below_size (by repeat (first|(with_reducible first|exact HB.out|apply ba|apply bb|apply bc|refine below_set ?_ GE254.out)|exact HB.out))));have n3_:=A_ (blk_below (g:=gb254) (o:=.cells #[u255000,u255001] 25 (0,0)) (by (with_reducible repeat (first|refine blk_drewN ?_ _|refine blk_drew ?_|refine blk_alloc ?_ _));exact BK254.out) hb);have n4_:=A_ (below_step (by repeat (first|(with_reducible first|exact HB.out|apply ba|apply bb|apply bc|refine below_set ?_ GE254.out)|exact HB.out)) hb);clear HO_255000;clear HO_255001;clear BK254;clear HB;have HO_255000:=n0_;have HO_255001:=n1_;have HO259:=n2_;have BK254:=n3_;have HB:=n4_;clear n0_ n1_ n2_ n3_ n4_;clear hb ho18))
        go_loopg [10] k1 (fun kq v10 w'=>∃ (x9_2 : List Int) (x10_2 : Int),v10 = .int .i64 x10_2∧Aside0 (shapesearchlaw24_DeviceSteps.l1 kq l0 a1 x7_1 (Int.tmod (wrap64 ((rd l0 x7_1) / 8)) 5) x9_2 x10_2 x255000_1 x255001_1 = some r)∧Aside0 (kq ≤ k1)∧Aside0 (Kd.R (Kd.int .u8) 5 w' w.heap.size (fun _=>True) v258 x9_2)∧Aside0 (Kd.N (Kd.slice 5 (Kd.int .u8)) 26 w' w.heap.size (fun k_=>nb k_ v258∧some k_≠(u255001 : Value).ownBlock∧k_≠gb254) u255000 x255000_1)∧Aside0 (Kd.N k42 42 w' w.heap.size (fun k_=>nb k_ v258∧some k_≠(u255000 : Value).ownBlock∧k_≠gb254) u255001 x255001_1)∧Aside0 (w'.heap[gb254]? = some (.cells #[u255000,u255001] 25 (0,0)))∧Aside0 (Below w.heap.size w w'))
        case atStart=>exact ⟨(y257),(0),(by first|rfl|(simp;done)|(simp [*];done)),H',⟨Nat.le_refl _⟩,⟨by (with_reducible repeat (first|apply ra|apply rb|apply rc));exact HO259.out⟩,⟨by (with_reducible repeat (first|apply Kd.N_alloc|apply Kd.N_drewN|apply Kd.N_drew));exact Kd.N_mono HO_255000.out (fun _ hk=>⟨hk.2,⟨hk.1.1,hk.1.2⟩⟩)⟩,⟨by (with_reducible repeat (first|apply Kd.N_alloc|apply Kd.N_drewN|apply Kd.N_drew));exact Kd.N_mono HO_255001.out (fun _ hk=>⟨hk.2,⟨hk.1.1,hk.1.2⟩⟩)⟩,⟨by (with_reducible repeat (first|refine blk_drewN ?_ _|refine blk_drew ?_|refine blk_alloc ?_ _));exact BK254.out⟩,⟨by repeat (first|(with_reducible first|exact HB.out|apply ba|apply bb|apply bc|refine below_set ?_ GE254.out)|exact HB.out)⟩⟩
        case round =>
         clear H'
         try clear c1
         try clear p2
         try clear q2
         try clear hx2
         try clear c3
         try clear c3b0
         try clear c3b1
         try clear c4
         try clear c6
         try clear p6
         try clear c8
         try clear c12
         try clear c12b0
         try clear c13
         try clear c13b0
         try clear c15
         try clear c15b0
         try clear c15b1
         try clear c16
         try clear c16b0
         try clear c16b1
         try clear hcz10_0
         try clear hcz10_1
         try clear hfz10_0
         try clear hfz10_1
         try clear hx255_0
         try clear hx256_0
         try clear p2
         try clear p255
         try clear p256
         try clear q255
         try clear q256
         obtain ⟨x9_2,x10_2,rfl,HA,HK2,HO_9,HO_255000,HO_255001,BK254,HB⟩:=hrel
         cases gk with
         | zero=>exact absurd HA.out (by simp [shapesearchlaw24_DeviceSteps.l1])
         | succ k2 =>
          have H:=HA.out
          clear HA
          simp only [shapesearchlaw24_DeviceSteps.l1] at H
          by_cases c19 : x10_2 < (x9_2.length : Int)
          ·
           rw [if_pos c19] at H
           have c19b0 : decide (x10_2 < (x9_2.length : Int)) = true:=decide_eq_true c19
           clear c19
           by_cases c20 : 0 ≤ x10_2
           ·
            rw [if_pos c20] at H
            have c20b0 : decide (0 ≤ x10_2) = true:=decide_eq_true c20
            clear c20
            obtain ⟨y260,hy260⟩ : ∃ y_ : List Int,y_ = (x9_2.set (x10_2 : Int).toNat ((wrap64 (x7_1 + 1)) % 256)):=⟨_,rfl⟩
            replace H : (shapesearchlaw24_DeviceSteps.l1 k2 l0 a1 x7_1 (Int.tmod (wrap64 ((rd l0 x7_1) / 8)) 5) y260 (wrap64 (x10_2 + 1)) x255000_1 x255001_1) = some r:=by first|(rw [hy260];with_reducible exact H)|(have H2_:=(Option.bind_some _ _).symm.trans H;rw [hy260];with_reducible exact H2_)|(have H2_:=(Option.bind_some _ _).symm.trans H;with_reducible exact H2_)|with_reducible exact H|(rw [hy260];exact H)|exact H
            have Ny260:=A_ hy260
            clear hy260
            have H':=A_ H
            clear H
            obtain ⟨Ao22,co22,eo22⟩:=Kd.R_slice HO_9.out
            subst eo22
            have p21 : 0 ≤ (x10_2 : Int):=of_decide_eq_true (by first|(with_reducible assumption)|assumption)
            have q21 : (x10_2 : Int) < ((x9_2.length : Int) : Int):=of_decide_eq_true (by first|(with_reducible assumption)|assumption)
            obtain ⟨go21,co21,eo21,gb21,gl21,cl21,HG21⟩:=Kd.R_form HO_9.out (by omega)
            (first|cases eo21|(injection eo21 with ea_ en_ ec_;(first|subst ea_|(injection ea_ with ea_;subst ea_));subst ec_;clear en_))
            have GB21:=A_ gb21
            have GG21:=A_ HG21
            clear gb21 gl21 HG21
            obtain ⟨hx21_0,hf21_0⟩:=Kd.R_celln 0 HO_9.out (x10_2 : Int) p21 q21
            replace p21:=eq_true p21
            replace q21:=eq_true q21
            have HP23:=Kd.R_putg HO_9.out (x10_2 : Int) ((wrap64 (x7_1 + 1)) % 256)
            go_wp2_with (first|((with_reducible refine gate_store (t:=5) (p:=52) rfl ?_);refine store_event (t:=5) (p:=52) (v:=?vo_w24) (w1:=(wr.setCell ⟨go21,(x10_2 : Int).toNat,none⟩ (.int .u8 ((wrap64 (x7_1 + 1)) % 256)))) ?hg ?ho ?hn ?hr ?_;(case ho=>rfl);(case hg=>rfl);(case hn=>rfl);(case hr=>first|(go_simp;done)|(go_simp;rfl));intro w24 hw;have hg : wr.grownBy w24 (some go21):=(by rw [hw];exact HP23.2);have hp_ : Kd.R (Kd.int .u8) 5 w24 w.heap.size (fun _=>True) (.slice (some ⟨go21,0,none⟩) x9_2.length co22) y260:=(by rw [hw,Ny260.out];exact HP23.1);clear HP23;have n0_:=A_ (hp_);have n1_:=A_ (Kd.N_afterv (v:=(.slice (some ⟨go21,0,none⟩) x9_2.length co22)) (v1:=(.slice (some ⟨go21,0,none⟩) x9_2.length co22)) (ok:=(fun k_=>some k_≠(u255001 : Value).ownBlock∧k_≠gb254)) (by (with_reducible repeat (first|apply Kd.N_alloc|apply Kd.N_drewN|apply Kd.N_drew));exact Kd.N_mono HO_255000.out (fun _ hk=>⟨⟨hk.2.1,hk.2.2⟩,hk.1⟩)) hg (.inl rfl));have n2_:=A_ (Kd.N_afterv (v:=(.slice (some ⟨go21,0,none⟩) x9_2.length co22)) (v1:=(.slice (some ⟨go21,0,none⟩) x9_2.length co22)) (ok:=(fun k_=>some k_≠(u255000 : Value).ownBlock∧k_≠gb254)) (by (with_reducible repeat (first|apply Kd.N_alloc|apply Kd.N_drewN|apply Kd.N_drew));exact Kd.N_mono HO_255001.out (fun _ hk=>⟨⟨hk.2.1,hk.2.2⟩,hk.1⟩)) hg (.inl rfl));have n3_:=A_ (blk_grown (g:=gb254) (o:=.cells #[u255000,u255001] 25 (0,0)) (by (with_reducible repeat (first|refine blk_drewN ?_ _|refine blk_drew ?_|refine blk_alloc ?_ _));exact BK254.out) hg (Kd.R_ne HO_9.out BK254.out (by decide)));have n4_:=A_ ((by rw [hw];exact below_set (HB.out) GB21.out : Below w.heap.size w w24));clear HO_9;clear HO_255000;clear HO_255001;clear BK254;clear HB;have HO_9:=n0_;have HO_255000:=n1_;have HO_255001:=n2_;have BK254:=n3_;have HB:=n4_;clear n0_ n1_ n2_ n3_ n4_;clear hg hw hp_))
            go_roundg k2
            case measure=>have:=HK1.out;have:=HK2.out;omega
            case rel=>exact ⟨(y260),(wrap64 (x10_2 + 1)),(by first|rfl|(simp;done)|(simp [*];done)),H',⟨by have:=HK1.out;have:=HK2.out;omega⟩,⟨by (with_reducible repeat (first|apply ra|apply rb|apply rc));exact HO_9.out⟩,⟨by (with_reducible repeat (first|apply Kd.N_alloc|apply Kd.N_drewN|apply Kd.N_drew));exact Kd.N_mono HO_255000.out (fun _ hk=>⟨hk.2,⟨hk.1.1,hk.1.2⟩⟩)⟩,⟨by (with_reducible repeat (first|apply Kd.N_alloc|apply Kd.N_drewN|apply Kd.N_drew));exact Kd.N_mono HO_255001.out (fun _ hk=>⟨hk.2,⟨hk.1.1,hk.1.2⟩⟩)⟩,⟨by (with_reducible repeat (first|refine blk_drewN ?_ _|refine blk_drew ?_|refine blk_alloc ?_ _));exact BK254.out⟩,⟨by repeat (first|(with_reducible first|exact HB.out|apply ba|apply bb|apply bc|refine below_set ?_ GE254.out)|exact HB.out)⟩⟩
           ·
            rw [if_neg c20] at H
            exact absurd H (by simp)
          ·
           rw [if_neg c19] at H
           have c19b0 : decide (x10_2 < (x9_2.length : Int)) = false:=decide_eq_false c19
           clear c19
           by_cases c25 : 0 ≤ x7_1
           ·
            rw [if_pos c25] at H
            have c25b0 : decide (0 ≤ x7_1) = true:=decide_eq_true c25
            clear c25
            by_cases c26 : x7_1 < (l0.length : Int)
            ·
             rw [if_pos c26] at H
             have c26b0 : decide (x7_1 < (l0.length : Int)) = true:=decide_eq_true c26
             clear c26
             obtain ⟨y264,hy264⟩ : ∃ y_ : List Int,y_ = (([wrap64 ((Int.tmod (wrap64 ((rd l0 x7_1) / 64)) 70) - 2),Int.tmod (wrap64 ((rd l0 x7_1) / 512)) 66,Int.tmod (wrap64 (rd l0 x7_1)) 65] : List Int)):=⟨_,rfl⟩
             replace H : ((zAgree.f k2 x255000_1 x255001_1 (Int.tmod (wrap64 ((rd l0 x7_1) / 8)) 5) x9_2 y264).bind fun t267=>(if t267 = true then (if (Int.tmod (rd l0 x7_1) 8) = 0 then ((zFlush.f k2 x255000_1 x255001_1).bind fun bt269=>(shapesearchlaw24_DeviceSteps.l0 k2 l0 a1 (wrap64 (x7_1 + 1)) bt269.1 bt269.2.1)) else (if (Int.tmod (rd l0 x7_1) 8) = 1 then ((zCrash.f k2 x255000_1 x255001_1 y264).bind fun bt276=>(shapesearchlaw24_DeviceSteps.l0 k2 l0 a1 (wrap64 (x7_1 + 1)) bt276.1 bt276.2.1)) else ((zWrite.f k2 x255000_1 x255001_1 (Int.tmod (wrap64 ((rd l0 x7_1) / 8)) 5) x9_2).bind fun bt283=>(shapesearchlaw24_DeviceSteps.l0 k2 l0 a1 (wrap64 (x7_1 + 1)) bt283.1 bt283.2.1)))) else (some false))) = some r:=by first|(rw [hy264];with_reducible exact H)|(have H2_:=(Option.bind_some _ _).symm.trans H;rw [hy264];with_reducible exact H2_)|(have H2_:=(Option.bind_some _ _).symm.trans H;with_reducible exact H2_)|with_reducible exact H|(rw [hy264];exact H)|exact H
             have Ny264:=A_ hy264
             clear hy264
             replace H:=Option.bind_eq_some_iff.mp H
             obtain ⟨t267,A270,H⟩:=H
             replace H : (if t267 = true then (if (Int.tmod (rd l0 x7_1) 8) = 0 then ((zFlush.f k2 x255000_1 x255001_1).bind fun bt269=>(shapesearchlaw24_DeviceSteps.l0 k2 l0 a1 (wrap64 (x7_1 + 1)) bt269.1 bt269.2.1)) else (if (Int.tmod (rd l0 x7_1) 8) = 1 then ((zCrash.f k2 x255000_1 x255001_1 y264).bind fun bt276=>(shapesearchlaw24_DeviceSteps.l0 k2 l0 a1 (wrap64 (x7_1 + 1)) bt276.1 bt276.2.1)) else ((zWrite.f k2 x255000_1 x255001_1 (Int.tmod (wrap64 ((rd l0 x7_1) / 8)) 5) x9_2).bind fun bt283=>(shapesearchlaw24_DeviceSteps.l0 k2 l0 a1 (wrap64 (x7_1 + 1)) bt283.1 bt283.2.1)))) else (some false)) = some r:=H
             have A27:=A_ A270
             clear A270
             by_cases c28 : t267 = true
             ·
              subst c28
              have H1 : (if (Int.tmod (rd l0 x7_1) 8) = 0 then ((zFlush.f k2 x255000_1 x255001_1).bind fun bt269=>(shapesearchlaw24_DeviceSteps.l0 k2 l0 a1 (wrap64 (x7_1 + 1)) bt269.1 bt269.2.1)) else (if (Int.tmod (rd l0 x7_1) 8) = 1 then ((zCrash.f k2 x255000_1 x255001_1 y264).bind fun bt276=>(shapesearchlaw24_DeviceSteps.l0 k2 l0 a1 (wrap64 (x7_1 + 1)) bt276.1 bt276.2.1)) else ((zWrite.f k2 x255000_1 x255001_1 (Int.tmod (wrap64 ((rd l0 x7_1) / 8)) 5) x9_2).bind fun bt283=>(shapesearchlaw24_DeviceSteps.l0 k2 l0 a1 (wrap64 (x7_1 + 1)) bt283.1 bt283.2.1)))) = some r:=by rw [if_pos rfl] at H;exact H
              clear H
              have H:=H1
              clear H1
              by_cases c29 : (Int.tmod (rd l0 x7_1) 8) = 0
              ·
               rw [if_pos c29] at H
               have c29b0 : ((Int.tmod (rd l0 x7_1) 8) == 0) = true:=beq_iff_eq.mpr c29
               have c29b1 : ((Int.tmod (rd l0 x7_1) 8) != 0) = false:=bne_eq_false_iff_eq.mpr c29
               clear c29
               replace H:=Option.bind_eq_some_iff.mp H
               obtain ⟨⟨t269,t272,t275⟩,A300,H⟩:=H
               replace H : (shapesearchlaw24_DeviceSteps.l0 k2 l0 a1 (wrap64 (x7_1 + 1)) t269 t272) = some r:=H
               have A30:=A_ A300
               clear A300
               have H':=A_ H
               clear H
               obtain ⟨Ao31,co31,eo31⟩:=Kd.R_slice HO_9.out
               subst eo31
               try go_wp2
               have n0_:=A_ (Kd.R_drew HO_9.out)
               have n1_:=A_ (Kd.N_drew HO_255000.out)
               have n2_:=A_ (Kd.N_drew HO_255001.out)
               have n3_:=A_ (blk_drew BK254.out)
               have n4_:=A_ (below_drew1 HB.out)
               clear HO_9
               clear HO_255000
               clear HO_255001
               clear BK254
               clear HB
               have HO_9:=n0_
               have HO_255000:=n1_
               have HO_255001:=n2_
               have BK254:=n3_
               have HB:=n4_
               clear n0_ n1_ n2_ n3_ n4_
               have p261 : 0 ≤ (x7_1 : Int):=of_decide_eq_true (by first|(with_reducible assumption)|assumption)
               have q261 : x7_1 < (l0.length : Int):=of_decide_eq_true (by first|(with_reducible assumption)|assumption)
               obtain ⟨ad261,e261,hx261_0⟩:=Kd.at_int HR0.out x7_1 p261 q261
               have hw261_0:=hx261_0
               obtain rfl : ad255 = ad261:=(by injection e261)
               replace hx261_0:=(HB.out.cell (World.block_lt_of_cell? w _ hx261_0)).trans hx261_0
               replace p261:=eq_true p261
               replace q261:=eq_true q261
               have p262 : 0 ≤ (x7_1 : Int):=of_decide_eq_true (by first|(with_reducible assumption)|assumption)
               have q262 : x7_1 < (l0.length : Int):=of_decide_eq_true (by first|(with_reducible assumption)|assumption)
               obtain ⟨ad262,e262,hx262_0⟩:=Kd.at_int HR0.out x7_1 p262 q262
               have hw262_0:=hx262_0
               obtain rfl : ad255 = ad262:=(by injection e262)
               replace hx262_0:=(HB.out.cell (World.block_lt_of_cell? w _ hx262_0)).trans hx262_0
               replace p262:=eq_true p262
               replace q262:=eq_true q262
               have p263 : 0 ≤ (x7_1 : Int):=of_decide_eq_true (by first|(with_reducible assumption)|assumption)
               have q263 : x7_1 < (l0.length : Int):=of_decide_eq_true (by first|(with_reducible assumption)|assumption)
               obtain ⟨ad263,e263,hx263_0⟩:=Kd.at_int HR0.out x7_1 p263 q263
               have hw263_0:=hx263_0
               obtain rfl : ad255 = ad263:=(by injection e263)
               replace hx263_0:=(HB.out.cell (World.block_lt_of_cell? w _ hx263_0)).trans hx263_0
               replace p263:=eq_true p263
               replace q263:=eq_true q263
               refine start_ (n:=23) (S:=fun w'=>w'.cell? (ad255.add (x7_1).toNat) = some (.int .u16 (rd l0 x7_1))∧w'.cell? (ad255.add (x7_1).toNat) = some (.int .u16 (rd l0 x7_1))∧w'.cell? (ad255.add (x7_1).toNat) = some (.int .u16 (rd l0 x7_1))) (ds:=[]) #[false,false,false,false,false,false,false,false,false,false,false,false,false,false,false,false,false,false,false,false,false,false,false] (by kernel_rfl) rfl rfl ⟨((HB.out.cell (World.block_lt_of_cell? w _ hw261_0)).trans hw261_0),((HB.out.cell (World.block_lt_of_cell? w _ hw262_0)).trans hw262_0),((HB.out.cell (World.block_lt_of_cell? w _ hw263_0)).trans hw263_0)⟩ (fun hHeld=>?_);refine with_tabW shapesearchlaw24_DeviceSteps.tab13 shapesearchlaw24_DeviceSteps.bits13 (fun HT_ HW_=>?_)
               generalize wr.drew = w32 at HO_9 HO_255000 HO_255001 BK254 HB hx261_0 hx262_0 hx263_0 hHeld ⊢
               refine pure_ (i:=0) (N:=some 53) (v:=?_) (a':=?_) #[true,false,false,false,false,false,false,false,false,false,false,false,false,false,false,false,false,false,false,false,false,false,false] rfl rfl (any_of HT_.out (by kernel_rfl)) (fun _ _ _ h=>h) (Or.inl ⟨by rfl,?_⟩) ?_ ?_
               rotate_left
               ·
                intro w'
                go_simp
                with_reducible rfl
               rotate_left
               ·
                simp only [Act.put,sa,sb,sc,i64_w,i32_w]
                rfl
               refine pure_ (i:=1) (N:=some 54) (v:=?_) (a':=?_) #[true,true,false,false,false,false,false,false,false,false,false,false,false,false,false,false,false,false,false,false,false,false,false] rfl rfl (any_of HT_.out (by kernel_rfl)) (fun _ _ _ h=>h) (Or.inl ⟨by rfl,?_⟩) ?_ ?_
               rotate_left
               ·
                intro w'
                go_simp
                with_reducible rfl
               rotate_left
               ·
                simp only [Act.put,sa,sb,sc,i64_w,i32_w]
                rfl
               refine pure_ (i:=2) (N:=some 55) (v:=?_) (a':=?_) #[true,true,true,false,false,false,false,false,false,false,false,false,false,false,false,false,false,false,false,false,false,false,false] rfl rfl (any_of HT_.out (by kernel_rfl)) (fun _ _ _ h=>h) (Or.inl ⟨by rfl,?_⟩) ?_ ?_
               rotate_left
               ·
                intro w'
                go_simp
                with_reducible rfl
               rotate_left
               ·
                simp only [Act.put,sa,sb,sc,i64_w,i32_w]
                rfl
               refine pure_ (i:=8) (N:=some 61) (v:=?_) (a':=?_) #[true,true,true,false,false,false,false,false,true,false,false,false,false,false,false,false,false,false,false,false,false,false,false] rfl rfl (any_of HT_.out (by kernel_rfl)) (fun _ _ _ h=>h) (Or.inl ⟨by rfl,?_⟩) ?_ ?_
               rotate_left
               ·
                intro w'
                go_simp
                with_reducible rfl
               rotate_left
               ·
                simp only [Act.put,sa,sb,sc,i64_w,i32_w]
                rfl
               refine pure_ (i:=9) (N:=some 62) (v:=?_) (a':=?_) #[true,true,true,false,false,false,false,false,true,true,false,false,false,false,false,false,false,false,false,false,false,false,false] rfl rfl (any_of HT_.out (by kernel_rfl)) (fun _ _ _ h=>h) (Or.inl ⟨by rfl,?_⟩) ?_ ?_
               rotate_left
               ·
                intro w'
                go_simp
                with_reducible rfl
               rotate_left
               ·
                simp only [Act.put,sa,sb,sc,i64_w,i32_w]
                rfl
               refine pure_ (i:=10) (N:=some 63) (v:=?_) (a':=?_) #[true,true,true,false,false,false,false,false,true,true,true,false,false,false,false,false,false,false,false,false,false,false,false] rfl rfl (any_of HT_.out (by kernel_rfl)) (fun _ _ _ h=>h) (Or.inl ⟨by rfl,?_⟩) ?_ ?_
               rotate_left
               ·
                intro w'
                go_simp
                with_reducible rfl
               rotate_left
               ·
                simp only [Act.put,sa,sb,sc,i64_w,i32_w]
                rfl
               refine pure_ (i:=15) (N:=some 68) (v:=?_) (a':=?_) #[true,true,true,false,false,false,false,false,true,true,true,false,false,false,false,true,false,false,false,false,false,false,false] rfl rfl (any_of HT_.out (by kernel_rfl)) (fun _ _ _ h=>h) (Or.inl ⟨by rfl,?_⟩) ?_ ?_
               rotate_left
               ·
                intro w'
                go_simp
                with_reducible rfl
               rotate_left
               ·
                simp only [Act.put,sa,sb,sc,i64_w,i32_w]
                rfl
               refine pure_ (i:=16) (N:=some 69) (v:=?_) (a':=?_) #[true,true,true,false,false,false,false,false,true,true,true,false,false,false,false,true,true,false,false,false,false,false,false] rfl rfl (any_of HT_.out (by kernel_rfl)) (fun _ _ _ h=>h) (Or.inl ⟨by rfl,?_⟩) ?_ ?_
               rotate_left
               ·
                intro w'
                go_simp
                with_reducible rfl
               rotate_left
               ·
                simp only [Act.put,sa,sb,sc,i64_w,i32_w]
                rfl
               refine pure_ (i:=17) (N:=some 70) (v:=?_) (a':=?_) #[true,true,true,false,false,false,false,false,true,true,true,false,false,false,false,true,true,true,false,false,false,false,false] rfl rfl (any_of HT_.out (by kernel_rfl)) (fun _ _ _ h=>h) (Or.inl ⟨by rfl,?_⟩) ?_ ?_
               rotate_left
               ·
                intro w'
                go_simp
                with_reducible rfl
               rotate_left
               ·
                simp only [Act.put,sa,sb,sc,i64_w,i32_w]
                rfl
               refine take_ (i:=3) (N:=some 56) (v:=?_) (a':=?_) #[true,true,true,true,false,false,false,false,true,true,true,false,false,false,false,true,true,true,false,false,false,false,false] rfl rfl (take_ofW HT_.out HW_.out (by kernel_rfl)) (fun _ _ _ h=>h) (Or.inl ⟨by rfl,?_⟩) hHeld ?_ ?_
               rotate_left
               ·
                rintro w' ⟨s0,s1,s2⟩
                go_simp
                with_reducible rfl
               rotate_left
               ·
                simp only [Act.put,sa,sb,sc,i64_w,i32_w]
                rfl
               refine pure_ (i:=4) (N:=some 57) (v:=?_) (a':=?_) #[true,true,true,true,true,false,false,false,true,true,true,false,false,false,false,true,true,true,false,false,false,false,false] rfl rfl (any_of HT_.out (by kernel_rfl)) (fun _ _ _ h=>h) (Or.inl ⟨by rfl,?_⟩) ?_ ?_
               rotate_left
               ·
                intro w'
                go_simp
                with_reducible rfl
               rotate_left
               ·
                simp only [Act.put,sa,sb,sc,i64_w,i32_w]
                rfl
               refine pure_ (i:=5) (N:=some 58) (v:=?_) (a':=?_) #[true,true,true,true,true,true,false,false,true,true,true,false,false,false,false,true,true,true,false,false,false,false,false] rfl rfl (any_of HT_.out (by kernel_rfl)) (fun _ _ _ h=>h) (Or.inl ⟨by rfl,?_⟩) ?_ ?_
               rotate_left
               ·
                intro w'
                go_simp
                with_reducible rfl
               rotate_left
               ·
                simp only [Act.put,sa,sb,sc,i64_w,i32_w]
                rfl
               refine pure_ (i:=6) (N:=some 59) (v:=?_) (a':=?_) #[true,true,true,true,true,true,true,false,true,true,true,false,false,false,false,true,true,true,false,false,false,false,false] rfl rfl (any_of HT_.out (by kernel_rfl)) (fun _ _ _ h=>h) (Or.inl ⟨by rfl,?_⟩) ?_ ?_
               rotate_left
               ·
                intro w'
                go_simp
                with_reducible rfl
               rotate_left
               ·
                simp only [Act.put,sa,sb,sc,i64_w,i32_w]
                rfl
               refine pure_ (i:=7) (N:=some 60) (v:=?_) (a':=?_) #[true,true,true,true,true,true,true,true,true,true,true,false,false,false,false,true,true,true,false,false,false,false,false] rfl rfl (any_of HT_.out (by kernel_rfl)) (fun _ _ _ h=>h) (Or.inl ⟨by rfl,?_⟩) ?_ ?_
               rotate_left
               ·
                intro w'
                go_simp
                with_reducible rfl
               rotate_left
               ·
                simp only [Act.put,sa,sb,sc,i64_w,i32_w]
                rfl
               refine take_ (i:=11) (N:=some 64) (v:=?_) (a':=?_) #[true,true,true,true,true,true,true,true,true,true,true,true,false,false,false,true,true,true,false,false,false,false,false] rfl rfl (take_ofW HT_.out HW_.out (by kernel_rfl)) (fun _ _ _ h=>h) (Or.inl ⟨by rfl,?_⟩) hHeld ?_ ?_
               rotate_left
               ·
                rintro w' ⟨s0,s1,s2⟩
                go_simp
                with_reducible rfl
               rotate_left
               ·
                simp only [Act.put,sa,sb,sc,i64_w,i32_w]
                rfl
               refine pure_ (i:=12) (N:=some 65) (v:=?_) (a':=?_) #[true,true,true,true,true,true,true,true,true,true,true,true,true,false,false,true,true,true,false,false,false,false,false] rfl rfl (any_of HT_.out (by kernel_rfl)) (fun _ _ _ h=>h) (Or.inl ⟨by rfl,?_⟩) ?_ ?_
               rotate_left
               ·
                intro w'
                go_simp
                with_reducible rfl
               rotate_left
               ·
                simp only [Act.put,sa,sb,sc,i64_w,i32_w]
                rfl
               refine pure_ (i:=13) (N:=some 66) (v:=?_) (a':=?_) #[true,true,true,true,true,true,true,true,true,true,true,true,true,true,false,true,true,true,false,false,false,false,false] rfl rfl (any_of HT_.out (by kernel_rfl)) (fun _ _ _ h=>h) (Or.inl ⟨by rfl,?_⟩) ?_ ?_
               rotate_left
               ·
                intro w'
                go_simp
                with_reducible rfl
               rotate_left
               ·
                simp only [Act.put,sa,sb,sc,i64_w,i32_w]
                rfl
               refine pure_ (i:=14) (N:=some 67) (v:=?_) (a':=?_) #[true,true,true,true,true,true,true,true,true,true,true,true,true,true,true,true,true,true,false,false,false,false,false] rfl rfl (any_of HT_.out (by kernel_rfl)) (fun _ _ _ h=>h) (Or.inl ⟨by rfl,?_⟩) ?_ ?_
               rotate_left
               ·
                intro w'
                go_simp
                with_reducible rfl
               rotate_left
               ·
                simp only [Act.put,sa,sb,sc,i64_w,i32_w]
                rfl
               refine take_ (i:=18) (N:=some 71) (v:=?_) (a':=?_) #[true,true,true,true,true,true,true,true,true,true,true,true,true,true,true,true,true,true,true,false,false,false,false] rfl rfl (take_ofW HT_.out HW_.out (by kernel_rfl)) (fun _ _ _ h=>h) (Or.inl ⟨by rfl,?_⟩) hHeld ?_ ?_
               rotate_left
               ·
                rintro w' ⟨s0,s1,s2⟩
                go_simp
                with_reducible rfl
               rotate_left
               ·
                simp only [Act.put,sa,sb,sc,i64_w,i32_w]
                rfl
               refine pure_ (i:=19) (N:=some 72) (v:=?_) (a':=?_) #[true,true,true,true,true,true,true,true,true,true,true,true,true,true,true,true,true,true,true,true,false,false,false] rfl rfl (any_of HT_.out (by kernel_rfl)) (fun _ _ _ h=>h) (Or.inl ⟨by rfl,?_⟩) ?_ ?_
               rotate_left
               ·
                intro w'
                go_simp
                with_reducible rfl
               rotate_left
               ·
                simp only [Act.put,sa,sb,sc,i64_w,i32_w]
                rfl
               refine pure_ (i:=20) (N:=some 73) (v:=?_) (a':=?_) #[true,true,true,true,true,true,true,true,true,true,true,true,true,true,true,true,true,true,true,true,true,false,false] rfl rfl (any_of HT_.out (by kernel_rfl)) (fun _ _ _ h=>h) (Or.inl ⟨by rfl,?_⟩) ?_ ?_
               rotate_left
               ·
                intro w'
                go_simp
                with_reducible rfl
               rotate_left
               ·
                simp only [Act.put,sa,sb,sc,i64_w,i32_w]
                rfl
               refine one_ (i:=21) (N:=some 74) #[true,true,true,true,true,true,true,true,true,true,true,true,true,true,true,true,true,true,true,true,true,true,false] rfl rfl (one_of HT_.out (by kernel_rfl)) (by decide) (fun K hK=>?_)
               refine Kd.R_lit_step (Kd.int .i64) _ 3 ?hg (N:=74) ?hd (xs:=([wrap64 ((Int.tmod (wrap64 ((rd l0 x7_1) / 64)) 70) - 2),Int.tmod (wrap64 ((rd l0 x7_1) / 512)) 66,Int.tmod (wrap64 (rd l0 x7_1)) 65] : List Int)) (inner:=[.int .i64 (wrap64 ((Int.tmod (wrap64 ((rd l0 x7_1) / 64)) 70) - 2)),.int .i64 (Int.tmod (wrap64 ((rd l0 x7_1) / 512)) 66),.int .i64 (Int.tmod (wrap64 (rd l0 x7_1)) 65)]) (ok:=fun _=>True) (okp:=fun _=>True) ?hr ?hp (fun _ hk=>hk) trivial (Below.refl _ _) (Nat.le_refl _) (by simp) ?_;(case hd=>rfl);(case hg=>rfl);(case hr=>first|(go_simp;done)|(go_simp;rfl));(case hp=>exact (Reps.one (show Kd.M (Kd.int .i64) _ _ _ (wrap64 ((Int.tmod (wrap64 ((rd l0 x7_1) / 64)) 70) - 2)) [.int .i64 (wrap64 ((Int.tmod (wrap64 ((rd l0 x7_1) / 64)) 70) - 2))] from rfl) (Reps.one (show Kd.M (Kd.int .i64) _ _ _ (Int.tmod (wrap64 ((rd l0 x7_1) / 512)) 66) [.int .i64 (Int.tmod (wrap64 ((rd l0 x7_1) / 512)) 66)] from rfl) (Reps.one (show Kd.M (Kd.int .i64) _ _ _ (Int.tmod (wrap64 (rd l0 x7_1)) 65) [.int .i64 (Int.tmod (wrap64 (rd l0 x7_1)) 65)] from rfl) (Reps.none _ _)))))
               intro v265 w33 ho34 hb hg_ hnew_
               clear hg_ hnew_
               (first|rw [← Ny264.out] at ho34|(simp only [Int.reduceToNat] at ho34;rw [← Ny264.out] at ho34))
               have n0_:=A_ (rw_ (by (with_reducible repeat (first|apply ra|apply rb|apply rc));exact HO_9.out) hb)
               have n1_:=A_ (Kd.N_elder' (by (with_reducible repeat (first|apply Kd.N_alloc|apply Kd.N_drewN|apply Kd.N_drew));exact HO_255000.out) (rs ho34) hb)
               have n2_:=A_ (Kd.N_elder' (by (with_reducible repeat (first|apply Kd.N_alloc|apply Kd.N_drewN|apply Kd.N_drew));exact HO_255001.out) (rs ho34) hb)
               have n3_:=A_ (Kd.R_lower ho34 (below_size (by repeat (first|(with_reducible first|exact HB.out|apply ba|apply bb|apply bc|refine below_set ?_ GE254.out)|exact HB.out))))
               have n4_:=A_ (blk_below (g:=gb254) (o:=.cells #[u255000,u255001] 25 (0,0)) (by (with_reducible repeat (first|refine blk_drewN ?_ _|refine blk_drew ?_|refine blk_alloc ?_ _));exact BK254.out) hb)
               have n5_:=A_ (below_step (by repeat (first|(with_reducible first|exact HB.out|apply ba|apply bb|apply bc|refine below_set ?_ GE254.out)|exact HB.out)) hb)
               clear HO_9
               clear HO_255000
               clear HO_255001
               clear BK254
               clear HB
               have HO_9:=n0_
               have HO_255000:=n1_
               have HO_255001:=n2_
               have HO266:=n3_
               have BK254:=n4_
               have HB:=n5_
               clear n0_ n1_ n2_ n3_ n4_ n5_
               clear hb ho34
               refine hK.out _ _ ⟨((HB.out.cell (World.block_lt_of_cell? w _ hw261_0)).trans hw261_0),((HB.out.cell (World.block_lt_of_cell? w _ hw262_0)).trans hw262_0),((HB.out.cell (World.block_lt_of_cell? w _ hw263_0)).trans hw263_0)⟩ (fun hHeld=>?_)
               clear hK K
               refine norm_ (a':=?_) ?_ ?_
               rotate_left
               ·
                show Act.put _ (some 74) _ = _
                simp only [Act.put,sa,sb,sc,i64_w,i32_w]
                rfl
               refine pure_ (i:=22) (N:=some 11) (v:=?_) (a':=?_) #[true,true,true,true,true,true,true,true,true,true,true,true,true,true,true,true,true,true,true,true,true,true,true] rfl rfl (any_of HT_.out (by kernel_rfl)) (fun _ _ _ h=>h) (Or.inl ⟨by rfl,?_⟩) ?_ ?_
               rotate_left
               ·
                intro w'
                go_simp
                with_reducible rfl
               rotate_left
               ·
                simp only [Act.put,sa,sb,sc,i64_w,i32_w]
                rfl
               refine done_ (done_of HT_.out (by kernel_rfl)) ?_
               have hcz35_0 : w33.cell? ⟨gb254,0,none⟩ = some (u255000):=(blk_cell BK254.out 0).trans rfl
               have hcz35_1 : w33.cell? ⟨gb254,1,none⟩ = some (u255001):=(blk_cell BK254.out 1).trans rfl
               have hfz35_0:=blk_frozen BK254.out 0
               have hfz35_1:=blk_frozen BK254.out 1
               obtain ⟨Ao36,co36,eo36⟩:=Kd.N_slice HO_255000.out
               subst eo36
               obtain ⟨Ao37,co37,eo37⟩:=Kd.N_slice HO_255001.out
               subst eo37
               obtain ⟨Ao38,co38,eo38⟩:=Kd.R_slice HO266.out
               subst eo38
               try go_wp2_with (first|((with_reducible refine gate_callee (f:=10) rfl ?_);refine goesL_ (some 79) rfl rfl Try.func10 (by kernel_rfl) rfl #[.agg #[.slice Ao36 x255000_1.length co36,.slice Ao37 x255001_1.length co37],.int .i64 (Int.tmod (wrap64 ((rd l0 x7_1) / 8)) 5),.slice Ao31 x9_2.length co31,.slice Ao38 y264.length co38] rfl (by (try simp only [List.map_toArray,List.map_cons,List.map_nil]);first|done|rfl|(simp only [List.length_drop,List.length_take];rfl)|((try rw [KY109.out]);rfl)) ?_;(with_reducible refine (zAgree.calls k2 _ _ x255000_1 _ _ x255001_1 (Int.tmod (wrap64 ((rd l0 x7_1) / 8)) 5) _ _ x9_2 _ _ y264 true _ ?side1 ?side2 ?side3 ?side4 ?side5 ?side6 ?side7 ?side8 A27.out).mono ?_);(case side1=>repeat (first|exact (Kd.N_reads' HO_255000.out).2.2|(with_reducible refine ca ?_ _)|(with_reducible refine cb ?_ _)|(with_reducible refine cc ?_)));(case side2=>exact (Kd.N_reads' HO_255000.out).2.1);(case side3=>repeat (first|exact (Kd.N_reads' HO_255001.out).2.2|(with_reducible refine ca ?_ _)|(with_reducible refine cb ?_ _)|(with_reducible refine cc ?_)));(case side4=>exact (Kd.N_reads' HO_255001.out).2.1);(case side5=>repeat (first|exact (rd_ HO_9.out).2.2|(with_reducible refine ca ?_ _)|(with_reducible refine cb ?_ _)|(with_reducible refine cc ?_)));(case side6=>exact (rd_ HO_9.out).2.1);(case side7=>repeat (first|exact (rd_ HO266.out).2.2|(with_reducible refine ca ?_ _)|(with_reducible refine cb ?_ _)|(with_reducible refine cc ?_)));(case side8=>exact (rd_ HO266.out).2.1);rintro e w39 ⟨rfl,hb⟩;refine ⟨_,rfl,?_⟩;have n0_:=A_ (rw_ (by (with_reducible repeat (first|apply ra|apply rb|apply rc));exact HO_9.out) hb);have n1_:=A_ (Kd.N_below (by (with_reducible repeat (first|apply Kd.N_alloc|apply Kd.N_drewN|apply Kd.N_drew));exact HO_255000.out) hb);have n2_:=A_ (Kd.N_below (by (with_reducible repeat (first|apply Kd.N_alloc|apply Kd.N_drewN|apply Kd.N_drew));exact HO_255001.out) hb);have n3_:=A_ (rw_ (by (with_reducible repeat (first|apply ra|apply rb|apply rc));exact HO266.out) hb);have n4_:=A_ (blk_below (g:=gb254) (o:=.cells #[.slice Ao36 x255000_1.length co36,.slice Ao37 x255001_1.length co37] 25 (0,0)) (by (with_reducible repeat (first|refine blk_drewN ?_ _|refine blk_drew ?_|refine blk_alloc ?_ _));exact BK254.out) hb);have n5_:=A_ (below_step (by repeat (first|(with_reducible first|exact HB.out|apply ba|apply bb|apply bc|refine below_set ?_ GE254.out)|exact HB.out)) hb);clear HO_9;clear HO_255000;clear HO_255001;clear HO266;clear BK254;clear HB;have HO_9:=n0_;have HO_255000:=n1_;have HO_255001:=n2_;have HO266:=n3_;have BK254:=n4_;have HB:=n5_;clear n0_ n1_ n2_ n3_ n4_ n5_;(try clear hb);(try clear hb2);(try clear hk);(try clear hi);have p268 : 0 ≤ (x7_1 : Int):=of_decide_eq_true (by first|(with_reducible assumption)|assumption);have q268 : x7_1 < (l0.length : Int):=of_decide_eq_true (by first|(with_reducible assumption)|assumption);obtain ⟨ad268,e268,hx268_0⟩:=Kd.at_int HR0.out x7_1 p268 q268;obtain rfl : ad255 = ad268:=(by injection e268);replace hx268_0:=(HB.out.cell (World.block_lt_of_cell? w _ hx268_0)).trans hx268_0;replace p268:=eq_true p268;replace q268:=eq_true q268;have hcz40_0 : w39.cell? ⟨gb254,0,none⟩ = some (.slice Ao36 x255000_1.length co36):=(blk_cell BK254.out 0).trans rfl;have hcz40_1 : w39.cell? ⟨gb254,1,none⟩ = some (.slice Ao37 x255001_1.length co37):=(blk_cell BK254.out 1).trans rfl;have hfz40_0:=blk_frozen BK254.out 0;have hfz40_1:=blk_frozen BK254.out 1)|((with_reducible refine gate_callee (f:=11) rfl ?_);refine goesL_ (some 97) rfl rfl Try.func11 (by kernel_rfl) rfl #[.agg #[.slice Ao36 x255000_1.length co36,.slice Ao37 x255001_1.length co37]] rfl (by (try simp only [List.map_toArray,List.map_cons,List.map_nil]);first|done|rfl|(simp only [List.length_drop,List.length_take];rfl)|((try rw [KY109.out]);rfl)) ?_;(with_reducible refine (zFlush.calls k2 _ _ x255000_1 _ _ x255001_1 t269 t272 t275 _ ?side1 ?side2 ?side3 ?side4 A30.out).mono ?_);(case side1=>repeat (first|exact (Kd.N_reads' HO_255000.out).2.2|(with_reducible refine ca ?_ _)|(with_reducible refine cb ?_ _)|(with_reducible refine cc ?_)));(case side2=>exact (Kd.N_reads' HO_255000.out).2.1);(case side3=>repeat (first|exact (Kd.N_reads' HO_255001.out).2.2|(with_reducible refine ca ?_ _)|(with_reducible refine cb ?_ _)|(with_reducible refine cc ?_)));(case side4=>exact (Kd.N_reads' HO_255001.out).2.1);rintro e w41 ⟨v270,v273,rfl,ho0,hb⟩;refine ⟨_,rfl,?_⟩;have n0_:=A_ (rw_ (by (with_reducible repeat (first|apply ra|apply rb|apply rc));exact HO_9.out) hb);have n1_:=A_ (Kd.N_below (by (with_reducible repeat (first|apply Kd.N_alloc|apply Kd.N_drewN|apply Kd.N_drew));exact HO_255000.out) hb);have n2_:=A_ (Kd.N_below (by (with_reducible repeat (first|apply Kd.N_alloc|apply Kd.N_drewN|apply Kd.N_drew));exact HO_255001.out) hb);have n3_:=A_ (rw_ (by (with_reducible repeat (first|apply ra|apply rb|apply rc));exact HO266.out) hb);have n4_:=A_ (resN0 (g:=gb254) (by (with_reducible repeat (first|apply Kd.N_alloc|apply Kd.N_drewN|apply Kd.N_drew));exact Kd.N_mono HO_255000.out (fun _ hk=>by first|exact ⟨hk.1.2.1,hk.1.2.2⟩|exact ⟨hk.2.1,hk.2.2⟩|exact ⟨hk.1.1,hk.1.2⟩|(trace_state;fail))) ho0 hb (below_size (by repeat (first|(with_reducible first|exact HB.out|apply ba|apply bb|apply bc|refine below_set ?_ GE254.out)|exact HB.out))) (blk_lt (o:=_) (by (with_reducible repeat (first|refine blk_drewN ?_ _|refine blk_drew ?_|refine blk_alloc ?_ _));exact BK254.out)));have n5_:=A_ (resN1 (g:=gb254) (by (with_reducible repeat (first|apply Kd.N_alloc|apply Kd.N_drewN|apply Kd.N_drew));exact Kd.N_mono HO_255001.out (fun _ hk=>by first|exact ⟨hk.1.2.1,hk.1.2.2⟩|exact ⟨hk.2.1,hk.2.2⟩|exact ⟨hk.1.1,hk.1.2⟩|(trace_state;fail))) ho0 hb (below_size (by repeat (first|(with_reducible first|exact HB.out|apply ba|apply bb|apply bc|refine below_set ?_ GE254.out)|exact HB.out))) (blk_lt (o:=_) (by (with_reducible repeat (first|refine blk_drewN ?_ _|refine blk_drew ?_|refine blk_alloc ?_ _));exact BK254.out)));have n6_:=A_ (blk_below (g:=gb254) (o:=.cells #[.slice Ao36 x255000_1.length co36,.slice Ao37 x255001_1.length co37] 25 (0,0)) (by (with_reducible repeat (first|refine blk_drewN ?_ _|refine blk_drew ?_|refine blk_alloc ?_ _));exact BK254.out) hb);have n7_:=A_ (below_step (by repeat (first|(with_reducible first|exact HB.out|apply ba|apply bb|apply bc|refine below_set ?_ GE254.out)|exact HB.out)) hb);clear HO_9;clear HO_255000;clear HO_255001;clear HO266;clear BK254;clear HB;have HO_9:=n0_;have HO_255000:=n1_;have HO_255001:=n2_;have HO266:=n3_;have HO271:=n4_;have HO274:=n5_;have BK254:=n6_;have HB:=n7_;clear n0_ n1_ n2_ n3_ n4_ n5_ n6_ n7_;(try clear hb);(try clear hb2);(try clear hk);(try clear hi);(try clear ho0);(try clear ho1);obtain ⟨Ao42,co42,eo42⟩:=Kd.N_slice HO271.out;subst eo42;have hcz43_0 : w41.cell? ⟨gb254,0,none⟩ = some (.slice Ao36 x255000_1.length co36):=(blk_cell BK254.out 0).trans rfl;have hcz43_1 : w41.cell? ⟨gb254,1,none⟩ = some (.slice Ao37 x255001_1.length co37):=(blk_cell BK254.out 1).trans rfl;have hfz43_0:=blk_frozen BK254.out 0;have hfz43_1:=blk_frozen BK254.out 1;obtain ⟨Ao44,co44,eo44⟩:=Kd.N_slice HO274.out;subst eo44))
               go_roundg k2
               case measure=>have:=HK1.out;have:=HK2.out;omega
               case rel=>exact ⟨(wrap64 (x7_1 + 1)),(t269),(t272),(.slice Ao42 t269.length co42),(.slice Ao44 t272.length co44),(by first|rfl|(simp;done)|(simp [*];done)),H',⟨by have:=HK1.out;have:=HK2.out;omega⟩,⟨by (with_reducible repeat (first|apply Kd.N_alloc|apply Kd.N_drewN|apply Kd.N_drew));exact Kd.N_mono (Kd.N_far (p:=⟨gb254,1,none⟩) (Kd.N_far (p:=⟨gb254,0,none⟩) (Kd.N_mono HO271.out (fun k_ hk=>(⟨hk,hk.2⟩ : _∧k_≠gb254))) (fun _ hk=>hk.2) (.slice Ao42 t269.length co42)) (fun _ hk=>hk.2) (.slice Ao44 t272.length co44)) (fun _ hk=>⟨hk.1.1,hk.1.2⟩)⟩,⟨by (with_reducible repeat (first|apply Kd.N_alloc|apply Kd.N_drewN|apply Kd.N_drew));exact Kd.N_mono (Kd.N_far (p:=⟨gb254,1,none⟩) (Kd.N_far (p:=⟨gb254,0,none⟩) (Kd.N_mono HO274.out (fun k_ hk=>(⟨hk,hk.2⟩ : _∧k_≠gb254))) (fun _ hk=>hk.2) (.slice Ao42 t269.length co42)) (fun _ hk=>hk.2) (.slice Ao44 t272.length co44)) (fun _ hk=>⟨hk.1.1,hk.1.2⟩)⟩,⟨by (with_reducible repeat (first|refine blk_drewN ?_ _|refine blk_drew ?_|refine blk_alloc ?_ _));refine blk_put (cs:=#[.slice Ao42 t269.length co42,.slice Ao37 x255001_1.length co37]) ?_ 1 _ rfl;(with_reducible repeat (first|refine blk_drewN ?_ _|refine blk_drew ?_|refine blk_alloc ?_ _));refine blk_put (cs:=#[.slice Ao36 x255000_1.length co36,.slice Ao37 x255001_1.length co37]) ?_ 0 _ rfl;(with_reducible repeat (first|refine blk_drewN ?_ _|refine blk_drew ?_|refine blk_alloc ?_ _));exact BK254.out⟩,⟨by repeat (first|(with_reducible first|exact HB.out|apply ba|apply bb|apply bc|refine below_set ?_ GE254.out)|exact HB.out)⟩⟩
              ·
               rw [if_neg c29] at H
               have c29b0 : ((Int.tmod (rd l0 x7_1) 8) == 0) = false:=beq_eq_false_iff_ne.mpr c29
               have c29b1 : ((Int.tmod (rd l0 x7_1) 8) != 0) = true:=bne_iff_ne.mpr c29
               by_cases c45 : (Int.tmod (rd l0 x7_1) 8) = 1
               ·
                rw [if_pos c45] at H
                have c45b0 : ((Int.tmod (rd l0 x7_1) 8) == 1) = true:=beq_iff_eq.mpr c45
                have c45b1 : ((Int.tmod (rd l0 x7_1) 8) != 1) = false:=bne_eq_false_iff_eq.mpr c45
                clear c45
                replace H:=Option.bind_eq_some_iff.mp H
                obtain ⟨⟨t276,t279,t282⟩,A460,H⟩:=H
                replace H : (shapesearchlaw24_DeviceSteps.l0 k2 l0 a1 (wrap64 (x7_1 + 1)) t276 t279) = some r:=H
                have A46:=A_ A460
                clear A460
                have H':=A_ H
                clear H
                obtain ⟨Ao47,co47,eo47⟩:=Kd.R_slice HO_9.out
                subst eo47
                try go_wp2
                have n0_:=A_ (Kd.R_drew HO_9.out)
                have n1_:=A_ (Kd.N_drew HO_255000.out)
                have n2_:=A_ (Kd.N_drew HO_255001.out)
                have n3_:=A_ (blk_drew BK254.out)
                have n4_:=A_ (below_drew1 HB.out)
                clear HO_9
                clear HO_255000
                clear HO_255001
                clear BK254
                clear HB
                have HO_9:=n0_
                have HO_255000:=n1_
                have HO_255001:=n2_
                have BK254:=n3_
                have HB:=n4_
                clear n0_ n1_ n2_ n3_ n4_
                have p261 : 0 ≤ (x7_1 : Int):=of_decide_eq_true (by first|(with_reducible assumption)|assumption)
                have q261 : x7_1 < (l0.length : Int):=of_decide_eq_true (by first|(with_reducible assumption)|assumption)
                obtain ⟨ad261,e261,hx261_0⟩:=Kd.at_int HR0.out x7_1 p261 q261
                have hw261_0:=hx261_0
                obtain rfl : ad255 = ad261:=(by injection e261)
                replace hx261_0:=(HB.out.cell (World.block_lt_of_cell? w _ hx261_0)).trans hx261_0
                replace p261:=eq_true p261
                replace q261:=eq_true q261
                have p262 : 0 ≤ (x7_1 : Int):=of_decide_eq_true (by first|(with_reducible assumption)|assumption)
                have q262 : x7_1 < (l0.length : Int):=of_decide_eq_true (by first|(with_reducible assumption)|assumption)
                obtain ⟨ad262,e262,hx262_0⟩:=Kd.at_int HR0.out x7_1 p262 q262
                have hw262_0:=hx262_0
                obtain rfl : ad255 = ad262:=(by injection e262)
                replace hx262_0:=(HB.out.cell (World.block_lt_of_cell? w _ hx262_0)).trans hx262_0
                replace p262:=eq_true p262
                replace q262:=eq_true q262
                have p263 : 0 ≤ (x7_1 : Int):=of_decide_eq_true (by first|(with_reducible assumption)|assumption)
                have q263 : x7_1 < (l0.length : Int):=of_decide_eq_true (by first|(with_reducible assumption)|assumption)
                obtain ⟨ad263,e263,hx263_0⟩:=Kd.at_int HR0.out x7_1 p263 q263
                have hw263_0:=hx263_0
                obtain rfl : ad255 = ad263:=(by injection e263)
                replace hx263_0:=(HB.out.cell (World.block_lt_of_cell? w _ hx263_0)).trans hx263_0
                replace p263:=eq_true p263
                replace q263:=eq_true q263
                refine start_ (n:=23) (S:=fun w'=>w'.cell? (ad255.add (x7_1).toNat) = some (.int .u16 (rd l0 x7_1))∧w'.cell? (ad255.add (x7_1).toNat) = some (.int .u16 (rd l0 x7_1))∧w'.cell? (ad255.add (x7_1).toNat) = some (.int .u16 (rd l0 x7_1))) (ds:=[]) #[false,false,false,false,false,false,false,false,false,false,false,false,false,false,false,false,false,false,false,false,false,false,false] (by kernel_rfl) rfl rfl ⟨((HB.out.cell (World.block_lt_of_cell? w _ hw261_0)).trans hw261_0),((HB.out.cell (World.block_lt_of_cell? w _ hw262_0)).trans hw262_0),((HB.out.cell (World.block_lt_of_cell? w _ hw263_0)).trans hw263_0)⟩ (fun hHeld=>?_);refine with_tabW shapesearchlaw24_DeviceSteps.tab13 shapesearchlaw24_DeviceSteps.bits13 (fun HT_ HW_=>?_)
                generalize wr.drew = w48 at HO_9 HO_255000 HO_255001 BK254 HB hx261_0 hx262_0 hx263_0 hHeld ⊢
                refine pure_ (i:=0) (N:=some 53) (v:=?_) (a':=?_) #[true,false,false,false,false,false,false,false,false,false,false,false,false,false,false,false,false,false,false,false,false,false,false] rfl rfl (any_of HT_.out (by kernel_rfl)) (fun _ _ _ h=>h) (Or.inl ⟨by rfl,?_⟩) ?_ ?_
                rotate_left
                ·
                 intro w'
                 go_simp
                 with_reducible rfl
                rotate_left
                ·
                 simp only [Act.put,sa,sb,sc,i64_w,i32_w]
                 rfl
                refine pure_ (i:=1) (N:=some 54) (v:=?_) (a':=?_) #[true,true,false,false,false,false,false,false,false,false,false,false,false,false,false,false,false,false,false,false,false,false,false] rfl rfl (any_of HT_.out (by kernel_rfl)) (fun _ _ _ h=>h) (Or.inl ⟨by rfl,?_⟩) ?_ ?_
                rotate_left
                ·
                 intro w'
                 go_simp
                 with_reducible rfl
                rotate_left
                ·
                 simp only [Act.put,sa,sb,sc,i64_w,i32_w]
                 rfl
                refine pure_ (i:=2) (N:=some 55) (v:=?_) (a':=?_) #[true,true,true,false,false,false,false,false,false,false,false,false,false,false,false,false,false,false,false,false,false,false,false] rfl rfl (any_of HT_.out (by kernel_rfl)) (fun _ _ _ h=>h) (Or.inl ⟨by rfl,?_⟩) ?_ ?_
                rotate_left
                ·
                 intro w'
                 go_simp
                 with_reducible rfl
                rotate_left
                ·
                 simp only [Act.put,sa,sb,sc,i64_w,i32_w]
                 rfl
                refine pure_ (i:=8) (N:=some 61) (v:=?_) (a':=?_) #[true,true,true,false,false,false,false,false,true,false,false,false,false,false,false,false,false,false,false,false,false,false,false] rfl rfl (any_of HT_.out (by kernel_rfl)) (fun _ _ _ h=>h) (Or.inl ⟨by rfl,?_⟩) ?_ ?_
                rotate_left
                ·
                 intro w'
                 go_simp
                 with_reducible rfl
                rotate_left
                ·
                 simp only [Act.put,sa,sb,sc,i64_w,i32_w]
                 rfl
                refine pure_ (i:=9) (N:=some 62) (v:=?_) (a':=?_) #[true,true,true,false,false,false,false,false,true,true,false,false,false,false,false,false,false,false,false,false,false,false,false] rfl rfl (any_of HT_.out (by kernel_rfl)) (fun _ _ _ h=>h) (Or.inl ⟨by rfl,?_⟩) ?_ ?_
                rotate_left
                ·
                 intro w'
                 go_simp
                 with_reducible rfl
                rotate_left
                ·
                 simp only [Act.put,sa,sb,sc,i64_w,i32_w]
                 rfl
                refine pure_ (i:=10) (N:=some 63) (v:=?_) (a':=?_) #[true,true,true,false,false,false,false,false,true,true,true,false,false,false,false,false,false,false,false,false,false,false,false] rfl rfl (any_of HT_.out (by kernel_rfl)) (fun _ _ _ h=>h) (Or.inl ⟨by rfl,?_⟩) ?_ ?_
                rotate_left
                ·
                 intro w'
                 go_simp
                 with_reducible rfl
                rotate_left
                ·
                 simp only [Act.put,sa,sb,sc,i64_w,i32_w]
                 rfl
                refine pure_ (i:=15) (N:=some 68) (v:=?_) (a':=?_) #[true,true,true,false,false,false,false,false,true,true,true,false,false,false,false,true,false,false,false,false,false,false,false] rfl rfl (any_of HT_.out (by kernel_rfl)) (fun _ _ _ h=>h) (Or.inl ⟨by rfl,?_⟩) ?_ ?_
                rotate_left
                ·
                 intro w'
                 go_simp
                 with_reducible rfl
                rotate_left
                ·
                 simp only [Act.put,sa,sb,sc,i64_w,i32_w]
                 rfl
                refine pure_ (i:=16) (N:=some 69) (v:=?_) (a':=?_) #[true,true,true,false,false,false,false,false,true,true,true,false,false,false,false,true,true,false,false,false,false,false,false] rfl rfl (any_of HT_.out (by kernel_rfl)) (fun _ _ _ h=>h) (Or.inl ⟨by rfl,?_⟩) ?_ ?_
                rotate_left
                ·
                 intro w'
                 go_simp
                 with_reducible rfl
                rotate_left
                ·
                 simp only [Act.put,sa,sb,sc,i64_w,i32_w]
                 rfl
                refine pure_ (i:=17) (N:=some 70) (v:=?_) (a':=?_) #[true,true,true,false,false,false,false,false,true,true,true,false,false,false,false,true,true,true,false,false,false,false,false] rfl rfl (any_of HT_.out (by kernel_rfl)) (fun _ _ _ h=>h) (Or.inl ⟨by rfl,?_⟩) ?_ ?_
                rotate_left
                ·
                 intro w'
                 go_simp
                 with_reducible rfl
                rotate_left
                ·
                 simp only [Act.put,sa,sb,sc,i64_w,i32_w]
                 rfl
                refine take_ (i:=3) (N:=some 56) (v:=?_) (a':=?_) #[true,true,true,true,false,false,false,false,true,true,true,false,false,false,false,true,true,true,false,false,false,false,false] rfl rfl (take_ofW HT_.out HW_.out (by kernel_rfl)) (fun _ _ _ h=>h) (Or.inl ⟨by rfl,?_⟩) hHeld ?_ ?_
                rotate_left
                ·
                 rintro w' ⟨s0,s1,s2⟩
                 go_simp
                 with_reducible rfl
                rotate_left
                ·
                 simp only [Act.put,sa,sb,sc,i64_w,i32_w]
                 rfl
                refine pure_ (i:=4) (N:=some 57) (v:=?_) (a':=?_) #[true,true,true,true,true,false,false,false,true,true,true,false,false,false,false,true,true,true,false,false,false,false,false] rfl rfl (any_of HT_.out (by kernel_rfl)) (fun _ _ _ h=>h) (Or.inl ⟨by rfl,?_⟩) ?_ ?_
                rotate_left
                ·
                 intro w'
                 go_simp
                 with_reducible rfl
                rotate_left
                ·
                 simp only [Act.put,sa,sb,sc,i64_w,i32_w]
                 rfl
                refine pure_ (i:=5) (N:=some 58) (v:=?_) (a':=?_) #[true,true,true,true,true,true,false,false,true,true,true,false,false,false,false,true,true,true,false,false,false,false,false] rfl rfl (any_of HT_.out (by kernel_rfl)) (fun _ _ _ h=>h) (Or.inl ⟨by rfl,?_⟩) ?_ ?_
                rotate_left
                ·
                 intro w'
                 go_simp
                 with_reducible rfl
                rotate_left
                ·
                 simp only [Act.put,sa,sb,sc,i64_w,i32_w]
                 rfl
                refine pure_ (i:=6) (N:=some 59) (v:=?_) (a':=?_) #[true,true,true,true,true,true,true,false,true,true,true,false,false,false,false,true,true,true,false,false,false,false,false] rfl rfl (any_of HT_.out (by kernel_rfl)) (fun _ _ _ h=>h) (Or.inl ⟨by rfl,?_⟩) ?_ ?_
                rotate_left
                ·
                 intro w'
                 go_simp
                 with_reducible rfl
                rotate_left
                ·
                 simp only [Act.put,sa,sb,sc,i64_w,i32_w]
                 rfl
                refine pure_ (i:=7) (N:=some 60) (v:=?_) (a':=?_) #[true,true,true,true,true,true,true,true,true,true,true,false,false,false,false,true,true,true,false,false,false,false,false] rfl rfl (any_of HT_.out (by kernel_rfl)) (fun _ _ _ h=>h) (Or.inl ⟨by rfl,?_⟩) ?_ ?_
                rotate_left
                ·
                 intro w'
                 go_simp
                 with_reducible rfl
                rotate_left
                ·
                 simp only [Act.put,sa,sb,sc,i64_w,i32_w]
                 rfl
                refine take_ (i:=11) (N:=some 64) (v:=?_) (a':=?_) #[true,true,true,true,true,true,true,true,true,true,true,true,false,false,false,true,true,true,false,false,false,false,false] rfl rfl (take_ofW HT_.out HW_.out (by kernel_rfl)) (fun _ _ _ h=>h) (Or.inl ⟨by rfl,?_⟩) hHeld ?_ ?_
                rotate_left
                ·
                 rintro w' ⟨s0,s1,s2⟩
                 go_simp
                 with_reducible rfl
                rotate_left
                ·
                 simp only [Act.put,sa,sb,sc,i64_w,i32_w]
                 rfl
                refine pure_ (i:=12) (N:=some 65) (v:=?_) (a':=?_) #[true,true,true,true,true,true,true,true,true,true,true,true,true,false,false,true,true,true,false,false,false,false,false] rfl rfl (any_of HT_.out (by kernel_rfl)) (fun _ _ _ h=>h) (Or.inl ⟨by rfl,?_⟩) ?_ ?_
                rotate_left
                ·
                 intro w'
                 go_simp
                 with_reducible rfl
                rotate_left
                ·
                 simp only [Act.put,sa,sb,sc,i64_w,i32_w]
                 rfl
                refine pure_ (i:=13) (N:=some 66) (v:=?_) (a':=?_) #[true,true,true,true,true,true,true,true,true,true,true,true,true,true,false,true,true,true,false,false,false,false,false] rfl rfl (any_of HT_.out (by kernel_rfl)) (fun _ _ _ h=>h) (Or.inl ⟨by rfl,?_⟩) ?_ ?_
                rotate_left
                ·
                 intro w'
                 go_simp
                 with_reducible rfl
                rotate_left
                ·
                 simp only [Act.put,sa,sb,sc,i64_w,i32_w]
                 rfl
                refine pure_ (i:=14) (N:=some 67) (v:=?_) (a':=?_) #[true,true,true,true,true,true,true,true,true,true,true,true,true,true,true,true,true,true,false,false,false,false,false] rfl rfl (any_of HT_.out (by kernel_rfl)) (fun _ _ _ h=>h) (Or.inl ⟨by rfl,?_⟩) ?_ ?_
                rotate_left
                ·
                 intro w'
                 go_simp
                 with_reducible rfl
                rotate_left
                ·
                 simp only [Act.put,sa,sb,sc,i64_w,i32_w]
                 rfl
                refine take_ (i:=18) (N:=some 71) (v:=?_) (a':=?_) #[true,true,true,true,true,true,true,true,true,true,true,true,true,true,true,true,true,true,true,false,false,false,false] rfl rfl (take_ofW HT_.out HW_.out (by kernel_rfl)) (fun _ _ _ h=>h) (Or.inl ⟨by rfl,?_⟩) hHeld ?_ ?_
                rotate_left
                ·
                 rintro w' ⟨s0,s1,s2⟩
                 go_simp
                 with_reducible rfl
                rotate_left
                ·
                 simp only [Act.put,sa,sb,sc,i64_w,i32_w]
                 rfl
                refine pure_ (i:=19) (N:=some 72) (v:=?_) (a':=?_) #[true,true,true,true,true,true,true,true,true,true,true,true,true,true,true,true,true,true,true,true,false,false,false] rfl rfl (any_of HT_.out (by kernel_rfl)) (fun _ _ _ h=>h) (Or.inl ⟨by rfl,?_⟩) ?_ ?_
                rotate_left
                ·
                 intro w'
                 go_simp
                 with_reducible rfl
                rotate_left
                ·
                 simp only [Act.put,sa,sb,sc,i64_w,i32_w]
                 rfl
                refine pure_ (i:=20) (N:=some 73) (v:=?_) (a':=?_) #[true,true,true,true,true,true,true,true,true,true,true,true,true,true,true,true,true,true,true,true,true,false,false] rfl rfl (any_of HT_.out (by kernel_rfl)) (fun _ _ _ h=>h) (Or.inl ⟨by rfl,?_⟩) ?_ ?_
                rotate_left
                ·
                 intro w'
                 go_simp
                 with_reducible rfl
                rotate_left
                ·
                 simp only [Act.put,sa,sb,sc,i64_w,i32_w]
                 rfl
                refine one_ (i:=21) (N:=some 74) #[true,true,true,true,true,true,true,true,true,true,true,true,true,true,true,true,true,true,true,true,true,true,false] rfl rfl (one_of HT_.out (by kernel_rfl)) (by decide) (fun K hK=>?_)
                refine Kd.R_lit_step (Kd.int .i64) _ 3 ?hg (N:=74) ?hd (xs:=([wrap64 ((Int.tmod (wrap64 ((rd l0 x7_1) / 64)) 70) - 2),Int.tmod (wrap64 ((rd l0 x7_1) / 512)) 66,Int.tmod (wrap64 (rd l0 x7_1)) 65] : List Int)) (inner:=[.int .i64 (wrap64 ((Int.tmod (wrap64 ((rd l0 x7_1) / 64)) 70) - 2)),.int .i64 (Int.tmod (wrap64 ((rd l0 x7_1) / 512)) 66),.int .i64 (Int.tmod (wrap64 (rd l0 x7_1)) 65)]) (ok:=fun _=>True) (okp:=fun _=>True) ?hr ?hp (fun _ hk=>hk) trivial (Below.refl _ _) (Nat.le_refl _) (by simp) ?_;(case hd=>rfl);(case hg=>rfl);(case hr=>first|(go_simp;done)|(go_simp;rfl));(case hp=>exact (Reps.one (show Kd.M (Kd.int .i64) _ _ _ (wrap64 ((Int.tmod (wrap64 ((rd l0 x7_1) / 64)) 70) - 2)) [.int .i64 (wrap64 ((Int.tmod (wrap64 ((rd l0 x7_1) / 64)) 70) - 2))] from rfl) (Reps.one (show Kd.M (Kd.int .i64) _ _ _ (Int.tmod (wrap64 ((rd l0 x7_1) / 512)) 66) [.int .i64 (Int.tmod (wrap64 ((rd l0 x7_1) / 512)) 66)] from rfl) (Reps.one (show Kd.M (Kd.int .i64) _ _ _ (Int.tmod (wrap64 (rd l0 x7_1)) 65) [.int .i64 (Int.tmod (wrap64 (rd l0 x7_1)) 65)] from rfl) (Reps.none _ _)))))
                intro v265 w49 ho50 hb hg_ hnew_
                clear hg_ hnew_
                (first|rw [← Ny264.out] at ho50|(simp only [Int.reduceToNat] at ho50;rw [← Ny264.out] at ho50))
                have n0_:=A_ (rw_ (by (with_reducible repeat (first|apply ra|apply rb|apply rc));exact HO_9.out) hb)
                have n1_:=A_ (Kd.N_elder' (by (with_reducible repeat (first|apply Kd.N_alloc|apply Kd.N_drewN|apply Kd.N_drew));exact HO_255000.out) (rs ho50) hb)
                have n2_:=A_ (Kd.N_elder' (by (with_reducible repeat (first|apply Kd.N_alloc|apply Kd.N_drewN|apply Kd.N_drew));exact HO_255001.out) (rs ho50) hb)
                have n3_:=A_ (Kd.R_lower ho50 (below_size (by repeat (first|(with_reducible first|exact HB.out|apply ba|apply bb|apply bc|refine below_set ?_ GE254.out)|exact HB.out))))
                have n4_:=A_ (blk_below (g:=gb254) (o:=.cells #[u255000,u255001] 25 (0,0)) (by (with_reducible repeat (first|refine blk_drewN ?_ _|refine blk_drew ?_|refine blk_alloc ?_ _));exact BK254.out) hb)
                have n5_:=A_ (below_step (by repeat (first|(with_reducible first|exact HB.out|apply ba|apply bb|apply bc|refine below_set ?_ GE254.out)|exact HB.out)) hb)
                clear HO_9
                clear HO_255000
                clear HO_255001
                clear BK254
                clear HB
                have HO_9:=n0_
                have HO_255000:=n1_
                have HO_255001:=n2_
                have HO266:=n3_
                have BK254:=n4_
                have HB:=n5_
                clear n0_ n1_ n2_ n3_ n4_ n5_
                clear hb ho50
                refine hK.out _ _ ⟨((HB.out.cell (World.block_lt_of_cell? w _ hw261_0)).trans hw261_0),((HB.out.cell (World.block_lt_of_cell? w _ hw262_0)).trans hw262_0),((HB.out.cell (World.block_lt_of_cell? w _ hw263_0)).trans hw263_0)⟩ (fun hHeld=>?_)
                clear hK K
                refine norm_ (a':=?_) ?_ ?_
                rotate_left
                ·
                 show Act.put _ (some 74) _ = _
                 simp only [Act.put,sa,sb,sc,i64_w,i32_w]
                 rfl
                refine pure_ (i:=22) (N:=some 11) (v:=?_) (a':=?_) #[true,true,true,true,true,true,true,true,true,true,true,true,true,true,true,true,true,true,true,true,true,true,true] rfl rfl (any_of HT_.out (by kernel_rfl)) (fun _ _ _ h=>h) (Or.inl ⟨by rfl,?_⟩) ?_ ?_
                rotate_left
                ·
                 intro w'
                 go_simp
                 with_reducible rfl
                rotate_left
                ·
                 simp only [Act.put,sa,sb,sc,i64_w,i32_w]
                 rfl
                refine done_ (done_of HT_.out (by kernel_rfl)) ?_
                have hcz51_0 : w49.cell? ⟨gb254,0,none⟩ = some (u255000):=(blk_cell BK254.out 0).trans rfl
                have hcz51_1 : w49.cell? ⟨gb254,1,none⟩ = some (u255001):=(blk_cell BK254.out 1).trans rfl
                have hfz51_0:=blk_frozen BK254.out 0
                have hfz51_1:=blk_frozen BK254.out 1
                obtain ⟨Ao52,co52,eo52⟩:=Kd.N_slice HO_255000.out
                subst eo52
                obtain ⟨Ao53,co53,eo53⟩:=Kd.N_slice HO_255001.out
                subst eo53
                obtain ⟨Ao54,co54,eo54⟩:=Kd.R_slice HO266.out
                subst eo54
                try go_wp2_with (first|((with_reducible refine gate_callee (f:=10) rfl ?_);refine goesL_ (some 79) rfl rfl Try.func10 (by kernel_rfl) rfl #[.agg #[.slice Ao52 x255000_1.length co52,.slice Ao53 x255001_1.length co53],.int .i64 (Int.tmod (wrap64 ((rd l0 x7_1) / 8)) 5),.slice Ao47 x9_2.length co47,.slice Ao54 y264.length co54] rfl (by (try simp only [List.map_toArray,List.map_cons,List.map_nil]);first|done|rfl|(simp only [List.length_drop,List.length_take];rfl)|((try rw [KY109.out]);rfl)) ?_;(with_reducible refine (zAgree.calls k2 _ _ x255000_1 _ _ x255001_1 (Int.tmod (wrap64 ((rd l0 x7_1) / 8)) 5) _ _ x9_2 _ _ y264 true _ ?side1 ?side2 ?side3 ?side4 ?side5 ?side6 ?side7 ?side8 A27.out).mono ?_);(case side1=>repeat (first|exact (Kd.N_reads' HO_255000.out).2.2|(with_reducible refine ca ?_ _)|(with_reducible refine cb ?_ _)|(with_reducible refine cc ?_)));(case side2=>exact (Kd.N_reads' HO_255000.out).2.1);(case side3=>repeat (first|exact (Kd.N_reads' HO_255001.out).2.2|(with_reducible refine ca ?_ _)|(with_reducible refine cb ?_ _)|(with_reducible refine cc ?_)));(case side4=>exact (Kd.N_reads' HO_255001.out).2.1);(case side5=>repeat (first|exact (rd_ HO_9.out).2.2|(with_reducible refine ca ?_ _)|(with_reducible refine cb ?_ _)|(with_reducible refine cc ?_)));(case side6=>exact (rd_ HO_9.out).2.1);(case side7=>repeat (first|exact (rd_ HO266.out).2.2|(with_reducible refine ca ?_ _)|(with_reducible refine cb ?_ _)|(with_reducible refine cc ?_)));(case side8=>exact (rd_ HO266.out).2.1);rintro e w55 ⟨rfl,hb⟩;refine ⟨_,rfl,?_⟩;have n0_:=A_ (rw_ (by (with_reducible repeat (first|apply ra|apply rb|apply rc));exact HO_9.out) hb);have n1_:=A_ (Kd.N_below (by (with_reducible repeat (first|apply Kd.N_alloc|apply Kd.N_drewN|apply Kd.N_drew));exact HO_255000.out) hb);have n2_:=A_ (Kd.N_below (by (with_reducible repeat (first|apply Kd.N_alloc|apply Kd.N_drewN|apply Kd.N_drew));exact HO_255001.out) hb);have n3_:=A_ (rw_ (by (with_reducible repeat (first|apply ra|apply rb|apply rc));exact HO266.out) hb);have n4_:=A_ (blk_below (g:=gb254) (o:=.cells #[.slice Ao52 x255000_1.length co52,.slice Ao53 x255001_1.length co53] 25 (0,0)) (by (with_reducible repeat (first|refine blk_drewN ?_ _|refine blk_drew ?_|refine blk_alloc ?_ _));exact BK254.out) hb);have n5_:=A_ (below_step (by repeat (first|(with_reducible first|exact HB.out|apply ba|apply bb|apply bc|refine below_set ?_ GE254.out)|exact HB.out)) hb);clear HO_9;clear HO_255000;clear HO_255001;clear HO266;clear BK254;clear HB;have HO_9:=n0_;have HO_255000:=n1_;have HO_255001:=n2_;have HO266:=n3_;have BK254:=n4_;have HB:=n5_;clear n0_ n1_ n2_ n3_ n4_ n5_;(try clear hb);(try clear hb2);(try clear hk);(try clear hi);have p268 : 0 ≤ (x7_1 : Int):=of_decide_eq_true (by first|(with_reducible assumption)|assumption);have q268 : x7_1 < (l0.length : Int):=of_decide_eq_true (by first|(with_reducible assumption)|assumption);obtain ⟨ad268,e268,hx268_0⟩:=Kd.at_int HR0.out x7_1 p268 q268;obtain rfl : ad255 = ad268:=(by injection e268);replace hx268_0:=(HB.out.cell (World.block_lt_of_cell? w _ hx268_0)).trans hx268_0;replace p268:=eq_true p268;replace q268:=eq_true q268;have hcz56_0 : w55.cell? ⟨gb254,0,none⟩ = some (.slice Ao52 x255000_1.length co52):=(blk_cell BK254.out 0).trans rfl;have hcz56_1 : w55.cell? ⟨gb254,1,none⟩ = some (.slice Ao53 x255001_1.length co53):=(blk_cell BK254.out 1).trans rfl;have hfz56_0:=blk_frozen BK254.out 0;have hfz56_1:=blk_frozen BK254.out 1)|((with_reducible refine gate_callee (f:=12) rfl ?_);refine goesL_ (some 105) rfl rfl Try.func12 (by kernel_rfl) rfl #[.agg #[.slice Ao52 x255000_1.length co52,.slice Ao53 x255001_1.length co53],.slice Ao54 y264.length co54] rfl (by (try simp only [List.map_toArray,List.map_cons,List.map_nil]);first|done|rfl|(simp only [List.length_drop,List.length_take];rfl)|((try rw [KY109.out]);rfl)) ?_;(with_reducible refine (zCrash.calls k2 _ _ x255000_1 _ _ x255001_1 _ _ y264 t276 t279 t282 _ ?side1 ?side2 ?side3 ?side4 ?side5 ?side6 A46.out).mono ?_);(case side1=>repeat (first|exact (Kd.N_reads' HO_255000.out).2.2|(with_reducible refine ca ?_ _)|(with_reducible refine cb ?_ _)|(with_reducible refine cc ?_)));(case side2=>exact (Kd.N_reads' HO_255000.out).2.1);(case side3=>repeat (first|exact (Kd.N_reads' HO_255001.out).2.2|(with_reducible refine ca ?_ _)|(with_reducible refine cb ?_ _)|(with_reducible refine cc ?_)));(case side4=>exact (Kd.N_reads' HO_255001.out).2.1);(case side5=>repeat (first|exact (rd_ HO266.out).2.2|(with_reducible refine ca ?_ _)|(with_reducible refine cb ?_ _)|(with_reducible refine cc ?_)));(case side6=>exact (rd_ HO266.out).2.1);rintro e w57 ⟨v277,v280,rfl,ho0,hb⟩;refine ⟨_,rfl,?_⟩;have n0_:=A_ (rw_ (by (with_reducible repeat (first|apply ra|apply rb|apply rc));exact HO_9.out) hb);have n1_:=A_ (Kd.N_below (by (with_reducible repeat (first|apply Kd.N_alloc|apply Kd.N_drewN|apply Kd.N_drew));exact HO_255000.out) hb);have n2_:=A_ (Kd.N_below (by (with_reducible repeat (first|apply Kd.N_alloc|apply Kd.N_drewN|apply Kd.N_drew));exact HO_255001.out) hb);have n3_:=A_ (rw_ (by (with_reducible repeat (first|apply ra|apply rb|apply rc));exact HO266.out) hb);have n4_:=A_ (resN0 (g:=gb254) (by (with_reducible repeat (first|apply Kd.N_alloc|apply Kd.N_drewN|apply Kd.N_drew));exact Kd.N_mono HO_255000.out (fun _ hk=>by first|exact ⟨hk.1.2.1,hk.1.2.2⟩|exact ⟨hk.2.1,hk.2.2⟩|exact ⟨hk.1.1,hk.1.2⟩|(trace_state;fail))) ho0 hb (below_size (by repeat (first|(with_reducible first|exact HB.out|apply ba|apply bb|apply bc|refine below_set ?_ GE254.out)|exact HB.out))) (blk_lt (o:=_) (by (with_reducible repeat (first|refine blk_drewN ?_ _|refine blk_drew ?_|refine blk_alloc ?_ _));exact BK254.out)));have n5_:=A_ (resN1 (g:=gb254) (by (with_reducible repeat (first|apply Kd.N_alloc|apply Kd.N_drewN|apply Kd.N_drew));exact Kd.N_mono HO_255001.out (fun _ hk=>by first|exact ⟨hk.1.2.1,hk.1.2.2⟩|exact ⟨hk.2.1,hk.2.2⟩|exact ⟨hk.1.1,hk.1.2⟩|(trace_state;fail))) ho0 hb (below_size (by repeat (first|(with_reducible first|exact HB.out|apply ba|apply bb|apply bc|refine below_set ?_ GE254.out)|exact HB.out))) (blk_lt (o:=_) (by (with_reducible repeat (first|refine blk_drewN ?_ _|refine blk_drew ?_|refine blk_alloc ?_ _));exact BK254.out)));have n6_:=A_ (blk_below (g:=gb254) (o:=.cells #[.slice Ao52 x255000_1.length co52,.slice Ao53 x255001_1.length co53] 25 (0,0)) (by (with_reducible repeat (first|refine blk_drewN ?_ _|refine blk_drew ?_|refine blk_alloc ?_ _));exact BK254.out) hb);have n7_:=A_ (below_step (by repeat (first|(with_reducible first|exact HB.out|apply ba|apply bb|apply bc|refine below_set ?_ GE254.out)|exact HB.out)) hb);clear HO_9;clear HO_255000;clear HO_255001;clear HO266;clear BK254;clear HB;have HO_9:=n0_;have HO_255000:=n1_;have HO_255001:=n2_;have HO266:=n3_;have HO278:=n4_;have HO281:=n5_;have BK254:=n6_;have HB:=n7_;clear n0_ n1_ n2_ n3_ n4_ n5_ n6_ n7_;(try clear hb);(try clear hb2);(try clear hk);(try clear hi);(try clear ho0);(try clear ho1);obtain ⟨Ao58,co58,eo58⟩:=Kd.N_slice HO278.out;subst eo58;have hcz59_0 : w57.cell? ⟨gb254,0,none⟩ = some (.slice Ao52 x255000_1.length co52):=(blk_cell BK254.out 0).trans rfl;have hcz59_1 : w57.cell? ⟨gb254,1,none⟩ = some (.slice Ao53 x255001_1.length co53):=(blk_cell BK254.out 1).trans rfl;have hfz59_0:=blk_frozen BK254.out 0;have hfz59_1:=blk_frozen BK254.out 1;obtain ⟨Ao60,co60,eo60⟩:=Kd.N_slice HO281.out;subst eo60))
                go_roundg k2
                case measure=>have:=HK1.out;have:=HK2.out;omega
                case rel=>exact ⟨(wrap64 (x7_1 + 1)),(t276),(t279),(.slice Ao58 t276.length co58),(.slice Ao60 t279.length co60),(by first|rfl|(simp;done)|(simp [*];done)),H',⟨by have:=HK1.out;have:=HK2.out;omega⟩,⟨by (with_reducible repeat (first|apply Kd.N_alloc|apply Kd.N_drewN|apply Kd.N_drew));exact Kd.N_mono (Kd.N_far (p:=⟨gb254,1,none⟩) (Kd.N_far (p:=⟨gb254,0,none⟩) (Kd.N_mono HO278.out (fun k_ hk=>(⟨hk,hk.2⟩ : _∧k_≠gb254))) (fun _ hk=>hk.2) (.slice Ao58 t276.length co58)) (fun _ hk=>hk.2) (.slice Ao60 t279.length co60)) (fun _ hk=>⟨hk.1.1,hk.1.2⟩)⟩,⟨by (with_reducible repeat (first|apply Kd.N_alloc|apply Kd.N_drewN|apply Kd.N_drew));exact Kd.N_mono (Kd.N_far (p:=⟨gb254,1,none⟩) (Kd.N_far (p:=⟨gb254,0,none⟩) (Kd.N_mono HO281.out (fun k_ hk=>(⟨hk,hk.2⟩ : _∧k_≠gb254))) (fun _ hk=>hk.2) (.slice Ao58 t276.length co58)) (fun _ hk=>hk.2) (.slice Ao60 t279.length co60)) (fun _ hk=>⟨hk.1.1,hk.1.2⟩)⟩,⟨by (with_reducible repeat (first|refine blk_drewN ?_ _|refine blk_drew ?_|refine blk_alloc ?_ _));refine blk_put (cs:=#[.slice Ao58 t276.length co58,.slice Ao53 x255001_1.length co53]) ?_ 1 _ rfl;(with_reducible repeat (first|refine blk_drewN ?_ _|refine blk_drew ?_|refine blk_alloc ?_ _));refine blk_put (cs:=#[.slice Ao52 x255000_1.length co52,.slice Ao53 x255001_1.length co53]) ?_ 0 _ rfl;(with_reducible repeat (first|refine blk_drewN ?_ _|refine blk_drew ?_|refine blk_alloc ?_ _));exact BK254.out⟩,⟨by repeat (first|(with_reducible first|exact HB.out|apply ba|apply bb|apply bc|refine below_set ?_ GE254.out)|exact HB.out)⟩⟩
               ·
                rw [if_neg c45] at H
                have c45b0 : ((Int.tmod (rd l0 x7_1) 8) == 1) = false:=beq_eq_false_iff_ne.mpr c45
                have c45b1 : ((Int.tmod (rd l0 x7_1) 8) != 1) = true:=bne_iff_ne.mpr c45
                replace H:=Option.bind_eq_some_iff.mp H
                obtain ⟨⟨t283,t286,t289⟩,A610,H⟩:=H
                replace H : (shapesearchlaw24_DeviceSteps.l0 k2 l0 a1 (wrap64 (x7_1 + 1)) t283 t286) = some r:=H
                have A61:=A_ A610
                clear A610
                have H':=A_ H
                clear H
                obtain ⟨Ao62,co62,eo62⟩:=Kd.R_slice HO_9.out
                subst eo62
                try go_wp2
                have n0_:=A_ (Kd.R_drew HO_9.out)
                have n1_:=A_ (Kd.N_drew HO_255000.out)
                have n2_:=A_ (Kd.N_drew HO_255001.out)
                have n3_:=A_ (blk_drew BK254.out)
                have n4_:=A_ (below_drew1 HB.out)
                clear HO_9
                clear HO_255000
                clear HO_255001
                clear BK254
                clear HB
                have HO_9:=n0_
                have HO_255000:=n1_
                have HO_255001:=n2_
                have BK254:=n3_
                have HB:=n4_
                clear n0_ n1_ n2_ n3_ n4_
                have p261 : 0 ≤ (x7_1 : Int):=of_decide_eq_true (by first|(with_reducible assumption)|assumption)
                have q261 : x7_1 < (l0.length : Int):=of_decide_eq_true (by first|(with_reducible assumption)|assumption)
                obtain ⟨ad261,e261,hx261_0⟩:=Kd.at_int HR0.out x7_1 p261 q261
                have hw261_0:=hx261_0
                obtain rfl : ad255 = ad261:=(by injection e261)
                replace hx261_0:=(HB.out.cell (World.block_lt_of_cell? w _ hx261_0)).trans hx261_0
                replace p261:=eq_true p261
                replace q261:=eq_true q261
                have p262 : 0 ≤ (x7_1 : Int):=of_decide_eq_true (by first|(with_reducible assumption)|assumption)
                have q262 : x7_1 < (l0.length : Int):=of_decide_eq_true (by first|(with_reducible assumption)|assumption)
                obtain ⟨ad262,e262,hx262_0⟩:=Kd.at_int HR0.out x7_1 p262 q262
                have hw262_0:=hx262_0
                obtain rfl : ad255 = ad262:=(by injection e262)
                replace hx262_0:=(HB.out.cell (World.block_lt_of_cell? w _ hx262_0)).trans hx262_0
                replace p262:=eq_true p262
                replace q262:=eq_true q262
                have p263 : 0 ≤ (x7_1 : Int):=of_decide_eq_true (by first|(with_reducible assumption)|assumption)
                have q263 : x7_1 < (l0.length : Int):=of_decide_eq_true (by first|(with_reducible assumption)|assumption)
                obtain ⟨ad263,e263,hx263_0⟩:=Kd.at_int HR0.out x7_1 p263 q263
                have hw263_0:=hx263_0
                obtain rfl : ad255 = ad263:=(by injection e263)
                replace hx263_0:=(HB.out.cell (World.block_lt_of_cell? w _ hx263_0)).trans hx263_0
                replace p263:=eq_true p263
                replace q263:=eq_true q263
                refine start_ (n:=23) (S:=fun w'=>w'.cell? (ad255.add (x7_1).toNat) = some (.int .u16 (rd l0 x7_1))∧w'.cell? (ad255.add (x7_1).toNat) = some (.int .u16 (rd l0 x7_1))∧w'.cell? (ad255.add (x7_1).toNat) = some (.int .u16 (rd l0 x7_1))) (ds:=[]) #[false,false,false,false,false,false,false,false,false,false,false,false,false,false,false,false,false,false,false,false,false,false,false] (by kernel_rfl) rfl rfl ⟨((HB.out.cell (World.block_lt_of_cell? w _ hw261_0)).trans hw261_0),((HB.out.cell (World.block_lt_of_cell? w _ hw262_0)).trans hw262_0),((HB.out.cell (World.block_lt_of_cell? w _ hw263_0)).trans hw263_0)⟩ (fun hHeld=>?_);refine with_tabW shapesearchlaw24_DeviceSteps.tab13 shapesearchlaw24_DeviceSteps.bits13 (fun HT_ HW_=>?_)
                generalize wr.drew = w63 at HO_9 HO_255000 HO_255001 BK254 HB hx261_0 hx262_0 hx263_0 hHeld ⊢
                refine pure_ (i:=0) (N:=some 53) (v:=?_) (a':=?_) #[true,false,false,false,false,false,false,false,false,false,false,false,false,false,false,false,false,false,false,false,false,false,false] rfl rfl (any_of HT_.out (by kernel_rfl)) (fun _ _ _ h=>h) (Or.inl ⟨by rfl,?_⟩) ?_ ?_
                rotate_left
                ·
                 intro w'
                 go_simp
                 with_reducible rfl
                rotate_left
                ·
                 simp only [Act.put,sa,sb,sc,i64_w,i32_w]
                 rfl
                refine pure_ (i:=1) (N:=some 54) (v:=?_) (a':=?_) #[true,true,false,false,false,false,false,false,false,false,false,false,false,false,false,false,false,false,false,false,false,false,false] rfl rfl (any_of HT_.out (by kernel_rfl)) (fun _ _ _ h=>h) (Or.inl ⟨by rfl,?_⟩) ?_ ?_
                rotate_left
                ·
                 intro w'
                 go_simp
                 with_reducible rfl
                rotate_left
                ·
                 simp only [Act.put,sa,sb,sc,i64_w,i32_w]
                 rfl
                refine pure_ (i:=2) (N:=some 55) (v:=?_) (a':=?_) #[true,true,true,false,false,false,false,false,false,false,false,false,false,false,false,false,false,false,false,false,false,false,false] rfl rfl (any_of HT_.out (by kernel_rfl)) (fun _ _ _ h=>h) (Or.inl ⟨by rfl,?_⟩) ?_ ?_
                rotate_left
                ·
                 intro w'
                 go_simp
                 with_reducible rfl
                rotate_left
                ·
                 simp only [Act.put,sa,sb,sc,i64_w,i32_w]
                 rfl
                refine pure_ (i:=8) (N:=some 61) (v:=?_) (a':=?_) #[true,true,true,false,false,false,false,false,true,false,false,false,false,false,false,false,false,false,false,false,false,false,false] rfl rfl (any_of HT_.out (by kernel_rfl)) (fun _ _ _ h=>h) (Or.inl ⟨by rfl,?_⟩) ?_ ?_
                rotate_left
                ·
                 intro w'
                 go_simp
                 with_reducible rfl
                rotate_left
                ·
                 simp only [Act.put,sa,sb,sc,i64_w,i32_w]
                 rfl
                refine pure_ (i:=9) (N:=some 62) (v:=?_) (a':=?_) #[true,true,true,false,false,false,false,false,true,true,false,false,false,false,false,false,false,false,false,false,false,false,false] rfl rfl (any_of HT_.out (by kernel_rfl)) (fun _ _ _ h=>h) (Or.inl ⟨by rfl,?_⟩) ?_ ?_
                rotate_left
                ·
                 intro w'
                 go_simp
                 with_reducible rfl
                rotate_left
                ·
                 simp only [Act.put,sa,sb,sc,i64_w,i32_w]
                 rfl
                refine pure_ (i:=10) (N:=some 63) (v:=?_) (a':=?_) #[true,true,true,false,false,false,false,false,true,true,true,false,false,false,false,false,false,false,false,false,false,false,false] rfl rfl (any_of HT_.out (by kernel_rfl)) (fun _ _ _ h=>h) (Or.inl ⟨by rfl,?_⟩) ?_ ?_
                rotate_left
                ·
                 intro w'
                 go_simp
                 with_reducible rfl
                rotate_left
                ·
                 simp only [Act.put,sa,sb,sc,i64_w,i32_w]
                 rfl
                refine pure_ (i:=15) (N:=some 68) (v:=?_) (a':=?_) #[true,true,true,false,false,false,false,false,true,true,true,false,false,false,false,true,false,false,false,false,false,false,false] rfl rfl (any_of HT_.out (by kernel_rfl)) (fun _ _ _ h=>h) (Or.inl ⟨by rfl,?_⟩) ?_ ?_
                rotate_left
                ·
                 intro w'
                 go_simp
                 with_reducible rfl
                rotate_left
                ·
                 simp only [Act.put,sa,sb,sc,i64_w,i32_w]
                 rfl
                refine pure_ (i:=16) (N:=some 69) (v:=?_) (a':=?_) #[true,true,true,false,false,false,false,false,true,true,true,false,false,false,false,true,true,false,false,false,false,false,false] rfl rfl (any_of HT_.out (by kernel_rfl)) (fun _ _ _ h=>h) (Or.inl ⟨by rfl,?_⟩) ?_ ?_
                rotate_left
                ·
                 intro w'
                 go_simp
                 with_reducible rfl
                rotate_left
                ·
                 simp only [Act.put,sa,sb,sc,i64_w,i32_w]
                 rfl
                refine pure_ (i:=17) (N:=some 70) (v:=?_) (a':=?_) #[true,true,true,false,false,false,false,false,true,true,true,false,false,false,false,true,true,true,false,false,false,false,false] rfl rfl (any_of HT_.out (by kernel_rfl)) (fun _ _ _ h=>h) (Or.inl ⟨by rfl,?_⟩) ?_ ?_
                rotate_left
                ·
                 intro w'
                 go_simp
                 with_reducible rfl
                rotate_left
                ·
                 simp only [Act.put,sa,sb,sc,i64_w,i32_w]
                 rfl
                refine take_ (i:=3) (N:=some 56) (v:=?_) (a':=?_) #[true,true,true,true,false,false,false,false,true,true,true,false,false,false,false,true,true,true,false,false,false,false,false] rfl rfl (take_ofW HT_.out HW_.out (by kernel_rfl)) (fun _ _ _ h=>h) (Or.inl ⟨by rfl,?_⟩) hHeld ?_ ?_
                rotate_left
                ·
                 rintro w' ⟨s0,s1,s2⟩
                 go_simp
                 with_reducible rfl
                rotate_left
                ·
                 simp only [Act.put,sa,sb,sc,i64_w,i32_w]
                 rfl
                refine pure_ (i:=4) (N:=some 57) (v:=?_) (a':=?_) #[true,true,true,true,true,false,false,false,true,true,true,false,false,false,false,true,true,true,false,false,false,false,false] rfl rfl (any_of HT_.out (by kernel_rfl)) (fun _ _ _ h=>h) (Or.inl ⟨by rfl,?_⟩) ?_ ?_
                rotate_left
                ·
                 intro w'
                 go_simp
                 with_reducible rfl
                rotate_left
                ·
                 simp only [Act.put,sa,sb,sc,i64_w,i32_w]
                 rfl
                refine pure_ (i:=5) (N:=some 58) (v:=?_) (a':=?_) #[true,true,true,true,true,true,false,false,true,true,true,false,false,false,false,true,true,true,false,false,false,false,false] rfl rfl (any_of HT_.out (by kernel_rfl)) (fun _ _ _ h=>h) (Or.inl ⟨by rfl,?_⟩) ?_ ?_
                rotate_left
                ·
                 intro w'
                 go_simp
                 with_reducible rfl
                rotate_left
                ·
                 simp only [Act.put,sa,sb,sc,i64_w,i32_w]
                 rfl
                refine pure_ (i:=6) (N:=some 59) (v:=?_) (a':=?_) #[true,true,true,true,true,true,true,false,true,true,true,false,false,false,false,true,true,true,false,false,false,false,false] rfl rfl (any_of HT_.out (by kernel_rfl)) (fun _ _ _ h=>h) (Or.inl ⟨by rfl,?_⟩) ?_ ?_
                rotate_left
                ·
                 intro w'
                 go_simp
                 with_reducible rfl
                rotate_left
                ·
                 simp only [Act.put,sa,sb,sc,i64_w,i32_w]
                 rfl
                refine pure_ (i:=7) (N:=some 60) (v:=?_) (a':=?_) #[true,true,true,true,true,true,true,true,true,true,true,false,false,false,false,true,true,true,false,false,false,false,false] rfl rfl (any_of HT_.out (by kernel_rfl)) (fun _ _ _ h=>h) (Or.inl ⟨by rfl,?_⟩) ?_ ?_
                rotate_left
                ·
                 intro w'
                 go_simp
                 with_reducible rfl
                rotate_left
                ·
                 simp only [Act.put,sa,sb,sc,i64_w,i32_w]
                 rfl
                refine take_ (i:=11) (N:=some 64) (v:=?_) (a':=?_) #[true,true,true,true,true,true,true,true,true,true,true,true,false,false,false,true,true,true,false,false,false,false,false] rfl rfl (take_ofW HT_.out HW_.out (by kernel_rfl)) (fun _ _ _ h=>h) (Or.inl ⟨by rfl,?_⟩) hHeld ?_ ?_
                rotate_left
                ·
                 rintro w' ⟨s0,s1,s2⟩
                 go_simp
                 with_reducible rfl
                rotate_left
                ·
                 simp only [Act.put,sa,sb,sc,i64_w,i32_w]
                 rfl
                refine pure_ (i:=12) (N:=some 65) (v:=?_) (a':=?_) #[true,true,true,true,true,true,true,true,true,true,true,true,true,false,false,true,true,true,false,false,false,false,false] rfl rfl (any_of HT_.out (by kernel_rfl)) (fun _ _ _ h=>h) (Or.inl ⟨by rfl,?_⟩) ?_ ?_
                rotate_left
                ·
                 intro w'
                 go_simp
                 with_reducible rfl
                rotate_left
                ·
                 simp only [Act.put,sa,sb,sc,i64_w,i32_w]
                 rfl
                refine pure_ (i:=13) (N:=some 66) (v:=?_) (a':=?_) #[true,true,true,true,true,true,true,true,true,true,true,true,true,true,false,true,true,true,false,false,false,false,false] rfl rfl (any_of HT_.out (by kernel_rfl)) (fun _ _ _ h=>h) (Or.inl ⟨by rfl,?_⟩) ?_ ?_
                rotate_left
                ·
                 intro w'
                 go_simp
                 with_reducible rfl
                rotate_left
                ·
                 simp only [Act.put,sa,sb,sc,i64_w,i32_w]
                 rfl
                refine pure_ (i:=14) (N:=some 67) (v:=?_) (a':=?_) #[true,true,true,true,true,true,true,true,true,true,true,true,true,true,true,true,true,true,false,false,false,false,false] rfl rfl (any_of HT_.out (by kernel_rfl)) (fun _ _ _ h=>h) (Or.inl ⟨by rfl,?_⟩) ?_ ?_
                rotate_left
                ·
                 intro w'
                 go_simp
                 with_reducible rfl
                rotate_left
                ·
                 simp only [Act.put,sa,sb,sc,i64_w,i32_w]
                 rfl
                refine take_ (i:=18) (N:=some 71) (v:=?_) (a':=?_) #[true,true,true,true,true,true,true,true,true,true,true,true,true,true,true,true,true,true,true,false,false,false,false] rfl rfl (take_ofW HT_.out HW_.out (by kernel_rfl)) (fun _ _ _ h=>h) (Or.inl ⟨by rfl,?_⟩) hHeld ?_ ?_
                rotate_left
                ·
                 rintro w' ⟨s0,s1,s2⟩
                 go_simp
                 with_reducible rfl
                rotate_left
                ·
                 simp only [Act.put,sa,sb,sc,i64_w,i32_w]
                 rfl
                refine pure_ (i:=19) (N:=some 72) (v:=?_) (a':=?_) #[true,true,true,true,true,true,true,true,true,true,true,true,true,true,true,true,true,true,true,true,false,false,false] rfl rfl (any_of HT_.out (by kernel_rfl)) (fun _ _ _ h=>h) (Or.inl ⟨by rfl,?_⟩) ?_ ?_
                rotate_left
                ·
                 intro w'
                 go_simp
                 with_reducible rfl
                rotate_left
                ·
                 simp only [Act.put,sa,sb,sc,i64_w,i32_w]
                 rfl
                refine pure_ (i:=20) (N:=some 73) (v:=?_) (a':=?_) #[true,true,true,true,true,true,true,true,true,true,true,true,true,true,true,true,true,true,true,true,true,false,false] rfl rfl (any_of HT_.out (by kernel_rfl)) (fun _ _ _ h=>h) (Or.inl ⟨by rfl,?_⟩) ?_ ?_
                rotate_left
                ·
                 intro w'
                 go_simp
                 with_reducible rfl
                rotate_left
                ·
                 simp only [Act.put,sa,sb,sc,i64_w,i32_w]
                 rfl
                refine one_ (i:=21) (N:=some 74) #[true,true,true,true,true,true,true,true,true,true,true,true,true,true,true,true,true,true,true,true,true,true,false] rfl rfl (one_of HT_.out (by kernel_rfl)) (by decide) (fun K hK=>?_)
                refine Kd.R_lit_step (Kd.int .i64) _ 3 ?hg (N:=74) ?hd (xs:=([wrap64 ((Int.tmod (wrap64 ((rd l0 x7_1) / 64)) 70) - 2),Int.tmod (wrap64 ((rd l0 x7_1) / 512)) 66,Int.tmod (wrap64 (rd l0 x7_1)) 65] : List Int)) (inner:=[.int .i64 (wrap64 ((Int.tmod (wrap64 ((rd l0 x7_1) / 64)) 70) - 2)),.int .i64 (Int.tmod (wrap64 ((rd l0 x7_1) / 512)) 66),.int .i64 (Int.tmod (wrap64 (rd l0 x7_1)) 65)]) (ok:=fun _=>True) (okp:=fun _=>True) ?hr ?hp (fun _ hk=>hk) trivial (Below.refl _ _) (Nat.le_refl _) (by simp) ?_;(case hd=>rfl);(case hg=>rfl);(case hr=>first|(go_simp;done)|(go_simp;rfl));(case hp=>exact (Reps.one (show Kd.M (Kd.int .i64) _ _ _ (wrap64 ((Int.tmod (wrap64 ((rd l0 x7_1) / 64)) 70) - 2)) [.int .i64 (wrap64 ((Int.tmod (wrap64 ((rd l0 x7_1) / 64)) 70) - 2))] from rfl) (Reps.one (show Kd.M (Kd.int .i64) _ _ _ (Int.tmod (wrap64 ((rd l0 x7_1) / 512)) 66) [.int .i64 (Int.tmod (wrap64 ((rd l0 x7_1) / 512)) 66)] from rfl) (Reps.one (show Kd.M (Kd.int .i64) _ _ _ (Int.tmod (wrap64 (rd l0 x7_1)) 65) [.int .i64 (Int.tmod (wrap64 (rd l0 x7_1)) 65)] from rfl) (Reps.none _ _)))))
                intro v265 w64 ho65 hb hg_ hnew_
                clear hg_ hnew_
                (first|rw [← Ny264.out] at ho65|(simp only [Int.reduceToNat] at ho65;rw [← Ny264.out] at ho65))
                have n0_:=A_ (rw_ (by (with_reducible repeat (first|apply ra|apply rb|apply rc));exact HO_9.out) hb)
                have n1_:=A_ (Kd.N_elder' (by (with_reducible repeat (first|apply Kd.N_alloc|apply Kd.N_drewN|apply Kd.N_drew));exact HO_255000.out) (rs ho65) hb)
                have n2_:=A_ (Kd.N_elder' (by (with_reducible repeat (first|apply Kd.N_alloc|apply Kd.N_drewN|apply Kd.N_drew));exact HO_255001.out) (rs ho65) hb)
                have n3_:=A_ (Kd.R_lower ho65 (below_size (by repeat (first|(with_reducible first|exact HB.out|apply ba|apply bb|apply bc|refine below_set ?_ GE254.out)|exact HB.out))))
                have n4_:=A_ (blk_below (g:=gb254) (o:=.cells #[u255000,u255001] 25 (0,0)) (by (with_reducible repeat (first|refine blk_drewN ?_ _|refine blk_drew ?_|refine blk_alloc ?_ _));exact BK254.out) hb)
                have n5_:=A_ (below_step (by repeat (first|(with_reducible first|exact HB.out|apply ba|apply bb|apply bc|refine below_set ?_ GE254.out)|exact HB.out)) hb)
                clear HO_9
                clear HO_255000
                clear HO_255001
                clear BK254
                clear HB
                have HO_9:=n0_
                have HO_255000:=n1_
                have HO_255001:=n2_
                have HO266:=n3_
                have BK254:=n4_
                have HB:=n5_
                clear n0_ n1_ n2_ n3_ n4_ n5_
                clear hb ho65
                refine hK.out _ _ ⟨((HB.out.cell (World.block_lt_of_cell? w _ hw261_0)).trans hw261_0),((HB.out.cell (World.block_lt_of_cell? w _ hw262_0)).trans hw262_0),((HB.out.cell (World.block_lt_of_cell? w _ hw263_0)).trans hw263_0)⟩ (fun hHeld=>?_)
                clear hK K
                refine norm_ (a':=?_) ?_ ?_
                rotate_left
                ·
                 show Act.put _ (some 74) _ = _
                 simp only [Act.put,sa,sb,sc,i64_w,i32_w]
                 rfl
                refine pure_ (i:=22) (N:=some 11) (v:=?_) (a':=?_) #[true,true,true,true,true,true,true,true,true,true,true,true,true,true,true,true,true,true,true,true,true,true,true] rfl rfl (any_of HT_.out (by kernel_rfl)) (fun _ _ _ h=>h) (Or.inl ⟨by rfl,?_⟩) ?_ ?_
                rotate_left
                ·
                 intro w'
                 go_simp
                 with_reducible rfl
                rotate_left
                ·
                 simp only [Act.put,sa,sb,sc,i64_w,i32_w]
                 rfl
                refine done_ (done_of HT_.out (by kernel_rfl)) ?_
                have hcz66_0 : w64.cell? ⟨gb254,0,none⟩ = some (u255000):=(blk_cell BK254.out 0).trans rfl
                have hcz66_1 : w64.cell? ⟨gb254,1,none⟩ = some (u255001):=(blk_cell BK254.out 1).trans rfl
                have hfz66_0:=blk_frozen BK254.out 0
                have hfz66_1:=blk_frozen BK254.out 1
                obtain ⟨Ao67,co67,eo67⟩:=Kd.N_slice HO_255000.out
                subst eo67
                obtain ⟨Ao68,co68,eo68⟩:=Kd.N_slice HO_255001.out
                subst eo68
                obtain ⟨Ao69,co69,eo69⟩:=Kd.R_slice HO266.out
                subst eo69
                try go_wp2_with (first|((with_reducible refine gate_callee (f:=10) rfl ?_);refine goesL_ (some 79) rfl rfl Try.func10 (by kernel_rfl) rfl #[.agg #[.slice Ao67 x255000_1.length co67,.slice Ao68 x255001_1.length co68],.int .i64 (Int.tmod (wrap64 ((rd l0 x7_1) / 8)) 5),.slice Ao62 x9_2.length co62,.slice Ao69 y264.length co69] rfl (by (try simp only [List.map_toArray,List.map_cons,List.map_nil]);first|done|rfl|(simp only [List.length_drop,List.length_take];rfl)|((try rw [KY109.out]);rfl)) ?_;(with_reducible refine (zAgree.calls k2 _ _ x255000_1 _ _ x255001_1 (Int.tmod (wrap64 ((rd l0 x7_1) / 8)) 5) _ _ x9_2 _ _ y264 true _ ?side1 ?side2 ?side3 ?side4 ?side5 ?side6 ?side7 ?side8 A27.out).mono ?_);(case side1=>repeat (first|exact (Kd.N_reads' HO_255000.out).2.2|(with_reducible refine ca ?_ _)|(with_reducible refine cb ?_ _)|(with_reducible refine cc ?_)));(case side2=>exact (Kd.N_reads' HO_255000.out).2.1);(case side3=>repeat (first|exact (Kd.N_reads' HO_255001.out).2.2|(with_reducible refine ca ?_ _)|(with_reducible refine cb ?_ _)|(with_reducible refine cc ?_)));(case side4=>exact (Kd.N_reads' HO_255001.out).2.1);(case side5=>repeat (first|exact (rd_ HO_9.out).2.2|(with_reducible refine ca ?_ _)|(with_reducible refine cb ?_ _)|(with_reducible refine cc ?_)));(case side6=>exact (rd_ HO_9.out).2.1);(case side7=>repeat (first|exact (rd_ HO266.out).2.2|(with_reducible refine ca ?_ _)|(with_reducible refine cb ?_ _)|(with_reducible refine cc ?_)));(case side8=>exact (rd_ HO266.out).2.1);rintro e w70 ⟨rfl,hb⟩;refine ⟨_,rfl,?_⟩;have n0_:=A_ (rw_ (by (with_reducible repeat (first|apply ra|apply rb|apply rc));exact HO_9.out) hb);have n1_:=A_ (Kd.N_below (by (with_reducible repeat (first|apply Kd.N_alloc|apply Kd.N_drewN|apply Kd.N_drew));exact HO_255000.out) hb);have n2_:=A_ (Kd.N_below (by (with_reducible repeat (first|apply Kd.N_alloc|apply Kd.N_drewN|apply Kd.N_drew));exact HO_255001.out) hb);have n3_:=A_ (rw_ (by (with_reducible repeat (first|apply ra|apply rb|apply rc));exact HO266.out) hb);have n4_:=A_ (blk_below (g:=gb254) (o:=.cells #[.slice Ao67 x255000_1.length co67,.slice Ao68 x255001_1.length co68] 25 (0,0)) (by (with_reducible repeat (first|refine blk_drewN ?_ _|refine blk_drew ?_|refine blk_alloc ?_ _));exact BK254.out) hb);have n5_:=A_ (below_step (by repeat (first|(with_reducible first|exact HB.out|apply ba|apply bb|apply bc|refine below_set ?_ GE254.out)|exact HB.out)) hb);clear HO_9;clear HO_255000;clear HO_255001;clear HO266;clear BK254;clear HB;have HO_9:=n0_;have HO_255000:=n1_;have HO_255001:=n2_;have HO266:=n3_;have BK254:=n4_;have HB:=n5_;clear n0_ n1_ n2_ n3_ n4_ n5_;(try clear hb);(try clear hb2);(try clear hk);(try clear hi);have p268 : 0 ≤ (x7_1 : Int):=of_decide_eq_true (by first|(with_reducible assumption)|assumption);have q268 : x7_1 < (l0.length : Int):=of_decide_eq_true (by first|(with_reducible assumption)|assumption);obtain ⟨ad268,e268,hx268_0⟩:=Kd.at_int HR0.out x7_1 p268 q268;obtain rfl : ad255 = ad268:=(by injection e268);replace hx268_0:=(HB.out.cell (World.block_lt_of_cell? w _ hx268_0)).trans hx268_0;replace p268:=eq_true p268;replace q268:=eq_true q268;have hcz71_0 : w70.cell? ⟨gb254,0,none⟩ = some (.slice Ao67 x255000_1.length co67):=(blk_cell BK254.out 0).trans rfl;have hcz71_1 : w70.cell? ⟨gb254,1,none⟩ = some (.slice Ao68 x255001_1.length co68):=(blk_cell BK254.out 1).trans rfl;have hfz71_0:=blk_frozen BK254.out 0;have hfz71_1:=blk_frozen BK254.out 1)|((with_reducible refine gate_callee (f:=13) rfl ?_);refine goesL_ (some 90) rfl rfl Try.func13 (by kernel_rfl) rfl #[.agg #[.slice Ao67 x255000_1.length co67,.slice Ao68 x255001_1.length co68],.int .i64 (Int.tmod (wrap64 ((rd l0 x7_1) / 8)) 5),.slice Ao62 x9_2.length co62] rfl (by (try simp only [List.map_toArray,List.map_cons,List.map_nil]);first|done|rfl|(simp only [List.length_drop,List.length_take];rfl)|((try rw [KY109.out]);rfl)) ?_;(with_reducible refine (zWrite.calls k2 _ _ x255000_1 _ _ x255001_1 (Int.tmod (wrap64 ((rd l0 x7_1) / 8)) 5) _ _ x9_2 t283 t286 t289 _ ?side1 ?side2 ?side3 ?side4 ?side5 ?side6 A61.out).mono ?_);(case side1=>repeat (first|exact (Kd.N_reads' HO_255000.out).2.2|(with_reducible refine ca ?_ _)|(with_reducible refine cb ?_ _)|(with_reducible refine cc ?_)));(case side2=>exact (Kd.N_reads' HO_255000.out).2.1);(case side3=>repeat (first|exact (Kd.N_reads' HO_255001.out).2.2|(with_reducible refine ca ?_ _)|(with_reducible refine cb ?_ _)|(with_reducible refine cc ?_)));(case side4=>exact (Kd.N_reads' HO_255001.out).2.1);(case side5=>repeat (first|exact (rd_ HO_9.out).2.2|(with_reducible refine ca ?_ _)|(with_reducible refine cb ?_ _)|(with_reducible refine cc ?_)));(case side6=>exact (rd_ HO_9.out).2.1);rintro e w72 ⟨v284,v287,rfl,ho0,hb⟩;refine ⟨_,rfl,?_⟩;have n0_:=A_ (rw_ (by (with_reducible repeat (first|apply ra|apply rb|apply rc));exact HO_9.out) hb);have n1_:=A_ (Kd.N_below (by (with_reducible repeat (first|apply Kd.N_alloc|apply Kd.N_drewN|apply Kd.N_drew));exact HO_255000.out) hb);have n2_:=A_ (Kd.N_below (by (with_reducible repeat (first|apply Kd.N_alloc|apply Kd.N_drewN|apply Kd.N_drew));exact HO_255001.out) hb);have n3_:=A_ (rw_ (by (with_reducible repeat (first|apply ra|apply rb|apply rc));exact HO266.out) hb);have n4_:=A_ (resN0 (g:=gb254) (by (with_reducible repeat (first|apply Kd.N_alloc|apply Kd.N_drewN|apply Kd.N_drew));exact Kd.N_mono HO_255000.out (fun _ hk=>by first|exact ⟨hk.1.2.1,hk.1.2.2⟩|exact ⟨hk.2.1,hk.2.2⟩|exact ⟨hk.1.1,hk.1.2⟩|(trace_state;fail))) ho0 hb (below_size (by repeat (first|(with_reducible first|exact HB.out|apply ba|apply bb|apply bc|refine below_set ?_ GE254.out)|exact HB.out))) (blk_lt (o:=_) (by (with_reducible repeat (first|refine blk_drewN ?_ _|refine blk_drew ?_|refine blk_alloc ?_ _));exact BK254.out)));have n5_:=A_ (resN1 (g:=gb254) (by (with_reducible repeat (first|apply Kd.N_alloc|apply Kd.N_drewN|apply Kd.N_drew));exact Kd.N_mono HO_255001.out (fun _ hk=>by first|exact ⟨hk.1.2.1,hk.1.2.2⟩|exact ⟨hk.2.1,hk.2.2⟩|exact ⟨hk.1.1,hk.1.2⟩|(trace_state;fail))) ho0 hb (below_size (by repeat (first|(with_reducible first|exact HB.out|apply ba|apply bb|apply bc|refine below_set ?_ GE254.out)|exact HB.out))) (blk_lt (o:=_) (by (with_reducible repeat (first|refine blk_drewN ?_ _|refine blk_drew ?_|refine blk_alloc ?_ _));exact BK254.out)));have n6_:=A_ (blk_below (g:=gb254) (o:=.cells #[.slice Ao67 x255000_1.length co67,.slice Ao68 x255001_1.length co68] 25 (0,0)) (by (with_reducible repeat (first|refine blk_drewN ?_ _|refine blk_drew ?_|refine blk_alloc ?_ _));exact BK254.out) hb);have n7_:=A_ (below_step (by repeat (first|(with_reducible first|exact HB.out|apply ba|apply bb|apply bc|refine below_set ?_ GE254.out)|exact HB.out)) hb);clear HO_9;clear HO_255000;clear HO_255001;clear HO266;clear BK254;clear HB;have HO_9:=n0_;have HO_255000:=n1_;have HO_255001:=n2_;have HO266:=n3_;have HO285:=n4_;have HO288:=n5_;have BK254:=n6_;have HB:=n7_;clear n0_ n1_ n2_ n3_ n4_ n5_ n6_ n7_;(try clear hb);(try clear hb2);(try clear hk);(try clear hi);(try clear ho0);(try clear ho1);obtain ⟨Ao73,co73,eo73⟩:=Kd.N_slice HO285.out;subst eo73;have hcz74_0 : w72.cell? ⟨gb254,0,none⟩ = some (.slice Ao67 x255000_1.length co67):=(blk_cell BK254.out 0).trans rfl;have hcz74_1 : w72.cell? ⟨gb254,1,none⟩ = some (.slice Ao68 x255001_1.length co68):=(blk_cell BK254.out 1).trans rfl;have hfz74_0:=blk_frozen BK254.out 0;have hfz74_1:=blk_frozen BK254.out 1;obtain ⟨Ao75,co75,eo75⟩:=Kd.N_slice HO288.out;subst eo75))
                go_roundg k2
                case measure=>have:=HK1.out;have:=HK2.out;omega
                case rel=>exact ⟨(wrap64 (x7_1 + 1)),(t283),(t286),(.slice Ao73 t283.length co73),(.slice Ao75 t286.length co75),(by first|rfl|(simp;done)|(simp [*];done)),H',⟨by have:=HK1.out;have:=HK2.out;omega⟩,⟨by (with_reducible repeat (first|apply Kd.N_alloc|apply Kd.N_drewN|apply Kd.N_drew));exact Kd.N_mono (Kd.N_far (p:=⟨gb254,1,none⟩) (Kd.N_far (p:=⟨gb254,0,none⟩) (Kd.N_mono HO285.out (fun k_ hk=>(⟨hk,hk.2⟩ : _∧k_≠gb254))) (fun _ hk=>hk.2) (.slice Ao73 t283.length co73)) (fun _ hk=>hk.2) (.slice Ao75 t286.length co75)) (fun _ hk=>⟨hk.1.1,hk.1.2⟩)⟩,⟨by (with_reducible repeat (first|apply Kd.N_alloc|apply Kd.N_drewN|apply Kd.N_drew));exact Kd.N_mono (Kd.N_far (p:=⟨gb254,1,none⟩) (Kd.N_far (p:=⟨gb254,0,none⟩) (Kd.N_mono HO288.out (fun k_ hk=>(⟨hk,hk.2⟩ : _∧k_≠gb254))) (fun _ hk=>hk.2) (.slice Ao73 t283.length co73)) (fun _ hk=>hk.2) (.slice Ao75 t286.length co75)) (fun _ hk=>⟨hk.1.1,hk.1.2⟩)⟩,⟨by (with_reducible repeat (first|refine blk_drewN ?_ _|refine blk_drew ?_|refine blk_alloc ?_ _));refine blk_put (cs:=#[.slice Ao73 t283.length co73,.slice Ao68 x255001_1.length co68]) ?_ 1 _ rfl;(with_reducible repeat (first|refine blk_drewN ?_ _|refine blk_drew ?_|refine blk_alloc ?_ _));refine blk_put (cs:=#[.slice Ao67 x255000_1.length co67,.slice Ao68 x255001_1.length co68]) ?_ 0 _ rfl;(with_reducible repeat (first|refine blk_drewN ?_ _|refine blk_drew ?_|refine blk_alloc ?_ _));exact BK254.out⟩,⟨by repeat (first|(with_reducible first|exact HB.out|apply ba|apply bb|apply bc|refine below_set ?_ GE254.out)|exact HB.out)⟩⟩
             ·
              replace c28:=Bool.eq_false_iff.mpr c28
              subst c28
              have H1 : (some false) = some r:=by rw [if_neg (show ¬ (false = true) by decide)] at H;exact H
              clear H
              have H:=H1
              clear H1
              exact absurd ((Option.some.inj H).trans HTR_.out) (by decide)
            ·
             rw [if_neg c26] at H
             exact absurd H (by simp)
           ·
            rw [if_neg c25] at H
            exact absurd H (by simp)
       ·
        rw [if_neg c16] at H
        exact absurd H (by simp)
      ·
       rw [if_neg c15] at H
       exact absurd H (by simp)
     ·
      rw [if_neg c13] at H
      exact absurd H (by simp)
    ·
     rw [if_neg c12] at H
     have c12b0 : decide (x7_1 < (l0.length : Int)) = false:=decide_eq_false c12
     clear c12
     have HC76:=A_ H
     clear H
     go_upto_region 22 with (fail)
     go_cut [115] (fun v115 wc=>∃ (kq : Nat) (x115_75 : Bool),v115 = .bool x115_75∧Aside0 (shapesearchlaw24_DeviceSteps.j2 kq a1 x115_75 x255000_1 x255001_1 = some r)∧Aside0 (kq ≤ k1)∧Aside0 (Kd.N (Kd.slice 5 (Kd.int .u8)) 26 wc w.heap.size (fun k_=>some k_≠(u255001 : Value).ownBlock∧k_≠gb254) u255000 x255000_1)∧Aside0 (Kd.N k42 42 wc w.heap.size (fun k_=>some k_≠(u255000 : Value).ownBlock∧k_≠gb254) u255001 x255001_1)∧Aside0 (wc.heap[gb254]? = some (.cells #[u255000,u255001] 25 (0,0)))∧Aside0 (Below w.heap.size w wc))
     case first =>
      have H:=HC76.out
      clear HC76
      by_cases c77 : a1 > 200
      ·
       rw [if_pos c77] at H
       have c77b0 : decide (200 < a1) = true:=decide_eq_true c77
       clear c77
       (first|rw [c77b0]|(simp only [i64_w,i32_w];rw [c77b0])|skip)
       have H':=A_ H
       clear H
       have hcz78_0 : wr.cell? ⟨gb254,0,none⟩ = some (u255000):=(blk_cell BK254.out 0).trans rfl
       have hcz78_1 : wr.cell? ⟨gb254,1,none⟩ = some (u255001):=(blk_cell BK254.out 1).trans rfl
       have hfz78_0:=blk_frozen BK254.out 0
       have hfz78_1:=blk_frozen BK254.out 1
       obtain ⟨Ao79,co79,eo79⟩:=Kd.N_slice HO_255001.out
       subst eo79
       go_wp2
       go_meet
       case rel=>exact ⟨_,(decide ((x255001_1.length : Int) > 0)),(by first|rfl|(simp;done)|(simp [*];done)),H',⟨by have:=HK1.out;first|omega|exact Nat.le_refl _⟩,⟨by (with_reducible repeat (first|apply Kd.N_alloc|apply Kd.N_drewN|apply Kd.N_drew));exact HO_255000.out⟩,⟨by (with_reducible repeat (first|apply Kd.N_alloc|apply Kd.N_drewN|apply Kd.N_drew));exact HO_255001.out⟩,⟨by (with_reducible repeat (first|refine blk_drewN ?_ _|refine blk_drew ?_|refine blk_alloc ?_ _));exact BK254.out⟩,⟨by repeat (first|(with_reducible first|exact HB.out|apply ba|apply bb|apply bc|refine below_set ?_ GE254.out)|exact HB.out)⟩⟩
      ·
       rw [if_neg c77] at H
       have c77b0 : decide (200 < a1) = false:=decide_eq_false c77
       clear c77
       (first|rw [c77b0]|(simp only [i64_w,i32_w];rw [c77b0])|skip)
       have H':=A_ H
       clear H
       go_wp2
       go_meet
       case rel=>exact ⟨_,(false),(by first|rfl|(simp;done)|(simp [*];done)),H',⟨by have:=HK1.out;first|omega|exact Nat.le_refl _⟩,⟨by (with_reducible repeat (first|apply Kd.N_alloc|apply Kd.N_drewN|apply Kd.N_drew));exact HO_255000.out⟩,⟨by (with_reducible repeat (first|apply Kd.N_alloc|apply Kd.N_drewN|apply Kd.N_drew));exact HO_255001.out⟩,⟨by (with_reducible repeat (first|refine blk_drewN ?_ _|refine blk_drew ?_|refine blk_alloc ?_ _));exact BK254.out⟩,⟨by repeat (first|(with_reducible first|exact HB.out|apply ba|apply bb|apply bc|refine below_set ?_ GE254.out)|exact HB.out)⟩⟩
     case rest =>
      clear HC76
      try clear c1
      try clear c2
      try clear p2
      try clear q2
      try clear hx2
      try clear c4
      try clear p6
      try clear c7
      try clear c10
      try clear c12
      try clear c12b0
      try clear c13
      try clear c15
      try clear c16
      try clear c25
      try clear c26
      try clear p26
      try clear q26
      try clear hx26
      try clear c28
      try clear c45
      try clear c45b0
      try clear c45b1
      try clear p64
      try clear c77
      try clear c77b0
      try clear hcz51_0
      try clear hcz51_1
      try clear hcz56_0
      try clear hcz56_1
      try clear hcz59_0
      try clear hcz59_1
      try clear hcz66_0
      try clear hcz66_1
      try clear hcz71_0
      try clear hcz71_1
      try clear hcz74_0
      try clear hcz74_1
      try clear hcz78_0
      try clear hcz78_1
      try clear hfz51_0
      try clear hfz51_1
      try clear hfz56_0
      try clear hfz56_1
      try clear hfz59_0
      try clear hfz59_1
      try clear hfz66_0
      try clear hfz66_1
      try clear hfz71_0
      try clear hfz71_1
      try clear hfz74_0
      try clear hfz74_1
      try clear hfz78_0
      try clear hfz78_1
      try clear hx261_0
      try clear hx262_0
      try clear hx263_0
      try clear hx268_0
      try clear p261
      try clear p262
      try clear p263
      try clear p268
      try clear q261
      try clear q262
      try clear q263
      try clear q268
      obtain ⟨kq,x115_75,rfl,HA,HJ75,HO_255000,HO_255001,BK254,HB⟩:=hcut
      cases kq with
      | zero=>exact absurd HA.out (by simp [shapesearchlaw24_DeviceSteps.j2])
      | succ kj75 =>
       have H:=HA.out
       clear HA
       simp only [shapesearchlaw24_DeviceSteps.j2] at H
       by_cases c80 : x115_75 = true
       ·
        subst c80
        have H1 : (if 0 < (x255001_1.length : Int) then ((zAgree.f kj75 x255000_1 (x255001_1.set (0 : Int).toNat (⟨wrap64 ((wrap64 (a1)) - 220),(rd_T42 x255001_1 0).f1⟩ : S42)) 1 (([9] : List Int)) (([3] : List Int))).bind fun t297=>(if t297 = true then ((shapesearchlaw24_awake.f kj75).bind fun t298=>(some t298)) else (some false))) else (none)) = some r:=by rw [if_pos rfl] at H;exact H
        clear H
        have H:=H1
        clear H1
        by_cases c81 : 0 < (x255001_1.length : Int)
        ·
         rw [if_pos c81] at H
         have c81b0 : decide (0 < (x255001_1.length : Int)) = true:=decide_eq_true c81
         have c81b1 : decide (0 < x255001_1.length) = true:=decide_eq_true (by omega)
         clear c81
         obtain ⟨y290,hy290⟩ : ∃ y_ : List (S42),y_ = (x255001_1.set (0 : Int).toNat (⟨wrap64 ((wrap64 (a1)) - 220),(rd_T42 x255001_1 0).f1⟩ : S42)):=⟨_,rfl⟩
         replace H : ((zAgree.f kj75 x255000_1 y290 1 (([9] : List Int)) (([3] : List Int))).bind fun t297=>(if t297 = true then ((shapesearchlaw24_awake.f kj75).bind fun t298=>(some t298)) else (some false))) = some r:=by first|(rw [hy290];with_reducible exact H)|(have H2_:=(Option.bind_some _ _).symm.trans H;rw [hy290];with_reducible exact H2_)|(have H2_:=(Option.bind_some _ _).symm.trans H;with_reducible exact H2_)|with_reducible exact H|(rw [hy290];exact H)|exact H
         have Ny290:=A_ hy290
         clear hy290
         have HC83:=A_ H
         clear H
         have hcz84_0 : wc.cell? ⟨gb254,0,none⟩ = some (u255000):=(blk_cell BK254.out 0).trans rfl
         have hcz84_1 : wc.cell? ⟨gb254,1,none⟩ = some (u255001):=(blk_cell BK254.out 1).trans rfl
         have hfz84_0:=blk_frozen BK254.out 0
         have hfz84_1:=blk_frozen BK254.out 1
         have p82 : 0 ≤ (0 : Int):=(by omega)
         have q82 : (0 : Int) < ((x255001_1.length : Int) : Int):=of_decide_eq_true (by first|(with_reducible assumption)|assumption)
         have qi82 : (0 < x255001_1.length) = True:=eq_true (by omega)
         obtain ⟨go82,co82,eo82,gb82,gl82,cl82,HG82⟩:=Kd.N_form HO_255001.out (by omega)
         (first|cases eo82|(injection eo82 with ea_ en_ ec_;(first|subst ea_|(injection ea_ with ea_;subst ea_));subst ec_;clear en_))
         have GB82:=A_ gb82
         have GG82:=A_ HG82
         clear gb82 gl82 HG82
         obtain ⟨ce82,hcl82,hM82,hcc82,hfr82⟩:=Kd.N_elem HO_255001.out z42 (0 : Int) p82 q82
         obtain ⟨ua82_1,uc82_1,rfl,ul82_1,ge82_1⟩:=k42_openF hM82
         have hx82_0 : wc.cell? ⟨go82,(0 : Int).toNat * 2,none⟩ = some (.int .i64 ((rd_T42 x255001_1 0).f0)):=hcc82 0 _ rfl
         have hx82_1 : wc.cell? ⟨go82,(0 : Int).toNat * 2 + 1,none⟩ = some (.slice ua82_1 ((rd_T42 x255001_1 0).f1).length uc82_1):=hcc82 1 _ rfl
         have hf82_0 : wc.frozen? ⟨go82,(0 : Int).toNat * 2,none⟩ = false:=hfr82 0
         have hf82_1 : wc.frozen? ⟨go82,(0 : Int).toNat * 2 + 1,none⟩ = false:=hfr82 1
         clear hcl82 hcc82 hfr82 hM82
         (try rw [show ((0 : Int)).toNat = 0 from rfl] at hx82_0)
         (try simp only [Nat.reduceMul,Nat.zero_mul,Nat.zero_add,Nat.reduceAdd] at hx82_0)
         (try rw [show ((0 : Int)).toNat = 0 from rfl] at hf82_0)
         (try simp only [Nat.reduceMul,Nat.zero_mul,Nat.zero_add,Nat.reduceAdd] at hf82_0)
         (try rw [show ((0 : Int)).toNat = 0 from rfl] at hx82_1)
         (try simp only [Nat.reduceMul,Nat.zero_mul,Nat.zero_add,Nat.reduceAdd] at hx82_1)
         (try rw [show ((0 : Int)).toNat = 0 from rfl] at hf82_1)
         (try simp only [Nat.reduceMul,Nat.zero_mul,Nat.zero_add,Nat.reduceAdd] at hf82_1)
         replace p82:=eq_true p82
         replace q82:=eq_true q82
         have HX85:=A_ (show Kd.N k42 42 wc w.heap.size (fun k_=>some k_≠(u255000 : Value).ownBlock∧k_≠gb254) (.slice (some ⟨go82,0,none⟩) x255001_1.length co82) x255001_1 from (by (with_reducible repeat (first|apply Kd.N_alloc|apply Kd.N_drewN|apply Kd.N_drew));exact HO_255001.out))
         obtain ⟨ce85,hcl85,hM85,hcc85,hfr85⟩:=Kd.N_elem HX85.out z42 (0 : Int) (by omega) (by have h_ : (0 : Int) < ((x255001_1.length : Int) : Int):=of_decide_eq_true (by first|(with_reducible assumption)|assumption);first|exact h_|(have e_:=(Kd.N_reads' HO_255001.out).1;omega)|simpa using h_)
         obtain ⟨ua85_1,uc85_1,rfl,ul85_1,ge85_1⟩:=k42_openF hM85
         have HP85:=Kd.N_seg HX85.out (0 : Int) (by omega) (by have h_ : (0 : Int) < ((x255001_1.length : Int) : Int):=of_decide_eq_true (by first|(with_reducible assumption)|assumption);first|exact h_|(have e_:=(Kd.N_reads' HO_255001.out).1;omega)|simpa using h_) (seg:=[.int .i64 (wrap64 ((wrap64 (a1)) - 220))]) (j:=0) hcl85 hcc85 (show 1 ≤ 2 from by decide) (x':=(⟨wrap64 ((wrap64 (a1)) - 220),(rd_T42 x255001_1 0).f1⟩ : S42)) (k42_mkF _ _ (⟨wrap64 ((wrap64 (a1)) - 220),(rd_T42 x255001_1 0).f1⟩ : S42) ul85_1 ge85_1) (fun _ hk=>hk)
         have hx85_0:=hcc85 0 _ rfl
         (try simp only [show (k42).sz = 2 from rfl,Nat.mul_one,Nat.add_zero] at hx85_0)
         (try rw [show ((0 : Int)).toNat = 0 from rfl] at hx85_0)
         (try simp only [Nat.reduceMul,Nat.zero_mul,Nat.zero_add,Nat.reduceAdd] at hx85_0)
         have hf85_0:=hfr85 0
         (try simp only [show (k42).sz = 2 from rfl,Nat.mul_one,Nat.add_zero] at hf85_0)
         (try rw [show ((0 : Int)).toNat = 0 from rfl] at hf85_0)
         (try simp only [Nat.reduceMul,Nat.zero_mul,Nat.zero_add,Nat.reduceAdd] at hf85_0)
         clear hcl85 hcc85 hfr85 hM85
         go_upto_region 26 with (first|((with_reducible refine gate_store (t:=3) (p:=122) rfl ?_);refine store_event (t:=3) (p:=122) (v:=?vo_w86) (w1:=(wc.setCell ⟨go82,0,none⟩ (.int .i64 (wrap64 ((wrap64 (a1)) - 220))))) ?hg ?ho ?hn ?hr ?_;(case ho=>rfl);(case hg=>rfl);(case hn=>rfl);(case hr=>first|(go_simp;done)|(go_simp;rfl));intro w86 hw;have hg : wc.grownBy w86 (some go82):=(by rw [hw];exact HP85.2);have hp_ : Kd.N k42 42 w86 w.heap.size (fun k_=>some k_≠(u255000 : Value).ownBlock∧k_≠gb254) (.slice (some ⟨go82,0,none⟩) x255001_1.length co82) y290:=(by rw [hw,Ny290.out];exact HP85.1);clear HP85;have n0_:=A_ (Kd.N_afterv (v:=(.slice (some ⟨go82,0,none⟩) x255001_1.length co82)) (v1:=(.slice (some ⟨go82,0,none⟩) x255001_1.length co82)) (ok:=(fun k_=>k_≠gb254)) (by (with_reducible repeat (first|apply Kd.N_alloc|apply Kd.N_drewN|apply Kd.N_drew));exact Kd.N_mono HO_255000.out (fun _ hk=>⟨hk.2,hk.1⟩)) hg (.inl rfl));have n1_:=A_ (hp_);have n2_:=A_ (blk_grown (g:=gb254) (o:=.cells #[u255000,.slice (some ⟨go82,0,none⟩) x255001_1.length co82] 25 (0,0)) (by (with_reducible repeat (first|refine blk_drewN ?_ _|refine blk_drew ?_|refine blk_alloc ?_ _));exact BK254.out) hg (Kd.N_ne HO_255001.out BK254.out (by decide)));have n3_:=A_ ((by rw [hw];exact below_set (HB.out) GB82.out : Below w.heap.size w w86));clear HO_255000;clear HO_255001;clear BK254;clear HB;have HO_255000:=n0_;have HO_255001:=n1_;have BK254:=n2_;have HB:=n3_;clear n0_ n1_ n2_ n3_;clear hg hw hp_))
         (try simp only [Act.put,List.setIfInBounds_toArray,List.set_cons_zero,List.set_cons_succ])
         have H:=HC83.out
         clear HC83
         obtain ⟨y291,hy291⟩ : ∃ y_ : List Int,y_ = (([9] : List Int)):=⟨_,rfl⟩
         replace H : ((zAgree.f kj75 x255000_1 y290 1 y291 (([3] : List Int))).bind fun t297=>(if t297 = true then ((shapesearchlaw24_awake.f kj75).bind fun t298=>(some t298)) else (some false))) = some r:=by first|(rw [hy291];with_reducible exact H)|(have H2_:=(Option.bind_some _ _).symm.trans H;rw [hy291];with_reducible exact H2_)|(have H2_:=(Option.bind_some _ _).symm.trans H;with_reducible exact H2_)|with_reducible exact H|(rw [hy291];exact H)|exact H
         have Ny291:=A_ hy291
         clear hy291
         obtain ⟨y294,hy294⟩ : ∃ y_ : List Int,y_ = (([3] : List Int)):=⟨_,rfl⟩
         replace H : ((zAgree.f kj75 x255000_1 y290 1 y291 y294).bind fun t297=>(if t297 = true then ((shapesearchlaw24_awake.f kj75).bind fun t298=>(some t298)) else (some false))) = some r:=by first|(rw [hy294];with_reducible exact H)|(have H2_:=(Option.bind_some _ _).symm.trans H;rw [hy294];with_reducible exact H2_)|(have H2_:=(Option.bind_some _ _).symm.trans H;with_reducible exact H2_)|with_reducible exact H|(rw [hy294];exact H)|exact H
         have Ny294:=A_ hy294
         clear hy294
         replace H:=Option.bind_eq_some_iff.mp H
         obtain ⟨t297,A870,H⟩:=H
         replace H : (if t297 = true then ((shapesearchlaw24_awake.f kj75).bind fun t298=>(some t298)) else (some false)) = some r:=H
         have A87:=A_ A870
         clear A870
         by_cases c88 : t297 = true
         ·
          subst c88
          have H1 : ((shapesearchlaw24_awake.f kj75).bind fun t298=>(some t298)) = some r:=by rw [if_pos rfl] at H;exact H
          clear H
          have H:=H1
          clear H1
          replace H:=Option.bind_eq_some_iff.mp H
          obtain ⟨t298,A890,H⟩:=H
          replace H : (some t298) = some r:=H
          have A89:=A_ A890
          clear A890
          obtain rfl:=Option.some.inj H
          have hcz90_0 : w86.cell? ⟨gb254,0,none⟩ = some (u255000):=(blk_cell BK254.out 0).trans rfl
          have hcz90_1 : w86.cell? ⟨gb254,1,none⟩ = some (.slice (some ⟨go82,0,none⟩) x255001_1.length co82):=(blk_cell BK254.out 1).trans rfl
          have hfz90_0:=blk_frozen BK254.out 0
          have hfz90_1:=blk_frozen BK254.out 1
          go_wp2_with (first|((with_reducible refine gate_dst (N:=138) rfl ?_);(try (refine gate_guard (by rfl) ?_;dsimp only));refine Kd.R_lit (Kd.int .u8) _ 5 ?hg (N:=138) ?hd (xs:=([9] : List Int)) (inner:=[.int .u8 9]) (ok:=fun _=>True) (okp:=fun _=>True) ?hr ?hp (fun _ hk=>hk) trivial (Below.refl _ _) (Nat.le_refl _) (by simp) ?_;(case hd=>rfl);(case hg=>rfl);(case hr=>first|(go_simp;done)|(go_simp;rfl));(case hp=>exact (Reps.one (show Kd.M (Kd.int .u8) _ _ _ 9 [.int .u8 9] from rfl) (Reps.none _ _)));intro v292 w91 ho92 hb hg_ hnew_;clear hg_ hnew_;(first|rw [← Ny291.out] at ho92|(simp only [Int.reduceToNat] at ho92;rw [← Ny291.out] at ho92));have n0_:=A_ (Kd.N_elder' (by (with_reducible repeat (first|apply Kd.N_alloc|apply Kd.N_drewN|apply Kd.N_drew));exact HO_255000.out) (rs ho92) hb);have n1_:=A_ (Kd.N_elder' (by (with_reducible repeat (first|apply Kd.N_alloc|apply Kd.N_drewN|apply Kd.N_drew));exact HO_255001.out) (rs ho92) hb);have n2_:=A_ (Kd.R_lower ho92 (below_size (by repeat (first|(with_reducible first|exact HB.out|apply ba|apply bb|apply bc|refine below_set ?_ GE254.out)|exact HB.out))));have n3_:=A_ (blk_below (g:=gb254) (o:=.cells #[u255000,.slice (some ⟨go82,0,none⟩) x255001_1.length co82] 25 (0,0)) (by (with_reducible repeat (first|refine blk_drewN ?_ _|refine blk_drew ?_|refine blk_alloc ?_ _));exact BK254.out) hb);have n4_:=A_ (below_step (by repeat (first|(with_reducible first|exact HB.out|apply ba|apply bb|apply bc|refine below_set ?_ GE254.out)|exact HB.out)) hb);clear HO_255000;clear HO_255001;clear BK254;clear HB;have HO_255000:=n0_;have HO_255001:=n1_;have HO293:=n2_;have BK254:=n3_;have HB:=n4_;clear n0_ n1_ n2_ n3_ n4_;clear hb ho92)|((with_reducible refine gate_dst (N:=139) rfl ?_);(try (refine gate_guard (by rfl) ?_;dsimp only));refine Kd.R_lit (Kd.int .i64) _ 3 ?hg (N:=139) ?hd (xs:=([3] : List Int)) (inner:=[.int .i64 3]) (ok:=fun _=>True) (okp:=fun _=>True) ?hr ?hp (fun _ hk=>hk) trivial (Below.refl _ _) (Nat.le_refl _) (by simp) ?_;(case hd=>rfl);(case hg=>rfl);(case hr=>first|(go_simp;done)|(go_simp;rfl));(case hp=>exact (Reps.one (show Kd.M (Kd.int .i64) _ _ _ 3 [.int .i64 3] from rfl) (Reps.none _ _)));intro v295 w93 ho94 hb hg_ hnew_;clear hg_ hnew_;(first|rw [← Ny294.out] at ho94|(simp only [Int.reduceToNat] at ho94;rw [← Ny294.out] at ho94));have n0_:=A_ (Kd.N_elder' (by (with_reducible repeat (first|apply Kd.N_alloc|apply Kd.N_drewN|apply Kd.N_drew));exact HO_255000.out) (rs ho94) hb);have n1_:=A_ (Kd.N_elder' (by (with_reducible repeat (first|apply Kd.N_alloc|apply Kd.N_drewN|apply Kd.N_drew));exact HO_255001.out) (rs ho94) hb);have n2_:=A_ (rw_ (by (with_reducible repeat (first|apply ra|apply rb|apply rc));exact HO293.out) hb);have n3_:=A_ (Kd.R_lower ho94 (below_size (by repeat (first|(with_reducible first|exact HB.out|apply ba|apply bb|apply bc|refine below_set ?_ GE254.out)|exact HB.out))));have n4_:=A_ (blk_below (g:=gb254) (o:=.cells #[u255000,.slice (some ⟨go82,0,none⟩) x255001_1.length co82] 25 (0,0)) (by (with_reducible repeat (first|refine blk_drewN ?_ _|refine blk_drew ?_|refine blk_alloc ?_ _));exact BK254.out) hb);have n5_:=A_ (below_step (by repeat (first|(with_reducible first|exact HB.out|apply ba|apply bb|apply bc|refine below_set ?_ GE254.out)|exact HB.out)) hb);clear HO_255000;clear HO_255001;clear HO293;clear BK254;clear HB;have HO_255000:=n0_;have HO_255001:=n1_;have HO293:=n2_;have HO296:=n3_;have BK254:=n4_;have HB:=n5_;clear n0_ n1_ n2_ n3_ n4_ n5_;clear hb ho94;obtain ⟨Ao95,co95,eo95⟩:=Kd.N_slice HO_255000.out;subst eo95;obtain ⟨Ao96,co96,eo96⟩:=Kd.R_slice HO293.out;subst eo96;obtain ⟨Ao97,co97,eo97⟩:=Kd.R_slice HO296.out;subst eo97)|((with_reducible refine gate_callee (f:=10) rfl ?_);refine goesL_ (some 140) rfl rfl Try.func10 (by kernel_rfl) rfl #[.agg #[.slice Ao95 x255000_1.length co95,.slice (some ⟨go82,0,none⟩) y290.length co82],.int .i64 1,.slice Ao96 y291.length co96,.slice Ao97 y294.length co97] rfl (by (try simp only [List.map_toArray,List.map_cons,List.map_nil]);first|done|(rw [show y290.length = x255001_1.length from (Kd.N_reads' HO_255001.out).1.symm] <;> rfl)|rfl|(simp only [List.length_drop,List.length_take];rfl)) ?_;(with_reducible refine (zAgree.calls kj75 _ _ x255000_1 _ _ y290 1 _ _ y291 _ _ y294 true _ ?side1 ?side2 ?side3 ?side4 ?side5 ?side6 ?side7 ?side8 A87.out).mono ?_);(case side1=>repeat (first|exact (Kd.N_reads' HO_255000.out).2.2|(with_reducible refine ca ?_ _)|(with_reducible refine cb ?_ _)|(with_reducible refine cc ?_)));(case side2=>exact (Kd.N_reads' HO_255000.out).2.1);(case side3=>repeat (first|exact (Kd.N_reads' HO_255001.out).2.2|(with_reducible refine ca ?_ _)|(with_reducible refine cb ?_ _)|(with_reducible refine cc ?_)));(case side4=>rw [show y290.length = x255001_1.length from (Kd.N_reads' HO_255001.out).1.symm];exact (Kd.N_reads' HO_255001.out).2.1);(case side5=>repeat (first|exact (rd_ HO293.out).2.2|(with_reducible refine ca ?_ _)|(with_reducible refine cb ?_ _)|(with_reducible refine cc ?_)));(case side6=>exact (rd_ HO293.out).2.1);(case side7=>repeat (first|exact (rd_ HO296.out).2.2|(with_reducible refine ca ?_ _)|(with_reducible refine cb ?_ _)|(with_reducible refine cc ?_)));(case side8=>exact (rd_ HO296.out).2.1);rintro e w98 ⟨rfl,hb⟩;refine ⟨_,rfl,?_⟩;have n0_:=A_ (Kd.N_below (by (with_reducible repeat (first|apply Kd.N_alloc|apply Kd.N_drewN|apply Kd.N_drew));exact HO_255000.out) hb);have n1_:=A_ (Kd.N_below (by (with_reducible repeat (first|apply Kd.N_alloc|apply Kd.N_drewN|apply Kd.N_drew));exact HO_255001.out) hb);have n2_:=A_ (rw_ (by (with_reducible repeat (first|apply ra|apply rb|apply rc));exact HO293.out) hb);have n3_:=A_ (rw_ (by (with_reducible repeat (first|apply ra|apply rb|apply rc));exact HO296.out) hb);have n4_:=A_ (blk_below (g:=gb254) (o:=.cells #[.slice Ao95 x255000_1.length co95,.slice (some ⟨go82,0,none⟩) x255001_1.length co82] 25 (0,0)) (by (with_reducible repeat (first|refine blk_drewN ?_ _|refine blk_drew ?_|refine blk_alloc ?_ _));exact BK254.out) hb);have n5_:=A_ (below_step (by repeat (first|(with_reducible first|exact HB.out|apply ba|apply bb|apply bc|refine below_set ?_ GE254.out)|exact HB.out)) hb);clear HO_255000;clear HO_255001;clear HO293;clear HO296;clear BK254;clear HB;have HO_255000:=n0_;have HO_255001:=n1_;have HO293:=n2_;have HO296:=n3_;have BK254:=n4_;have HB:=n5_;clear n0_ n1_ n2_ n3_ n4_ n5_;(try clear hb);(try clear hb2);(try clear hk);(try clear hi))|(go_at_call 6;(with_reducible refine (shapesearchlaw24_awake.calls kj75  t298 _ A89.out).mono ?_);rintro e w99 ⟨rfl,hb⟩;have n0_:=A_ (Kd.N_below (by (with_reducible repeat (first|apply Kd.N_alloc|apply Kd.N_drewN|apply Kd.N_drew));exact HO_255000.out) hb);have n1_:=A_ (Kd.N_below (by (with_reducible repeat (first|apply Kd.N_alloc|apply Kd.N_drewN|apply Kd.N_drew));exact HO_255001.out) hb);have n2_:=A_ (rw_ (by (with_reducible repeat (first|apply ra|apply rb|apply rc));exact HO293.out) hb);have n3_:=A_ (rw_ (by (with_reducible repeat (first|apply ra|apply rb|apply rc));exact HO296.out) hb);have n4_:=A_ (blk_below (g:=gb254) (o:=.cells #[.slice Ao95 x255000_1.length co95,.slice (some ⟨go82,0,none⟩) x255001_1.length co82] 25 (0,0)) (by (with_reducible repeat (first|refine blk_drewN ?_ _|refine blk_drew ?_|refine blk_alloc ?_ _));exact BK254.out) hb);have n5_:=A_ (below_step (by repeat (first|(with_reducible first|exact HB.out|apply ba|apply bb|apply bc|refine below_set ?_ GE254.out)|exact HB.out)) hb);clear HO_255000;clear HO_255001;clear HO293;clear HO296;clear BK254;clear HB;have HO_255000:=n0_;have HO_255001:=n1_;have HO293:=n2_;have HO296:=n3_;have BK254:=n4_;have HB:=n5_;clear n0_ n1_ n2_ n3_ n4_ n5_;(try clear hb);(try clear hb2);(try clear hk);(try clear hi)))
          go_ret
          exact ⟨by first|rfl|(simp [errW_none,errW_some] <;> rfl)|(simp [*,errW_none,errW_some] <;> rfl),by repeat (first|(with_reducible first|exact HB.out|apply ba|apply bb|apply bc|refine below_set ?_ GE254.out)|exact HB.out)⟩
         ·
          replace c88:=Bool.eq_false_iff.mpr c88
          subst c88
          have H1 : (some false) = some r:=by rw [if_neg (show ¬ (false = true) by decide)] at H;exact H
          clear H
          have H:=H1
          clear H1
          exact absurd ((Option.some.inj H).trans HTR_.out) (by decide)
        ·
         rw [if_neg c81] at H
         exact absurd H (by simp)
       ·
        replace c80:=Bool.eq_false_iff.mpr c80
        subst c80
        have H1 : (if a1 > 150 then (if 1 < (x255000_1.length : Int) then (if 0 ≤ (mn (wrap64 ((wrap64 (a1)) - 151)) 64) then (if (mn (wrap64 ((wrap64 (a1)) - 151)) 64) ≤ ((rd_L1 x255000_1 1).length : Int) then ((zAgree.f kj75 (x255000_1.set (1 : Int).toNat ((rd_L1 x255000_1 1).take ((mn (wrap64 ((wrap64 (a1)) - 151)) 64) : Int).toNat)) x255001_1 1 (([9] : List Int)) (([3] : List Int))).bind fun t312=>(if t312 = true then ((shapesearchlaw24_awake.f kj75).bind fun t313=>(some t313)) else (some false))) else (none)) else (none)) else (none)) else ((zAgree.f kj75 x255000_1 x255001_1 1 (([9] : List Int)) (([3] : List Int))).bind fun t320=>(if t320 = true then ((shapesearchlaw24_awake.f kj75).bind fun t321=>(some t321)) else (some false)))) = some r:=by rw [if_neg (show ¬ (false = true) by decide)] at H;exact H
        clear H
        have H:=H1
        clear H1
        by_cases c100 : a1 > 150
        ·
         rw [if_pos c100] at H
         have c100b0 : decide (150 < a1) = true:=decide_eq_true c100
         clear c100
         by_cases c101 : 1 < (x255000_1.length : Int)
         ·
          rw [if_pos c101] at H
          have c101b0 : decide (1 < (x255000_1.length : Int)) = true:=decide_eq_true c101
          have c101b1 : decide (1 < x255000_1.length) = true:=decide_eq_true (by omega)
          clear c101
          obtain ⟨ji102,hji102⟩ : ∃ j_ : Int,(mn (wrap64 ((wrap64 (a1)) - 151)) 64) = j_:=⟨_,rfl⟩
          replace H : (if 0 ≤ (ji102) then (if (ji102) ≤ ((rd_L1 x255000_1 1).length : Int) then ((zAgree.f kj75 (x255000_1.set (1 : Int).toNat ((rd_L1 x255000_1 1).take ((ji102) : Int).toNat)) x255001_1 1 (([9] : List Int)) (([3] : List Int))).bind fun t312=>(if t312 = true then ((shapesearchlaw24_awake.f kj75).bind fun t313=>(some t313)) else (some false))) else (none)) else (none)) = some r:=by first|(rw [hji102] at H;exact H)|(simp only [hji102] at H ⊢;exact H)
          have hji102_ : (if 64 < (wrap64 ((wrap64 (a1)) - 151)) then 64 else (wrap64 ((wrap64 (a1)) - 151))) = ji102:=hji102
          by_cases c103 : 0 ≤ (ji102)
          ·
           rw [if_pos c103] at H
           have c103b0:=eq_true c103
           have c103b1 : decide (0 ≤ (ji102)) = true:=decide_eq_true c103
           clear c103
           by_cases c104 : (ji102) ≤ ((rd_L1 x255000_1 1).length : Int)
           ·
            rw [if_pos c104] at H
            have c104b0:=eq_true c104
            have c104b1 : decide ((ji102) ≤ ((rd_L1 x255000_1 1).length : Int)) = true:=decide_eq_true c104
            clear c104
            obtain ⟨y300,hy300⟩ : ∃ y_ : List Int,y_ = ((rd_L1 x255000_1 1).take ((ji102) : Int).toNat):=⟨_,rfl⟩
            replace H : ((zAgree.f kj75 (x255000_1.set (1 : Int).toNat y300) x255001_1 1 (([9] : List Int)) (([3] : List Int))).bind fun t312=>(if t312 = true then ((shapesearchlaw24_awake.f kj75).bind fun t313=>(some t313)) else (some false))) = some r:=by first|(rw [hy300];with_reducible exact H)|(have H2_:=(Option.bind_some _ _).symm.trans H;rw [hy300];with_reducible exact H2_)|(have H2_:=(Option.bind_some _ _).symm.trans H;with_reducible exact H2_)|with_reducible exact H|(rw [hy300];exact H)|exact H
            have Ny300:=A_ hy300
            clear hy300
            obtain ⟨y305,hy305⟩ : ∃ y_ : List (List Int),y_ = (x255000_1.set (1 : Int).toNat y300):=⟨_,rfl⟩
            replace H : ((zAgree.f kj75 y305 x255001_1 1 (([9] : List Int)) (([3] : List Int))).bind fun t312=>(if t312 = true then ((shapesearchlaw24_awake.f kj75).bind fun t313=>(some t313)) else (some false))) = some r:=by first|(rw [hy305];with_reducible exact H)|(have H2_:=(Option.bind_some _ _).symm.trans H;rw [hy305];with_reducible exact H2_)|(have H2_:=(Option.bind_some _ _).symm.trans H;with_reducible exact H2_)|with_reducible exact H|(rw [hy305];exact H)|exact H
            have Ny305:=A_ hy305
            clear hy305
            have HC106:=A_ H
            clear H
            try go_wp2
            have n0_:=A_ (Kd.N_drew HO_255000.out)
            have n1_:=A_ (Kd.N_drew HO_255001.out)
            have n2_:=A_ (blk_drew BK254.out)
            have n3_:=A_ (below_drew1 HB.out)
            clear HO_255000
            clear HO_255001
            clear BK254
            clear HB
            have HO_255000:=n0_
            have HO_255001:=n1_
            have BK254:=n2_
            have HB:=n3_
            clear n0_ n1_ n2_ n3_
            obtain ⟨Ao108,co108,eo108⟩:=Kd.N_slice HO_255000.out
            (first|subst eo108|(injection eo108 with f1_ f2_ f3_;have f4_:=f1_.symm;have f5_:=f3_.symm;clear f1_ f2_ f3_;subst f4_;subst f5_))
            have p299 : 0 ≤ (1 : Int):=(by omega)
            have q299 : 1 < (x255000_1.length : Int):=of_decide_eq_true (by first|(with_reducible assumption)|assumption)
            obtain ⟨ad299,A299_0,c299_0,e299,hx299_0,hl299_0,hi299_0⟩:=at_L1 (Kd.N_reads' HO_255000.out).2.2 1 p299 q299
            cases e299
            obtain ⟨ce299,hce299,hMe299,hcc299⟩:=Kd.N_get HO_255000.out [] 1 p299 (by first|exact q299|exact of_decide_eq_true (by first|(with_reducible assumption)|assumption)|(have e_:=(Kd.N_reads' HO_255000.out).1;omega))
            obtain ⟨ua299_0,uc299_0,rfl,ul299_0,ge299_0⟩:=Kd.FK_slice_open hMe299
            have hv299_0:=hcc299 0 _ rfl
            rw [Nat.add_zero,show ((Kd.slice 5 (Kd.int .u8))).sz = 1 from rfl,Nat.mul_one] at hv299_0
            replace hv299_0:=Option.some.inj (hv299_0.symm.trans hx299_0)
            injection hv299_0 with hva_ hvn_ hvc_
            rw [hva_] at ge299_0
            rw [hvc_] at ul299_0
            have HL299_0:=A_ (show Kd.V (Kd.int .u8) 5 _ w.heap.size _ _ (rd_L1 x255000_1 1) from Kd.V_mk ul299_0 ge299_0)
            clear hva_ hvn_ hvc_ ge299_0 ul299_0
            clear hcc299 hce299
            (try simp only [show (1 : Int).toNat = 1 from rfl,Nat.reduceMul,Nat.reduceEqDiff,Go.Addr.add,↓reduceIte] at hx299_0)
            have qi299 : (1 < x255000_1.length) = True:=eq_true (by omega)
            (try rw [show ((1 : Int)).toNat = 1 from rfl] at hx299_0)
            have HR299_0:=A_ hi299_0
            have HC299_0:=A_ hl299_0
            clear hi299_0 hl299_0
            replace p299:=eq_true p299
            replace q299:=eq_true q299
            have q109 : ((ji102) : Int) ≤ (((rd_L1 x255000_1 1).length : Int) : Int):=of_decide_eq_true (by first|(with_reducible assumption)|assumption)
            obtain ⟨i0109,hi0109,_,hsz109,_⟩:=info_parts info5
            have hroom109 : (rd_L1 x255000_1 1).length ≤ c299_0:=HC299_0.out
            have hC109 : Kd.F (Kd.int .u8) _ _ A299_0 (rd_L1 x255000_1 1).length (rd_L1 x255000_1 1):=(Kd.V_at (base:=w.heap.size) HL299_0.out).2.2
            have hcut109:=cut_to (P:=Try.prog) 26 5 .i64 Try.underlying26 hi0109 A299_0 (rd_L1 x255000_1 1).length c299_0 (ji102) (of_decide_eq_true (by first|(with_reducible assumption)|assumption)) q109 hroom109
            have hr109:=Kd.F_take (m:=((ji102) : Int).toNat) hC109 (by omega)
            have hy109 : y300.length = ((ji102) : Int).toNat:=(by rw [Ny300.out,List.length_take];omega)
            rw [← Ny300.out] at hr109
            rw [← hy109] at hcut109
            have HO304:=A_ (show Kd.V (Kd.int .u8) 5 _ w.heap.size _ (.slice A299_0 y300.length c299_0) y300 from Kd.V_mk (by omega) hr109)
            have HC304:=A_ (show y300.length ≤ c299_0 from by omega)
            clear hr109 hC109 hroom109 hi0109 hsz109
            have KY109:=A_ hy109
            clear hy109
            replace q109:=eq_true q109
            have p105 : 0 ≤ (1 : Int):=(by omega)
            have q105 : (1 : Int) < ((x255000_1.length : Int) : Int):=of_decide_eq_true (by first|(with_reducible assumption)|assumption)
            have qi105 : (1 < x255000_1.length) = True:=eq_true (by omega)
            obtain ⟨go105,co105,eo105,gb105,gl105,cl105,HG105⟩:=Kd.N_form HO_255000.out (by omega)
            (first|cases eo105|(injection eo105 with ea_ en_ ec_;(first|subst ea_|(injection ea_ with ea_;subst ea_));subst ec_;clear en_))
            have GB105:=A_ gb105
            have GG105:=A_ HG105
            clear gb105 gl105 HG105
            (first|simp only [add_plain] at hx299_0|skip)
            obtain ⟨ce105,hcl105,hM105,hcc105,hfr105⟩:=Kd.N_elem HO_255000.out [] (1 : Int) p105 q105
            obtain ⟨ua105_0,uc105_0,rfl,ul105_0,ge105_0⟩:=Kd.FK_slice_open hM105
            have hx105_0:=hcc105 0 _ rfl
            have hf105_0:=hfr105 0
            (try simp only [show ((Kd.slice 5 (Kd.int .u8))).sz = 1 from rfl,Nat.mul_one,Nat.add_zero] at hx105_0)
            (try simp only [show ((Kd.slice 5 (Kd.int .u8))).sz = 1 from rfl,Nat.mul_one,Nat.add_zero] at hf105_0)
            clear hcl105 hcc105 hfr105 hM105
            (try rw [show ((1 : Int)).toNat = 1 from rfl] at hx105_0)
            (try simp only [Nat.reduceMul,Nat.zero_mul,Nat.zero_add,Nat.reduceAdd] at hx105_0)
            (try rw [show ((1 : Int)).toNat = 1 from rfl] at hf105_0)
            (try simp only [Nat.reduceMul,Nat.zero_mul,Nat.zero_add,Nat.reduceAdd] at hf105_0)
            replace p105:=eq_true p105
            replace q105:=eq_true q105
            have HX110:=A_ (show Kd.N (Kd.slice 5 (Kd.int .u8)) 26 _ w.heap.size (fun k_=>some k_≠(u255001 : Value).ownBlock∧k_≠gb254) (.slice (some ⟨go105,0,none⟩) x255000_1.length co108) x255000_1 from (Kd.N_mono (HO_255000.out) (fun k_ hk=>⟨hk.1,hk.2⟩)))
            obtain ⟨ce110,hcl110,hM110,hcc110,hfr110⟩:=Kd.N_elem HX110.out [] (1 : Int) (by omega) (by have h_ : (1 : Int) < ((x255000_1.length : Int) : Int):=of_decide_eq_true (by first|(with_reducible assumption)|assumption);first|exact h_|(have e_:=(Kd.N_reads' HO_255000.out).1;omega)|simpa using h_)
            obtain ⟨ua110_0,uc110_0,rfl,ul110_0,ge110_0⟩:=Kd.FK_slice_open hM110
            have HP110:=(Kd.N_seg HX110.out (1 : Int) (by omega) (by have h_ : (1 : Int) < ((x255000_1.length : Int) : Int):=of_decide_eq_true (by first|(with_reducible assumption)|assumption);first|exact h_|(have e_:=(Kd.N_reads' HO_255000.out).1;omega)|simpa using h_) (seg:=[.slice A299_0 y300.length c299_0]) (j:=0) hcl110 hcc110 (show 1 ≤ 1 from by decide) (x':=y300) (Kd.FK_slice_mk (Kd.V_reads' (Kd.V_mono (ok':=(fun k_=>((fun k_=>some k_≠(u255001 : Value).ownBlock∧k_≠gb254)) k_∧k_≠go105)) (HO304.out) (fun k_ hk=>⟨⟨hk.1.1,hk.1.2⟩,fun e_=>(hk.2) (by rw [e_];rfl)⟩))).2.1 (Kd.V_F (Kd.V_mono (ok':=(fun k_=>((fun k_=>some k_≠(u255001 : Value).ownBlock∧k_≠gb254)) k_∧k_≠go105)) (HO304.out) (fun k_ hk=>⟨⟨hk.1.1,hk.1.2⟩,fun e_=>(hk.2) (by rw [e_];rfl)⟩)))) (fun _ hk=>hk)).1
            (try simp only [show ((Kd.slice 5 (Kd.int .u8))).sz = 1 from rfl,Nat.mul_one,Nat.add_zero] at HP110)
            rw [← Ny305.out] at HP110
            have HQ110:=A_ HP110
            clear hcl110 hcc110 hfr110 hM110 HP110
            refine start_ (n:=13) (S:=fun w'=>w'.cell? ⟨gb254,0,none⟩ = some (.slice (some ⟨go105,0,none⟩) x255000_1.length co108)∧w'.cell? ⟨gb254,1,none⟩ = some (u255001)∧w'.cell? ⟨go105,1,none⟩ = some (.slice A299_0 (rd_L1 x255000_1 1).length c299_0)) (ds:=[12]) #[false,false,false,false,false,false,false,false,false,false,false,false,false] (by kernel_rfl) rfl rfl ⟨(blk_cell BK254.out 0).trans rfl,(blk_cell BK254.out 1).trans rfl,hx299_0⟩ (fun hHeld=>?_);refine with_tabW shapesearchlaw24_DeviceSteps.tab25 shapesearchlaw24_DeviceSteps.bits25 (fun HT_ HW_=>?_)
            generalize wc.drew = w107 at HO_255000 HO_255001 BK254 HB GG105 HL299_0 HO304 HQ110 HR299_0 hf105_0 hx105_0 hx299_0 hHeld ⊢
            refine pure_ (i:=0) (N:=some 125) (v:=?_) (a':=?_) #[true,false,false,false,false,false,false,false,false,false,false,false,false] rfl rfl (any_of HT_.out (by kernel_rfl)) (fun _ _ _ h=>h) (Or.inl ⟨by rfl,?_⟩) ?_ ?_
            rotate_left
            ·
             intro w'
             go_simp
             with_reducible rfl
            rotate_left
            ·
             simp only [Act.put,sa,sb,sc,i64_w,i32_w]
             rfl
            refine pure_ (i:=2) (N:=some 127) (v:=?_) (a':=?_) #[true,false,true,false,false,false,false,false,false,false,false,false,false] rfl rfl (any_of HT_.out (by kernel_rfl)) (fun _ _ _ h=>h) (Or.inl ⟨by rfl,?_⟩) ?_ ?_
            rotate_left
            ·
             intro w'
             go_simp
             with_reducible rfl
            rotate_left
            ·
             simp only [Act.put,sa,sb,sc,i64_w,i32_w]
             rfl
            refine pure_ (i:=6) (N:=some 131) (v:=?_) (a':=?_) #[true,false,true,false,false,false,true,false,false,false,false,false,false] rfl rfl (any_of HT_.out (by kernel_rfl)) (fun _ _ _ h=>h) (Or.inl ⟨by rfl,?_⟩) ?_ ?_
            rotate_left
            ·
             intro w'
             go_simp
             with_reducible rfl
            rotate_left
            ·
             simp only [Act.put,sa,sb,sc,i64_w,i32_w]
             rfl
            refine pure_ (i:=7) (N:=some 132) (v:=?_) (a':=?_) #[true,false,true,false,false,false,true,true,false,false,false,false,false] rfl rfl (any_of HT_.out (by kernel_rfl)) (fun _ _ _ h=>h) (Or.inl ⟨by rfl,?_⟩) ?_ ?_
            rotate_left
            ·
             intro w'
             go_simp
             with_reducible rfl
            rotate_left
            ·
             simp only [Act.put,sa,sb,sc,i64_w,i32_w]
             rfl
            refine pure_ (i:=8) (N:=some 133) (v:=?_) (a':=?_) #[true,false,true,false,false,false,true,true,true,false,false,false,false] rfl rfl (any_of HT_.out (by kernel_rfl)) (fun _ _ _ h=>h) (Or.inl ⟨by rfl,?_⟩) ?_ ?_
            rotate_left
            ·
             intro w'
             go_simp
             with_reducible rfl
            rotate_left
            ·
             simp only [Act.put,sa,sb,sc,i64_w,i32_w]
             rfl
            refine pure_ (i:=9) (N:=some 134) (v:=?_) (a':=?_) #[true,false,true,false,false,false,true,true,true,true,false,false,false] rfl rfl (any_of HT_.out (by kernel_rfl)) (fun _ _ _ h=>h) (Or.inl ⟨by rfl,?_⟩) ?_ ?_
            rotate_left
            ·
             intro w'
             go_simp
             with_reducible rfl
            rotate_left
            ·
             simp only [Act.put,sa,sb,sc,i64_w,i32_w]
             rfl
            refine take_ (i:=1) (N:=some 126) (v:=?_) (a':=?_) #[true,true,true,false,false,false,true,true,true,true,false,false,false] rfl rfl (take_ofW HT_.out HW_.out (by kernel_rfl)) (fun _ _ _ h=>h) (Or.inl ⟨by rfl,?_⟩) hHeld ?_ ?_
            rotate_left
            ·
             rintro w' ⟨s0,s1,s2⟩
             go_simp
             with_reducible rfl
            rotate_left
            ·
             simp only [Act.put,sa,sb,sc,i64_w,i32_w]
             rfl
            refine take_ (i:=3) (N:=some 128) (v:=?_) (a':=?_) #[true,true,true,true,false,false,true,true,true,true,false,false,false] rfl rfl (take_ofW HT_.out HW_.out (by kernel_rfl)) (fun _ _ _ h=>h) (Or.inl ⟨by rfl,?_⟩) hHeld ?_ ?_
            rotate_left
            ·
             rintro w' ⟨s0,s1,s2⟩
             go_simp
             with_reducible rfl
            rotate_left
            ·
             simp only [Act.put,sa,sb,sc,i64_w,i32_w]
             rfl
            refine pure_ (i:=4) (N:=some 129) (v:=?_) (a':=?_) #[true,true,true,true,true,false,true,true,true,true,false,false,false] rfl rfl (any_of HT_.out (by kernel_rfl)) (fun _ _ _ h=>h) (Or.inl ⟨by rfl,?_⟩) ?_ ?_
            rotate_left
            ·
             intro w'
             go_simp
             with_reducible rfl
            rotate_left
            ·
             simp only [Act.put,sa,sb,sc,i64_w,i32_w]
             rfl
            refine take_ (i:=5) (N:=some 130) (v:=?_) (a':=?_) #[true,true,true,true,true,true,true,true,true,true,false,false,false] rfl rfl (take_ofW HT_.out HW_.out (by kernel_rfl)) (fun _ _ _ h=>h) (Or.inl ⟨by rfl,?_⟩) hHeld ?_ ?_
            rotate_left
            ·
             rintro w' ⟨s0,s1,s2⟩
             go_simp
             with_reducible rfl
            rotate_left
            ·
             simp only [Act.put,sa,sb,sc,i64_w,i32_w]
             rfl
            refine pure_ (i:=10) (N:=some 135) (v:=?_) (a':=?_) #[true,true,true,true,true,true,true,true,true,true,true,false,false] rfl rfl (any_of HT_.out (by kernel_rfl)) (fun _ _ _ h=>h) (Or.inl ⟨by rfl,?_⟩) ?_ ?_
            rotate_left
            ·
             intro w'
             go_simp
             with_reducible rfl
            rotate_left
            ·
             simp only [Act.put,sa,sb,sc,i64_w,i32_w]
             rfl
            refine pure_ (i:=11) (N:=some 136) (v:=?_) (a':=?_) #[true,true,true,true,true,true,true,true,true,true,true,true,false] rfl rfl (any_of HT_.out (by kernel_rfl)) (fun _ _ _ h=>h) (Or.inl ⟨by rfl,?_⟩) ?_ ?_
            rotate_left
            ·
             intro w'
             go_simp
             with_reducible rfl
            rotate_left
            ·
             simp only [Act.put,sa,sb,sc,i64_w,i32_w]
             rfl
            refine last_ (i:=12) (N:=none) #[true,true,true,true,true,true,true,true,true,true,true,true,true] rfl rfl (one_of HT_.out (by kernel_rfl)) (by decide) (fun K hK=>?_)
            refine skip_ (w1:=?_) (by rfl) rfl ?_ ?_
            rotate_left
            ·
             go_simp
             rfl
            refine hK.out _ _ ?_
            clear hK K
            refine done_ (done_of HT_.out (by kernel_rfl)) ?_
            go_upto_region 26 with (fail)
            have H:=HC106.out
            clear HC106
            obtain ⟨y306,hy306⟩ : ∃ y_ : List Int,y_ = (([9] : List Int)):=⟨_,rfl⟩
            replace H : ((zAgree.f kj75 y305 x255001_1 1 y306 (([3] : List Int))).bind fun t312=>(if t312 = true then ((shapesearchlaw24_awake.f kj75).bind fun t313=>(some t313)) else (some false))) = some r:=by first|(rw [hy306];with_reducible exact H)|(have H2_:=(Option.bind_some _ _).symm.trans H;rw [hy306];with_reducible exact H2_)|(have H2_:=(Option.bind_some _ _).symm.trans H;with_reducible exact H2_)|with_reducible exact H|(rw [hy306];exact H)|exact H
            have Ny306:=A_ hy306
            clear hy306
            obtain ⟨y309,hy309⟩ : ∃ y_ : List Int,y_ = (([3] : List Int)):=⟨_,rfl⟩
            replace H : ((zAgree.f kj75 y305 x255001_1 1 y306 y309).bind fun t312=>(if t312 = true then ((shapesearchlaw24_awake.f kj75).bind fun t313=>(some t313)) else (some false))) = some r:=by first|(rw [hy309];with_reducible exact H)|(have H2_:=(Option.bind_some _ _).symm.trans H;rw [hy309];with_reducible exact H2_)|(have H2_:=(Option.bind_some _ _).symm.trans H;with_reducible exact H2_)|with_reducible exact H|(rw [hy309];exact H)|exact H
            have Ny309:=A_ hy309
            clear hy309
            replace H:=Option.bind_eq_some_iff.mp H
            obtain ⟨t312,A1110,H⟩:=H
            replace H : (if t312 = true then ((shapesearchlaw24_awake.f kj75).bind fun t313=>(some t313)) else (some false)) = some r:=H
            have A111:=A_ A1110
            clear A1110
            by_cases c112 : t312 = true
            ·
             subst c112
             have H1 : ((shapesearchlaw24_awake.f kj75).bind fun t313=>(some t313)) = some r:=by rw [if_pos rfl] at H;exact H
             clear H
             have H:=H1
             clear H1
             replace H:=Option.bind_eq_some_iff.mp H
             obtain ⟨t313,A1130,H⟩:=H
             replace H : (some t313) = some r:=H
             have A113:=A_ A1130
             clear A1130
             obtain rfl:=Option.some.inj H
             have hcz114_0 : w107.cell? ⟨gb254,0,none⟩ = some (.slice (some ⟨go105,0,none⟩) x255000_1.length co108):=(blk_cell BK254.out 0).trans rfl
             have hcz114_1 : w107.cell? ⟨gb254,1,none⟩ = some (u255001):=(blk_cell BK254.out 1).trans rfl
             have hfz114_0:=blk_frozen BK254.out 0
             have hfz114_1:=blk_frozen BK254.out 1
             have hgn_ : gb254≠go105:=(by have h_:=Kd.N_away HO_255000.out (fun _ hk=>hk.2);intro e_;exact h_ (by rw [e_];rfl))
             have hgm_:=Ne.symm hgn_
             go_wp2_with (first|((with_reducible refine gate_dst (N:=138) rfl ?_);(try (refine gate_guard (by rfl) ?_;dsimp only));refine Kd.R_lit (Kd.int .u8) _ 5 ?hg (N:=138) ?hd (xs:=([9] : List Int)) (inner:=[.int .u8 9]) (ok:=fun _=>True) (okp:=fun _=>True) ?hr ?hp (fun _ hk=>hk) trivial (Below.refl _ _) (Nat.le_refl _) (by simp) ?_;(case hd=>rfl);(case hg=>rfl);(case hr=>first|(go_simp;done)|(go_simp;rfl));(case hp=>exact (Reps.one (show Kd.M (Kd.int .u8) _ _ _ 9 [.int .u8 9] from rfl) (Reps.none _ _)));intro v307 w115 ho116 hb hg_ hnew_;clear hg_ hnew_;(first|rw [← Ny306.out] at ho116|(simp only [Int.reduceToNat] at ho116;rw [← Ny306.out] at ho116));have n0_:=A_ (Kd.N_elder' (by (with_reducible repeat (first|apply Kd.N_alloc|apply Kd.N_drewN|apply Kd.N_drew));exact HQ110.out) (rs ho116) hb);have n1_:=A_ (Kd.N_elder' (by (with_reducible repeat (first|apply Kd.N_alloc|apply Kd.N_drewN|apply Kd.N_drew));exact (Kd.N_mono (Kd.N_far (p:=⟨go105,1,none⟩) (Kd.N_mono HO_255001.out (fun k_ hk=>(⟨hk,fun e_=>hk.1 (by rw [e_];rfl)⟩ : _∧k_≠go105))) (fun _ hk=>hk.2) (.slice A299_0 y300.length c299_0)) (fun _ h_=>h_.1))) (rs ho116) hb);have n2_:=A_ (Kd.V_elder' (by (with_reducible repeat (first|apply Kd.V_alloc|apply Kd.V_drewN|apply Kd.V_drew));exact (Kd.V_mono (Kd.V_far (p:=⟨go105,1,none⟩) (Kd.V_mono HL299_0.out (fun k_ hk=>(⟨hk,fun e_=>hk.2 (by rw [e_];rfl)⟩ : _∧k_≠go105))) (fun _ hk=>hk.2) (.slice A299_0 y300.length c299_0)) (fun _ h_=>h_.1))) (rs ho116) hb);have n3_:=A_ (Kd.V_elder' (by (with_reducible repeat (first|apply Kd.V_alloc|apply Kd.V_drewN|apply Kd.V_drew));exact (Kd.V_mono (Kd.V_far (p:=⟨go105,1,none⟩) (Kd.V_mono HO304.out (fun k_ hk=>(⟨hk,fun e_=>hk.2 (by rw [e_];rfl)⟩ : _∧k_≠go105))) (fun _ hk=>hk.2) (.slice A299_0 y300.length c299_0)) (fun _ h_=>h_.1))) (rs ho116) hb);have n4_:=A_ (Kd.R_lower ho116 (below_size (by repeat (first|(with_reducible first|exact HB.out|apply ba|apply bb|apply bc|refine below_set ?_ GB105.out|refine below_set ?_ GE254.out)|exact HB.out))));have n5_:=A_ (blk_below (g:=gb254) (o:=.cells #[.slice (some ⟨go105,0,none⟩) x255000_1.length co108,u255001] 25 (0,0)) (by (with_reducible repeat (first|refine blk_drewN ?_ _|refine blk_drew ?_|refine blk_alloc ?_ _));refine blk_far ?_ (by have h_:=Kd.N_away HO_255000.out (fun _ hk=>hk.2);intro e_;exact h_ (by rw [e_];rfl)) _;(with_reducible repeat (first|refine blk_drewN ?_ _|refine blk_drew ?_|refine blk_alloc ?_ _));exact BK254.out) hb);have n6_:=A_ (cl ((Kd.V_reads' (by (with_reducible repeat (first|apply Kd.V_alloc|apply Kd.V_drewN|apply Kd.V_drew));exact (Kd.V_mono (Kd.V_far (p:=⟨go105,1,none⟩) (Kd.V_mono HL299_0.out (fun k_ hk=>(⟨hk,fun e_=>hk.2 (by rw [e_];rfl)⟩ : _∧k_≠go105))) (fun _ hk=>hk.2) (.slice A299_0 y300.length c299_0)) (fun _ h_=>h_.1)))).2.2) hb);have n7_:=A_ (below_step (by repeat (first|(with_reducible first|exact HB.out|apply ba|apply bb|apply bc|refine below_set ?_ GB105.out|refine below_set ?_ GE254.out)|exact HB.out)) hb);clear HO_255000;clear HO_255001;clear HL299_0;clear HO304;clear BK254;clear HR299_0;clear HB;have HO_255000:=n0_;have HO_255001:=n1_;have HL299_0:=n2_;have HO304:=n3_;have HO308:=n4_;have BK254:=n5_;have HR299_0:=n6_;have HB:=n7_;clear n0_ n1_ n2_ n3_ n4_ n5_ n6_ n7_;clear hb ho116)|((with_reducible refine gate_dst (N:=139) rfl ?_);(try (refine gate_guard (by rfl) ?_;dsimp only));refine Kd.R_lit (Kd.int .i64) _ 3 ?hg (N:=139) ?hd (xs:=([3] : List Int)) (inner:=[.int .i64 3]) (ok:=fun _=>True) (okp:=fun _=>True) ?hr ?hp (fun _ hk=>hk) trivial (Below.refl _ _) (Nat.le_refl _) (by simp) ?_;(case hd=>rfl);(case hg=>rfl);(case hr=>first|(go_simp;done)|(go_simp;rfl));(case hp=>exact (Reps.one (show Kd.M (Kd.int .i64) _ _ _ 3 [.int .i64 3] from rfl) (Reps.none _ _)));intro v310 w117 ho118 hb hg_ hnew_;clear hg_ hnew_;(first|rw [← Ny309.out] at ho118|(simp only [Int.reduceToNat] at ho118;rw [← Ny309.out] at ho118));have n0_:=A_ (Kd.N_elder' (by (with_reducible repeat (first|apply Kd.N_alloc|apply Kd.N_drewN|apply Kd.N_drew));exact HO_255000.out) (rs ho118) hb);have n1_:=A_ (Kd.N_elder' (by (with_reducible repeat (first|apply Kd.N_alloc|apply Kd.N_drewN|apply Kd.N_drew));exact HO_255001.out) (rs ho118) hb);have n2_:=A_ (Kd.V_elder' (by (with_reducible repeat (first|apply Kd.V_alloc|apply Kd.V_drewN|apply Kd.V_drew));exact HL299_0.out) (rs ho118) hb);have n3_:=A_ (Kd.V_elder' (by (with_reducible repeat (first|apply Kd.V_alloc|apply Kd.V_drewN|apply Kd.V_drew));exact HO304.out) (rs ho118) hb);have n4_:=A_ (rw_ (by (with_reducible repeat (first|apply ra|apply rb|apply rc));exact HO308.out) hb);have n5_:=A_ (Kd.R_lower ho118 (below_size (by repeat (first|(with_reducible first|exact HB.out|apply ba|apply bb|apply bc|refine below_set ?_ GE254.out)|exact HB.out))));have n6_:=A_ (blk_below (g:=gb254) (o:=.cells #[.slice (some ⟨go105,0,none⟩) x255000_1.length co108,u255001] 25 (0,0)) (by (with_reducible repeat (first|refine blk_drewN ?_ _|refine blk_drew ?_|refine blk_alloc ?_ _));exact BK254.out) hb);have n7_:=A_ (cl (by repeat (first|(with_reducible exact HR299_0.out)|(with_reducible refine ca ?_ _)|(with_reducible refine cb ?_ _)|(with_reducible refine cc ?_)|exact HR299_0.out)) hb);have n8_:=A_ (below_step (by repeat (first|(with_reducible first|exact HB.out|apply ba|apply bb|apply bc|refine below_set ?_ GE254.out)|exact HB.out)) hb);clear HO_255000;clear HO_255001;clear HL299_0;clear HO304;clear HO308;clear BK254;clear HR299_0;clear HB;have HO_255000:=n0_;have HO_255001:=n1_;have HL299_0:=n2_;have HO304:=n3_;have HO308:=n4_;have HO311:=n5_;have BK254:=n6_;have HR299_0:=n7_;have HB:=n8_;clear n0_ n1_ n2_ n3_ n4_ n5_ n6_ n7_ n8_;clear hb ho118;obtain ⟨Ao119,co119,eo119⟩:=Kd.N_slice HO_255001.out;subst eo119;obtain ⟨Ao120,co120,eo120⟩:=Kd.R_slice HO308.out;subst eo120;obtain ⟨Ao121,co121,eo121⟩:=Kd.R_slice HO311.out;subst eo121)|((with_reducible refine gate_callee (f:=10) rfl ?_);refine goesL_ (some 140) rfl rfl Try.func10 (by kernel_rfl) rfl #[.agg #[.slice (some ⟨go105,0,none⟩) y305.length co108,.slice Ao119 x255001_1.length co119],.int .i64 1,.slice Ao120 y306.length co120,.slice Ao121 y309.length co121] rfl (by (try simp only [List.map_toArray,List.map_cons,List.map_nil]);first|done|(rw [show y305.length = x255000_1.length from (Kd.N_reads' HO_255000.out).1.symm] <;> rfl)|rfl|(simp only [List.length_drop,List.length_take];rfl)) ?_;(with_reducible refine (zAgree.calls kj75 _ _ y305 _ _ x255001_1 1 _ _ y306 _ _ y309 true _ ?side1 ?side2 ?side3 ?side4 ?side5 ?side6 ?side7 ?side8 A111.out).mono ?_);(case side1=>repeat (first|exact (Kd.N_reads' HO_255000.out).2.2|(with_reducible refine ca ?_ _)|(with_reducible refine cb ?_ _)|(with_reducible refine cc ?_)));(case side2=>rw [show y305.length = x255000_1.length from (Kd.N_reads' HO_255000.out).1.symm];exact (Kd.N_reads' HO_255000.out).2.1);(case side3=>repeat (first|exact (Kd.N_reads' HO_255001.out).2.2|(with_reducible refine ca ?_ _)|(with_reducible refine cb ?_ _)|(with_reducible refine cc ?_)));(case side4=>exact (Kd.N_reads' HO_255001.out).2.1);(case side5=>repeat (first|exact (rd_ HO308.out).2.2|(with_reducible refine ca ?_ _)|(with_reducible refine cb ?_ _)|(with_reducible refine cc ?_)));(case side6=>exact (rd_ HO308.out).2.1);(case side7=>repeat (first|exact (rd_ HO311.out).2.2|(with_reducible refine ca ?_ _)|(with_reducible refine cb ?_ _)|(with_reducible refine cc ?_)));(case side8=>exact (rd_ HO311.out).2.1);rintro e w122 ⟨rfl,hb⟩;refine ⟨_,rfl,?_⟩;have n0_:=A_ (Kd.N_below (by (with_reducible repeat (first|apply Kd.N_alloc|apply Kd.N_drewN|apply Kd.N_drew));exact HO_255000.out) hb);have n1_:=A_ (Kd.N_below (by (with_reducible repeat (first|apply Kd.N_alloc|apply Kd.N_drewN|apply Kd.N_drew));exact HO_255001.out) hb);have n2_:=A_ (Kd.V_below (by (with_reducible repeat (first|apply Kd.V_alloc|apply Kd.V_drewN|apply Kd.V_drew));exact HL299_0.out) hb);have n3_:=A_ (Kd.V_below (by (with_reducible repeat (first|apply Kd.V_alloc|apply Kd.V_drewN|apply Kd.V_drew));exact HO304.out) hb);have n4_:=A_ (rw_ (by (with_reducible repeat (first|apply ra|apply rb|apply rc));exact HO308.out) hb);have n5_:=A_ (rw_ (by (with_reducible repeat (first|apply ra|apply rb|apply rc));exact HO311.out) hb);have n6_:=A_ (blk_below (g:=gb254) (o:=.cells #[.slice (some ⟨go105,0,none⟩) x255000_1.length co108,.slice Ao119 x255001_1.length co119] 25 (0,0)) (by (with_reducible repeat (first|refine blk_drewN ?_ _|refine blk_drew ?_|refine blk_alloc ?_ _));exact BK254.out) hb);have n7_:=A_ (cl (by repeat (first|(with_reducible exact HR299_0.out)|(with_reducible refine ca ?_ _)|(with_reducible refine cb ?_ _)|(with_reducible refine cc ?_)|exact HR299_0.out)) hb);have n8_:=A_ (below_step (by repeat (first|(with_reducible first|exact HB.out|apply ba|apply bb|apply bc|refine below_set ?_ GE254.out)|exact HB.out)) hb);clear HO_255000;clear HO_255001;clear HL299_0;clear HO304;clear HO308;clear HO311;clear BK254;clear HR299_0;clear HB;have HO_255000:=n0_;have HO_255001:=n1_;have HL299_0:=n2_;have HO304:=n3_;have HO308:=n4_;have HO311:=n5_;have BK254:=n6_;have HR299_0:=n7_;have HB:=n8_;clear n0_ n1_ n2_ n3_ n4_ n5_ n6_ n7_ n8_;(try clear hb);(try clear hb2);(try clear hk);(try clear hi))|(go_at_call 6;(with_reducible refine (shapesearchlaw24_awake.calls kj75  t313 _ A113.out).mono ?_);rintro e w123 ⟨rfl,hb⟩;have n0_:=A_ (Kd.N_below (by (with_reducible repeat (first|apply Kd.N_alloc|apply Kd.N_drewN|apply Kd.N_drew));exact HO_255000.out) hb);have n1_:=A_ (Kd.N_below (by (with_reducible repeat (first|apply Kd.N_alloc|apply Kd.N_drewN|apply Kd.N_drew));exact HO_255001.out) hb);have n2_:=A_ (Kd.V_below (by (with_reducible repeat (first|apply Kd.V_alloc|apply Kd.V_drewN|apply Kd.V_drew));exact HL299_0.out) hb);have n3_:=A_ (Kd.V_below (by (with_reducible repeat (first|apply Kd.V_alloc|apply Kd.V_drewN|apply Kd.V_drew));exact HO304.out) hb);have n4_:=A_ (rw_ (by (with_reducible repeat (first|apply ra|apply rb|apply rc));exact HO308.out) hb);have n5_:=A_ (rw_ (by (with_reducible repeat (first|apply ra|apply rb|apply rc));exact HO311.out) hb);have n6_:=A_ (blk_below (g:=gb254) (o:=.cells #[.slice (some ⟨go105,0,none⟩) x255000_1.length co108,.slice Ao119 x255001_1.length co119] 25 (0,0)) (by (with_reducible repeat (first|refine blk_drewN ?_ _|refine blk_drew ?_|refine blk_alloc ?_ _));exact BK254.out) hb);have n7_:=A_ (cl (by repeat (first|(with_reducible exact HR299_0.out)|(with_reducible refine ca ?_ _)|(with_reducible refine cb ?_ _)|(with_reducible refine cc ?_)|exact HR299_0.out)) hb);have n8_:=A_ (below_step (by repeat (first|(with_reducible first|exact HB.out|apply ba|apply bb|apply bc|refine below_set ?_ GE254.out)|exact HB.out)) hb);clear HO_255000;clear HO_255001;clear HL299_0;clear HO304;clear HO308;clear HO311;clear BK254;clear HR299_0;clear HB;have HO_255000:=n0_;have HO_255001:=n1_;have HL299_0:=n2_;have HO304:=n3_;have HO308:=n4_;have HO311:=n5_;have BK254:=n6_;have HR299_0:=n7_;have HB:=n8_;clear n0_ n1_ n2_ n3_ n4_ n5_ n6_ n7_ n8_;(try clear hb);(try clear hb2);(try clear hk);(try clear hi)))
             go_ret
             exact ⟨by first|rfl|(simp [errW_none,errW_some] <;> rfl)|(simp only [← hji102];first|rfl|(simp [errW_none,errW_some] <;> rfl))|(simp [*,errW_none,errW_some] <;> rfl),by repeat (first|(with_reducible first|exact HB.out|apply ba|apply bb|apply bc|refine below_set ?_ GE254.out)|exact HB.out)⟩
            ·
             replace c112:=Bool.eq_false_iff.mpr c112
             subst c112
             have H1 : (some false) = some r:=by rw [if_neg (show ¬ (false = true) by decide)] at H;exact H
             clear H
             have H:=H1
             clear H1
             exact absurd ((Option.some.inj H).trans HTR_.out) (by decide)
           ·
            rw [if_neg c104] at H
            exact absurd H (by simp)
          ·
           rw [if_neg c103] at H
           exact absurd H (by simp)
         ·
          rw [if_neg c101] at H
          exact absurd H (by simp)
        ·
         rw [if_neg c100] at H
         have c100b0 : decide (150 < a1) = false:=decide_eq_false c100
         clear c100
         obtain ⟨y314,hy314⟩ : ∃ y_ : List Int,y_ = (([9] : List Int)):=⟨_,rfl⟩
         replace H : ((zAgree.f kj75 x255000_1 x255001_1 1 y314 (([3] : List Int))).bind fun t320=>(if t320 = true then ((shapesearchlaw24_awake.f kj75).bind fun t321=>(some t321)) else (some false))) = some r:=by first|(rw [hy314];with_reducible exact H)|(have H2_:=(Option.bind_some _ _).symm.trans H;rw [hy314];with_reducible exact H2_)|(have H2_:=(Option.bind_some _ _).symm.trans H;with_reducible exact H2_)|with_reducible exact H|(rw [hy314];exact H)|exact H
         have Ny314:=A_ hy314
         clear hy314
         obtain ⟨y317,hy317⟩ : ∃ y_ : List Int,y_ = (([3] : List Int)):=⟨_,rfl⟩
         replace H : ((zAgree.f kj75 x255000_1 x255001_1 1 y314 y317).bind fun t320=>(if t320 = true then ((shapesearchlaw24_awake.f kj75).bind fun t321=>(some t321)) else (some false))) = some r:=by first|(rw [hy317];with_reducible exact H)|(have H2_:=(Option.bind_some _ _).symm.trans H;rw [hy317];with_reducible exact H2_)|(have H2_:=(Option.bind_some _ _).symm.trans H;with_reducible exact H2_)|with_reducible exact H|(rw [hy317];exact H)|exact H
         have Ny317:=A_ hy317
         clear hy317
         replace H:=Option.bind_eq_some_iff.mp H
         obtain ⟨t320,A1240,H⟩:=H
         replace H : (if t320 = true then ((shapesearchlaw24_awake.f kj75).bind fun t321=>(some t321)) else (some false)) = some r:=H
         have A124:=A_ A1240
         clear A1240
         by_cases c125 : t320 = true
         ·
          subst c125
          have H1 : ((shapesearchlaw24_awake.f kj75).bind fun t321=>(some t321)) = some r:=by rw [if_pos rfl] at H;exact H
          clear H
          have H:=H1
          clear H1
          replace H:=Option.bind_eq_some_iff.mp H
          obtain ⟨t321,A1260,H⟩:=H
          replace H : (some t321) = some r:=H
          have A126:=A_ A1260
          clear A1260
          obtain rfl:=Option.some.inj H
          have hcz127_0 : wc.cell? ⟨gb254,0,none⟩ = some (u255000):=(blk_cell BK254.out 0).trans rfl
          have hcz127_1 : wc.cell? ⟨gb254,1,none⟩ = some (u255001):=(blk_cell BK254.out 1).trans rfl
          have hfz127_0:=blk_frozen BK254.out 0
          have hfz127_1:=blk_frozen BK254.out 1
          go_wp2_with (first|((with_reducible refine gate_dst (N:=138) rfl ?_);(try (refine gate_guard (by rfl) ?_;dsimp only));refine Kd.R_lit (Kd.int .u8) _ 5 ?hg (N:=138) ?hd (xs:=([9] : List Int)) (inner:=[.int .u8 9]) (ok:=fun _=>True) (okp:=fun _=>True) ?hr ?hp (fun _ hk=>hk) trivial (Below.refl _ _) (Nat.le_refl _) (by simp) ?_;(case hd=>rfl);(case hg=>rfl);(case hr=>first|(go_simp;done)|(go_simp;rfl));(case hp=>exact (Reps.one (show Kd.M (Kd.int .u8) _ _ _ 9 [.int .u8 9] from rfl) (Reps.none _ _)));intro v315 w128 ho129 hb hg_ hnew_;clear hg_ hnew_;(first|rw [← Ny314.out] at ho129|(simp only [Int.reduceToNat] at ho129;rw [← Ny314.out] at ho129));have n0_:=A_ (Kd.N_elder' (by (with_reducible repeat (first|apply Kd.N_alloc|apply Kd.N_drewN|apply Kd.N_drew));exact HO_255000.out) (rs ho129) hb);have n1_:=A_ (Kd.N_elder' (by (with_reducible repeat (first|apply Kd.N_alloc|apply Kd.N_drewN|apply Kd.N_drew));exact HO_255001.out) (rs ho129) hb);have n2_:=A_ (Kd.R_lower ho129 (below_size (by repeat (first|(with_reducible first|exact HB.out|apply ba|apply bb|apply bc|refine below_set ?_ GE254.out)|exact HB.out))));have n3_:=A_ (blk_below (g:=gb254) (o:=.cells #[u255000,u255001] 25 (0,0)) (by (with_reducible repeat (first|refine blk_drewN ?_ _|refine blk_drew ?_|refine blk_alloc ?_ _));exact BK254.out) hb);have n4_:=A_ (below_step (by repeat (first|(with_reducible first|exact HB.out|apply ba|apply bb|apply bc|refine below_set ?_ GE254.out)|exact HB.out)) hb);clear HO_255000;clear HO_255001;clear BK254;clear HB;have HO_255000:=n0_;have HO_255001:=n1_;have HO316:=n2_;have BK254:=n3_;have HB:=n4_;clear n0_ n1_ n2_ n3_ n4_;clear hb ho129)|((with_reducible refine gate_dst (N:=139) rfl ?_);(try (refine gate_guard (by rfl) ?_;dsimp only));refine Kd.R_lit (Kd.int .i64) _ 3 ?hg (N:=139) ?hd (xs:=([3] : List Int)) (inner:=[.int .i64 3]) (ok:=fun _=>True) (okp:=fun _=>True) ?hr ?hp (fun _ hk=>hk) trivial (Below.refl _ _) (Nat.le_refl _) (by simp) ?_;(case hd=>rfl);(case hg=>rfl);(case hr=>first|(go_simp;done)|(go_simp;rfl));(case hp=>exact (Reps.one (show Kd.M (Kd.int .i64) _ _ _ 3 [.int .i64 3] from rfl) (Reps.none _ _)));intro v318 w130 ho131 hb hg_ hnew_;clear hg_ hnew_;(first|rw [← Ny317.out] at ho131|(simp only [Int.reduceToNat] at ho131;rw [← Ny317.out] at ho131));have n0_:=A_ (Kd.N_elder' (by (with_reducible repeat (first|apply Kd.N_alloc|apply Kd.N_drewN|apply Kd.N_drew));exact HO_255000.out) (rs ho131) hb);have n1_:=A_ (Kd.N_elder' (by (with_reducible repeat (first|apply Kd.N_alloc|apply Kd.N_drewN|apply Kd.N_drew));exact HO_255001.out) (rs ho131) hb);have n2_:=A_ (rw_ (by (with_reducible repeat (first|apply ra|apply rb|apply rc));exact HO316.out) hb);have n3_:=A_ (Kd.R_lower ho131 (below_size (by repeat (first|(with_reducible first|exact HB.out|apply ba|apply bb|apply bc|refine below_set ?_ GE254.out)|exact HB.out))));have n4_:=A_ (blk_below (g:=gb254) (o:=.cells #[u255000,u255001] 25 (0,0)) (by (with_reducible repeat (first|refine blk_drewN ?_ _|refine blk_drew ?_|refine blk_alloc ?_ _));exact BK254.out) hb);have n5_:=A_ (below_step (by repeat (first|(with_reducible first|exact HB.out|apply ba|apply bb|apply bc|refine below_set ?_ GE254.out)|exact HB.out)) hb);clear HO_255000;clear HO_255001;clear HO316;clear BK254;clear HB;have HO_255000:=n0_;have HO_255001:=n1_;have HO316:=n2_;have HO319:=n3_;have BK254:=n4_;have HB:=n5_;clear n0_ n1_ n2_ n3_ n4_ n5_;clear hb ho131;obtain ⟨Ao132,co132,eo132⟩:=Kd.N_slice HO_255000.out;subst eo132;obtain ⟨Ao133,co133,eo133⟩:=Kd.N_slice HO_255001.out;subst eo133;obtain ⟨Ao134,co134,eo134⟩:=Kd.R_slice HO316.out;subst eo134;obtain ⟨Ao135,co135,eo135⟩:=Kd.R_slice HO319.out;subst eo135)|((with_reducible refine gate_callee (f:=10) rfl ?_);refine goesL_ (some 140) rfl rfl Try.func10 (by kernel_rfl) rfl #[.agg #[.slice Ao132 x255000_1.length co132,.slice Ao133 x255001_1.length co133],.int .i64 1,.slice Ao134 y314.length co134,.slice Ao135 y317.length co135] rfl (by (try simp only [List.map_toArray,List.map_cons,List.map_nil]);first|done|rfl|(simp only [List.length_drop,List.length_take];rfl)|((try rw [KY109.out]);rfl)) ?_;(with_reducible refine (zAgree.calls kj75 _ _ x255000_1 _ _ x255001_1 1 _ _ y314 _ _ y317 true _ ?side1 ?side2 ?side3 ?side4 ?side5 ?side6 ?side7 ?side8 A124.out).mono ?_);(case side1=>repeat (first|exact (Kd.N_reads' HO_255000.out).2.2|(with_reducible refine ca ?_ _)|(with_reducible refine cb ?_ _)|(with_reducible refine cc ?_)));(case side2=>exact (Kd.N_reads' HO_255000.out).2.1);(case side3=>repeat (first|exact (Kd.N_reads' HO_255001.out).2.2|(with_reducible refine ca ?_ _)|(with_reducible refine cb ?_ _)|(with_reducible refine cc ?_)));(case side4=>exact (Kd.N_reads' HO_255001.out).2.1);(case side5=>repeat (first|exact (rd_ HO316.out).2.2|(with_reducible refine ca ?_ _)|(with_reducible refine cb ?_ _)|(with_reducible refine cc ?_)));(case side6=>exact (rd_ HO316.out).2.1);(case side7=>repeat (first|exact (rd_ HO319.out).2.2|(with_reducible refine ca ?_ _)|(with_reducible refine cb ?_ _)|(with_reducible refine cc ?_)));(case side8=>exact (rd_ HO319.out).2.1);rintro e w136 ⟨rfl,hb⟩;refine ⟨_,rfl,?_⟩;have n0_:=A_ (Kd.N_below (by (with_reducible repeat (first|apply Kd.N_alloc|apply Kd.N_drewN|apply Kd.N_drew));exact HO_255000.out) hb);have n1_:=A_ (Kd.N_below (by (with_reducible repeat (first|apply Kd.N_alloc|apply Kd.N_drewN|apply Kd.N_drew));exact HO_255001.out) hb);have n2_:=A_ (rw_ (by (with_reducible repeat (first|apply ra|apply rb|apply rc));exact HO316.out) hb);have n3_:=A_ (rw_ (by (with_reducible repeat (first|apply ra|apply rb|apply rc));exact HO319.out) hb);have n4_:=A_ (blk_below (g:=gb254) (o:=.cells #[.slice Ao132 x255000_1.length co132,.slice Ao133 x255001_1.length co133] 25 (0,0)) (by (with_reducible repeat (first|refine blk_drewN ?_ _|refine blk_drew ?_|refine blk_alloc ?_ _));exact BK254.out) hb);have n5_:=A_ (below_step (by repeat (first|(with_reducible first|exact HB.out|apply ba|apply bb|apply bc|refine below_set ?_ GE254.out)|exact HB.out)) hb);clear HO_255000;clear HO_255001;clear HO316;clear HO319;clear BK254;clear HB;have HO_255000:=n0_;have HO_255001:=n1_;have HO316:=n2_;have HO319:=n3_;have BK254:=n4_;have HB:=n5_;clear n0_ n1_ n2_ n3_ n4_ n5_;(try clear hb);(try clear hb2);(try clear hk);(try clear hi))|(go_at_call 6;(with_reducible refine (shapesearchlaw24_awake.calls kj75  t321 _ A126.out).mono ?_);rintro e w137 ⟨rfl,hb⟩;have n0_:=A_ (Kd.N_below (by (with_reducible repeat (first|apply Kd.N_alloc|apply Kd.N_drewN|apply Kd.N_drew));exact HO_255000.out) hb);have n1_:=A_ (Kd.N_below (by (with_reducible repeat (first|apply Kd.N_alloc|apply Kd.N_drewN|apply Kd.N_drew));exact HO_255001.out) hb);have n2_:=A_ (rw_ (by (with_reducible repeat (first|apply ra|apply rb|apply rc));exact HO316.out) hb);have n3_:=A_ (rw_ (by (with_reducible repeat (first|apply ra|apply rb|apply rc));exact HO319.out) hb);have n4_:=A_ (blk_below (g:=gb254) (o:=.cells #[.slice Ao132 x255000_1.length co132,.slice Ao133 x255001_1.length co133] 25 (0,0)) (by (with_reducible repeat (first|refine blk_drewN ?_ _|refine blk_drew ?_|refine blk_alloc ?_ _));exact BK254.out) hb);have n5_:=A_ (below_step (by repeat (first|(with_reducible first|exact HB.out|apply ba|apply bb|apply bc|refine below_set ?_ GE254.out)|exact HB.out)) hb);clear HO_255000;clear HO_255001;clear HO316;clear HO319;clear BK254;clear HB;have HO_255000:=n0_;have HO_255001:=n1_;have HO316:=n2_;have HO319:=n3_;have BK254:=n4_;have HB:=n5_;clear n0_ n1_ n2_ n3_ n4_ n5_;(try clear hb);(try clear hb2);(try clear hk);(try clear hi)))
          go_ret
          exact ⟨by first|rfl|(simp [errW_none,errW_some] <;> rfl)|(simp [*,errW_none,errW_some] <;> rfl),by repeat (first|(with_reducible first|exact HB.out|apply ba|apply bb|apply bc|refine below_set ?_ GE254.out)|exact HB.out)⟩
         ·
          replace c125:=Bool.eq_false_iff.mpr c125
          subst c125
          have H1 : (some false) = some r:=by rw [if_neg (show ¬ (false = true) by decide)] at H;exact H
          clear H
          have H:=H1
          clear H1
          exact absurd ((Option.some.inj H).trans HTR_.out) (by decide)

/-- THE ONE PURE STATEMENT of shapesearchlaw24_DeviceSteps: yours. -/
def shapesearchlaw24_DeviceSteps.Pure : Prop:=∀ (l0 : List Int) (a1 : Int),l0.length ≤ maxLen → l0.length * 2 ≤ 140737488351232 → (∀ x ∈ l0,(Lit.int .u16 x).wf = true) → (Lit.int .u8 a1).wf = true → ∃ k,shapesearchlaw24_DeviceSteps.f k l0 a1 = some true
theorem shapesearchlaw24_DeviceSteps.walk (P : shapesearchlaw24_DeviceSteps.Pure) (a0 : Option Addr) (len0 cap0 : Nat) (z0 : List Int) (a1 : Int) (w : World) (w0 : (a0 = none∧len0 = 0∧cap0 = 0∧z0 = []) ∨ ∃ x,a0 = some x∧len0 ≤ cap0∧cap0 ≤ maxLen∧z0.length = cap0∧(∀ i,i < z0.length → w.cell? (x.add i) = some (.int .u16 (z0.getD i 0)))∧∀ n ∈ z0,(Lit.int .u16 n).wf = true) (y0 : len0 * 2 ≤ 140737488351232) (w1 : (Lit.int .u8 a1).wf = true) :
  Calls Try.prog 4 #[.slice a0 len0 cap0,.int .u8 a1] w fun e w'=>e = .returned (.bool true)∧Below w.heap.size w w':=by
 obtain ⟨l0,rfl,hr0,hm0,hw0,hc0⟩:=ReadsInt.ofRowC w0
 obtain ⟨k,h⟩:=P l0 a1 hm0 y0 hw0 w1
 refine (shapesearchlaw24_DeviceSteps.calls k _ _ l0 a1 true w (Kd.C_of_reads (d:=(0 : Int)) (h1:=fun _=>rfl) hr0) hc0 h rfl).mono ?_
 rintro e w' ⟨rfl,hd⟩
 exact ⟨rfl,hd⟩

end Go.Proofs.Ythpiafbloebpjaa.PDeviceSteps
