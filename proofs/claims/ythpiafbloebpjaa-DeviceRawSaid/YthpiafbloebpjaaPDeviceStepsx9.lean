/- This file proves, function by function, what the Go functions that one law uses compute; most of it was printed by a program (wip/tools of this session, over the kit's print). -/
import Derived.Test.YthpiafbloebpjaaPDeviceStepsx0
import Derived.Test.YthpiafbloebpjaaPDeviceStepsx2
import Derived.Test.YthpiafbloebpjaaPDeviceStepsx3
import Derived.Test.YthpiafbloebpjaaPDeviceStepsx4
import Derived.Test.YthpiafbloebpjaaPDeviceStepsx7
namespace Go.Proofs.Ythpiafbloebpjaa.PDeviceSteps
open Go.RowKit Go.Proofs.YthpiafbloebpjaaW.PrintWords Go.Proofs.YthpiafbloebpjaaW.PrintLast Go.Proofs.YthpiafbloebpjaaW.PrintMore
attribute [local go_sem] max2_int min2_int max_two min_two max_three min_three max_four min_four   -- for this text's walks alone
set_option linter.unusedVariables false
set_option linter.unusedSimpArgs false

/-! ### device_Flush: function 15 -/
def device_Flush.f (k : Nat) (l0_0 : List (List Int)) (l0_1 : List (S42)) : Option ((List (List Int)) × (List (S42)) × Int):=(device_copied.f k l0_0 l0_1).bind fun t=>(device_Valid.f k l0_0 l0_1).bind fun v=>if v = true then (if fit t.1 t.2 = true then some (carr (fun _=>64) t.2 t.1 t.2.length,[],0) else none) else some (t.1,t.2,23)
theorem device_Flush.mono : ∀ a0 a1 k,LeO (device_Flush.f k a0 a1) (device_Flush.f (k + 1) a0 a1):=by
 intro a0 a1 k
 unfold device_Flush.f
 exact LeO.bind (device_copied.mono _ _ _) (fun _=>LeO.bind (device_Valid.mono _ _ _) (fun _=>LeO.refl _))
set_option maxHeartbeats 8000000 in
set_option maxRecDepth 100000 in
theorem flush_ok (A0_0 : Option Addr) (c0_0 n0 : Nat) (A0_1 : Option Addr) (c0_1 n1 : Nat) (r1 : List (List Int)) (r2 : List (S42)) (r3 : Int) (w : World)
  (h : Aside0 (∀ W,Below w.heap.size w W → Calls Try.prog 25 #[.agg #[.slice A0_0 n0 c0_0,.slice A0_1 n1 c0_1],.func (.func 26) #[] #[]] W fun e w'=>∃ v0_ v1_ : Value,e = .returned (.tuple #[.agg #[v0_,v1_],.int .i64 r3])∧Kd.S (Kd.slice 5 (Kd.int .u8)) 26 w' W.heap.size (fun _=>True) v0_ r1∧Kd.S k42 42 w' W.heap.size (fun _=>True) v1_ r2∧Below W.heap.size W w')) :
  Calls Try.prog 15 #[.agg #[.slice A0_0 n0 c0_0,.slice A0_1 n1 c0_1]] w fun e w'=>∃ v0_ v1_ : Value,e = .returned (.tuple #[.agg #[v0_,v1_],.int .i64 r3])∧Kd.S (Kd.slice 5 (Kd.int .u8)) 26 w' w.heap.size (fun _=>True) v0_ r1∧Kd.S k42 42 w' w.heap.size (fun _=>True) v1_ r2∧Below w.heap.size w w':=by
 go_enter Try.func15,Try.ntmps15
 go_upto_region 1 with (fail)
 have HB0:=A_ (show Below w.heap.size w ((w.alloc (.cells #[.slice A0_0 n0 c0_0,.slice A0_1 n1 c0_1] 25)).alloc (.cells #[.slice none 0 0,.slice none 0 0] 25)) from ((Below.refl w.heap.size w).alloc (Nat.le_refl _) _).alloc (by simp) _)
 have HK2:=A_ (show ((w.alloc (.cells #[.slice A0_0 n0 c0_0,.slice A0_1 n1 c0_1] 25)).alloc (.cells #[.slice none 0 0,.slice none 0 0] 25)).heap[w.heap.size]? = some (.cells #[.slice A0_0 n0 c0_0,.slice A0_1 n1 c0_1] 25 (0,0)) from blk_alloc (heap_alloc_new w _) _)
 have HK4:=A_ (show ((w.alloc (.cells #[.slice A0_0 n0 c0_0,.slice A0_1 n1 c0_1] 25)).alloc (.cells #[.slice none 0 0,.slice none 0 0] 25)).heap[w.heap.size + 1]? = some (.cells #[.slice none 0 0,.slice none 0 0] 25 (0,0)) from by
  have:=heap_alloc_new (w.alloc (.cells #[.slice A0_0 n0 c0_0,.slice A0_1 n1 c0_1] 25)) (.cells #[.slice none 0 0,.slice none 0 0] 25)
  rwa [World.size_alloc] at this)
 generalize ((w.alloc (.cells #[.slice A0_0 n0 c0_0,.slice A0_1 n1 c0_1] 25)).alloc (.cells #[.slice none 0 0,.slice none 0 0] 25)) = W0 at HB0 HK2 HK4 ⊢
 obtain ⟨g4,hg4⟩ : ∃ g4,g4 = w.heap.size + 1:=⟨_,rfl⟩
 have hgl : w.heap.size ≤ g4:=by omega
 rw [← hg4] at HK4 ⊢
 clear hg4
 have k0 : W0.cell? ⟨w.heap.size,0,none⟩ = some (.slice A0_0 n0 c0_0):=(blk_cell HK2.out 0).trans rfl
 have k1 : W0.cell? ⟨w.heap.size,1,none⟩ = some (.slice A0_1 n1 c0_1):=(blk_cell HK2.out 1).trans rfl
 go_wp2_with fail
 go_at_call 25
 refine (h.out _ HB0.out).mono ?_
 rintro e w1 ⟨v0_,v1_,rfl,hp,hq,hb1⟩
 obtain ⟨Ap,cp,rfl⟩:=Kd.S_slice hp
 obtain ⟨Aq,cq,rfl⟩:=Kd.S_slice hq
 have HB1:=A_ (below_step HB0.out hb1)
 have HK5:=A_ (blk_below HK4.out hb1)
 have HP1:=A_ (Kd.S_lower hp HB0.out.size)
 have HQ1:=A_ (Kd.S_lower hq HB0.out.size)
 have HGL:=A_ hgl
 clear hb1 hp hq k0 k1 HK2 HK4 HB0 hgl
 have z0 : w1.cell? ⟨g4,0,none⟩ = some (.slice none 0 0):=(blk_cell HK5.out 0).trans rfl
 have z1 : w1.cell? ⟨g4,1,none⟩ = some (.slice none 0 0):=(blk_cell HK5.out 1).trans rfl
 have y0 : w1.frozen? ⟨g4,0,none⟩ = false:=blk_frozen HK5.out 0
 have y1 : w1.frozen? ⟨g4,1,none⟩ = false:=blk_frozen HK5.out 1
 go_wp2_with fail
 have e1:=blk_set (blk_set HK5.out 0 (.slice Ap r1.length cp)) 1 (.slice Aq r2.length cq)
 exact bodyPost_ret (results_ct rfl _ _ g4 25 _ (0,0) _ rfl e1 Try.underlying25 rfl (by kernel_rfl)) rfl ⟨_,_,rfl,Kd.S_set (Kd.S_set HP1.out HK5.out (by decide) 0 _) (blk_set HK5.out 0 _) (by decide) 1 _,Kd.S_set (Kd.S_set HQ1.out HK5.out (by decide) 0 _) (blk_set HK5.out 0 _) (by decide) 1 _,(HB1.out.setCell HGL.out _).setCell HGL.out _⟩
theorem device_Flush.calls (k : Nat) (A0_0 : Option Addr) (c0_0 : Nat) (l0_0 : List (List Int)) (A0_1 : Option Addr) (c0_1 : Nat) (l0_1 : List (S42)) (r1 : List (List Int)) (r2 : List (S42)) (r3 : Int) (w : World) (hr0_0 : Kd.C (Kd.slice 5 (Kd.int .u8)) w A0_0 l0_0.length l0_0) (hc0_0 : l0_0.length ≤ c0_0) (hr0_1 : Kd.C k42 w A0_1 l0_1.length l0_1) (hc0_1 : l0_1.length ≤ c0_1) (h : device_Flush.f k l0_0 l0_1 = some (r1,r2,r3)) :
  Calls Try.prog 15 #[.agg #[.slice A0_0 l0_0.length c0_0,.slice A0_1 l0_1.length c0_1]] w fun e w'=>∃ v0_ v1_ : Value,e = .returned (.tuple #[.agg #[v0_,v1_],.int .i64 r3])∧Kd.S (Kd.slice 5 (Kd.int .u8)) 26 w' w.heap.size (fun _=>True) v0_ r1∧Kd.S k42 42 w' w.heap.size (fun _=>True) v1_ r2∧Below w.heap.size w w':=by
 obtain ⟨⟨P,Q⟩,ht,h⟩:=Option.bind_eq_some_iff.mp h
 obtain ⟨v,hv,h⟩:=Option.bind_eq_some_iff.mp h
 refine flush_ok A0_0 c0_0 l0_0.length A0_1 c0_1 l0_1.length r1 r2 r3 w ⟨fun W hb=>?_⟩
 have e0:=cl hr0_0 hb
 have e1:=cl hr0_1 hb
 cases v with
 | false =>
  replace h : some (P,Q,(23 : Int)) = some (r1,r2,r3):=h
  cases h
  exact carried_no k A0_0 c0_0 l0_0 A0_1 c0_1 l0_1 r1 r2 _ W e0 hc0_0 e1 hc0_1 ht hv
 | true =>
  replace h : (if fit P Q = true then some (carr (fun _=>64) Q P Q.length,[],(0 : Int)) else none) = some (r1,r2,r3):=h
  by_cases hf : fit P Q = true
  ·
   rw [if_pos hf] at h
   cases h
   obtain ⟨f1,f2,f3⟩:=fit_is hf
   exact (carried_yes (fun _=>64) k A0_0 c0_0 l0_0 A0_1 c0_1 l0_1 P Q W e0 hc0_0 e1 hc0_1 ht hv f1 f2 f3 (fun _=>by decide) ⟨fun i W1 _ _=>XD.flush1_calls (i : Int) W1⟩).mono fun e w' ⟨v0,z1,z2,z3⟩=>⟨v0,_,z1,z2,Kd.S_nil _ _ _ _ _,z3⟩
  ·
   rw [if_neg hf] at h
   cases h

/-! ### shapesearchref24_Read: function 18 -/
mutual
def shapesearchref24_Read.j0 : Nat → Int → Bool → List (List Int) → List (S42) → Option (List Int × Int)
 | 0,_,_,_,_=>none
 | k + 1,x1,x19,x236000,x236001=>if x19 = true then (some (([] : List Int),22)) else (if 0 ≤ x1 then (if x1 < (x236000.length : Int) then (shapesearchref24_Read.l0 k x1 (rd_L1 x236000 x1) 0 x236000 x236001) else (none)) else (none))
def shapesearchref24_Read.l0 : Nat → Int → List Int → Int → List (List Int) → List (S42) → Option (List Int × Int)
 | 0,_,_,_,_,_=>none
 | k + 1,x1,x6,x7,x236000,x236001=>if x7 < (x236001.length : Int) then (if 0 ≤ x7 then (if ((rd_T42 x236001 x7).f0) = x1 then (shapesearchref24_Read.l0 k x1 ((rd_T42 x236001 x7).f1) (wrap64 (x7 + 1)) x236000 x236001) else (shapesearchref24_Read.l0 k x1 x6 (wrap64 (x7 + 1)) x236000 x236001)) else (none)) else ((some (([] : List Int) : List Int)).bind fun y240=>(if y240.length + x6.length < 140737488355328 then (some ((y240 ++ x6),0)) else (none)))
end
def shapesearchref24_Read.f (k : Nat) (l0_0 : List (List Int)) (l0_1 : List (S42)) (a1 : Int) : Option (List Int × Int):=(shapesearchref24_Valid.f k l0_0 l0_1).bind fun t236=>(if t236 = true then (if a1 < 0 then (shapesearchref24_Read.j0 k a1 true l0_0 l0_1) else (shapesearchref24_Read.j0 k a1 (decide (a1 ≥ (l0_0.length : Int))) l0_0 l0_1)) else (some (([] : List Int),23)))
theorem shapesearchref24_Read.mono_l : ∀ k,(∀ y0 y1 y2 y3,LeO (shapesearchref24_Read.j0 k y0 y1 y2 y3) (shapesearchref24_Read.j0 (k + 1) y0 y1 y2 y3))∧(∀ y0 y1 y2 y3 y4,LeO (shapesearchref24_Read.l0 k y0 y1 y2 y3 y4) (shapesearchref24_Read.l0 (k + 1) y0 y1 y2 y3 y4))
 | 0=>⟨fun _ _ _ _ r h=>by simp [shapesearchref24_Read.j0] at h,fun _ _ _ _ _ r h=>by simp [shapesearchref24_Read.l0] at h⟩
 | k + 1=>by
  obtain ⟨ih0,ih1⟩:=shapesearchref24_Read.mono_l k
  refine ⟨?_,?_⟩
  ·
   intro y0 y1 y2 y3
   unfold shapesearchref24_Read.j0
   repeat' first
   | (with_reducible exact ih0 _ _ _ _)
   | (with_reducible exact ih1 _ _ _ _ _)
   | (with_reducible exact shapesearchref24_Valid.mono _ _ _)
   | (with_reducible exact LeO.refl _)
   | (with_reducible exact LeO.none _)
   | (with_reducible refine LeO.ite ?_ ?_)
   | (with_reducible refine LeO.bind ?_ (fun _=>?_))
   | exact ih0 _ _ _ _
   | exact ih1 _ _ _ _ _
   | exact shapesearchref24_Valid.mono _ _ _
   | exact LeO.none _
   | refine LeO.ite ?_ ?_
   | refine LeO.bind ?_ (fun _=>?_)
  ·
   intro y0 y1 y2 y3 y4
   unfold shapesearchref24_Read.l0
   repeat' first
   | (with_reducible exact ih0 _ _ _ _)
   | (with_reducible exact ih1 _ _ _ _ _)
   | (with_reducible exact shapesearchref24_Valid.mono _ _ _)
   | (with_reducible exact LeO.refl _)
   | (with_reducible exact LeO.none _)
   | (with_reducible refine LeO.ite ?_ ?_)
   | (with_reducible refine LeO.bind ?_ (fun _=>?_))
   | exact ih0 _ _ _ _
   | exact ih1 _ _ _ _ _
   | exact shapesearchref24_Valid.mono _ _ _
   | exact LeO.none _
   | refine LeO.ite ?_ ?_
   | refine LeO.bind ?_ (fun _=>?_)
theorem shapesearchref24_Read.mono : ∀ a0 a1 a2 k,LeO (shapesearchref24_Read.f k a0 a1 a2) (shapesearchref24_Read.f (k + 1) a0 a1 a2):=by
 intro a0 a1 a2 k
 obtain ⟨ih0,ih1⟩:=shapesearchref24_Read.mono_l k
 unfold shapesearchref24_Read.f
 repeat' first
   | (with_reducible exact ih0 _ _ _ _)
   | (with_reducible exact ih1 _ _ _ _ _)
   | (with_reducible exact shapesearchref24_Valid.mono _ _ _)
   | (with_reducible exact LeO.refl _)
   | (with_reducible exact LeO.none _)
   | (with_reducible refine LeO.ite ?_ ?_)
   | (with_reducible refine LeO.bind ?_ (fun _=>?_))
   | exact ih0 _ _ _ _
   | exact ih1 _ _ _ _ _
   | exact shapesearchref24_Valid.mono _ _ _
   | exact LeO.none _
   | refine LeO.ite ?_ ?_
   | refine LeO.bind ?_ (fun _=>?_)
set_option maxHeartbeats 8000000 in
set_option maxRecDepth 100000 in
theorem shapesearchref24_Read.calls (k : Nat) (P0_0_ : Nat → Prop) (A0_0 : Option Addr) (c0_0 : Nat) (l0_0 : List (List Int)) (P0_1_ : Nat → Prop) (A0_1 : Option Addr) (c0_1 : Nat) (l0_1 : List (S42)) (a1 : Int) (r1 : List Int) (r2 : Int) (w : World) (hs0_0 : Kd.V (Kd.slice 5 (Kd.int .u8)) 26 w w.heap.size (fun k_=>P0_0_ k_) (.slice A0_0 l0_0.length c0_0) l0_0) (hs0_1 : Kd.V k42 42 w w.heap.size (fun k_=>P0_1_ k_) (.slice A0_1 l0_1.length c0_1) l0_1) (h : shapesearchref24_Read.f k l0_0 l0_1 a1 = some (r1,r2)) :
  Calls Try.prog 18 #[.agg #[.slice A0_0 l0_0.length c0_0,.slice A0_1 l0_1.length c0_1],.int .i64 a1] w fun e w'=>∃ v0_ : Value,e = .returned (.tuple #[v0_,.int .i64 r2])∧Kd.R (Kd.int .u8) 5 w' w.heap.size (fun k_=>(w.heap.size ≤ k_)) v0_ r1∧Below w.heap.size w w':=by
 have hu25:=Try.underlying25
 have HO0_0:=A_ (show Kd.V (Kd.slice 5 (Kd.int .u8)) 26 w w.heap.size (fun k_=>((P0_0_ k_ ∨ P0_1_ k_) ∨ w.heap.size ≤ k_)) (.slice A0_0 l0_0.length c0_0) l0_0 from Kd.V_mono hs0_0 (fun k_ hk=>.inl (.inl hk)))
 have HO0_1:=A_ (show Kd.V k42 42 w w.heap.size (fun k_=>((P0_0_ k_ ∨ P0_1_ k_) ∨ w.heap.size ≤ k_)) (.slice A0_1 l0_1.length c0_1) l0_1 from Kd.V_mono hs0_1 (fun k_ hk=>.inl (.inr hk)))
 have HB:=A_ (Below.refl w.heap.size w)
 have H : ((shapesearchref24_Valid.f k l0_0 l0_1).bind fun t236=>(if t236 = true then (if a1 < 0 then (shapesearchref24_Read.j0 k a1 true l0_0 l0_1) else (shapesearchref24_Read.j0 k a1 (decide (a1 ≥ (l0_0.length : Int))) l0_0 l0_1)) else (some (([] : List Int),23)))) = some (r1,r2):=h
 clear h
 replace H:=Option.bind_eq_some_iff.mp H
 obtain ⟨t236,A30,H⟩:=H
 replace H : (if t236 = true then (if a1 < 0 then (shapesearchref24_Read.j0 k a1 true l0_0 l0_1) else (shapesearchref24_Read.j0 k a1 (decide (a1 ≥ (l0_0.length : Int))) l0_0 l0_1)) else (some (([] : List Int),23))) = some (r1,r2):=H
 have A3:=A_ A30
 clear A30
 by_cases c4 : t236 = true
 ·
  subst c4
  have H1 : (if a1 < 0 then (shapesearchref24_Read.j0 k a1 true l0_0 l0_1) else (shapesearchref24_Read.j0 k a1 (decide (a1 ≥ (l0_0.length : Int))) l0_0 l0_1)) = some (r1,r2):=by rw [if_pos rfl] at H;exact H
  clear H
  have H:=H1
  clear H1
  have HC5:=A_ H
  clear H
  go_enter Try.func18,Try.ntmps18
  go_upto_region 3 with (first|((with_reducible refine gate_dst (N:=2) rfl ?_);(try (refine gate_guard (by rfl) ?_;dsimp only));refine box_event ?hg (N:=2) ?hd (cs:=#[.slice A0_0 l0_0.length c0_0,.slice A0_1 l0_1.length c0_1]) (t:=25) ?hr ?_;(case hd=>rfl);(case hg=>rfl);(case hr=>first|(go_simp;done)|(go_simp;rfl));intro gb235 hg w6 hbox hb;have n0_:=A_ (Kd.V_below (Kd.V_elderB (by (with_reducible repeat (first|apply Kd.V_alloc|apply Kd.V_drewN|apply Kd.V_drew));exact HO0_0.out) gb235 (Nat.le_of_eq hg.symm)) hb);have n1_:=A_ (Kd.V_below (Kd.V_elderB (by (with_reducible repeat (first|apply Kd.V_alloc|apply Kd.V_drewN|apply Kd.V_drew));exact HO0_1.out) gb235 (Nat.le_of_eq hg.symm)) hb);have n2_:=A_ (below_step (by repeat (first|(with_reducible first|exact HB.out|apply ba|apply bb|apply bc)|exact HB.out)) hb);have n3_:=A_ (hbox);have n4_:=A_ ((by rw [hg];exact (below_size (by repeat (first|(with_reducible first|exact HB.out|apply ba|apply bb|apply bc)|exact HB.out))) : w.heap.size ≤ gb235));have n5_:=A_ ((by rw [hg];exact (below_size (by repeat (first|(with_reducible first|exact HB.out|apply ba|apply bb|apply bc)|exact HB.out))) : w.heap.size ≤ gb235));clear HO0_0;clear HO0_1;clear HB;have HO0_0:=n0_;have HO0_1:=n1_;have HB:=n2_;have BK235:=n3_;have GW235:=n4_;have GE235:=n5_;clear n0_ n1_ n2_ n3_ n4_ n5_;clear hb hbox hg;have hcz7_0 : w6.cell? ⟨gb235,0,none⟩ = some (.slice A0_0 l0_0.length c0_0):=(blk_cell BK235.out 0).trans rfl;have hcz7_1 : w6.cell? ⟨gb235,1,none⟩ = some (.slice A0_1 l0_1.length c0_1):=(blk_cell BK235.out 1).trans rfl;have hfz7_0:=blk_frozen BK235.out 0;have hfz7_1:=blk_frozen BK235.out 1)|((with_reducible refine gate_callee (f:=20) rfl ?_);refine goesL_ (some 9) rfl rfl Try.func20 (by kernel_rfl) rfl #[.agg #[.slice A0_0 l0_0.length c0_0,.slice A0_1 l0_1.length c0_1]] rfl (by (try simp only [List.map_toArray,List.map_cons,List.map_nil]);first|done|rfl|(simp only [List.length_drop,List.length_take];rfl)) ?_;(with_reducible refine (shapesearchref24_Valid.calls k _ _ l0_0 _ _ l0_1 true _ ?side1 ?side2 ?side3 ?side4 A3.out).mono ?_);(case side1=>repeat (first|exact (Kd.V_reads' HO0_0.out).2.2|(with_reducible refine ca ?_ _)|(with_reducible refine cb ?_ _)|(with_reducible refine cc ?_)));(case side2=>exact (Kd.V_reads' HO0_0.out).2.1);(case side3=>repeat (first|exact (Kd.V_reads' HO0_1.out).2.2|(with_reducible refine ca ?_ _)|(with_reducible refine cb ?_ _)|(with_reducible refine cc ?_)));(case side4=>exact (Kd.V_reads' HO0_1.out).2.1);rintro e w8 ⟨rfl,hb⟩;refine ⟨_,rfl,?_⟩;have n0_:=A_ (Kd.V_below (by (with_reducible repeat (first|apply Kd.V_alloc|apply Kd.V_drewN|apply Kd.V_drew));exact HO0_0.out) hb);have n1_:=A_ (Kd.V_below (by (with_reducible repeat (first|apply Kd.V_alloc|apply Kd.V_drewN|apply Kd.V_drew));exact HO0_1.out) hb);have n2_:=A_ (blk_below (g:=gb235) (o:=.cells #[.slice A0_0 l0_0.length c0_0,.slice A0_1 l0_1.length c0_1] 25 (0,0)) (by (with_reducible repeat (first|refine blk_drewN ?_ _|refine blk_drew ?_|refine blk_alloc ?_ _));exact BK235.out) hb);have n3_:=A_ (below_step (by repeat (first|(with_reducible first|exact HB.out|apply ba|apply bb|apply bc|refine below_set ?_ GE235.out)|exact HB.out)) hb);clear HO0_0;clear HO0_1;clear BK235;clear HB;have HO0_0:=n0_;have HO0_1:=n1_;have BK235:=n2_;have HB:=n3_;clear n0_ n1_ n2_ n3_;(try clear hb);(try clear hb2);(try clear hk);(try clear hi)))
  (try simp only [Act.put,List.setIfInBounds_toArray,List.set_cons_zero,List.set_cons_succ])
  go_cut [19] (fun v19 wc=>∃ (kq : Nat) (x19_4 : Bool),v19 = .bool x19_4∧Aside0 (shapesearchref24_Read.j0 kq a1 x19_4 l0_0 l0_1 = some (r1,r2))∧Aside0 (kq ≤ k)∧Aside0 (Kd.V (Kd.slice 5 (Kd.int .u8)) 26 wc w.heap.size (fun k_=>((P0_0_ k_ ∨ P0_1_ k_) ∨ w.heap.size ≤ k_)∧k_≠gb235) (.slice A0_0 l0_0.length c0_0) l0_0)∧Aside0 (Kd.V k42 42 wc w.heap.size (fun k_=>((P0_0_ k_ ∨ P0_1_ k_) ∨ w.heap.size ≤ k_)∧k_≠gb235) (.slice A0_1 l0_1.length c0_1) l0_1)∧Aside0 (wc.heap[gb235]? = some (.cells #[(.slice A0_0 l0_0.length c0_0),(.slice A0_1 l0_1.length c0_1)] 25 (0,0)))∧Aside0 (Below w.heap.size w wc))
  case first =>
   have H:=HC5.out
   clear HC5
   by_cases c9 : a1 < 0
   ·
    rw [if_pos c9] at H
    have c9b0 : decide (a1 < 0) = true:=decide_eq_true c9
    clear c9
    (first|rw [c9b0]|(simp only [i64_w,i32_w];rw [c9b0])|skip)
    have H':=A_ H
    clear H
    go_wp2
    go_meet
    case rel=>exact ⟨_,(true),(by first|rfl|(simp;done)|(simp [*];done)),H',⟨by first|omega|exact Nat.le_refl _⟩,⟨by (with_reducible repeat (first|apply Kd.V_alloc|apply Kd.V_drewN|apply Kd.V_drew));exact HO0_0.out⟩,⟨by (with_reducible repeat (first|apply Kd.V_alloc|apply Kd.V_drewN|apply Kd.V_drew));exact HO0_1.out⟩,⟨by (with_reducible repeat (first|refine blk_drewN ?_ _|refine blk_drew ?_|refine blk_alloc ?_ _));exact BK235.out⟩,⟨by repeat (first|(with_reducible first|exact HB.out|apply ba|apply bb|apply bc|refine below_set ?_ GE235.out)|exact HB.out)⟩⟩
   ·
    rw [if_neg c9] at H
    have c9b0 : decide (a1 < 0) = false:=decide_eq_false c9
    clear c9
    (first|rw [c9b0]|(simp only [i64_w,i32_w];rw [c9b0])|skip)
    have H':=A_ H
    clear H
    have hcz10_0 : w8.cell? ⟨gb235,0,none⟩ = some (.slice A0_0 l0_0.length c0_0):=(blk_cell BK235.out 0).trans rfl
    have hcz10_1 : w8.cell? ⟨gb235,1,none⟩ = some (.slice A0_1 l0_1.length c0_1):=(blk_cell BK235.out 1).trans rfl
    have hfz10_0:=blk_frozen BK235.out 0
    have hfz10_1:=blk_frozen BK235.out 1
    go_wp2
    go_meet
    case rel=>exact ⟨_,(decide (a1 ≥ (l0_0.length : Int))),(by first|rfl|(simp;done)|(simp [*];done)),H',⟨by first|omega|exact Nat.le_refl _⟩,⟨by (with_reducible repeat (first|apply Kd.V_alloc|apply Kd.V_drewN|apply Kd.V_drew));exact HO0_0.out⟩,⟨by (with_reducible repeat (first|apply Kd.V_alloc|apply Kd.V_drewN|apply Kd.V_drew));exact HO0_1.out⟩,⟨by (with_reducible repeat (first|refine blk_drewN ?_ _|refine blk_drew ?_|refine blk_alloc ?_ _));exact BK235.out⟩,⟨by repeat (first|(with_reducible first|exact HB.out|apply ba|apply bb|apply bc|refine below_set ?_ GE235.out)|exact HB.out)⟩⟩
  case rest =>
   clear HC5
   try clear c1
   try clear c2
   try clear p2
   try clear c4
   try clear c9
   try clear c9b0
   try clear hcz10_0
   try clear hcz10_1
   try clear hcz7_0
   try clear hcz7_1
   try clear hfz10_0
   try clear hfz10_1
   try clear hfz7_0
   try clear hfz7_1
   obtain ⟨kq,x19_4,rfl,HA,HJ4,HO_236000,HO_236001,BK235,HB⟩:=hcut
   cases kq with
   | zero=>exact absurd HA.out (by simp [shapesearchref24_Read.j0])
   | succ kj4 =>
    have H:=HA.out
    clear HA
    simp only [shapesearchref24_Read.j0] at H
    by_cases c11 : x19_4 = true
    ·
     subst c11
     have H1 : (some (([] : List Int),22)) = some (r1,r2):=by rw [if_pos rfl] at H;exact H
     clear H
     have H:=H1
     clear H1
     simp only [Option.some.injEq,Prod.mk.injEq] at H
     obtain ⟨rfl,rfl⟩:=H
     go_wp2
     go_ret2
     exact ⟨_,by first|rfl|(simp [errW_none,errW_some] <;> rfl)|(simp [*,errW_none,errW_some] <;> rfl),by first|exact Kd.R_nil _ _ _ _ _|exact Kd.N_nil _ _ _ _ _|exact Kd.V_nil _ _ _ _ _|exact Kd.Q_nil _ _ _ _ _|exact Kd.S_nil _ _ _ _ _,by repeat (first|(with_reducible first|exact HB.out|apply ba|apply bb|apply bc|refine below_set ?_ GE235.out)|exact HB.out)⟩
    ·
     replace c11:=Bool.eq_false_iff.mpr c11
     subst c11
     have H1 : (if 0 ≤ a1 then (if a1 < (l0_0.length : Int) then (shapesearchref24_Read.l0 kj4 a1 (rd_L1 l0_0 a1) 0 l0_0 l0_1) else (none)) else (none)) = some (r1,r2):=by rw [if_neg (show ¬ (false = true) by decide)] at H;exact H
     clear H
     have H:=H1
     clear H1
     by_cases c12 : 0 ≤ a1
     ·
      rw [if_pos c12] at H
      have c12b0 : decide (0 ≤ a1) = true:=decide_eq_true c12
      clear c12
      by_cases c13 : a1 < (l0_0.length : Int)
      ·
       rw [if_pos c13] at H
       have c13b0 : decide (a1 < (l0_0.length : Int)) = true:=decide_eq_true c13
       clear c13
       have H':=A_ H
       clear H
       have hcz14_0 : wc.cell? ⟨gb235,0,none⟩ = some (.slice A0_0 l0_0.length c0_0):=(blk_cell BK235.out 0).trans rfl
       have hcz14_1 : wc.cell? ⟨gb235,1,none⟩ = some (.slice A0_1 l0_1.length c0_1):=(blk_cell BK235.out 1).trans rfl
       have hfz14_0:=blk_frozen BK235.out 0
       have hfz14_1:=blk_frozen BK235.out 1
       have p237 : 0 ≤ (a1 : Int):=of_decide_eq_true (by first|(with_reducible assumption)|assumption)
       have q237 : a1 < (l0_0.length : Int):=of_decide_eq_true (by first|(with_reducible assumption)|assumption)
       obtain ⟨ad237,A237_0,c237_0,e237,hx237_0,hl237_0,hi237_0⟩:=at_L1 (Kd.V_reads' HO_236000.out).2.2 a1 p237 q237
       cases e237
       obtain ⟨ce237,hce237,hMe237,hcc237⟩:=Kd.V_get HO_236000.out [] a1 p237 (by first|exact q237|exact of_decide_eq_true (by first|(with_reducible assumption)|assumption)|(have e_:=(Kd.V_reads' HO_236000.out).1;omega))
       obtain ⟨ua237_0,uc237_0,rfl,ul237_0,ge237_0⟩:=Kd.FK_slice_open hMe237
       have hv237_0:=hcc237 0 _ rfl
       rw [Nat.add_zero,show ((Kd.slice 5 (Kd.int .u8))).sz = 1 from rfl,Nat.mul_one] at hv237_0
       replace hv237_0:=Option.some.inj (hv237_0.symm.trans hx237_0)
       injection hv237_0 with hva_ hvn_ hvc_
       rw [hva_] at ge237_0
       rw [hvc_] at ul237_0
       have HL237_0:=A_ (show Kd.V (Kd.int .u8) 5 _ w.heap.size _ _ (rd_L1 l0_0 a1) from Kd.V_mk ul237_0 ge237_0)
       clear hva_ hvn_ hvc_ ge237_0 ul237_0
       clear hcc237 hce237
       have HR237_0:=A_ hi237_0
       have HC237_0:=A_ hl237_0
       clear hi237_0 hl237_0
       replace p237:=eq_true p237
       replace q237:=eq_true q237
       go_wp2
       go_loopg [6,7] kj4 (fun kq v6 v7 w'=>∃ (x6_2 : List Int) (x7_2 : Int),v7 = .int .i64 x7_2∧Aside0 (shapesearchref24_Read.l0 kq a1 x6_2 x7_2 l0_0 l0_1 = some (r1,r2))∧Aside0 (kq ≤ kj4)∧Aside0 (Kd.V (Kd.int .u8) 5 w' w.heap.size (fun k_=>((P0_0_ k_ ∨ P0_1_ k_) ∨ w.heap.size ≤ k_)∧k_≠gb235) v6 x6_2)∧Aside0 (Kd.V (Kd.slice 5 (Kd.int .u8)) 26 w' w.heap.size (fun k_=>((P0_0_ k_ ∨ P0_1_ k_) ∨ w.heap.size ≤ k_)∧k_≠gb235) (.slice (some ad237) l0_0.length c0_0) l0_0)∧Aside0 (Kd.V k42 42 w' w.heap.size (fun k_=>((P0_0_ k_ ∨ P0_1_ k_) ∨ w.heap.size ≤ k_)∧k_≠gb235) (.slice A0_1 l0_1.length c0_1) l0_1)∧Aside0 (w'.heap[gb235]? = some (.cells #[(.slice (some ad237) l0_0.length c0_0),(.slice A0_1 l0_1.length c0_1)] 25 (0,0)))∧Aside0 (Kd.C (Kd.int .u8) w' A237_0 (rd_L1 l0_0 a1).length (rd_L1 l0_0 a1))∧Aside0 (Below w.heap.size w w'))
       case atStart=>exact ⟨(rd_L1 l0_0 a1),(0),(by first|rfl|(simp;done)|(simp [*];done)),H',⟨Nat.le_refl _⟩,⟨by (with_reducible repeat (first|apply Kd.V_alloc|apply Kd.V_drewN|apply Kd.V_drew));exact HL237_0.out⟩,⟨by (with_reducible repeat (first|apply Kd.V_alloc|apply Kd.V_drewN|apply Kd.V_drew));exact HO_236000.out⟩,⟨by (with_reducible repeat (first|apply Kd.V_alloc|apply Kd.V_drewN|apply Kd.V_drew));exact HO_236001.out⟩,⟨by (with_reducible repeat (first|refine blk_drewN ?_ _|refine blk_drew ?_|refine blk_alloc ?_ _));exact BK235.out⟩,⟨by repeat (first|(with_reducible exact HR237_0.out)|(with_reducible refine ca ?_ _)|(with_reducible refine cb ?_ _)|(with_reducible refine cc ?_)|exact HR237_0.out)⟩,⟨by repeat (first|(with_reducible first|exact HB.out|apply ba|apply bb|apply bc|refine below_set ?_ GE235.out)|exact HB.out)⟩⟩
       case round =>
        clear H'
        try clear c1
        try clear c2
        try clear p2
        try clear q2
        try clear hx2
        try clear c4
        try clear c9
        try clear c9b0
        try clear c11
        try clear c12
        try clear c12b0
        try clear c13
        try clear c13b0
        try clear hcz10_0
        try clear hcz10_1
        try clear hcz14_0
        try clear hcz14_1
        try clear hcz7_0
        try clear hcz7_1
        try clear hfz10_0
        try clear hfz10_1
        try clear hfz14_0
        try clear hfz14_1
        try clear hfz7_0
        try clear hfz7_1
        try clear hx237_0
        try clear p2
        try clear p237
        try clear q237
        obtain ⟨x6_2,x7_2,rfl,HA,HK2,HO_6,HO_236000,HO_236001,BK235,HR237_0,HB⟩:=hrel
        cases gk with
        | zero=>exact absurd HA.out (by simp [shapesearchref24_Read.l0])
        | succ k2 =>
         have H:=HA.out
         clear HA
         simp only [shapesearchref24_Read.l0] at H
         by_cases c15 : x7_2 < (l0_1.length : Int)
         ·
          rw [if_pos c15] at H
          have c15b0 : decide (x7_2 < (l0_1.length : Int)) = true:=decide_eq_true c15
          clear c15
          by_cases c16 : 0 ≤ x7_2
          ·
           rw [if_pos c16] at H
           have c16b0 : decide (0 ≤ x7_2) = true:=decide_eq_true c16
           clear c16
           by_cases c17 : ((rd_T42 l0_1 x7_2).f0) = a1
           ·
            rw [if_pos c17] at H
            have c17b0 : (((rd_T42 l0_1 x7_2).f0) == a1) = true:=beq_iff_eq.mpr c17
            have c17b1 : (((rd_T42 l0_1 x7_2).f0) != a1) = false:=bne_eq_false_iff_eq.mpr c17
            clear c17
            have H':=A_ H
            clear H
            have hcz18_0 : wr.cell? ⟨gb235,0,none⟩ = some (.slice (some ad237) l0_0.length c0_0):=(blk_cell BK235.out 0).trans rfl
            have hcz18_1 : wr.cell? ⟨gb235,1,none⟩ = some (.slice A0_1 l0_1.length c0_1):=(blk_cell BK235.out 1).trans rfl
            have hfz18_0:=blk_frozen BK235.out 0
            have hfz18_1:=blk_frozen BK235.out 1
            have p238 : 0 ≤ (x7_2 : Int):=of_decide_eq_true (by first|(with_reducible assumption)|assumption)
            have q238 : x7_2 < (l0_1.length : Int):=of_decide_eq_true (by first|(with_reducible assumption)|assumption)
            obtain ⟨ad238,A238_1,c238_1,e238,hx238_0,hx238_1,hl238_1,hi238_1⟩:=at_T42 (Kd.V_reads' HO_236001.out).2.2 x7_2 p238 q238
            cases e238
            obtain ⟨ce238,hce238,hMe238,hcc238⟩:=Kd.V_get HO_236001.out z42 x7_2 p238 (by first|exact q238|exact of_decide_eq_true (by first|(with_reducible assumption)|assumption)|(have e_:=(Kd.V_reads' HO_236001.out).1;omega))
            obtain ⟨ua238_1,uc238_1,rfl,ul238_1,ge238_1⟩:=k42_openF hMe238
            have hv238_1:=hcc238 1 _ rfl
            rw [add_field _ _ 1 (by omega)] at hv238_1
            replace hv238_1:=Option.some.inj (hv238_1.symm.trans hx238_1)
            injection hv238_1 with hva_ hvn_ hvc_
            rw [hva_] at ge238_1
            rw [hvc_] at ul238_1
            have HL238_1:=A_ (show Kd.V (Kd.int .u8) 5 _ w.heap.size _ _ ((rd_T42 l0_1 x7_2).f1) from Kd.V_mk ul238_1 ge238_1)
            clear hva_ hvn_ hvc_ ge238_1 ul238_1
            clear hcc238 hce238
            have HR238_1:=A_ hi238_1
            have HC238_1:=A_ hl238_1
            clear hi238_1 hl238_1
            replace p238:=eq_true p238
            replace q238:=eq_true q238
            have p239 : 0 ≤ (x7_2 : Int):=of_decide_eq_true (by first|(with_reducible assumption)|assumption)
            have q239 : x7_2 < (l0_1.length : Int):=of_decide_eq_true (by first|(with_reducible assumption)|assumption)
            obtain ⟨ad239,A239_1,c239_1,e239,hx239_0,hx239_1,hl239_1,hi239_1⟩:=at_T42 (Kd.V_reads' HO_236001.out).2.2 x7_2 p239 q239
            obtain rfl : ad238 = ad239:=(by injection e239)
            obtain ⟨ce239,hce239,hMe239,hcc239⟩:=Kd.V_get HO_236001.out z42 x7_2 p239 (by first|exact q239|exact of_decide_eq_true (by first|(with_reducible assumption)|assumption)|(have e_:=(Kd.V_reads' HO_236001.out).1;omega))
            obtain ⟨ua239_1,uc239_1,rfl,ul239_1,ge239_1⟩:=k42_openF hMe239
            have hv239_1:=hcc239 1 _ rfl
            rw [add_field _ _ 1 (by omega)] at hv239_1
            replace hv239_1:=Option.some.inj (hv239_1.symm.trans hx239_1)
            injection hv239_1 with hva_ hvn_ hvc_
            rw [hva_] at ge239_1
            rw [hvc_] at ul239_1
            have HL239_1:=A_ (show Kd.V (Kd.int .u8) 5 _ w.heap.size _ _ ((rd_T42 l0_1 x7_2).f1) from Kd.V_mk ul239_1 ge239_1)
            clear hva_ hvn_ hvc_ ge239_1 ul239_1
            clear hcc239 hce239
            have HR239_1:=A_ hi239_1
            have HC239_1:=A_ hl239_1
            clear hi239_1 hl239_1
            replace p239:=eq_true p239
            replace q239:=eq_true q239
            have ea_:=Option.some.inj (hx238_1.symm.trans hx239_1)
            injection ea_ with ea_ en_ ec_
            subst ea_
            subst ec_
            clear en_
            go_wp2
            go_roundg k2
            case measure=>have:=HJ4.out;have:=HK2.out;omega
            case rel=>exact ⟨((rd_T42 l0_1 x7_2).f1),(wrap64 (x7_2 + 1)),(by first|rfl|(simp;done)|(simp [*];done)),H',⟨by have:=HJ4.out;have:=HK2.out;omega⟩,⟨by (with_reducible repeat (first|apply Kd.V_alloc|apply Kd.V_drewN|apply Kd.V_drew));exact HL239_1.out⟩,⟨by (with_reducible repeat (first|apply Kd.V_alloc|apply Kd.V_drewN|apply Kd.V_drew));exact HO_236000.out⟩,⟨by (with_reducible repeat (first|apply Kd.V_alloc|apply Kd.V_drewN|apply Kd.V_drew));exact HO_236001.out⟩,⟨by (with_reducible repeat (first|refine blk_drewN ?_ _|refine blk_drew ?_|refine blk_alloc ?_ _));exact BK235.out⟩,⟨by repeat (first|(with_reducible exact HR237_0.out)|(with_reducible refine ca ?_ _)|(with_reducible refine cb ?_ _)|(with_reducible refine cc ?_)|exact HR237_0.out)⟩,⟨by repeat (first|(with_reducible first|exact HB.out|apply ba|apply bb|apply bc|refine below_set ?_ GE235.out)|exact HB.out)⟩⟩
           ·
            rw [if_neg c17] at H
            have c17b0 : (((rd_T42 l0_1 x7_2).f0) == a1) = false:=beq_eq_false_iff_ne.mpr c17
            have c17b1 : (((rd_T42 l0_1 x7_2).f0) != a1) = true:=bne_iff_ne.mpr c17
            have H':=A_ H
            clear H
            have hcz19_0 : wr.cell? ⟨gb235,0,none⟩ = some (.slice (some ad237) l0_0.length c0_0):=(blk_cell BK235.out 0).trans rfl
            have hcz19_1 : wr.cell? ⟨gb235,1,none⟩ = some (.slice A0_1 l0_1.length c0_1):=(blk_cell BK235.out 1).trans rfl
            have hfz19_0:=blk_frozen BK235.out 0
            have hfz19_1:=blk_frozen BK235.out 1
            have p238 : 0 ≤ (x7_2 : Int):=of_decide_eq_true (by first|(with_reducible assumption)|assumption)
            have q238 : x7_2 < (l0_1.length : Int):=of_decide_eq_true (by first|(with_reducible assumption)|assumption)
            obtain ⟨ad238,A238_1,c238_1,e238,hx238_0,hx238_1,hl238_1,hi238_1⟩:=at_T42 (Kd.V_reads' HO_236001.out).2.2 x7_2 p238 q238
            cases e238
            obtain ⟨ce238,hce238,hMe238,hcc238⟩:=Kd.V_get HO_236001.out z42 x7_2 p238 (by first|exact q238|exact of_decide_eq_true (by first|(with_reducible assumption)|assumption)|(have e_:=(Kd.V_reads' HO_236001.out).1;omega))
            obtain ⟨ua238_1,uc238_1,rfl,ul238_1,ge238_1⟩:=k42_openF hMe238
            have hv238_1:=hcc238 1 _ rfl
            rw [add_field _ _ 1 (by omega)] at hv238_1
            replace hv238_1:=Option.some.inj (hv238_1.symm.trans hx238_1)
            injection hv238_1 with hva_ hvn_ hvc_
            rw [hva_] at ge238_1
            rw [hvc_] at ul238_1
            have HL238_1:=A_ (show Kd.V (Kd.int .u8) 5 _ w.heap.size _ _ ((rd_T42 l0_1 x7_2).f1) from Kd.V_mk ul238_1 ge238_1)
            clear hva_ hvn_ hvc_ ge238_1 ul238_1
            clear hcc238 hce238
            have HR238_1:=A_ hi238_1
            have HC238_1:=A_ hl238_1
            clear hi238_1 hl238_1
            replace p238:=eq_true p238
            replace q238:=eq_true q238
            go_wp2
            go_roundg k2
            case measure=>have:=HJ4.out;have:=HK2.out;omega
            case rel=>exact ⟨(x6_2),(wrap64 (x7_2 + 1)),(by first|rfl|(simp;done)|(simp [*];done)),H',⟨by have:=HJ4.out;have:=HK2.out;omega⟩,⟨by (with_reducible repeat (first|apply Kd.V_alloc|apply Kd.V_drewN|apply Kd.V_drew));exact HO_6.out⟩,⟨by (with_reducible repeat (first|apply Kd.V_alloc|apply Kd.V_drewN|apply Kd.V_drew));exact HO_236000.out⟩,⟨by (with_reducible repeat (first|apply Kd.V_alloc|apply Kd.V_drewN|apply Kd.V_drew));exact HO_236001.out⟩,⟨by (with_reducible repeat (first|refine blk_drewN ?_ _|refine blk_drew ?_|refine blk_alloc ?_ _));exact BK235.out⟩,⟨by repeat (first|(with_reducible exact HR237_0.out)|(with_reducible refine ca ?_ _)|(with_reducible refine cb ?_ _)|(with_reducible refine cc ?_)|exact HR237_0.out)⟩,⟨by repeat (first|(with_reducible first|exact HB.out|apply ba|apply bb|apply bc|refine below_set ?_ GE235.out)|exact HB.out)⟩⟩
          ·
           rw [if_neg c16] at H
           exact absurd H (by simp)
         ·
          rw [if_neg c15] at H
          have c15b0 : decide (x7_2 < (l0_1.length : Int)) = false:=decide_eq_false c15
          clear c15
          obtain ⟨y240,hy240⟩ : ∃ y_ : List Int,y_ = (([] : List Int)):=⟨_,rfl⟩
          replace H : (if y240.length + x6_2.length < 140737488355328 then (some ((y240 ++ x6_2),0)) else (none)) = some (r1,r2):=by first|(rw [hy240];with_reducible exact H)|(have H2_:=(Option.bind_some _ _).symm.trans H;rw [hy240];with_reducible exact H2_)|(have H2_:=(Option.bind_some _ _).symm.trans H;with_reducible exact H2_)|with_reducible exact H|(rw [hy240];exact H)|exact H
          have Ny240:=A_ hy240
          clear hy240
          by_cases c20 : y240.length + x6_2.length < 140737488355328
          ·
           rw [if_pos c20] at H
           have LMc20:=A_ c20
           clear c20
           obtain ⟨y243,hy243⟩ : ∃ y_ : List Int,y_ = (y240 ++ x6_2):=⟨_,rfl⟩
           replace H : (some (y243,0)) = some (r1,r2):=by first|(rw [hy243];with_reducible exact H)|(have H2_:=(Option.bind_some _ _).symm.trans H;rw [hy243];with_reducible exact H2_)|(have H2_:=(Option.bind_some _ _).symm.trans H;with_reducible exact H2_)|with_reducible exact H|(rw [hy243];exact H)|exact H
           have Ny243:=A_ hy243
           clear hy243
           simp only [Option.some.injEq,Prod.mk.injEq] at H
           obtain ⟨rfl,rfl⟩:=H
           have hcz21_0 : wr.cell? ⟨gb235,0,none⟩ = some (.slice (some ad237) l0_0.length c0_0):=(blk_cell BK235.out 0).trans rfl
           have hcz21_1 : wr.cell? ⟨gb235,1,none⟩ = some (.slice A0_1 l0_1.length c0_1):=(blk_cell BK235.out 1).trans rfl
           have hfz21_0:=blk_frozen BK235.out 0
           have hfz21_1:=blk_frozen BK235.out 1
           go_wp2_with (first|((with_reducible refine gate_dst (N:=46) rfl ?_);(try (refine gate_guard (by rfl) ?_;dsimp only));refine Kd.R_lit (Kd.int .u8) _ 5 ?hg (N:=46) ?hd (xs:=([] : List Int)) (inner:=[]) (ok:=fun _=>True) (okp:=fun _=>True) ?hr ?hp (fun _ hk=>hk) trivial (Below.refl _ _) (Nat.le_refl _) (by simp) ?_;(case hd=>rfl);(case hg=>rfl);(case hr=>first|(go_simp;done)|(go_simp;rfl));(case hp=>exact (Reps.none _ _));intro v241 w22 ho23 hb hg_ hnew_;clear hg_ hnew_;(first|rw [← Ny240.out] at ho23|(simp only [Int.reduceToNat] at ho23;rw [← Ny240.out] at ho23));have n0_:=A_ (Kd.V_elder' (by (with_reducible repeat (first|apply Kd.V_alloc|apply Kd.V_drewN|apply Kd.V_drew));exact HO_6.out) (rs ho23) hb);have n1_:=A_ (Kd.V_elder' (by (with_reducible repeat (first|apply Kd.V_alloc|apply Kd.V_drewN|apply Kd.V_drew));exact HO_236000.out) (rs ho23) hb);have n2_:=A_ (Kd.V_elder' (by (with_reducible repeat (first|apply Kd.V_alloc|apply Kd.V_drewN|apply Kd.V_drew));exact HO_236001.out) (rs ho23) hb);have n3_:=A_ (Kd.R_lower (Kd.R_newM (M:=fun k_=>(w.heap.size ≤ k_)) ho23 (below_size (by repeat (first|(with_reducible first|exact HB.out|apply ba|apply bb|apply bc|refine below_set ?_ GE235.out)|exact HB.out))) (fun k_ h_=>h_)) (below_size (by repeat (first|(with_reducible first|exact HB.out|apply ba|apply bb|apply bc|refine below_set ?_ GE235.out)|exact HB.out))));have n4_:=A_ (blk_below (g:=gb235) (o:=.cells #[.slice (some ad237) l0_0.length c0_0,.slice A0_1 l0_1.length c0_1] 25 (0,0)) (by (with_reducible repeat (first|refine blk_drewN ?_ _|refine blk_drew ?_|refine blk_alloc ?_ _));exact BK235.out) hb);have n5_:=A_ (cl (by repeat (first|(with_reducible exact HR237_0.out)|(with_reducible refine ca ?_ _)|(with_reducible refine cb ?_ _)|(with_reducible refine cc ?_)|exact HR237_0.out)) hb);have n6_:=A_ (below_step (by repeat (first|(with_reducible first|exact HB.out|apply ba|apply bb|apply bc|refine below_set ?_ GE235.out)|exact HB.out)) hb);clear HO_6;clear HO_236000;clear HO_236001;clear BK235;clear HR237_0;clear HB;have HO_6:=n0_;have HO_236000:=n1_;have HO_236001:=n2_;have HO242:=n3_;have BK235:=n4_;have HR237_0:=n5_;have HB:=n6_;clear n0_ n1_ n2_ n3_ n4_ n5_ n6_;clear hb ho23;obtain ⟨Ao25,co25,eo25⟩:=Kd.V_slice HO_6.out;subst eo25)|((with_reducible refine gate_builtin (b:=.append) (xs:=#[.tmp 46,.tmp 47]) rfl ?_);(try (refine gate_guard (by rfl) ?_;dsimp only));at_builtin;refine Kd.R_append_rows (Kd.int .u8) (w0:=w) w.heap.size rfl (.tmp 46) (.tmp 47) 26 5 (.int .u8 0) 1 rfl Try.underlying26 info5 rfl (by decide) (by omega) v241 y240 x6_2 _ _ _ (fun k_=>(w.heap.size ≤ k_)) (fun _=>False) rfl rfl ?aO ?aR (fun _ _ h=>h) (fun _ h=>h.elim) ?aF ?aB ?aS ?aL ?_;(case aR=>repeat (first|exact (Kd.V_reads' HO_6.out).2.2|(with_reducible refine ca ?_ _)|(with_reducible refine cb ?_ _)|(with_reducible refine cc ?_)));(case aB=>exact (by repeat (first|(with_reducible first|exact HB.out|apply ba|apply bb|apply bc|refine below_set ?_ GE235.out)|exact HB.out)));(case aF=>exact (fun k_ hk=>(Nat.le_trans (below_size (by repeat (first|(with_reducible first|exact HB.out|apply ba|apply bb|apply bc|refine below_set ?_ GE235.out)|exact HB.out))) hk)));(case aO=>exact (by (with_reducible repeat (first|apply ra|apply rb|apply rc));(first|exact rm HO242.out (fun _ hk=>hk.1)|exact rm HO242.out (fun _ hk=>own_len_ne hk.1))));(case aS=>exact (below_size (by repeat (first|(with_reducible first|exact HB.out|apply ba|apply bb|apply bc|refine below_set ?_ GE235.out)|exact HB.out))));(case aL=>have:=LMc20.out;omega);intro v244 w24 ho hb hg hat;rw [← Ny243.out] at ho;have n0_:=A_ (Kd.V_afterv (ok:=(fun k_=>((P0_0_ k_ ∨ P0_1_ k_) ∨ w.heap.size ≤ k_)∧k_≠gb235)) (by (with_reducible repeat (first|apply Kd.V_alloc|apply Kd.V_drewN|apply Kd.V_drew));exact HO_6.out) hg hat);have n1_:=A_ (Kd.V_afterv (ok:=(fun k_=>((P0_0_ k_ ∨ P0_1_ k_) ∨ w.heap.size ≤ k_)∧k_≠gb235)) (by (with_reducible repeat (first|apply Kd.V_alloc|apply Kd.V_drewN|apply Kd.V_drew));exact HO_236000.out) hg hat);have n2_:=A_ (Kd.V_afterv (ok:=(fun k_=>((P0_0_ k_ ∨ P0_1_ k_) ∨ w.heap.size ≤ k_)∧k_≠gb235)) (by (with_reducible repeat (first|apply Kd.V_alloc|apply Kd.V_drewN|apply Kd.V_drew));exact HO_236001.out) hg hat);have n3_:=A_ (blk_grown (g:=gb235) (o:=.cells #[.slice (some ad237) l0_0.length c0_0,.slice A0_1 l0_1.length c0_1] 25 (0,0)) (by (with_reducible repeat (first|refine blk_drewN ?_ _|refine blk_drew ?_|refine blk_alloc ?_ _));exact BK235.out) hg (Kd.R_ne HO242.out BK235.out (by decide)));have n4_:=A_ (hb);have n5_:=A_ (ho);clear HO_6;clear HO_236000;clear HO_236001;clear BK235;clear HB;clear HO242;have HO_6:=n0_;have HO_236000:=n1_;have HO_236001:=n2_;have BK235:=n3_;have HB:=n4_;have HO245:=n5_;clear n0_ n1_ n2_ n3_ n4_ n5_;clear ho hb hg hat))
           go_ret2
           exact ⟨_,by first|rfl|(simp [errW_none,errW_some] <;> rfl)|(simp [*,errW_none,errW_some] <;> rfl),by (with_reducible repeat (first|apply ra|apply rb|apply rc));exact HO245.out,by repeat (first|(with_reducible first|exact HB.out|apply ba|apply bb|apply bc|refine below_set ?_ GE235.out)|exact HB.out)⟩
          ·
           rw [if_neg c20] at H
           exact absurd H (by simp)
      ·
       rw [if_neg c13] at H
       exact absurd H (by simp)
     ·
      rw [if_neg c12] at H
      exact absurd H (by simp)
 ·
  replace c4:=Bool.eq_false_iff.mpr c4
  subst c4
  have H1 : (some (([] : List Int),23)) = some (r1,r2):=by rw [if_neg (show ¬ (false = true) by decide)] at H;exact H
  clear H
  have H:=H1
  clear H1
  simp only [Option.some.injEq,Prod.mk.injEq] at H
  obtain ⟨rfl,rfl⟩:=H
  go_enter Try.func18,Try.ntmps18
  go_wp2_with (first|((with_reducible refine gate_dst (N:=2) rfl ?_);(try (refine gate_guard (by rfl) ?_;dsimp only));refine box_event ?hg (N:=2) ?hd (cs:=#[.slice A0_0 l0_0.length c0_0,.slice A0_1 l0_1.length c0_1]) (t:=25) ?hr ?_;(case hd=>rfl);(case hg=>rfl);(case hr=>first|(go_simp;done)|(go_simp;rfl));intro gb235 hg w26 hbox hb;have n0_:=A_ (Kd.V_below (Kd.V_elderB (by (with_reducible repeat (first|apply Kd.V_alloc|apply Kd.V_drewN|apply Kd.V_drew));exact HO0_0.out) gb235 (Nat.le_of_eq hg.symm)) hb);have n1_:=A_ (Kd.V_below (Kd.V_elderB (by (with_reducible repeat (first|apply Kd.V_alloc|apply Kd.V_drewN|apply Kd.V_drew));exact HO0_1.out) gb235 (Nat.le_of_eq hg.symm)) hb);have n2_:=A_ (below_step (by repeat (first|(with_reducible first|exact HB.out|apply ba|apply bb|apply bc)|exact HB.out)) hb);have n3_:=A_ (hbox);have n4_:=A_ ((by rw [hg];exact (below_size (by repeat (first|(with_reducible first|exact HB.out|apply ba|apply bb|apply bc)|exact HB.out))) : w.heap.size ≤ gb235));have n5_:=A_ ((by rw [hg];exact (below_size (by repeat (first|(with_reducible first|exact HB.out|apply ba|apply bb|apply bc)|exact HB.out))) : w.heap.size ≤ gb235));clear HO0_0;clear HO0_1;clear HB;have HO0_0:=n0_;have HO0_1:=n1_;have HB:=n2_;have BK235:=n3_;have GW235:=n4_;have GE235:=n5_;clear n0_ n1_ n2_ n3_ n4_ n5_;clear hb hbox hg;have hcz27_0 : w26.cell? ⟨gb235,0,none⟩ = some (.slice A0_0 l0_0.length c0_0):=(blk_cell BK235.out 0).trans rfl;have hcz27_1 : w26.cell? ⟨gb235,1,none⟩ = some (.slice A0_1 l0_1.length c0_1):=(blk_cell BK235.out 1).trans rfl;have hfz27_0:=blk_frozen BK235.out 0;have hfz27_1:=blk_frozen BK235.out 1)|((with_reducible refine gate_callee (f:=20) rfl ?_);refine goesL_ (some 9) rfl rfl Try.func20 (by kernel_rfl) rfl #[.agg #[.slice A0_0 l0_0.length c0_0,.slice A0_1 l0_1.length c0_1]] rfl (by (try simp only [List.map_toArray,List.map_cons,List.map_nil]);first|done|rfl|(simp only [List.length_drop,List.length_take];rfl)) ?_;(with_reducible refine (shapesearchref24_Valid.calls k _ _ l0_0 _ _ l0_1 false _ ?side1 ?side2 ?side3 ?side4 A3.out).mono ?_);(case side1=>repeat (first|exact (Kd.V_reads' HO0_0.out).2.2|(with_reducible refine ca ?_ _)|(with_reducible refine cb ?_ _)|(with_reducible refine cc ?_)));(case side2=>exact (Kd.V_reads' HO0_0.out).2.1);(case side3=>repeat (first|exact (Kd.V_reads' HO0_1.out).2.2|(with_reducible refine ca ?_ _)|(with_reducible refine cb ?_ _)|(with_reducible refine cc ?_)));(case side4=>exact (Kd.V_reads' HO0_1.out).2.1);rintro e w28 ⟨rfl,hb⟩;refine ⟨_,rfl,?_⟩;have n0_:=A_ (Kd.V_below (by (with_reducible repeat (first|apply Kd.V_alloc|apply Kd.V_drewN|apply Kd.V_drew));exact HO0_0.out) hb);have n1_:=A_ (Kd.V_below (by (with_reducible repeat (first|apply Kd.V_alloc|apply Kd.V_drewN|apply Kd.V_drew));exact HO0_1.out) hb);have n2_:=A_ (blk_below (g:=gb235) (o:=.cells #[.slice A0_0 l0_0.length c0_0,.slice A0_1 l0_1.length c0_1] 25 (0,0)) (by (with_reducible repeat (first|refine blk_drewN ?_ _|refine blk_drew ?_|refine blk_alloc ?_ _));exact BK235.out) hb);have n3_:=A_ (below_step (by repeat (first|(with_reducible first|exact HB.out|apply ba|apply bb|apply bc|refine below_set ?_ GE235.out)|exact HB.out)) hb);clear HO0_0;clear HO0_1;clear BK235;clear HB;have HO0_0:=n0_;have HO0_1:=n1_;have BK235:=n2_;have HB:=n3_;clear n0_ n1_ n2_ n3_;(try clear hb);(try clear hb2);(try clear hk);(try clear hi)))
  go_ret2
  exact ⟨_,by first|rfl|(simp [errW_none,errW_some] <;> rfl)|(simp [*,errW_none,errW_some] <;> rfl),by first|exact Kd.R_nil _ _ _ _ _|exact Kd.N_nil _ _ _ _ _|exact Kd.V_nil _ _ _ _ _|exact Kd.Q_nil _ _ _ _ _|exact Kd.S_nil _ _ _ _ _,by repeat (first|(with_reducible first|exact HB.out|apply ba|apply bb|apply bc|refine below_set ?_ GE235.out)|exact HB.out)⟩

/-! ### shapesearchlaw24_agree: function 10 -/
-- (told by hand in XDevE: nothing is said of it here)
def shapesearchlaw24_agree.f (k : Nat) (l0_0 : List (List Int)) (l0_1 : List (S42)) (a1 : Int) (l2 : List Int) (l3 : List Int) : Option (Bool):=none
theorem shapesearchlaw24_agree.mono : ∀ a0 a1 a2 a3 a4 k,LeO (shapesearchlaw24_agree.f k a0 a1 a2 a3 a4) (shapesearchlaw24_agree.f (k + 1) a0 a1 a2 a3 a4):=by
 intro a0 a1 a2 a3 a4 k r h
 cases h

end Go.Proofs.Ythpiafbloebpjaa.PDeviceSteps
