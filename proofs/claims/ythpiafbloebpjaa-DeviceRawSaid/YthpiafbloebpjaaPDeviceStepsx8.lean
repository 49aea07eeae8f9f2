/- This file proves, function by function, what the Go functions that one law uses compute; most of it was printed by a program (wip/tools of this session, over the kit's print). -/
import Derived.Test.YthpiafbloebpjaaPDeviceStepsx0
namespace Go.Proofs.Ythpiafbloebpjaa.PDeviceSteps
open Go.RowKit Go.Proofs.YthpiafbloebpjaaW.PrintWords Go.Proofs.YthpiafbloebpjaaW.PrintLast Go.Proofs.YthpiafbloebpjaaW.PrintMore
attribute [local go_sem] max2_int min2_int max_two min_two max_three min_three max_four min_four   -- for this text's walks alone
set_option linter.unusedVariables false
set_option linter.unusedSimpArgs false

/-! ### shapesearchref24_Copy: function 21 -/
mutual
def shapesearchref24_Copy.l0 : Nat → Int → List (List Int) → List (S42) → List (List Int) → Option ((List (List Int)) × (List (S42)))
 | 0,_,_,_,_=>none
 | k + 1,x4,x212000,x212001,x214000=>if x4 < (x212000.length : Int) then ((some (([] : List Int) : List Int)).bind fun y214=>(if 0 ≤ x4 then (if y214.length + (rd_L1 x212000 x4).length < 140737488355328 then (if x214000.length < 5864062014805 then (shapesearchref24_Copy.l0 k (wrap64 (x4 + 1)) x212000 x212001 (x214000 ++ [(y214 ++ (rd_L1 x212000 x4))])) else (none)) else (none)) else (none))) else (shapesearchref24_Copy.l1 k 0 x212000 x212001 x214000 ([] : List (S42)))
def shapesearchref24_Copy.l1 : Nat → Int → List (List Int) → List (S42) → List (List Int) → List (S42) → Option ((List (List Int)) × (List (S42)))
 | 0,_,_,_,_,_=>none
 | k + 1,x5,x212000,x212001,x214000,x214001=>if x5 < (x212001.length : Int) then (if 0 ≤ x5 then ((some (([] : List Int) : List Int)).bind fun y225=>(if y225.length + ((rd_T42 x212001 x5).f1).length < 140737488355328 then (if x214001.length < 4398046511104 then (shapesearchref24_Copy.l1 k (wrap64 (x5 + 1)) x212000 x212001 x214000 (x214001 ++ [(⟨(rd_T42 x212001 x5).f0,(y225 ++ ((rd_T42 x212001 x5).f1))⟩ : S42)])) else (none)) else (none))) else (none)) else (some (x214000,x214001))
end
def shapesearchref24_Copy.f (k : Nat) (l0_0 : List (List Int)) (l0_1 : List (S42)) : Option ((List (List Int)) × (List (S42))):=shapesearchref24_Copy.l0 k 0 l0_0 l0_1 ([] : List (List Int))
theorem shapesearchref24_Copy.mono_l : ∀ k,(∀ y0 y1 y2 y3,LeO (shapesearchref24_Copy.l0 k y0 y1 y2 y3) (shapesearchref24_Copy.l0 (k + 1) y0 y1 y2 y3))∧(∀ y0 y1 y2 y3 y4,LeO (shapesearchref24_Copy.l1 k y0 y1 y2 y3 y4) (shapesearchref24_Copy.l1 (k + 1) y0 y1 y2 y3 y4))
 | 0=>⟨fun _ _ _ _ r h=>by simp [shapesearchref24_Copy.l0] at h,fun _ _ _ _ _ r h=>by simp [shapesearchref24_Copy.l1] at h⟩
 | k + 1=>by
  obtain ⟨ih0,ih1⟩:=shapesearchref24_Copy.mono_l k
  refine ⟨?_,?_⟩
  ·
   intro y0 y1 y2 y3
   unfold shapesearchref24_Copy.l0
   repeat' first
   | (with_reducible exact ih0 _ _ _ _)
   | (with_reducible exact ih1 _ _ _ _ _)
   | (with_reducible exact LeO.refl _)
   | (with_reducible exact LeO.none _)
   | (with_reducible refine LeO.ite ?_ ?_)
   | (with_reducible refine LeO.bind ?_ (fun _=>?_))
   | exact ih0 _ _ _ _
   | exact ih1 _ _ _ _ _
   | exact LeO.none _
   | refine LeO.ite ?_ ?_
   | refine LeO.bind ?_ (fun _=>?_)
  ·
   intro y0 y1 y2 y3 y4
   unfold shapesearchref24_Copy.l1
   repeat' first
   | (with_reducible exact ih0 _ _ _ _)
   | (with_reducible exact ih1 _ _ _ _ _)
   | (with_reducible exact LeO.refl _)
   | (with_reducible exact LeO.none _)
   | (with_reducible refine LeO.ite ?_ ?_)
   | (with_reducible refine LeO.bind ?_ (fun _=>?_))
   | exact ih0 _ _ _ _
   | exact ih1 _ _ _ _ _
   | exact LeO.none _
   | refine LeO.ite ?_ ?_
   | refine LeO.bind ?_ (fun _=>?_)
theorem shapesearchref24_Copy.mono : ∀ a0 a1 k,LeO (shapesearchref24_Copy.f k a0 a1) (shapesearchref24_Copy.f (k + 1) a0 a1):=by
 intro a0 a1 k
 obtain ⟨ih0,ih1⟩:=shapesearchref24_Copy.mono_l k
 unfold shapesearchref24_Copy.f
 repeat' first
   | (with_reducible exact ih0 _ _ _ _)
   | (with_reducible exact ih1 _ _ _ _ _)
   | (with_reducible exact LeO.refl _)
   | (with_reducible exact LeO.none _)
   | (with_reducible refine LeO.ite ?_ ?_)
   | (with_reducible refine LeO.bind ?_ (fun _=>?_))
   | exact ih0 _ _ _ _
   | exact ih1 _ _ _ _ _
   | exact LeO.none _
   | refine LeO.ite ?_ ?_
   | refine LeO.bind ?_ (fun _=>?_)
def shapesearchref24_Copy.T5 : Bool × List (List Nat × List Nat):=(true,[([],[]),([0],[0]),([],[]),([],[]),([3],[3]),([],[]),([4,5],[4,5]),([6],[6]),([2,7],[2,7]),([8],[8]),([1,9,8],[1,9]),([0,1,2,3,4,5,6,7,8,9,10],[]),([11,10,10,0,1,2,3,4,5,6,7,8,9,10],[10,11])])
def shapesearchref24_Copy.B5 : List Nat:=[0,1,0,0,8,0,56,120,252,508,1023,2047,4095]
theorem shapesearchref24_Copy.tab5 : rtab .any (opsOf Try.f21 5) = shapesearchref24_Copy.T5:=by kernel_rfl
theorem shapesearchref24_Copy.bits5 : waitsOk shapesearchref24_Copy.T5.2 shapesearchref24_Copy.B5 = true:=by kernel_rfl
def shapesearchref24_Copy.T9 : Bool × List (List Nat × List Nat):=(true,[([],[]),([0],[0]),([],[]),([2],[2]),([],[]),([3,4],[3,4]),([5],[5]),([6],[6]),([],[]),([],[]),([9],[9]),([],[]),([10,11],[10,11]),([12],[12]),([13],[13]),([8,14],[8,14]),([7,15],[7,15]),([16],[16]),([1,17,15],[1,17]),([0,1,2,3,4,5,6,7,8,9,10,11,12,13,14,15,16,17,18],[]),([19,18,18,0,1,2,3,4,5,6,7,8,9,10,11,12,13,14,15,16,17,18],[18,19])])
def shapesearchref24_Copy.B9 : List Nat:=[0,1,0,4,0,28,60,124,0,0,512,0,3584,7680,15872,32512,65532,131068,262143,524287,1048575]
theorem shapesearchref24_Copy.tab9 : rtab .any (opsOf Try.f21 9) = shapesearchref24_Copy.T9:=by kernel_rfl
theorem shapesearchref24_Copy.bits9 : waitsOk shapesearchref24_Copy.T9.2 shapesearchref24_Copy.B9 = true:=by kernel_rfl
set_option maxHeartbeats 8000000 in
set_option maxRecDepth 100000 in
theorem shapesearchref24_Copy.calls2 (k : Nat) (A0_0 : Option Addr) (c0_0 : Nat) (l0_0 : List (List Int)) (A0_1 : Option Addr) (c0_1 : Nat) (l0_1 : List (S42)) (r1 : List (List Int)) (r2 : List (S42)) (w : World) (hr0_0 : Kd.C (Kd.slice 5 (Kd.int .u8)) w A0_0 l0_0.length l0_0) (hc0_0 : l0_0.length ≤ c0_0) (hr0_1 : Kd.C k42 w A0_1 l0_1.length l0_1) (hc0_1 : l0_1.length ≤ c0_1) (h : shapesearchref24_Copy.f k l0_0 l0_1 = some (r1,r2)) :
  Calls Try.prog 21 #[.agg #[.slice A0_0 l0_0.length c0_0,.slice A0_1 l0_1.length c0_1]] w fun e w'=>∃ v0_ v1_ : Value,e = .returned (.agg #[v0_,v1_])∧∃ mid : Nat,w.heap.size ≤ mid∧Kd.S (Kd.slice 5 (Kd.int .u8)) 26 w' w.heap.size (fun k_=>k_ < mid) v0_ r1∧Kd.S k42 42 w' mid (fun _=>True) v1_ r2∧Below w.heap.size w w':=by
 have hu25:=Try.underlying25
 have hu42:=Try.underlying42
 have HR0_0:=A_ hr0_0
 have HC0_0:=A_ hc0_0
 clear hr0_0 hc0_0
 have HR0_1:=A_ hr0_1
 have HC0_1:=A_ hc0_1
 clear hr0_1 hc0_1
 have HB:=A_ (Below.refl w.heap.size w)
 have H : (shapesearchref24_Copy.l0 k 0 l0_0 l0_1 ([] : List (List Int))) = some (r1,r2):=h
 clear h
 have H':=A_ H
 clear H
 go_enter Try.func21,Try.ntmps21
 go_wp2_with (first|((with_reducible refine gate_dst (N:=1) rfl ?_);refine box_event ?hg (N:=1) ?hd (cs:=#[.slice A0_0 l0_0.length c0_0,.slice A0_1 l0_1.length c0_1]) (t:=25) ?hr ?_;(case hd=>rfl);(case hg=>rfl);(case hr=>first|(go_simp;done)|(go_simp;rfl));intro gb211 hg w2 hbox hb;have n0_:=A_ (below_step (by repeat (first|(with_reducible first|exact HB.out|apply ba|apply bb|apply bc)|exact HB.out)) hb);have n1_:=A_ (hbox);have n2_:=A_ ((by rw [hg];exact (below_size (by repeat (first|(with_reducible first|exact HB.out|apply ba|apply bb|apply bc)|exact HB.out))) : w.heap.size ≤ gb211));have n3_:=A_ ((by rw [hg];exact (below_size (by repeat (first|(with_reducible first|exact HB.out|apply ba|apply bb|apply bc)|exact HB.out))) : w.heap.size ≤ gb211));clear HB;have HB:=n0_;have BK211:=n1_;have GW211:=n2_;have GE211:=n3_;clear n0_ n1_ n2_ n3_;clear hb hbox hg)|((with_reducible refine gate_dst (N:=2) rfl ?_);refine box_event ?hg (N:=2) ?hd (cs:=#[.slice none 0 0,.slice none 0 0]) (t:=25) ?hr ?_;(case hd=>rfl);(case hg=>rfl);(case hr=>first|(go_simp;done)|(go_simp;rfl));intro gb212 hg w3 hbox hb;have n0_:=A_ (blk_below (g:=gb211) (o:=.cells #[.slice A0_0 l0_0.length c0_0,.slice A0_1 l0_1.length c0_1] 25 (0,0)) (by (with_reducible repeat (first|refine blk_drewN ?_ _|refine blk_drew ?_|refine blk_alloc ?_ _));exact BK211.out) hb);have n1_:=A_ (below_step (by repeat (first|(with_reducible first|exact HB.out|apply ba|apply bb|apply bc|refine below_set ?_ GE211.out)|exact HB.out)) hb);have n2_:=A_ (hbox);have n3_:=A_ ((by rw [hg];exact (below_size (by repeat (first|(with_reducible first|exact HB.out|apply ba|apply bb|apply bc|refine below_set ?_ GE211.out)|exact HB.out))) : w.heap.size ≤ gb212));have n4_:=A_ ((by rw [hg];exact (below_size (by repeat (first|(with_reducible first|exact HB.out|apply ba|apply bb|apply bc|refine below_set ?_ GE211.out)|exact HB.out))) : w.heap.size ≤ gb212));have n5_:=A_ ((by rw [hg];exact Nat.ne_of_lt (blk_lt (g:=gb211) (o:=.cells #[.slice A0_0 l0_0.length c0_0,.slice A0_1 l0_1.length c0_1] 25 (0,0)) (by (with_reducible repeat (first|refine blk_drewN ?_ _|refine blk_drew ?_|refine blk_alloc ?_ _));exact BK211.out)) : gb211≠gb212));have n6_:=A_ ((by rw [hg];exact Nat.ne_of_gt (blk_lt (g:=gb211) (o:=.cells #[.slice A0_0 l0_0.length c0_0,.slice A0_1 l0_1.length c0_1] 25 (0,0)) (by (with_reducible repeat (first|refine blk_drewN ?_ _|refine blk_drew ?_|refine blk_alloc ?_ _));exact BK211.out)) : gb212≠gb211));clear BK211;clear HB;have BK211:=n0_;have HB:=n1_;have BK212:=n2_;have GW212:=n3_;have GE212:=n4_;have NB211_212:=n5_;have NB212_211:=n6_;clear n0_ n1_ n2_ n3_ n4_ n5_ n6_;clear hb hbox hg)|((with_reducible refine gate_dst (N:=3) rfl ?_);refine box_event ?hg (N:=3) ?hd (cs:=#[.slice none 0 0,.slice none 0 0]) (t:=25) ?hr ?_;(case hd=>rfl);(case hg=>rfl);(case hr=>first|(go_simp;done)|(go_simp;rfl));intro gb213 hg w4 hbox hb;have n0_:=A_ (blk_below (g:=gb211) (o:=.cells #[.slice A0_0 l0_0.length c0_0,.slice A0_1 l0_1.length c0_1] 25 (0,0)) (by (with_reducible repeat (first|refine blk_drewN ?_ _|refine blk_drew ?_|refine blk_alloc ?_ _));exact BK211.out) hb);have n1_:=A_ (blk_below (g:=gb212) (o:=.cells #[.slice none 0 0,.slice none 0 0] 25 (0,0)) (by (with_reducible repeat (first|refine blk_drewN ?_ _|refine blk_drew ?_|refine blk_alloc ?_ _));exact BK212.out) hb);have n2_:=A_ (below_step (by repeat (first|(with_reducible first|exact HB.out|apply ba|apply bb|apply bc|refine below_set ?_ GE211.out|refine below_set ?_ GE212.out)|exact HB.out)) hb);have n3_:=A_ (hbox);have n4_:=A_ ((by rw [hg];exact (below_size (by repeat (first|(with_reducible first|exact HB.out|apply ba|apply bb|apply bc|refine below_set ?_ GE211.out|refine below_set ?_ GE212.out)|exact HB.out))) : w.heap.size ≤ gb213));have n5_:=A_ ((by rw [hg];exact (below_size (by repeat (first|(with_reducible first|exact HB.out|apply ba|apply bb|apply bc|refine below_set ?_ GE211.out|refine below_set ?_ GE212.out)|exact HB.out))) : w.heap.size ≤ gb213));have n6_:=A_ ((by rw [hg];exact Nat.ne_of_lt (blk_lt (g:=gb211) (o:=.cells #[.slice A0_0 l0_0.length c0_0,.slice A0_1 l0_1.length c0_1] 25 (0,0)) (by (with_reducible repeat (first|refine blk_drewN ?_ _|refine blk_drew ?_|refine blk_alloc ?_ _));exact BK211.out)) : gb211≠gb213));have n7_:=A_ ((by rw [hg];exact Nat.ne_of_gt (blk_lt (g:=gb211) (o:=.cells #[.slice A0_0 l0_0.length c0_0,.slice A0_1 l0_1.length c0_1] 25 (0,0)) (by (with_reducible repeat (first|refine blk_drewN ?_ _|refine blk_drew ?_|refine blk_alloc ?_ _));exact BK211.out)) : gb213≠gb211));have n8_:=A_ ((by rw [hg];exact Nat.ne_of_lt (blk_lt (g:=gb212) (o:=.cells #[.slice none 0 0,.slice none 0 0] 25 (0,0)) (by (with_reducible repeat (first|refine blk_drewN ?_ _|refine blk_drew ?_|refine blk_alloc ?_ _));exact BK212.out)) : gb212≠gb213));have n9_:=A_ ((by rw [hg];exact Nat.ne_of_gt (blk_lt (g:=gb212) (o:=.cells #[.slice none 0 0,.slice none 0 0] 25 (0,0)) (by (with_reducible repeat (first|refine blk_drewN ?_ _|refine blk_drew ?_|refine blk_alloc ?_ _));exact BK212.out)) : gb213≠gb212));clear BK211;clear BK212;clear HB;have BK211:=n0_;have BK212:=n1_;have HB:=n2_;have BK213:=n3_;have GW213:=n4_;have GE213:=n5_;have NB211_213:=n6_;have NB213_211:=n7_;have NB212_213:=n8_;have NB213_212:=n9_;clear n0_ n1_ n2_ n3_ n4_ n5_ n6_ n7_ n8_ n9_;clear hb hbox hg))
 go_loopg [4] k (fun kq v4 w'=>∃ (x4_1 : Int) (x214000_1 : List (List Int)) (u214000 : Value),v4 = .int .i64 x4_1∧Aside0 (shapesearchref24_Copy.l0 kq x4_1 l0_0 l0_1 x214000_1 = some (r1,r2))∧Aside0 (kq ≤ k)∧Aside0 (Kd.S (Kd.slice 5 (Kd.int .u8)) 26 w' w.heap.size (fun _=>True) u214000 x214000_1)∧Aside0 (w'.heap[gb211]? = some (.cells #[(.slice A0_0 l0_0.length c0_0),(.slice A0_1 l0_1.length c0_1)] 25 (0,0)))∧Aside0 (w'.heap[gb212]? = some (.cells #[(.slice none 0 0),(.slice none 0 0)] 25 (0,0)))∧Aside0 (w'.heap[gb213]? = some (.cells #[u214000,(.slice none 0 0)] 25 (0,0)))∧Aside0 (Below w.heap.size w w'))
 case atStart=>exact ⟨(0),(([] : List (List Int))),(.slice none 0 0),(by first|rfl|(simp;done)|(simp [*];done)),H',⟨Nat.le_refl _⟩,⟨by first|exact Kd.S_nil _ _ _ _ _|exact Kd.N_nil _ _ _ _ _|exact Kd.V_nil _ _ _ _ _|exact Kd.Q_nil _ _ _ _ _|exact Kd.R_nil _ _ _ _ _⟩,⟨by (with_reducible repeat (first|refine blk_drewN ?_ _|refine blk_drew ?_|refine blk_alloc ?_ _));exact BK211.out⟩,⟨by (with_reducible repeat (first|refine blk_drewN ?_ _|refine blk_drew ?_|refine blk_alloc ?_ _));exact BK212.out⟩,⟨by (with_reducible repeat (first|refine blk_drewN ?_ _|refine blk_drew ?_|refine blk_alloc ?_ _));exact BK213.out⟩,⟨by repeat (first|(with_reducible first|exact HB.out|apply ba|apply bb|apply bc|refine below_set ?_ GE211.out|refine below_set ?_ GE212.out|refine below_set ?_ GE213.out)|exact HB.out)⟩⟩
 case round =>
  clear H'
  try clear c2
  try clear p2
  obtain ⟨x4_1,x214000_1,u214000,rfl,HA,HK1,HO_214000,BK211,BK212,BK213,HB⟩:=hrel
  cases gk with
  | zero=>exact absurd HA.out (by simp [shapesearchref24_Copy.l0])
  | succ k1 =>
   have H:=HA.out
   clear HA
   simp only [shapesearchref24_Copy.l0] at H
   by_cases c5 : x4_1 < (l0_0.length : Int)
   ·
    rw [if_pos c5] at H
    have c5b0 : decide (x4_1 < (l0_0.length : Int)) = true:=decide_eq_true c5
    clear c5
    obtain ⟨y214,hy214⟩ : ∃ y_ : List Int,y_ = (([] : List Int)):=⟨_,rfl⟩
    replace H : (if 0 ≤ x4_1 then (if y214.length + (rd_L1 l0_0 x4_1).length < 140737488355328 then (if x214000_1.length < 5864062014805 then (shapesearchref24_Copy.l0 k1 (wrap64 (x4_1 + 1)) l0_0 l0_1 (x214000_1 ++ [(y214 ++ (rd_L1 l0_0 x4_1))])) else (none)) else (none)) else (none)) = some (r1,r2):=by first|(rw [hy214];with_reducible exact H)|(have H2_:=(Option.bind_some _ _).symm.trans H;rw [hy214];with_reducible exact H2_)|(have H2_:=(Option.bind_some _ _).symm.trans H;with_reducible exact H2_)|with_reducible exact H|(rw [hy214];exact H)|exact H
    have Ny214:=A_ hy214
    clear hy214
    by_cases c6 : 0 ≤ x4_1
    ·
     rw [if_pos c6] at H
     have c6b0 : decide (0 ≤ x4_1) = true:=decide_eq_true c6
     clear c6
     by_cases c7 : y214.length + (rd_L1 l0_0 x4_1).length < 140737488355328
     ·
      rw [if_pos c7] at H
      have LMc7:=A_ c7
      clear c7
      obtain ⟨y218,hy218⟩ : ∃ y_ : List Int,y_ = (y214 ++ (rd_L1 l0_0 x4_1)):=⟨_,rfl⟩
      replace H : (if x214000_1.length < 5864062014805 then (shapesearchref24_Copy.l0 k1 (wrap64 (x4_1 + 1)) l0_0 l0_1 (x214000_1 ++ [y218])) else (none)) = some (r1,r2):=by first|(rw [hy218];with_reducible exact H)|(have H2_:=(Option.bind_some _ _).symm.trans H;rw [hy218];with_reducible exact H2_)|(have H2_:=(Option.bind_some _ _).symm.trans H;with_reducible exact H2_)|with_reducible exact H|(rw [hy218];exact H)|exact H
      have Ny218:=A_ hy218
      clear hy218
      by_cases c8 : x214000_1.length < 5864062014805
      ·
       rw [if_pos c8] at H
       have LMc8:=A_ c8
       clear c8
       obtain ⟨y221,hy221⟩ : ∃ y_ : List (List Int),y_ = (x214000_1 ++ [y218]):=⟨_,rfl⟩
       replace H : (shapesearchref24_Copy.l0 k1 (wrap64 (x4_1 + 1)) l0_0 l0_1 y221) = some (r1,r2):=by first|(rw [hy221];with_reducible exact H)|(have H2_:=(Option.bind_some _ _).symm.trans H;rw [hy221];with_reducible exact H2_)|(have H2_:=(Option.bind_some _ _).symm.trans H;with_reducible exact H2_)|with_reducible exact H|(rw [hy221];exact H)|exact H
       have Ny221:=A_ hy221
       clear hy221
       have H':=A_ H
       clear H
       have hnb9:=NB211_212.out
       have hnc9:=NB212_211.out
       have hnb10:=NB211_213.out
       have hnc10:=NB213_211.out
       have hcz11_0 : wr.cell? ⟨gb211,0,none⟩ = some (.slice A0_0 l0_0.length c0_0):=(blk_cell BK211.out 0).trans rfl
       have hcz11_1 : wr.cell? ⟨gb211,1,none⟩ = some (.slice A0_1 l0_1.length c0_1):=(blk_cell BK211.out 1).trans rfl
       have hfz11_0:=blk_frozen BK211.out 0
       have hfz11_1:=blk_frozen BK211.out 1
       try go_wp2
       have n0_:=A_ (Kd.S_drew HO_214000.out)
       have n1_:=A_ (blk_drew BK211.out)
       have n2_:=A_ (blk_drew BK212.out)
       have n3_:=A_ (blk_drew BK213.out)
       have n4_:=A_ (below_drew1 HB.out)
       clear HO_214000
       clear BK211
       clear BK212
       clear BK213
       clear HB
       have HO_214000:=n0_
       have BK211:=n1_
       have BK212:=n2_
       have BK213:=n3_
       have HB:=n4_
       clear n0_ n1_ n2_ n3_ n4_
       have p217 : 0 ≤ (x4_1 : Int):=of_decide_eq_true (by first|(with_reducible assumption)|assumption)
       have q217 : x4_1 < (l0_0.length : Int):=of_decide_eq_true (by first|(with_reducible assumption)|assumption)
       obtain ⟨ad217,A217_0,c217_0,e217,hx217_0,hl217_0,hi217_0⟩:=at_L1 HR0_0.out x4_1 p217 q217
       have hw217_0:=hx217_0
       cases e217
       replace hx217_0:=(HB.out.cell (World.block_lt_of_cell? w _ hx217_0)).trans hx217_0
       have HR217_0:=A_ hi217_0
       have HC217_0:=A_ hl217_0
       clear hi217_0 hl217_0
       replace p217:=eq_true p217
       replace q217:=eq_true q217
       refine start_ (n:=13) (S:=fun w'=>w'.cell? ⟨gb213,0,none⟩ = some (u214000)∧w'.cell? ⟨gb213,1,none⟩ = some (.slice none 0 0)∧w'.cell? ⟨gb211,0,none⟩ = some (.slice (some ad217) l0_0.length c0_0)∧w'.cell? ⟨gb211,1,none⟩ = some (.slice A0_1 l0_1.length c0_1)∧w'.cell? (ad217.add (x4_1).toNat) = some (.slice A217_0 (rd_L1 l0_0 x4_1).length c217_0)) (ds:=[12]) #[false,false,false,false,false,false,false,false,false,false,false,false,false] (by kernel_rfl) rfl rfl ⟨(blk_cell BK213.out 0).trans rfl,(blk_cell BK213.out 1).trans rfl,(blk_cell BK211.out 0).trans rfl,(blk_cell BK211.out 1).trans rfl,((HB.out.cell (World.block_lt_of_cell? w _ hw217_0)).trans hw217_0)⟩ (fun hHeld=>?_);refine with_tabW shapesearchref24_Copy.tab5 shapesearchref24_Copy.bits5 (fun HT_ HW_=>?_)
       generalize wr.drew = w12 at HO_214000 BK211 BK212 BK213 HB HR217_0 hx217_0 hHeld ⊢
       refine pure_ (i:=0) (N:=some 13) (v:=?_) (a':=?_) #[true,false,false,false,false,false,false,false,false,false,false,false,false] rfl rfl (any_of HT_.out (by kernel_rfl)) (fun _ _ _ h=>h) (Or.inl ⟨by rfl,?_⟩) ?_ ?_
       rotate_left
       ·
        intro w'
        go_simp
        with_reducible rfl
       rotate_left
       ·
        simp only [Act.put,sa,sb,sc,i64_w,i32_w]
        rfl
       refine pure_ (i:=3) (N:=some 16) (v:=?_) (a':=?_) #[true,false,false,true,false,false,false,false,false,false,false,false,false] rfl rfl (any_of HT_.out (by kernel_rfl)) (fun _ _ _ h=>h) (Or.inl ⟨by rfl,?_⟩) ?_ ?_
       rotate_left
       ·
        intro w'
        go_simp
        with_reducible rfl
       rotate_left
       ·
        simp only [Act.put,sa,sb,sc,i64_w,i32_w]
        rfl
       refine pure_ (i:=5) (N:=some 18) (v:=?_) (a':=?_) #[true,false,false,true,false,true,false,false,false,false,false,false,false] rfl rfl (any_of HT_.out (by kernel_rfl)) (fun _ _ _ h=>h) (Or.inl ⟨by rfl,?_⟩) ?_ ?_
       rotate_left
       ·
        intro w'
        go_simp
        with_reducible rfl
       rotate_left
       ·
        simp only [Act.put,sa,sb,sc,i64_w,i32_w]
        rfl
       refine take_ (i:=1) (N:=some 14) (v:=?_) (a':=?_) #[true,true,false,true,false,true,false,false,false,false,false,false,false] rfl rfl (take_ofW HT_.out HW_.out (by kernel_rfl)) (fun _ _ _ h=>h) (Or.inl ⟨by rfl,?_⟩) hHeld ?_ ?_
       rotate_left
       ·
        rintro w' ⟨s0,s1,s2,s3,s4⟩
        go_simp
        with_reducible rfl
       rotate_left
       ·
        simp only [Act.put,sa,sb,sc,i64_w,i32_w]
        rfl
       refine take_ (i:=4) (N:=some 17) (v:=?_) (a':=?_) #[true,true,false,true,true,true,false,false,false,false,false,false,false] rfl rfl (take_ofW HT_.out HW_.out (by kernel_rfl)) (fun _ _ _ h=>h) (Or.inl ⟨by rfl,?_⟩) hHeld ?_ ?_
       rotate_left
       ·
        rintro w' ⟨s0,s1,s2,s3,s4⟩
        go_simp
        with_reducible rfl
       rotate_left
       ·
        simp only [Act.put,sa,sb,sc,i64_w,i32_w]
        rfl
       refine pure_ (i:=6) (N:=some 19) (v:=?_) (a':=?_) #[true,true,false,true,true,true,true,false,false,false,false,false,false] rfl rfl (any_of HT_.out (by kernel_rfl)) (fun _ _ _ h=>h) (Or.inl ⟨by rfl,?_⟩) ?_ ?_
       rotate_left
       ·
        intro w'
        go_simp
        with_reducible rfl
       rotate_left
       ·
        simp only [Act.put,sa,sb,sc,i64_w,i32_w]
        rfl
       refine take_ (i:=7) (N:=some 20) (v:=?_) (a':=?_) #[true,true,false,true,true,true,true,true,false,false,false,false,false] rfl rfl (take_ofW HT_.out HW_.out (by kernel_rfl)) (fun _ _ _ h=>h) (Or.inl ⟨by rfl,?_⟩) hHeld ?_ ?_
       rotate_left
       ·
        rintro w' ⟨s0,s1,s2,s3,s4⟩
        go_simp
        with_reducible rfl
       rotate_left
       ·
        simp only [Act.put,sa,sb,sc,i64_w,i32_w]
        rfl
       refine one_ (i:=2) (N:=some 15) #[true,true,true,true,true,true,true,true,false,false,false,false,false] rfl rfl (one_of HT_.out (by kernel_rfl)) (by decide) (fun K hK=>?_)
       refine Kd.R_lit_step (Kd.int .u8) _ 5 ?hg (N:=15) ?hd (xs:=([] : List Int)) (inner:=[]) (ok:=fun _=>True) (okp:=fun _=>True) ?hr ?hp (fun _ hk=>hk) trivial (Below.refl _ _) (Nat.le_refl _) (by simp) ?_;(case hd=>rfl);(case hg=>rfl);(case hr=>first|(go_simp;done)|(go_simp;rfl));(case hp=>exact (Reps.none _ _))
       intro v215 w13 ho14 hb hg_ hnew_
       clear hg_ hnew_
       (first|rw [← Ny214.out] at ho14|(simp only [Int.reduceToNat] at ho14;rw [← Ny214.out] at ho14))
       have n0_:=A_ (Kd.S_elder' (by (with_reducible repeat (first|apply Kd.S_alloc|apply Kd.S_drewN|apply Kd.S_drew));exact HO_214000.out) (rs ho14) hb)
       have n1_:=A_ (Kd.R_lower ho14 (below_size (by repeat (first|(with_reducible first|exact HB.out|apply ba|apply bb|apply bc|refine below_set ?_ GE211.out|refine below_set ?_ GE212.out|refine below_set ?_ GE213.out)|exact HB.out))))
       have n2_:=A_ (blk_below (g:=gb211) (o:=.cells #[.slice (some ad217) l0_0.length c0_0,.slice A0_1 l0_1.length c0_1] 25 (0,0)) (by (with_reducible repeat (first|refine blk_drewN ?_ _|refine blk_drew ?_|refine blk_alloc ?_ _));exact BK211.out) hb)
       have n3_:=A_ (blk_below (g:=gb212) (o:=.cells #[.slice none 0 0,.slice none 0 0] 25 (0,0)) (by (with_reducible repeat (first|refine blk_drewN ?_ _|refine blk_drew ?_|refine blk_alloc ?_ _));exact BK212.out) hb)
       have n4_:=A_ (blk_below (g:=gb213) (o:=.cells #[u214000,.slice none 0 0] 25 (0,0)) (by (with_reducible repeat (first|refine blk_drewN ?_ _|refine blk_drew ?_|refine blk_alloc ?_ _));exact BK213.out) hb)
       have n5_:=A_ (below_step (by repeat (first|(with_reducible first|exact HB.out|apply ba|apply bb|apply bc|refine below_set ?_ GE211.out|refine below_set ?_ GE212.out|refine below_set ?_ GE213.out)|exact HB.out)) hb)
       clear HO_214000
       clear BK211
       clear BK212
       clear BK213
       clear HB
       have HO_214000:=n0_
       have HO216:=n1_
       have BK211:=n2_
       have BK212:=n3_
       have BK213:=n4_
       have HB:=n5_
       clear n0_ n1_ n2_ n3_ n4_ n5_
       clear hb ho14
       refine hK.out _ _ ⟨(blk_cell BK213.out 0).trans rfl,(blk_cell BK213.out 1).trans rfl,(blk_cell BK211.out 0).trans rfl,(blk_cell BK211.out 1).trans rfl,((HB.out.cell (World.block_lt_of_cell? w _ hw217_0)).trans hw217_0)⟩ (fun hHeld=>?_)
       clear hK K
       refine norm_ (a':=?_) ?_ ?_
       rotate_left
       ·
        show Act.put _ (some 15) _ = _
        simp only [Act.put,sa,sb,sc,i64_w,i32_w]
        rfl
       refine one_ (i:=8) (N:=some 21) #[true,true,true,true,true,true,true,true,true,false,false,false,false] rfl rfl (one_of HT_.out (by kernel_rfl)) (by decide) (fun K hK=>?_)
       refine Kd.R_append_rows_step (Kd.int .u8) (w0:=w) w.heap.size (by rfl) (.tmp 15) (.tmp 20) 26 5 (.int .u8 0) 1 rfl Try.underlying26 info5 rfl (by decide) (by omega) v215 y214 (rd_L1 l0_0 x4_1) _ _ _ (fun _=>True) (fun _=>False) rfl rfl ?aO ?aR (fun _ _ h=>h) (fun _ h=>h.elim) ?aF ?aB ?aS ?aL ?_
       (case aR=>repeat (first|exact (cl HR217_0.out HB.out)|(with_reducible refine ca ?_ _)|(with_reducible refine cb ?_ _)|(with_reducible refine cc ?_)))
       (case aB=>exact (by repeat (first|(with_reducible first|exact HB.out|apply ba|apply bb|apply bc|refine below_set ?_ GE211.out|refine below_set ?_ GE212.out|refine below_set ?_ GE213.out)|exact HB.out)))
       (case aF=>exact (fun _ _=>trivial))
       (case aO=>exact (by (with_reducible repeat (first|apply ra|apply rb|apply rc));exact HO216.out))
       (case aS=>exact (below_size (by repeat (first|(with_reducible first|exact HB.out|apply ba|apply bb|apply bc|refine below_set ?_ GE211.out|refine below_set ?_ GE212.out|refine below_set ?_ GE213.out)|exact HB.out))))
       (case aL=>have:=LMc7.out;omega)
       intro v219 w15 ho hb hg hat
       rw [← Ny218.out] at ho
       have n0_:=A_ (Kd.S_after (ok:=(fun _=>True)) (by (with_reducible repeat (first|apply Kd.S_alloc|apply Kd.S_drewN|apply Kd.S_drew));exact HO_214000.out) hg hat)
       have n1_:=A_ (blk_grown (g:=gb211) (o:=.cells #[.slice (some ad217) l0_0.length c0_0,.slice A0_1 l0_1.length c0_1] 25 (0,0)) (by (with_reducible repeat (first|refine blk_drewN ?_ _|refine blk_drew ?_|refine blk_alloc ?_ _));exact BK211.out) hg (Kd.R_ne HO216.out BK211.out (by decide)))
       have n2_:=A_ (blk_grown (g:=gb212) (o:=.cells #[.slice none 0 0,.slice none 0 0] 25 (0,0)) (by (with_reducible repeat (first|refine blk_drewN ?_ _|refine blk_drew ?_|refine blk_alloc ?_ _));exact BK212.out) hg (Kd.R_ne HO216.out BK212.out (by decide)))
       have n3_:=A_ (blk_grown (g:=gb213) (o:=.cells #[u214000,.slice none 0 0] 25 (0,0)) (by (with_reducible repeat (first|refine blk_drewN ?_ _|refine blk_drew ?_|refine blk_alloc ?_ _));exact BK213.out) hg (Kd.R_ne HO216.out BK213.out (by decide)))
       have n4_:=A_ (hb)
       have n5_:=A_ (ho)
       clear HO_214000
       clear BK211
       clear BK212
       clear BK213
       clear HB
       clear HO216
       have HO_214000:=n0_
       have BK211:=n1_
       have BK212:=n2_
       have BK213:=n3_
       have HB:=n4_
       have HO220:=n5_
       clear n0_ n1_ n2_ n3_ n4_ n5_
       clear ho hb hg hat
       obtain ⟨Ao17,co17,eo17⟩:=Kd.R_slice HO220.out
       (first|subst eo17|(injection eo17 with f1_ f2_ f3_;have f4_:=f1_.symm;have f5_:=f3_.symm;clear f1_ f2_ f3_;subst f4_;subst f5_))
       refine hK.out _ _ ⟨(blk_cell BK213.out 0).trans rfl,(blk_cell BK213.out 1).trans rfl,(blk_cell BK211.out 0).trans rfl,(blk_cell BK211.out 1).trans rfl,((HB.out.cell (World.block_lt_of_cell? w _ hw217_0)).trans hw217_0)⟩ (fun hHeld=>?_)
       clear hK K
       refine norm_ (a':=?_) ?_ ?_
       rotate_left
       ·
        show Act.put _ (some 21) _ = _
        simp only [Act.put,sa,sb,sc,i64_w,i32_w]
        rfl
       refine one_ (i:=9) (N:=some 22) #[true,true,true,true,true,true,true,true,true,true,false,false,false] rfl rfl (one_of HT_.out (by kernel_rfl)) (by decide) (fun K hK=>?_)
       refine value_ (w1:=?_) (v:=?_) (by rfl) rfl ?_ ?_
       rotate_left 2
       ·
        go_simp
        constructor
        ·
         rfl
        ·
         rfl
       refine hK.out _ _ ⟨(blk_cell (blk_alloc BK213.out _) 0).trans rfl,(blk_cell (blk_alloc BK213.out _) 1).trans rfl,(blk_cell (blk_alloc BK211.out _) 0).trans rfl,(blk_cell (blk_alloc BK211.out _) 1).trans rfl,(World.cell?_alloc_lt _ _ _ (World.block_lt_of_cell? _ _ (((HB.out.cell (World.block_lt_of_cell? w _ hw217_0)).trans hw217_0)))).trans (((HB.out.cell (World.block_lt_of_cell? w _ hw217_0)).trans hw217_0))⟩ (fun hHeld=>?_)
       clear hK K
       refine norm_ (a':=?_) ?_ ?_
       rotate_left
       ·
        show Act.put _ (some 22) _ = _
        simp only [Act.put,sa,sb,sc,i64_w,i32_w]
        rfl
       refine one_ (i:=10) (N:=some 23) #[true,true,true,true,true,true,true,true,true,true,true,false,false] rfl rfl (one_of HT_.out (by kernel_rfl)) (by decide) (fun K hK=>?_)
       refine Kd.S_append_step (Kd.slice 5 (Kd.int .u8)) (w0:=w) w.heap.size (by rfl) (.tmp 14) (.tmp 22) 22 26 (.slice none 0 0) 24 rfl Try.underlying22 info26 rfl (by decide) (by omega) u214000 x214000_1 y218 [.slice Ao17 y218.length co17] (fun _=>True) (fun k_=>some k_ = (.slice Ao17 y218.length co17 : Value).ownBlock) rfl rfl ?aP (fun k_ hk_=>((rm (ok':=fun k_=>((fun _=>True)) k_∧some k_≠(u214000 : Value).ownBlock) (Kd.R_apart' (HO220.out) (Kd.S_typed HO_214000.out) (by decide)) (fun k_ hk=>⟨trivial,hk.2⟩))).1 k_ hk_.symm) ?aF ?aO ?aB ?aS ?aL ?_
       (case aP=>exact Kd.M_row (rm (Kd.R_tight rfl (rm (ok':=fun k_=>((fun _=>True)) k_∧some k_≠(u214000 : Value).ownBlock) (Kd.R_apart' (HO220.out) (Kd.S_typed HO_214000.out) (by decide)) (fun k_ hk=>⟨trivial,hk.2⟩))) (fun _ h_=>h_)))
       (case aB=>exact (by repeat (first|(with_reducible first|exact HB.out|apply ba|apply bb|apply bc|refine below_set ?_ GE211.out|refine below_set ?_ GE212.out|refine below_set ?_ GE213.out)|exact HB.out)))
       (case aF=>exact (fun _ _=>trivial))
       (case aO=>exact (by (with_reducible repeat (first|apply Kd.S_alloc|apply Kd.S_drewN|apply Kd.S_drew));exact Kd.S_mono HO_214000.out (fun k_ hk=>⟨trivial,fun e_=>hk.2 e_⟩)))
       (case aS=>exact (below_size (by repeat (first|(with_reducible first|exact HB.out|apply ba|apply bb|apply bc|refine below_set ?_ GE211.out|refine below_set ?_ GE212.out|refine below_set ?_ GE213.out)|exact HB.out))))
       (case aL=>have:=LMc8.out;omega)
       intro v222 w16 ho hb hg hat
       rw [← Ny221.out] at ho
       have n0_:=A_ (blk_grown (g:=gb211) (o:=.cells #[.slice (some ad217) l0_0.length c0_0,.slice A0_1 l0_1.length c0_1] 25 (0,0)) (by (with_reducible repeat (first|refine blk_drewN ?_ _|refine blk_drew ?_|refine blk_alloc ?_ _));exact BK211.out) hg (Kd.S_ne HO_214000.out BK211.out (by decide)))
       have n1_:=A_ (blk_grown (g:=gb212) (o:=.cells #[.slice none 0 0,.slice none 0 0] 25 (0,0)) (by (with_reducible repeat (first|refine blk_drewN ?_ _|refine blk_drew ?_|refine blk_alloc ?_ _));exact BK212.out) hg (Kd.S_ne HO_214000.out BK212.out (by decide)))
       have n2_:=A_ (blk_grown (g:=gb213) (o:=.cells #[u214000,.slice none 0 0] 25 (0,0)) (by (with_reducible repeat (first|refine blk_drewN ?_ _|refine blk_drew ?_|refine blk_alloc ?_ _));exact BK213.out) hg (Kd.S_ne HO_214000.out BK213.out (by decide)))
       have n3_:=A_ (hb)
       have n4_:=A_ (ho)
       clear BK211
       clear BK212
       clear BK213
       clear HB
       clear HO_214000
       clear HO220
       have BK211:=n0_
       have BK212:=n1_
       have BK213:=n2_
       have HB:=n3_
       have HO223:=n4_
       clear n0_ n1_ n2_ n3_ n4_
       clear ho hb hg hat
       obtain ⟨Ao18,co18,eo18⟩:=Kd.S_slice HO223.out
       (first|subst eo18|(injection eo18 with f1_ f2_ f3_;have f4_:=f1_.symm;have f5_:=f3_.symm;clear f1_ f2_ f3_;subst f4_;subst f5_))
       refine hK.out _ _ ⟨(blk_cell BK213.out 0).trans rfl,(blk_cell BK213.out 1).trans rfl,(blk_cell BK211.out 0).trans rfl,(blk_cell BK211.out 1).trans rfl,((HB.out.cell (World.block_lt_of_cell? w _ hw217_0)).trans hw217_0)⟩ (fun hHeld=>?_)
       clear hK K
       refine norm_ (a':=?_) ?_ ?_
       rotate_left
       ·
        show Act.put _ (some 23) _ = _
        simp only [Act.put,sa,sb,sc,i64_w,i32_w]
        rfl
       refine pure_ (i:=11) (N:=some 24) (v:=?_) (a':=?_) #[true,true,true,true,true,true,true,true,true,true,true,true,false] rfl rfl (any_of HT_.out (by kernel_rfl)) (fun _ _ _ h=>h) (Or.inl ⟨by rfl,?_⟩) ?_ ?_
       rotate_left
       ·
        intro w'
        go_simp
        with_reducible rfl
       rotate_left
       ·
        simp only [Act.put,sa,sb,sc,i64_w,i32_w]
        rfl
       refine last_ (i:=12) (N:=none) #[true,true,true,true,true,true,true,true,true,true,true,true,true] rfl rfl (one_of HT_.out (by kernel_rfl)) (by decide) (fun K hK=>?_)
       have hs19 : w16.cell? ⟨gb213,0,none⟩ = some (u214000):=(blk_cell BK213.out 0).trans rfl
       have hfs19:=blk_frozen BK213.out 0
       have hns19_0:=NB211_213.out
       have hns19_1:=NB212_213.out
       have hms19_0:=NB213_211.out
       have hms19_1:=NB213_212.out
       refine skip_ (w1:=?_) (by rfl) rfl ?_ ?_
       rotate_left
       ·
        go_simp
        rfl
       refine hK.out _ _ ?_
       clear hK K
       refine done_ (done_of HT_.out (by kernel_rfl)) ?_
       try go_wp2
       go_roundg k1
       case measure=>have:=HK1.out;omega
       case rel=>exact ⟨(wrap64 (x4_1 + 1)),(y221),(.slice Ao18 y221.length co18),(by first|rfl|(simp;done)|(simp [*];done)),H',⟨by have:=HK1.out;omega⟩,⟨by (with_reducible repeat (first|apply Kd.S_alloc|apply Kd.S_drewN|apply Kd.S_drew));exact Kd.S_mono (Kd.S_far (p:=⟨gb213,0,none⟩) (Kd.S_types HO223.out BK213.out (by decide)) (fun _ hk=>hk.2) (.slice Ao18 y221.length co18)) (fun _ hk=>trivial)⟩,⟨by (with_reducible repeat (first|refine blk_drewN ?_ _|refine blk_drew ?_|refine blk_alloc ?_ _));refine blk_far ?_ NB211_213.out _;(with_reducible repeat (first|refine blk_drewN ?_ _|refine blk_drew ?_|refine blk_alloc ?_ _));exact BK211.out⟩,⟨by (with_reducible repeat (first|refine blk_drewN ?_ _|refine blk_drew ?_|refine blk_alloc ?_ _));refine blk_far ?_ NB212_213.out _;(with_reducible repeat (first|refine blk_drewN ?_ _|refine blk_drew ?_|refine blk_alloc ?_ _));exact BK212.out⟩,⟨by (with_reducible repeat (first|refine blk_drewN ?_ _|refine blk_drew ?_|refine blk_alloc ?_ _));refine blk_put (cs:=#[u214000,.slice none 0 0]) ?_ 0 _ rfl;(with_reducible repeat (first|refine blk_drewN ?_ _|refine blk_drew ?_|refine blk_alloc ?_ _));exact BK213.out⟩,⟨by repeat (first|(with_reducible first|exact HB.out|apply ba|apply bb|apply bc|refine below_set ?_ GE211.out|refine below_set ?_ GE212.out|refine below_set ?_ GE213.out)|exact HB.out)⟩⟩
      ·
       rw [if_neg c8] at H
       exact absurd H (by simp)
     ·
      rw [if_neg c7] at H
      exact absurd H (by simp)
    ·
     rw [if_neg c6] at H
     exact absurd H (by simp)
   ·
    rw [if_neg c5] at H
    have c5b0 : decide (x4_1 < (l0_0.length : Int)) = false:=decide_eq_false c5
    clear c5
    have H':=A_ H
    clear H
    have hnb20:=NB211_212.out
    have hnc20:=NB212_211.out
    have hnb21:=NB211_213.out
    have hnc21:=NB213_211.out
    have hcz22_0 : wr.cell? ⟨gb211,0,none⟩ = some (.slice A0_0 l0_0.length c0_0):=(blk_cell BK211.out 0).trans rfl
    have hcz22_1 : wr.cell? ⟨gb211,1,none⟩ = some (.slice A0_1 l0_1.length c0_1):=(blk_cell BK211.out 1).trans rfl
    have hfz22_0:=blk_frozen BK211.out 0
    have hfz22_1:=blk_frozen BK211.out 1
    obtain ⟨wm,hwm_,hmp_⟩:=Kd.S_mid HO_214000.out
    have HMP:=A_ hmp_
    have HWM:=A_ (show w.heap.size ≤ wm.heap.size from by rw [hwm_];exact HB.out.size)
    have HKM:=A_ (show KeepBut wm _ gb213 none from by rw [hwm_];exact KeepBut.refl _ _ _)
    have HKB:=A_ (show wm.heap[gb213]? = some (.cells #[u214000,.slice none 0 0] 25 (0,0)) from by rw [hwm_];exact BK213.out)
    clear hwm_ hmp_
    go_wp2
    go_loopg [5] k1 (fun kq v5 w'=>∃ (x5_2 : Int) (x214001_2 : List (S42)) (u214001 : Value),v5 = .int .i64 x5_2∧Aside0 (shapesearchref24_Copy.l1 kq x5_2 l0_0 l0_1 x214000_1 x214001_2 = some (r1,r2))∧Aside0 (kq ≤ k1)∧Aside0 (Kd.S (Kd.slice 5 (Kd.int .u8)) 26 w' w.heap.size (fun _=>True) u214000 x214000_1)∧Aside0 (Kd.S k42 42 w' wm.heap.size (fun _=>True) u214001 x214001_2)∧Aside0 (w'.heap[gb211]? = some (.cells #[(.slice A0_0 l0_0.length c0_0),(.slice A0_1 l0_1.length c0_1)] 25 (0,0)))∧Aside0 (w'.heap[gb212]? = some (.cells #[(.slice none 0 0),(.slice none 0 0)] 25 (0,0)))∧Aside0 (w'.heap[gb213]? = some (.cells #[u214000,u214001] 25 (0,0)))∧Aside0 (Below w.heap.size w w')∧Aside0 (KeepBut wm w' gb213 none))
    case atStart=>exact ⟨(0),(([] : List (S42))),(.slice none 0 0),(by first|rfl|(simp;done)|(simp [*];done)),H',⟨Nat.le_refl _⟩,⟨by (with_reducible repeat (first|apply Kd.S_alloc|apply Kd.S_drewN|apply Kd.S_drew));exact HO_214000.out⟩,⟨by first|exact Kd.S_nil _ _ _ _ _|exact Kd.N_nil _ _ _ _ _|exact Kd.V_nil _ _ _ _ _|exact Kd.Q_nil _ _ _ _ _|exact Kd.R_nil _ _ _ _ _⟩,⟨by (with_reducible repeat (first|refine blk_drewN ?_ _|refine blk_drew ?_|refine blk_alloc ?_ _));exact BK211.out⟩,⟨by (with_reducible repeat (first|refine blk_drewN ?_ _|refine blk_drew ?_|refine blk_alloc ?_ _));exact BK212.out⟩,⟨by (with_reducible repeat (first|refine blk_drewN ?_ _|refine blk_drew ?_|refine blk_alloc ?_ _));exact BK213.out⟩,⟨by repeat (first|(with_reducible first|exact HB.out|apply ba|apply bb|apply bc|refine below_set ?_ GE211.out|refine below_set ?_ GE212.out|refine below_set ?_ GE213.out)|exact HB.out)⟩,⟨by repeat (first|(with_reducible first|exact HKM.out|apply KeepBut.set_|apply keep_drewN|apply keep_drew|apply keep_alloc|refine keep_far ?_ GEK.out _)|exact HKM.out)⟩⟩
    case round =>
     clear H'
     try clear c1
     try clear c2
     try clear p2
     try clear q2
     try clear hx2
     try clear c5
     try clear c5b0
     try clear c6
     try clear c6b0
     try clear p6
     try clear c7
     try clear c8
     try clear c9
     try clear c10
     try clear c20
     try clear c21
     try clear p21
     try clear q21
     try clear hx21
     try clear hcz11_0
     try clear hcz11_1
     try clear hcz22_0
     try clear hcz22_1
     try clear hfz11_0
     try clear hfz11_1
     try clear hfz22_0
     try clear hfz22_1
     try clear hx217_0
     try clear p2
     try clear p217
     try clear q217
     obtain ⟨x5_2,x214001_2,u214001,rfl,HA,HK2,HO_214000,HO_214001,BK211,BK212,BK213,HB,HKM⟩:=hrel
     cases gk with
     | zero=>exact absurd HA.out (by simp [shapesearchref24_Copy.l1])
     | succ k2 =>
      have H:=HA.out
      clear HA
      simp only [shapesearchref24_Copy.l1] at H
      by_cases c23 : x5_2 < (l0_1.length : Int)
      ·
       rw [if_pos c23] at H
       have c23b0 : decide (x5_2 < (l0_1.length : Int)) = true:=decide_eq_true c23
       clear c23
       by_cases c24 : 0 ≤ x5_2
       ·
        rw [if_pos c24] at H
        have c24b0 : decide (0 ≤ x5_2) = true:=decide_eq_true c24
        clear c24
        obtain ⟨y225,hy225⟩ : ∃ y_ : List Int,y_ = (([] : List Int)):=⟨_,rfl⟩
        replace H : (if y225.length + ((rd_T42 l0_1 x5_2).f1).length < 140737488355328 then (if x214001_2.length < 4398046511104 then (shapesearchref24_Copy.l1 k2 (wrap64 (x5_2 + 1)) l0_0 l0_1 x214000_1 (x214001_2 ++ [(⟨(rd_T42 l0_1 x5_2).f0,(y225 ++ ((rd_T42 l0_1 x5_2).f1))⟩ : S42)])) else (none)) else (none)) = some (r1,r2):=by first|(rw [hy225];with_reducible exact H)|(have H2_:=(Option.bind_some _ _).symm.trans H;rw [hy225];with_reducible exact H2_)|(have H2_:=(Option.bind_some _ _).symm.trans H;with_reducible exact H2_)|with_reducible exact H|(rw [hy225];exact H)|exact H
        have Ny225:=A_ hy225
        clear hy225
        by_cases c25 : y225.length + ((rd_T42 l0_1 x5_2).f1).length < 140737488355328
        ·
         rw [if_pos c25] at H
         have LMc25:=A_ c25
         clear c25
         obtain ⟨y229,hy229⟩ : ∃ y_ : List Int,y_ = (y225 ++ ((rd_T42 l0_1 x5_2).f1)):=⟨_,rfl⟩
         replace H : (if x214001_2.length < 4398046511104 then (shapesearchref24_Copy.l1 k2 (wrap64 (x5_2 + 1)) l0_0 l0_1 x214000_1 (x214001_2 ++ [(⟨(rd_T42 l0_1 x5_2).f0,y229⟩ : S42)])) else (none)) = some (r1,r2):=by first|(rw [hy229];with_reducible exact H)|(have H2_:=(Option.bind_some _ _).symm.trans H;rw [hy229];with_reducible exact H2_)|(have H2_:=(Option.bind_some _ _).symm.trans H;with_reducible exact H2_)|with_reducible exact H|(rw [hy229];exact H)|exact H
         have Ny229:=A_ hy229
         clear hy229
         by_cases c26 : x214001_2.length < 4398046511104
         ·
          rw [if_pos c26] at H
          have LMc26:=A_ c26
          clear c26
          obtain ⟨y232,hy232⟩ : ∃ y_ : List (S42),y_ = (x214001_2 ++ [(⟨(rd_T42 l0_1 x5_2).f0,y229⟩ : S42)]):=⟨_,rfl⟩
          replace H : (shapesearchref24_Copy.l1 k2 (wrap64 (x5_2 + 1)) l0_0 l0_1 x214000_1 y232) = some (r1,r2):=by first|(rw [hy232];with_reducible exact H)|(have H2_:=(Option.bind_some _ _).symm.trans H;rw [hy232];with_reducible exact H2_)|(have H2_:=(Option.bind_some _ _).symm.trans H;with_reducible exact H2_)|with_reducible exact H|(rw [hy232];exact H)|exact H
          have Ny232:=A_ hy232
          clear hy232
          have H':=A_ H
          clear H
          have hnb27:=NB211_212.out
          have hnc27:=NB212_211.out
          have hnb28:=NB211_213.out
          have hnc28:=NB213_211.out
          have hcz29_0 : wr.cell? ⟨gb211,0,none⟩ = some (.slice A0_0 l0_0.length c0_0):=(blk_cell BK211.out 0).trans rfl
          have hcz29_1 : wr.cell? ⟨gb211,1,none⟩ = some (.slice A0_1 l0_1.length c0_1):=(blk_cell BK211.out 1).trans rfl
          have hfz29_0:=blk_frozen BK211.out 0
          have hfz29_1:=blk_frozen BK211.out 1
          try go_wp2
          have n0_:=A_ (Kd.S_drew HO_214000.out)
          have n1_:=A_ (Kd.S_drew HO_214001.out)
          have n2_:=A_ (blk_drew BK211.out)
          have n3_:=A_ (blk_drew BK212.out)
          have n4_:=A_ (blk_drew BK213.out)
          have n5_:=A_ (below_drew1 HB.out);have nk_:=A_ (keep_drew HKM.out)
          clear HO_214000
          clear HO_214001
          clear BK211
          clear BK212
          clear BK213
          clear HB;clear HKM
          have HO_214000:=n0_
          have HO_214001:=n1_
          have BK211:=n2_
          have BK212:=n3_
          have BK213:=n4_
          have HB:=n5_;have HKM:=nk_
          clear n0_ n1_ n2_ n3_ n4_ n5_;(try clear nk_);(try clear nq_)
          have p224 : 0 ≤ (x5_2 : Int):=of_decide_eq_true (by first|(with_reducible assumption)|assumption)
          have q224 : x5_2 < (l0_1.length : Int):=of_decide_eq_true (by first|(with_reducible assumption)|assumption)
          obtain ⟨ad224,A224_1,c224_1,e224,hx224_0,hx224_1,hl224_1,hi224_1⟩:=at_T42 HR0_1.out x5_2 p224 q224
          have hw224_1:=hx224_1
          have hw224_0:=hx224_0
          cases e224
          replace hx224_0:=(HB.out.cell (World.block_lt_of_cell? w _ hx224_0)).trans hx224_0
          replace hx224_1:=(HB.out.cell (World.block_lt_of_cell? w _ hx224_1)).trans hx224_1
          have HR224_1:=A_ hi224_1
          have HC224_1:=A_ hl224_1
          clear hi224_1 hl224_1
          replace p224:=eq_true p224
          replace q224:=eq_true q224
          have p228 : 0 ≤ (x5_2 : Int):=of_decide_eq_true (by first|(with_reducible assumption)|assumption)
          have q228 : x5_2 < (l0_1.length : Int):=of_decide_eq_true (by first|(with_reducible assumption)|assumption)
          obtain ⟨ad228,A228_1,c228_1,e228,hx228_0,hx228_1,hl228_1,hi228_1⟩:=at_T42 HR0_1.out x5_2 p228 q228
          have hw228_1:=hx228_1
          have hw228_0:=hx228_0
          obtain rfl : ad224 = ad228:=(by injection e228)
          replace hx228_0:=(HB.out.cell (World.block_lt_of_cell? w _ hx228_0)).trans hx228_0
          replace hx228_1:=(HB.out.cell (World.block_lt_of_cell? w _ hx228_1)).trans hx228_1
          have HR228_1:=A_ hi228_1
          have HC228_1:=A_ hl228_1
          clear hi228_1 hl228_1
          replace p228:=eq_true p228
          replace q228:=eq_true q228
          have ea_:=Option.some.inj (hx224_1.symm.trans hx228_1)
          injection ea_ with ea_ en_ ec_
          subst ea_
          subst ec_
          clear en_
          refine start_ (n:=21) (S:=fun w'=>w'.cell? ⟨gb213,0,none⟩ = some (u214000)∧w'.cell? ⟨gb213,1,none⟩ = some (u214001)∧w'.cell? ⟨gb211,0,none⟩ = some (.slice A0_0 l0_0.length c0_0)∧w'.cell? ⟨gb211,1,none⟩ = some (.slice (some ad224) l0_1.length c0_1)∧w'.cell? (ad224.add ((x5_2).toNat * 2)) = some (.int .i64 ((rd_T42 l0_1 x5_2).f0))∧w'.cell? ⟨(ad224.add ((x5_2).toNat * 2)).block,(ad224.add ((x5_2).toNat * 2)).off + 1,none⟩ = some (.slice A224_1 ((rd_T42 l0_1 x5_2).f1).length c224_1)∧w'.cell? (ad224.add ((x5_2).toNat * 2)) = some (.int .i64 ((rd_T42 l0_1 x5_2).f0))∧w'.cell? ⟨(ad224.add ((x5_2).toNat * 2)).block,(ad224.add ((x5_2).toNat * 2)).off + 1,none⟩ = some (.slice A224_1 ((rd_T42 l0_1 x5_2).f1).length c224_1)) (ds:=[20]) #[false,false,false,false,false,false,false,false,false,false,false,false,false,false,false,false,false,false,false,false,false] (by kernel_rfl) rfl rfl ⟨(blk_cell BK213.out 0).trans rfl,(blk_cell BK213.out 1).trans rfl,(blk_cell BK211.out 0).trans rfl,(blk_cell BK211.out 1).trans rfl,((HB.out.cell (World.block_lt_of_cell? w _ hw224_0)).trans hw224_0),((HB.out.cell (World.block_lt_of_cell? w _ hw224_1)).trans hw224_1),((HB.out.cell (World.block_lt_of_cell? w _ hw228_0)).trans hw228_0),((HB.out.cell (World.block_lt_of_cell? w _ hw228_1)).trans hw228_1)⟩ (fun hHeld=>?_);refine with_tabW shapesearchref24_Copy.tab9 shapesearchref24_Copy.bits9 (fun HT_ HW_=>?_)
          generalize wr.drew = w30 at HO_214000 HO_214001 BK211 BK212 BK213 HB HKM HR224_1 HR228_1 hx224_0 hx224_1 hx228_0 hx228_1 hHeld ⊢
          refine pure_ (i:=0) (N:=some 32) (v:=?_) (a':=?_) #[true,false,false,false,false,false,false,false,false,false,false,false,false,false,false,false,false,false,false,false,false] rfl rfl (any_of HT_.out (by kernel_rfl)) (fun _ _ _ h=>h) (Or.inl ⟨by rfl,?_⟩) ?_ ?_
          rotate_left
          ·
           intro w'
           go_simp
           with_reducible rfl
          rotate_left
          ·
           simp only [Act.put,sa,sb,sc,i64_w,i32_w]
           rfl
          refine pure_ (i:=2) (N:=some 34) (v:=?_) (a':=?_) #[true,false,true,false,false,false,false,false,false,false,false,false,false,false,false,false,false,false,false,false,false] rfl rfl (any_of HT_.out (by kernel_rfl)) (fun _ _ _ h=>h) (Or.inl ⟨by rfl,?_⟩) ?_ ?_
          rotate_left
          ·
           intro w'
           go_simp
           with_reducible rfl
          rotate_left
          ·
           simp only [Act.put,sa,sb,sc,i64_w,i32_w]
           rfl
          refine pure_ (i:=4) (N:=some 36) (v:=?_) (a':=?_) #[true,false,true,false,true,false,false,false,false,false,false,false,false,false,false,false,false,false,false,false,false] rfl rfl (any_of HT_.out (by kernel_rfl)) (fun _ _ _ h=>h) (Or.inl ⟨by rfl,?_⟩) ?_ ?_
          rotate_left
          ·
           intro w'
           go_simp
           with_reducible rfl
          rotate_left
          ·
           simp only [Act.put,sa,sb,sc,i64_w,i32_w]
           rfl
          refine pure_ (i:=9) (N:=some 41) (v:=?_) (a':=?_) #[true,false,true,false,true,false,false,false,false,true,false,false,false,false,false,false,false,false,false,false,false] rfl rfl (any_of HT_.out (by kernel_rfl)) (fun _ _ _ h=>h) (Or.inl ⟨by rfl,?_⟩) ?_ ?_
          rotate_left
          ·
           intro w'
           go_simp
           with_reducible rfl
          rotate_left
          ·
           simp only [Act.put,sa,sb,sc,i64_w,i32_w]
           rfl
          refine pure_ (i:=11) (N:=some 43) (v:=?_) (a':=?_) #[true,false,true,false,true,false,false,false,false,true,false,true,false,false,false,false,false,false,false,false,false] rfl rfl (any_of HT_.out (by kernel_rfl)) (fun _ _ _ h=>h) (Or.inl ⟨by rfl,?_⟩) ?_ ?_
          rotate_left
          ·
           intro w'
           go_simp
           with_reducible rfl
          rotate_left
          ·
           simp only [Act.put,sa,sb,sc,i64_w,i32_w]
           rfl
          refine take_ (i:=1) (N:=some 33) (v:=?_) (a':=?_) #[true,true,true,false,true,false,false,false,false,true,false,true,false,false,false,false,false,false,false,false,false] rfl rfl (take_ofW HT_.out HW_.out (by kernel_rfl)) (fun _ _ _ h=>h) (Or.inl ⟨by rfl,?_⟩) hHeld ?_ ?_
          rotate_left
          ·
           rintro w' ⟨s0,s1,s2,s3,s4,s5,s6,s7⟩
           go_simp
           with_reducible rfl
          rotate_left
          ·
           simp only [Act.put,sa,sb,sc,i64_w,i32_w]
           rfl
          refine take_ (i:=3) (N:=some 35) (v:=?_) (a':=?_) #[true,true,true,true,true,false,false,false,false,true,false,true,false,false,false,false,false,false,false,false,false] rfl rfl (take_ofW HT_.out HW_.out (by kernel_rfl)) (fun _ _ _ h=>h) (Or.inl ⟨by rfl,?_⟩) hHeld ?_ ?_
          rotate_left
          ·
           rintro w' ⟨s0,s1,s2,s3,s4,s5,s6,s7⟩
           go_simp
           with_reducible rfl
          rotate_left
          ·
           simp only [Act.put,sa,sb,sc,i64_w,i32_w]
           rfl
          refine pure_ (i:=5) (N:=some 37) (v:=?_) (a':=?_) #[true,true,true,true,true,true,false,false,false,true,false,true,false,false,false,false,false,false,false,false,false] rfl rfl (any_of HT_.out (by kernel_rfl)) (fun _ _ _ h=>h) (Or.inl ⟨by rfl,?_⟩) ?_ ?_
          rotate_left
          ·
           intro w'
           go_simp
           with_reducible rfl
          rotate_left
          ·
           simp only [Act.put,sa,sb,sc,i64_w,i32_w]
           rfl
          refine pure_ (i:=6) (N:=some 38) (v:=?_) (a':=?_) #[true,true,true,true,true,true,true,false,false,true,false,true,false,false,false,false,false,false,false,false,false] rfl rfl (any_of HT_.out (by kernel_rfl)) (fun _ _ _ h=>h) (Or.inl ⟨by rfl,?_⟩) ?_ ?_
          rotate_left
          ·
           intro w'
           go_simp
           with_reducible rfl
          rotate_left
          ·
           simp only [Act.put,sa,sb,sc,i64_w,i32_w]
           rfl
          refine take_ (i:=7) (N:=some 39) (v:=?_) (a':=?_) #[true,true,true,true,true,true,true,true,false,true,false,true,false,false,false,false,false,false,false,false,false] rfl rfl (take_ofW HT_.out HW_.out (by kernel_rfl)) (fun _ _ _ h=>h) (Or.inl ⟨by rfl,?_⟩) hHeld ?_ ?_
          rotate_left
          ·
           rintro w' ⟨s0,s1,s2,s3,s4,s5,s6,s7⟩
           go_simp
           with_reducible rfl
          rotate_left
          ·
           simp only [Act.put,sa,sb,sc,i64_w,i32_w]
           rfl
          refine take_ (i:=10) (N:=some 42) (v:=?_) (a':=?_) #[true,true,true,true,true,true,true,true,false,true,true,true,false,false,false,false,false,false,false,false,false] rfl rfl (take_ofW HT_.out HW_.out (by kernel_rfl)) (fun _ _ _ h=>h) (Or.inl ⟨by rfl,?_⟩) hHeld ?_ ?_
          rotate_left
          ·
           rintro w' ⟨s0,s1,s2,s3,s4,s5,s6,s7⟩
           go_simp
           with_reducible rfl
          rotate_left
          ·
           simp only [Act.put,sa,sb,sc,i64_w,i32_w]
           rfl
          refine pure_ (i:=12) (N:=some 44) (v:=?_) (a':=?_) #[true,true,true,true,true,true,true,true,false,true,true,true,true,false,false,false,false,false,false,false,false] rfl rfl (any_of HT_.out (by kernel_rfl)) (fun _ _ _ h=>h) (Or.inl ⟨by rfl,?_⟩) ?_ ?_
          rotate_left
          ·
           intro w'
           go_simp
           with_reducible rfl
          rotate_left
          ·
           simp only [Act.put,sa,sb,sc,i64_w,i32_w]
           rfl
          refine pure_ (i:=13) (N:=some 45) (v:=?_) (a':=?_) #[true,true,true,true,true,true,true,true,false,true,true,true,true,true,false,false,false,false,false,false,false] rfl rfl (any_of HT_.out (by kernel_rfl)) (fun _ _ _ h=>h) (Or.inl ⟨by rfl,?_⟩) ?_ ?_
          rotate_left
          ·
           intro w'
           go_simp
           with_reducible rfl
          rotate_left
          ·
           simp only [Act.put,sa,sb,sc,i64_w,i32_w]
           rfl
          refine take_ (i:=14) (N:=some 46) (v:=?_) (a':=?_) #[true,true,true,true,true,true,true,true,false,true,true,true,true,true,true,false,false,false,false,false,false] rfl rfl (take_ofW HT_.out HW_.out (by kernel_rfl)) (fun _ _ _ h=>h) (Or.inl ⟨by rfl,?_⟩) hHeld ?_ ?_
          rotate_left
          ·
           rintro w' ⟨s0,s1,s2,s3,s4,s5,s6,s7⟩
           go_simp
           with_reducible rfl
          rotate_left
          ·
           simp only [Act.put,sa,sb,sc,i64_w,i32_w]
           rfl
          refine one_ (i:=8) (N:=some 40) #[true,true,true,true,true,true,true,true,true,true,true,true,true,true,true,false,false,false,false,false,false] rfl rfl (one_of HT_.out (by kernel_rfl)) (by decide) (fun K hK=>?_)
          refine Kd.R_lit_step (Kd.int .u8) _ 5 ?hg (N:=40) ?hd (xs:=([] : List Int)) (inner:=[]) (ok:=fun _=>True) (okp:=fun _=>True) ?hr ?hp (fun _ hk=>hk) trivial (Below.refl _ _) (Nat.le_refl _) (by simp) ?_;(case hd=>rfl);(case hg=>rfl);(case hr=>first|(go_simp;done)|(go_simp;rfl));(case hp=>exact (Reps.none _ _))
          intro v226 w31 ho32 hb hg_ hnew_
          clear hg_ hnew_
          (first|rw [← Ny225.out] at ho32|(simp only [Int.reduceToNat] at ho32;rw [← Ny225.out] at ho32))
          have n0_:=A_ (Kd.S_elder' (by (with_reducible repeat (first|apply Kd.S_alloc|apply Kd.S_drewN|apply Kd.S_drew));exact HO_214000.out) (rs ho32) hb)
          have n1_:=A_ (Kd.S_elder' (by (with_reducible repeat (first|apply Kd.S_alloc|apply Kd.S_drewN|apply Kd.S_drew));exact HO_214001.out) (rs ho32) hb)
          have n2_:=A_ (Kd.R_lower ho32 (keep_size (w:=wm) (g:=gb213) (row:=none) (by repeat (first|(with_reducible first|exact HKM.out|apply KeepBut.set_|apply keep_drewN|apply keep_drew|apply keep_alloc|refine keep_far ?_ GEK.out _)|exact HKM.out))))
          have n3_:=A_ (blk_below (g:=gb211) (o:=.cells #[.slice A0_0 l0_0.length c0_0,.slice (some ad224) l0_1.length c0_1] 25 (0,0)) (by (with_reducible repeat (first|refine blk_drewN ?_ _|refine blk_drew ?_|refine blk_alloc ?_ _));exact BK211.out) hb)
          have n4_:=A_ (blk_below (g:=gb212) (o:=.cells #[.slice none 0 0,.slice none 0 0] 25 (0,0)) (by (with_reducible repeat (first|refine blk_drewN ?_ _|refine blk_drew ?_|refine blk_alloc ?_ _));exact BK212.out) hb)
          have n5_:=A_ (blk_below (g:=gb213) (o:=.cells #[u214000,u214001] 25 (0,0)) (by (with_reducible repeat (first|refine blk_drewN ?_ _|refine blk_drew ?_|refine blk_alloc ?_ _));exact BK213.out) hb)
          have n6_:=A_ (below_step (by repeat (first|(with_reducible first|exact HB.out|apply ba|apply bb|apply bc|refine below_set ?_ GE211.out|refine below_set ?_ GE212.out|refine below_set ?_ GE213.out)|exact HB.out)) hb);have nk_:=A_ (KeepBut.trans (by repeat (first|(with_reducible first|exact HKM.out|apply KeepBut.set_|apply keep_drewN|apply keep_drew|apply keep_alloc|refine keep_far ?_ GEK.out _)|exact HKM.out)) (KeepBut.of_below hb gb213 none) (.inl rfl))
          clear HO_214000
          clear HO_214001
          clear BK211
          clear BK212
          clear BK213
          clear HB;clear HKM
          have HO_214000:=n0_
          have HO_214001:=n1_
          have HO227:=n2_
          have BK211:=n3_
          have BK212:=n4_
          have BK213:=n5_
          have HB:=n6_;have HKM:=nk_
          clear n0_ n1_ n2_ n3_ n4_ n5_ n6_;(try clear nk_);(try clear nq_)
          clear hb ho32
          refine hK.out _ _ ⟨(blk_cell BK213.out 0).trans rfl,(blk_cell BK213.out 1).trans rfl,(blk_cell BK211.out 0).trans rfl,(blk_cell BK211.out 1).trans rfl,((HB.out.cell (World.block_lt_of_cell? w _ hw224_0)).trans hw224_0),((HB.out.cell (World.block_lt_of_cell? w _ hw224_1)).trans hw224_1),((HB.out.cell (World.block_lt_of_cell? w _ hw228_0)).trans hw228_0),((HB.out.cell (World.block_lt_of_cell? w _ hw228_1)).trans hw228_1)⟩ (fun hHeld=>?_)
          clear hK K
          refine norm_ (a':=?_) ?_ ?_
          rotate_left
          ·
           show Act.put _ (some 40) _ = _
           simp only [Act.put,sa,sb,sc,i64_w,i32_w]
           rfl
          refine one_ (i:=15) (N:=some 47) #[true,true,true,true,true,true,true,true,true,true,true,true,true,true,true,true,false,false,false,false,false] rfl rfl (one_of HT_.out (by kernel_rfl)) (by decide) (fun K hK=>?_)
          refine Kd.R_append_rows_step (Kd.int .u8) (w0:=w31) wm.heap.size (by rfl) (.tmp 40) (.tmp 46) 26 5 (.int .u8 0) 1 rfl Try.underlying26 info5 rfl (by decide) (by omega) v226 y225 ((rd_T42 l0_1 x5_2).f1) _ _ _ (fun _=>True) (fun _=>False) rfl rfl ?aO ?aR (fun _ _ h=>h) (fun _ h=>h.elim) ?aF ?aB ?aS ?aL ?_
          (case aR=>repeat (first|exact (cl HR228_1.out HB.out)|(with_reducible refine ca ?_ _)|(with_reducible refine cb ?_ _)|(with_reducible refine cc ?_)))
          (case aB=>exact Below.refl _ _)
          (case aF=>exact (fun _ _=>trivial))
          (case aO=>exact (by (with_reducible repeat (first|apply ra|apply rb|apply rc));exact HO227.out))
          (case aS=>exact (keep_size (w:=wm) (g:=gb213) (row:=none) (by repeat (first|(with_reducible first|exact HKM.out|apply KeepBut.set_|apply keep_drewN|apply keep_drew|apply keep_alloc|refine keep_far ?_ GEK.out _)|exact HKM.out))))
          (case aL=>have:=LMc25.out;omega)
          intro v230 w33 ho hb hg hat
          rw [← Ny229.out] at ho
          have n0_:=A_ (Kd.S_after (ok:=(fun _=>True)) (by (with_reducible repeat (first|apply Kd.S_alloc|apply Kd.S_drewN|apply Kd.S_drew));exact HO_214000.out) hg hat)
          have n1_:=A_ (Kd.S_after (ok:=(fun _=>True)) (by (with_reducible repeat (first|apply Kd.S_alloc|apply Kd.S_drewN|apply Kd.S_drew));exact HO_214001.out) hg hat)
          have n2_:=A_ (blk_grown (g:=gb211) (o:=.cells #[.slice A0_0 l0_0.length c0_0,.slice (some ad224) l0_1.length c0_1] 25 (0,0)) (by (with_reducible repeat (first|refine blk_drewN ?_ _|refine blk_drew ?_|refine blk_alloc ?_ _));exact BK211.out) hg (Kd.R_ne HO227.out BK211.out (by decide)))
          have n3_:=A_ (blk_grown (g:=gb212) (o:=.cells #[.slice none 0 0,.slice none 0 0] 25 (0,0)) (by (with_reducible repeat (first|refine blk_drewN ?_ _|refine blk_drew ?_|refine blk_alloc ?_ _));exact BK212.out) hg (Kd.R_ne HO227.out BK212.out (by decide)))
          have n4_:=A_ (blk_grown (g:=gb213) (o:=.cells #[u214000,u214001] 25 (0,0)) (by (with_reducible repeat (first|refine blk_drewN ?_ _|refine blk_drew ?_|refine blk_alloc ?_ _));exact BK213.out) hg (Kd.R_ne HO227.out BK213.out (by decide)))
          have n5_:=A_ (Below.grown (B:=w.heap.size) (by repeat (first|(with_reducible first|exact HB.out|apply ba|apply bb|apply bc|refine below_set ?_ GE211.out|refine below_set ?_ GE212.out|refine below_set ?_ GE213.out)|exact HB.out)) hg (below_size (by repeat (first|(with_reducible first|exact HB.out|apply ba|apply bb|apply bc|refine below_set ?_ GE211.out|refine below_set ?_ GE212.out|refine below_set ?_ GE213.out)|exact HB.out))) (fun k_ hk_=>Nat.le_trans HWM.out (rs HO227.out k_ hk_)))
          have nk_:=A_ (KeepBut.trans (by repeat (first|(with_reducible first|exact HKM.out|apply KeepBut.set_|apply keep_drewN|apply keep_drew|apply keep_alloc|refine keep_far ?_ GEK.out _)|exact HKM.out)) (KeepBut.of_grown hg gb213) (Kd.R_base2 HO227.out))
          have n6_:=A_ (ho)
          clear HO_214000
          clear HO_214001
          clear BK211
          clear BK212
          clear BK213
          clear HB;clear HKM
          clear HO227
          have HO_214000:=n0_
          have HO_214001:=n1_
          have BK211:=n2_
          have BK212:=n3_
          have BK213:=n4_
          have HB:=n5_;have HKM:=nk_
          have HO231:=n6_
          clear n0_ n1_ n2_ n3_ n4_ n5_ n6_;(try clear nk_);(try clear nq_)
          clear ho hb hg hat
          obtain ⟨Ao34,co34,eo34⟩:=Kd.R_slice HO231.out
          (first|subst eo34|(injection eo34 with f1_ f2_ f3_;have f4_:=f1_.symm;have f5_:=f3_.symm;clear f1_ f2_ f3_;subst f4_;subst f5_))
          refine hK.out _ _ ⟨(blk_cell BK213.out 0).trans rfl,(blk_cell BK213.out 1).trans rfl,(blk_cell BK211.out 0).trans rfl,(blk_cell BK211.out 1).trans rfl,((HB.out.cell (World.block_lt_of_cell? w _ hw224_0)).trans hw224_0),((HB.out.cell (World.block_lt_of_cell? w _ hw224_1)).trans hw224_1),((HB.out.cell (World.block_lt_of_cell? w _ hw228_0)).trans hw228_0),((HB.out.cell (World.block_lt_of_cell? w _ hw228_1)).trans hw228_1)⟩ (fun hHeld=>?_)
          clear hK K
          refine norm_ (a':=?_) ?_ ?_
          rotate_left
          ·
           show Act.put _ (some 47) _ = _
           simp only [Act.put,sa,sb,sc,i64_w,i32_w]
           rfl
          refine pure_ (i:=16) (N:=some 48) (v:=?_) (a':=?_) #[true,true,true,true,true,true,true,true,true,true,true,true,true,true,true,true,true,false,false,false,false] rfl rfl (any_of HT_.out (by kernel_rfl)) (fun _ _ _ h=>h) (Or.inl ⟨by rfl,?_⟩) ?_ ?_
          rotate_left
          ·
           intro w'
           go_simp
           with_reducible rfl
          rotate_left
          ·
           simp only [Act.put,sa,sb,sc,i64_w,i32_w]
           rfl
          refine one_ (i:=17) (N:=some 49) #[true,true,true,true,true,true,true,true,true,true,true,true,true,true,true,true,true,true,false,false,false] rfl rfl (one_of HT_.out (by kernel_rfl)) (by decide) (fun K hK=>?_)
          refine value_ (w1:=?_) (v:=?_) (by rfl) rfl ?_ ?_
          rotate_left 2
          ·
           go_simp
           constructor
           ·
            rfl
           ·
            rfl
          refine hK.out _ _ ⟨(blk_cell (blk_alloc BK213.out _) 0).trans rfl,(blk_cell (blk_alloc BK213.out _) 1).trans rfl,(blk_cell (blk_alloc BK211.out _) 0).trans rfl,(blk_cell (blk_alloc BK211.out _) 1).trans rfl,(World.cell?_alloc_lt _ _ _ (World.block_lt_of_cell? _ _ (((HB.out.cell (World.block_lt_of_cell? w _ hw224_0)).trans hw224_0)))).trans (((HB.out.cell (World.block_lt_of_cell? w _ hw224_0)).trans hw224_0)),(World.cell?_alloc_lt _ _ _ (World.block_lt_of_cell? _ _ (((HB.out.cell (World.block_lt_of_cell? w _ hw224_1)).trans hw224_1)))).trans (((HB.out.cell (World.block_lt_of_cell? w _ hw224_1)).trans hw224_1)),(World.cell?_alloc_lt _ _ _ (World.block_lt_of_cell? _ _ (((HB.out.cell (World.block_lt_of_cell? w _ hw228_0)).trans hw228_0)))).trans (((HB.out.cell (World.block_lt_of_cell? w _ hw228_0)).trans hw228_0)),(World.cell?_alloc_lt _ _ _ (World.block_lt_of_cell? _ _ (((HB.out.cell (World.block_lt_of_cell? w _ hw228_1)).trans hw228_1)))).trans (((HB.out.cell (World.block_lt_of_cell? w _ hw228_1)).trans hw228_1))⟩ (fun hHeld=>?_)
          clear hK K
          refine norm_ (a':=?_) ?_ ?_
          rotate_left
          ·
           show Act.put _ (some 49) _ = _
           simp only [Act.put,sa,sb,sc,i64_w,i32_w]
           rfl
          refine one_ (i:=18) (N:=some 50) #[true,true,true,true,true,true,true,true,true,true,true,true,true,true,true,true,true,true,true,false,false] rfl rfl (one_of HT_.out (by kernel_rfl)) (by decide) (fun K hK=>?_)
          refine Kd.S_append_step k42 (w0:=w33) wm.heap.size (by rfl) (.tmp 33) (.tmp 49) 23 42 (.agg #[(.int .i64 0),(.slice none 0 0)]) 32 rfl Try.underlying23 info42 rfl (by decide) (by omega) u214001 x214001_2 (⟨(rd_T42 l0_1 x5_2).f0,y229⟩ : S42) [.int .i64 ((rd_T42 l0_1 x5_2).f0),.slice Ao34 y229.length co34] (fun _=>True) (fun k_=>some k_ = (.slice Ao34 y229.length co34 : Value).ownBlock) rfl rfl ?aP (fun k_ hk_=>((rm (ok':=fun k_=>((fun _=>True)) k_∧some k_≠(u214001 : Value).ownBlock) (Kd.R_apart' (HO231.out) (Kd.S_typed HO_214001.out) (by decide)) (fun k_ hk=>⟨trivial,hk.2⟩))).1 k_ hk_.symm) ?aF ?aO ?aB ?aS ?aL ?_
          (case aP=>exact k42_mkM _ _ _ (⟨(rd_T42 l0_1 x5_2).f0,y229⟩ : S42) (rm (Kd.R_tight rfl (rm (ok':=fun k_=>((fun _=>True)) k_∧some k_≠(u214001 : Value).ownBlock) (Kd.R_apart' (HO231.out) (Kd.S_typed HO_214001.out) (by decide)) (fun k_ hk=>⟨trivial,hk.2⟩))) (fun _ h_=>h_)))
          (case aB=>exact Below.refl _ _)
          (case aF=>exact (fun _ _=>trivial))
          (case aO=>exact (by (with_reducible repeat (first|apply Kd.S_alloc|apply Kd.S_drewN|apply Kd.S_drew));exact Kd.S_mono HO_214001.out (fun k_ hk=>⟨trivial,fun e_=>hk.2 e_⟩)))
          (case aS=>exact (keep_size (w:=wm) (g:=gb213) (row:=none) (by repeat (first|(with_reducible first|exact HKM.out|apply KeepBut.set_|apply keep_drewN|apply keep_drew|apply keep_alloc|refine keep_far ?_ GEK.out _)|exact HKM.out))))
          (case aL=>have:=LMc26.out;omega)
          intro v233 w35 ho hb hg hat
          rw [← Ny232.out] at ho
          have n0_:=A_ (Kd.S_over' (by (with_reducible repeat (first|apply Kd.S_alloc|apply Kd.S_drewN|apply Kd.S_drew));exact HO_214000.out) (Kd.S_typed (by (with_reducible repeat (first|apply Kd.S_alloc|apply Kd.S_drewN|apply Kd.S_drew));exact HO_214001.out)) (by decide) hg)
          have n1_:=A_ (blk_grown (g:=gb211) (o:=.cells #[.slice A0_0 l0_0.length c0_0,.slice (some ad224) l0_1.length c0_1] 25 (0,0)) (by (with_reducible repeat (first|refine blk_drewN ?_ _|refine blk_drew ?_|refine blk_alloc ?_ _));exact BK211.out) hg (Kd.S_ne HO_214001.out BK211.out (by decide)))
          have n2_:=A_ (blk_grown (g:=gb212) (o:=.cells #[.slice none 0 0,.slice none 0 0] 25 (0,0)) (by (with_reducible repeat (first|refine blk_drewN ?_ _|refine blk_drew ?_|refine blk_alloc ?_ _));exact BK212.out) hg (Kd.S_ne HO_214001.out BK212.out (by decide)))
          have n3_:=A_ (blk_grown (g:=gb213) (o:=.cells #[u214000,u214001] 25 (0,0)) (by (with_reducible repeat (first|refine blk_drewN ?_ _|refine blk_drew ?_|refine blk_alloc ?_ _));exact BK213.out) hg (Kd.S_ne HO_214001.out BK213.out (by decide)))
          have n4_:=A_ (Below.grown (B:=w.heap.size) (by repeat (first|(with_reducible first|exact HB.out|apply ba|apply bb|apply bc|refine below_set ?_ GE211.out|refine below_set ?_ GE212.out|refine below_set ?_ GE213.out)|exact HB.out)) hg (below_size (by repeat (first|(with_reducible first|exact HB.out|apply ba|apply bb|apply bc|refine below_set ?_ GE211.out|refine below_set ?_ GE212.out|refine below_set ?_ GE213.out)|exact HB.out))) (fun k_ hk_=>Nat.le_trans HWM.out (Kd.S_base HO_214001.out k_ hk_)))
          have nk_:=A_ (KeepBut.trans (by repeat (first|(with_reducible first|exact HKM.out|apply KeepBut.set_|apply keep_drewN|apply keep_drew|apply keep_alloc|refine keep_far ?_ GEK.out _)|exact HKM.out)) (KeepBut.of_grown hg gb213) (Kd.R_base2 (Kd.S_R HO_214001.out)))
          have n5_:=A_ (ho)
          clear HO_214000
          clear BK211
          clear BK212
          clear BK213
          clear HB;clear HKM
          clear HO_214001
          clear HO231
          have HO_214000:=n0_
          have BK211:=n1_
          have BK212:=n2_
          have BK213:=n3_
          have HB:=n4_;have HKM:=nk_
          have HO234:=n5_
          clear n0_ n1_ n2_ n3_ n4_ n5_;(try clear nk_);(try clear nq_)
          clear ho hb hg hat
          obtain ⟨Ao36,co36,eo36⟩:=Kd.S_slice HO234.out
          (first|subst eo36|(injection eo36 with f1_ f2_ f3_;have f4_:=f1_.symm;have f5_:=f3_.symm;clear f1_ f2_ f3_;subst f4_;subst f5_))
          refine hK.out _ _ ⟨(blk_cell BK213.out 0).trans rfl,(blk_cell BK213.out 1).trans rfl,(blk_cell BK211.out 0).trans rfl,(blk_cell BK211.out 1).trans rfl,((HB.out.cell (World.block_lt_of_cell? w _ hw224_0)).trans hw224_0),((HB.out.cell (World.block_lt_of_cell? w _ hw224_1)).trans hw224_1),((HB.out.cell (World.block_lt_of_cell? w _ hw228_0)).trans hw228_0),((HB.out.cell (World.block_lt_of_cell? w _ hw228_1)).trans hw228_1)⟩ (fun hHeld=>?_)
          clear hK K
          refine norm_ (a':=?_) ?_ ?_
          rotate_left
          ·
           show Act.put _ (some 50) _ = _
           simp only [Act.put,sa,sb,sc,i64_w,i32_w]
           rfl
          refine pure_ (i:=19) (N:=some 51) (v:=?_) (a':=?_) #[true,true,true,true,true,true,true,true,true,true,true,true,true,true,true,true,true,true,true,true,false] rfl rfl (any_of HT_.out (by kernel_rfl)) (fun _ _ _ h=>h) (Or.inl ⟨by rfl,?_⟩) ?_ ?_
          rotate_left
          ·
           intro w'
           go_simp
           with_reducible rfl
          rotate_left
          ·
           simp only [Act.put,sa,sb,sc,i64_w,i32_w]
           rfl
          refine last_ (i:=20) (N:=none) #[true,true,true,true,true,true,true,true,true,true,true,true,true,true,true,true,true,true,true,true,true] rfl rfl (one_of HT_.out (by kernel_rfl)) (by decide) (fun K hK=>?_)
          have hs37 : w35.cell? ⟨gb213,1,none⟩ = some (u214001):=(blk_cell BK213.out 1).trans rfl
          have hfs37:=blk_frozen BK213.out 1
          have hns37_0:=NB211_213.out
          have hns37_1:=NB212_213.out
          have hms37_0:=NB213_211.out
          have hms37_1:=NB213_212.out
          refine skip_ (w1:=?_) (by rfl) rfl ?_ ?_
          rotate_left
          ·
           go_simp
           rfl
          refine hK.out _ _ ?_
          clear hK K
          refine done_ (done_of HT_.out (by kernel_rfl)) ?_
          try go_wp2
          go_roundg k2
          case measure=>have:=HK1.out;have:=HK2.out;omega
          case rel=>exact ⟨(wrap64 (x5_2 + 1)),(y232),(.slice Ao36 y232.length co36),(by first|rfl|(simp;done)|(simp [*];done)),H',⟨by have:=HK1.out;have:=HK2.out;omega⟩,⟨by (with_reducible repeat (first|apply Kd.S_alloc|apply Kd.S_drewN|apply Kd.S_drew));exact Kd.S_mono (Kd.S_far (p:=⟨gb213,1,none⟩) (Kd.S_types HO_214000.out BK213.out (by decide)) (fun _ hk=>hk.2) (.slice Ao36 y232.length co36)) (fun _ hk=>trivial)⟩,⟨by (with_reducible repeat (first|apply Kd.S_alloc|apply Kd.S_drewN|apply Kd.S_drew));exact Kd.S_mono (Kd.S_far (p:=⟨gb213,1,none⟩) (Kd.S_types HO234.out BK213.out (by decide)) (fun _ hk=>hk.2) (.slice Ao36 y232.length co36)) (fun _ hk=>trivial)⟩,⟨by (with_reducible repeat (first|refine blk_drewN ?_ _|refine blk_drew ?_|refine blk_alloc ?_ _));refine blk_far ?_ NB211_213.out _;(with_reducible repeat (first|refine blk_drewN ?_ _|refine blk_drew ?_|refine blk_alloc ?_ _));exact BK211.out⟩,⟨by (with_reducible repeat (first|refine blk_drewN ?_ _|refine blk_drew ?_|refine blk_alloc ?_ _));refine blk_far ?_ NB212_213.out _;(with_reducible repeat (first|refine blk_drewN ?_ _|refine blk_drew ?_|refine blk_alloc ?_ _));exact BK212.out⟩,⟨by (with_reducible repeat (first|refine blk_drewN ?_ _|refine blk_drew ?_|refine blk_alloc ?_ _));refine blk_put (cs:=#[u214000,u214001]) ?_ 1 _ rfl;(with_reducible repeat (first|refine blk_drewN ?_ _|refine blk_drew ?_|refine blk_alloc ?_ _));exact BK213.out⟩,⟨by repeat (first|(with_reducible first|exact HB.out|apply ba|apply bb|apply bc|refine below_set ?_ GE211.out|refine below_set ?_ GE212.out|refine below_set ?_ GE213.out)|exact HB.out)⟩,⟨by repeat (first|(with_reducible first|exact HKM.out|apply KeepBut.set_|apply keep_drewN|apply keep_drew|apply keep_alloc|refine keep_far ?_ GEK.out _)|exact HKM.out)⟩⟩
         ·
          rw [if_neg c26] at H
          exact absurd H (by simp)
        ·
         rw [if_neg c25] at H
         exact absurd H (by simp)
       ·
        rw [if_neg c24] at H
        exact absurd H (by simp)
      ·
       rw [if_neg c23] at H
       have c23b0 : decide (x5_2 < (l0_1.length : Int)) = false:=decide_eq_false c23
       clear c23
       simp only [Option.some.injEq,Prod.mk.injEq] at H
       obtain ⟨rfl,rfl⟩:=H
       have hnb38:=NB211_212.out
       have hnc38:=NB212_211.out
       have hnb39:=NB211_213.out
       have hnc39:=NB213_211.out
       have hcz40_0 : wr.cell? ⟨gb211,0,none⟩ = some (.slice A0_0 l0_0.length c0_0):=(blk_cell BK211.out 0).trans rfl
       have hcz40_1 : wr.cell? ⟨gb211,1,none⟩ = some (.slice A0_1 l0_1.length c0_1):=(blk_cell BK211.out 1).trans rfl
       have hfz40_0:=blk_frozen BK211.out 0
       have hfz40_1:=blk_frozen BK211.out 1
       have hnb41:=NB213_212.out
       have hnc41:=NB212_213.out
       have hcz42_0 : wr.cell? ⟨gb213,0,none⟩ = some (u214000):=(blk_cell BK213.out 0).trans rfl
       have hcz42_1 : wr.cell? ⟨gb213,1,none⟩ = some (u214001):=(blk_cell BK213.out 1).trans rfl
       have hfz42_0:=blk_frozen BK213.out 0
       have hfz42_1:=blk_frozen BK213.out 1
       obtain ⟨Ao43,co43,eo43⟩:=Kd.S_slice HO_214000.out
       subst eo43
       have hcz44_0 : wr.cell? ⟨gb212,0,none⟩ = some (.slice none 0 0):=(blk_cell BK212.out 0).trans rfl
       have hcz44_1 : wr.cell? ⟨gb212,1,none⟩ = some (.slice none 0 0):=(blk_cell BK212.out 1).trans rfl
       have hfz44_0:=blk_frozen BK212.out 0
       have hfz44_1:=blk_frozen BK212.out 1
       obtain ⟨Ao45,co45,eo45⟩:=Kd.S_slice HO_214001.out
       subst eo45
       go_wp2
       refine bodyPost_ret (results_cell_row rfl _ _ gb212 25 #[.slice Ao43 x214000_1.length co43,.slice Ao45 x214001_2.length co45] (0,0) _ rfl (by (with_reducible repeat (first|refine blk_drewN ?_ _|refine blk_drew ?_|refine blk_alloc ?_ _));refine blk_put (cs:=#[.slice Ao43 x214000_1.length co43,.slice none 0 0]) ?_ 1 _ rfl;(with_reducible repeat (first|refine blk_drewN ?_ _|refine blk_drew ?_|refine blk_alloc ?_ _));refine blk_put (cs:=#[.slice none 0 0,.slice none 0 0]) ?_ 0 _ rfl;(with_reducible repeat (first|refine blk_drewN ?_ _|refine blk_drew ?_|refine blk_alloc ?_ _));exact BK212.out) Try.underlying25 rfl (by kernel_rfl)) rfl ?_
       exact ⟨_,_,by first|rfl|(simp [errW_none,errW_some] <;> rfl)|(simp [*,errW_none,errW_some] <;> rfl),wm.heap.size,HWM.out,by (with_reducible repeat (first|apply Kd.S_alloc|apply Kd.S_drewN|apply Kd.S_drew));exact Kd.S_mono (Kd.S_far (p:=⟨gb212,1,none⟩) (Kd.S_far (p:=⟨gb212,0,none⟩) (Kd.S_types (Kd.S_mid_keep HMP.out HKM.out HKB.out (by decide)) BK212.out (by decide)) (fun _ hk=>hk.2) (.slice Ao43 x214000_1.length co43)) (fun _ hk=>hk.2) (.slice Ao45 x214001_2.length co45)) (fun _ hk=>hk.1),by (with_reducible repeat (first|apply Kd.S_alloc|apply Kd.S_drewN|apply Kd.S_drew));exact Kd.S_mono (Kd.S_far (p:=⟨gb212,1,none⟩) (Kd.S_far (p:=⟨gb212,0,none⟩) (Kd.S_types HO_214001.out BK212.out (by decide)) (fun _ hk=>hk.2) (.slice Ao43 x214000_1.length co43)) (fun _ hk=>hk.2) (.slice Ao45 x214001_2.length co45)) (fun _ hk=>trivial),by repeat (first|(with_reducible first|exact HB.out|apply ba|apply bb|apply bc|refine below_set ?_ GE211.out|refine below_set ?_ GE212.out|refine below_set ?_ GE213.out)|exact HB.out)⟩

/-! ### shapesearchref24_Crash: function 12 -/
-- (told by hand in XDevE: nothing is said of it here)
theorem shapesearchref24_Copy.calls (k : Nat) (A0_0 : Option Addr) (c0_0 : Nat) (l0_0 : List (List Int)) (A0_1 : Option Addr) (c0_1 : Nat) (l0_1 : List (S42)) (r1 : List (List Int)) (r2 : List (S42)) (w : World) (hr0_0 : Kd.C (Kd.slice 5 (Kd.int .u8)) w A0_0 l0_0.length l0_0) (hc0_0 : l0_0.length ≤ c0_0) (hr0_1 : Kd.C k42 w A0_1 l0_1.length l0_1) (hc0_1 : l0_1.length ≤ c0_1) (h : shapesearchref24_Copy.f k l0_0 l0_1 = some (r1,r2)) :
  Calls Try.prog 21 #[.agg #[.slice A0_0 l0_0.length c0_0,.slice A0_1 l0_1.length c0_1]] w fun e w'=>∃ v0_ v1_ : Value,e = .returned (.agg #[v0_,v1_])∧Kd.S (Kd.slice 5 (Kd.int .u8)) 26 w' w.heap.size (fun _=>True) v0_ r1∧Kd.S k42 42 w' w.heap.size (fun _=>True) v1_ r2∧Below w.heap.size w w':=by
 refine (shapesearchref24_Copy.calls2 k A0_0 c0_0 l0_0 A0_1 c0_1 l0_1 r1 r2 w hr0_0 hc0_0 hr0_1 hc0_1 h).mono ?_
 rintro e w' ⟨v0_,v1_,rfl,mid,hm,h0,h1,hb⟩
 exact ⟨v0_,v1_,rfl,Kd.S_mono h0 (fun _ _=>trivial),Kd.S_lower h1 hm,hb⟩
def shapesearchref24_Crash.f (k : Nat) (l0_0 : List (List Int)) (l0_1 : List (S42)) (l1 : List Int) : Option ((List (List Int)) × (List (S42)) × Int):=none
theorem shapesearchref24_Crash.mono : ∀ a0 a1 a2 k,LeO (shapesearchref24_Crash.f k a0 a1 a2) (shapesearchref24_Crash.f (k + 1) a0 a1 a2):=by
 intro a0 a1 a2 k r h
 cases h

/-! ### shapesearchref24_Flush: function 11 -/
-- (told by hand in XDevE: nothing is said of it here)
def shapesearchref24_Flush.f (k : Nat) (l0_0 : List (List Int)) (l0_1 : List (S42))  : Option ((List (List Int)) × (List (S42)) × Int):=none
theorem shapesearchref24_Flush.mono : ∀ a0 a1 k,LeO (shapesearchref24_Flush.f k a0 a1) (shapesearchref24_Flush.f (k + 1) a0 a1):=by
 intro a0 a1 k r h
 cases h

/-! ### shapesearchref24_Write: function 13 -/
-- (told by hand in XDevE: nothing is said of it here)
def shapesearchref24_Write.f (k : Nat) (l0_0 : List (List Int)) (l0_1 : List (S42)) (a1 : Int) (l2 : List Int) : Option ((List (List Int)) × (List (S42)) × Int):=none
theorem shapesearchref24_Write.mono : ∀ a0 a1 a2 a3 k,LeO (shapesearchref24_Write.f k a0 a1 a2 a3) (shapesearchref24_Write.f (k + 1) a0 a1 a2 a3):=by
 intro a0 a1 a2 a3 k r h
 cases h

end Go.Proofs.Ythpiafbloebpjaa.PDeviceSteps
