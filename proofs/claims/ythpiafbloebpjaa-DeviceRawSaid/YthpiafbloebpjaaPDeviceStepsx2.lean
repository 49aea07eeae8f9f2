/- This file proves, function by function, what the Go functions that one law uses compute; most of it was printed by a program (wip/tools of this session, over the kit's print). -/
import Derived.Test.YthpiafbloebpjaaPDeviceStepsx0
import Derived.Test.YthpiafbloebpjaaPDeviceStepsx1
namespace Go.Proofs.Ythpiafbloebpjaa.PDeviceSteps
open Go.RowKit Go.Proofs.YthpiafbloebpjaaW.PrintWords Go.Proofs.YthpiafbloebpjaaW.PrintLast Go.Proofs.YthpiafbloebpjaaW.PrintMore
attribute [local go_sem] max2_int min2_int max_two min_two max_three min_three max_four min_four   -- for this text's walks alone
set_option linter.unusedVariables false
set_option linter.unusedSimpArgs false

/-! ### device_copied: function 22 -/
mutual
def device_copied.l0 : Nat → List (List Int) → Int → Int → List (List Int) → List (S42) → List (List Int) → Option ((List (List Int)) × (List (S42)))
 | 0,_,_,_,_,_,_=>none
 | k + 1,x9,x10,x11,x110000,x110001,x112000=>if x11 < x10 then (if 0 ≤ x11 then (if x11 < (x9.length : Int) then ((device_padded.f (rd_L1 x9 x11) ((rd_L1 x9 x11).length : Int)).bind fun t113=>(if x112000.length < 5864062014805 then (device_copied.l0 k x9 x10 (wrap64 (x11 + 1)) x110000 x110001 (x112000 ++ [t113])) else (none))) else (none)) else (none)) else (device_copied.l1 k x110001 (x110001.length : Int) 0 x112000 ([] : List (S42)))
def device_copied.l1 : Nat → List (S42) → Int → Int → List (List Int) → List (S42) → Option ((List (List Int)) × (List (S42)))
 | 0,_,_,_,_,_=>none
 | k + 1,x26,x27,x28,x112000,x112001=>if x28 < x27 then (if 0 ≤ x28 then (if x28 < (x26.length : Int) then ((device_padded.f ((rd_T42 x26 x28).f1) (((rd_T42 x26 x28).f1).length : Int)).bind fun t121=>(if x112001.length < 4398046511104 then (device_copied.l1 k x26 x27 (wrap64 (x28 + 1)) x112000 (x112001 ++ [(⟨(rd_T42 x26 x28).f0,t121⟩ : S42)])) else (none))) else (none)) else (none)) else (some (x112000,x112001))
end
def device_copied.f (k : Nat) (l0_0 : List (List Int)) (l0_1 : List (S42)) : Option ((List (List Int)) × (List (S42))):=device_copied.l0 k l0_0 (l0_0.length : Int) 0 l0_0 l0_1 ([] : List (List Int))
theorem device_copied.mono_l : ∀ k,(∀ y0 y1 y2 y3 y4 y5,LeO (device_copied.l0 k y0 y1 y2 y3 y4 y5) (device_copied.l0 (k + 1) y0 y1 y2 y3 y4 y5))∧(∀ y0 y1 y2 y3 y4,LeO (device_copied.l1 k y0 y1 y2 y3 y4) (device_copied.l1 (k + 1) y0 y1 y2 y3 y4))
 | 0=>⟨fun _ _ _ _ _ _ r h=>by simp [device_copied.l0] at h,fun _ _ _ _ _ r h=>by simp [device_copied.l1] at h⟩
 | k + 1=>by
  obtain ⟨ih0,ih1⟩:=device_copied.mono_l k
  refine ⟨?_,?_⟩
  ·
   intro y0 y1 y2 y3 y4 y5
   unfold device_copied.l0
   repeat' first
   | (with_reducible exact ih0 _ _ _ _ _ _)
   | (with_reducible exact ih1 _ _ _ _ _)
   | (with_reducible exact LeO.refl _)
   | (with_reducible exact LeO.none _)
   | (with_reducible refine LeO.ite ?_ ?_)
   | (with_reducible refine LeO.bind ?_ (fun _=>?_))
   | exact ih0 _ _ _ _ _ _
   | exact ih1 _ _ _ _ _
   | exact LeO.none _
   | refine LeO.ite ?_ ?_
   | refine LeO.bind ?_ (fun _=>?_)
  ·
   intro y0 y1 y2 y3 y4
   unfold device_copied.l1
   repeat' first
   | (with_reducible exact ih0 _ _ _ _ _ _)
   | (with_reducible exact ih1 _ _ _ _ _)
   | (with_reducible exact LeO.refl _)
   | (with_reducible exact LeO.none _)
   | (with_reducible refine LeO.ite ?_ ?_)
   | (with_reducible refine LeO.bind ?_ (fun _=>?_))
   | exact ih0 _ _ _ _ _ _
   | exact ih1 _ _ _ _ _
   | exact LeO.none _
   | refine LeO.ite ?_ ?_
   | refine LeO.bind ?_ (fun _=>?_)
theorem device_copied.mono : ∀ a0 a1 k,LeO (device_copied.f k a0 a1) (device_copied.f (k + 1) a0 a1):=by
 intro a0 a1 k
 obtain ⟨ih0,ih1⟩:=device_copied.mono_l k
 unfold device_copied.f
 repeat' first
   | (with_reducible exact ih0 _ _ _ _ _ _)
   | (with_reducible exact ih1 _ _ _ _ _)
   | (with_reducible exact LeO.refl _)
   | (with_reducible exact LeO.none _)
   | (with_reducible refine LeO.ite ?_ ?_)
   | (with_reducible refine LeO.bind ?_ (fun _=>?_))
   | exact ih0 _ _ _ _ _ _
   | exact ih1 _ _ _ _ _
   | exact LeO.none _
   | refine LeO.ite ?_ ?_
   | refine LeO.bind ?_ (fun _=>?_)
def device_copied.T5 : Bool × List (List Nat × List Nat):=(true,[([],[]),([0],[0]),([],[]),([],[]),([3],[3]),([2,4],[2,4]),([5],[5]),([1,6,5],[1,6]),([0,1,2,3,4,5,6,7],[]),([8,7,7,0,1,2,3,4,5,6,7],[7,8])])
def device_copied.B5 : List Nat:=[0,1,0,0,8,28,60,127,255,511]
theorem device_copied.tab5 : rtab .any (opsOf Try.f22 5) = device_copied.T5:=by kernel_rfl
theorem device_copied.bits5 : waitsOk device_copied.T5.2 device_copied.B5 = true:=by kernel_rfl
def device_copied.T10 : Bool × List (List Nat × List Nat):=(true,[([],[]),([0],[0]),([],[]),([2],[2]),([],[]),([4],[4]),([],[]),([6],[6]),([7],[7]),([5,8],[5,8]),([3,9],[3,9]),([10],[10]),([1,11,9],[1,11]),([0,1,2,3,4,5,6,7,8,9,10,11,12],[]),([13,12,12,0,1,2,3,4,5,6,7,8,9,10,11,12],[12,13])])
def device_copied.B10 : List Nat:=[0,1,0,4,0,16,0,64,192,496,1020,2044,4095,8191,16383]
theorem device_copied.tab10 : rtab .any (opsOf Try.f22 10) = device_copied.T10:=by kernel_rfl
theorem device_copied.bits10 : waitsOk device_copied.T10.2 device_copied.B10 = true:=by kernel_rfl
set_option maxHeartbeats 8000000 in
set_option maxRecDepth 100000 in
theorem device_copied.calls2 (k : Nat) (A0_0 : Option Addr) (c0_0 : Nat) (l0_0 : List (List Int)) (A0_1 : Option Addr) (c0_1 : Nat) (l0_1 : List (S42)) (r1 : List (List Int)) (r2 : List (S42)) (w : World) (hr0_0 : Kd.C (Kd.slice 5 (Kd.int .u8)) w A0_0 l0_0.length l0_0) (hc0_0 : l0_0.length ≤ c0_0) (hr0_1 : Kd.C k42 w A0_1 l0_1.length l0_1) (hc0_1 : l0_1.length ≤ c0_1) (h : device_copied.f k l0_0 l0_1 = some (r1,r2)) :
  Calls Try.prog 22 #[.agg #[.slice A0_0 l0_0.length c0_0,.slice A0_1 l0_1.length c0_1]] w fun e w'=>∃ v0_ v1_ : Value,e = .returned (.agg #[v0_,v1_])∧∃ mid : Nat,w.heap.size ≤ mid∧Kd.S (Kd.slice 5 (Kd.int .u8)) 26 w' w.heap.size (fun k_=>k_ < mid) v0_ r1∧Kd.S k42 42 w' mid (fun _=>True) v1_ r2∧Below w.heap.size w w':=by
 have hu25:=Try.underlying25
 have hu42:=Try.underlying42
 have HR0_0:=A_ hr0_0
 have HC0_0:=A_ hc0_0
 clear hr0_0 hc0_0
 have HR0_1:=A_ hr0_1
 have HC0_1:=A_ hc0_1
 clear hr0_1 hc0_1
 have HB:=A_ (Below.refl w.heap.size w)
 have H : (device_copied.l0 k l0_0 (l0_0.length : Int) 0 l0_0 l0_1 ([] : List (List Int))) = some (r1,r2):=h
 clear h
 have H':=A_ H
 clear H
 go_enter Try.func22,Try.ntmps22
 go_wp2_with (first|((with_reducible refine gate_dst (N:=1) rfl ?_);refine box_event ?hg (N:=1) ?hd (cs:=#[.slice A0_0 l0_0.length c0_0,.slice A0_1 l0_1.length c0_1]) (t:=25) ?hr ?_;(case hd=>rfl);(case hg=>rfl);(case hr=>first|(go_simp;done)|(go_simp;rfl));intro gb109 hg w2 hbox hb;have n0_:=A_ (below_step (by repeat (first|(with_reducible first|exact HB.out|apply ba|apply bb|apply bc)|exact HB.out)) hb);have n1_:=A_ (hbox);have n2_:=A_ ((by rw [hg];exact (below_size (by repeat (first|(with_reducible first|exact HB.out|apply ba|apply bb|apply bc)|exact HB.out))) : w.heap.size ≤ gb109));have n3_:=A_ ((by rw [hg];exact (below_size (by repeat (first|(with_reducible first|exact HB.out|apply ba|apply bb|apply bc)|exact HB.out))) : w.heap.size ≤ gb109));clear HB;have HB:=n0_;have BK109:=n1_;have GW109:=n2_;have GE109:=n3_;clear n0_ n1_ n2_ n3_;clear hb hbox hg)|((with_reducible refine gate_dst (N:=2) rfl ?_);refine box_event ?hg (N:=2) ?hd (cs:=#[.slice none 0 0,.slice none 0 0]) (t:=25) ?hr ?_;(case hd=>rfl);(case hg=>rfl);(case hr=>first|(go_simp;done)|(go_simp;rfl));intro gb110 hg w3 hbox hb;have n0_:=A_ (blk_below (g:=gb109) (o:=.cells #[.slice A0_0 l0_0.length c0_0,.slice A0_1 l0_1.length c0_1] 25 (0,0)) (by (with_reducible repeat (first|refine blk_drewN ?_ _|refine blk_drew ?_|refine blk_alloc ?_ _));exact BK109.out) hb);have n1_:=A_ (below_step (by repeat (first|(with_reducible first|exact HB.out|apply ba|apply bb|apply bc|refine below_set ?_ GE109.out)|exact HB.out)) hb);have n2_:=A_ (hbox);have n3_:=A_ ((by rw [hg];exact (below_size (by repeat (first|(with_reducible first|exact HB.out|apply ba|apply bb|apply bc|refine below_set ?_ GE109.out)|exact HB.out))) : w.heap.size ≤ gb110));have n4_:=A_ ((by rw [hg];exact (below_size (by repeat (first|(with_reducible first|exact HB.out|apply ba|apply bb|apply bc|refine below_set ?_ GE109.out)|exact HB.out))) : w.heap.size ≤ gb110));have n5_:=A_ ((by rw [hg];exact Nat.ne_of_lt (blk_lt (g:=gb109) (o:=.cells #[.slice A0_0 l0_0.length c0_0,.slice A0_1 l0_1.length c0_1] 25 (0,0)) (by (with_reducible repeat (first|refine blk_drewN ?_ _|refine blk_drew ?_|refine blk_alloc ?_ _));exact BK109.out)) : gb109≠gb110));have n6_:=A_ ((by rw [hg];exact Nat.ne_of_gt (blk_lt (g:=gb109) (o:=.cells #[.slice A0_0 l0_0.length c0_0,.slice A0_1 l0_1.length c0_1] 25 (0,0)) (by (with_reducible repeat (first|refine blk_drewN ?_ _|refine blk_drew ?_|refine blk_alloc ?_ _));exact BK109.out)) : gb110≠gb109));clear BK109;clear HB;have BK109:=n0_;have HB:=n1_;have BK110:=n2_;have GW110:=n3_;have GE110:=n4_;have NB109_110:=n5_;have NB110_109:=n6_;clear n0_ n1_ n2_ n3_ n4_ n5_ n6_;clear hb hbox hg)|((with_reducible refine gate_dst (N:=3) rfl ?_);refine box_event ?hg (N:=3) ?hd (cs:=#[.slice none 0 0,.slice none 0 0]) (t:=25) ?hr ?_;(case hd=>rfl);(case hg=>rfl);(case hr=>first|(go_simp;done)|(go_simp;rfl));intro gb111 hg w4 hbox hb;have n0_:=A_ (blk_below (g:=gb109) (o:=.cells #[.slice A0_0 l0_0.length c0_0,.slice A0_1 l0_1.length c0_1] 25 (0,0)) (by (with_reducible repeat (first|refine blk_drewN ?_ _|refine blk_drew ?_|refine blk_alloc ?_ _));exact BK109.out) hb);have n1_:=A_ (blk_below (g:=gb110) (o:=.cells #[.slice none 0 0,.slice none 0 0] 25 (0,0)) (by (with_reducible repeat (first|refine blk_drewN ?_ _|refine blk_drew ?_|refine blk_alloc ?_ _));exact BK110.out) hb);have n2_:=A_ (below_step (by repeat (first|(with_reducible first|exact HB.out|apply ba|apply bb|apply bc|refine below_set ?_ GE109.out|refine below_set ?_ GE110.out)|exact HB.out)) hb);have n3_:=A_ (hbox);have n4_:=A_ ((by rw [hg];exact (below_size (by repeat (first|(with_reducible first|exact HB.out|apply ba|apply bb|apply bc|refine below_set ?_ GE109.out|refine below_set ?_ GE110.out)|exact HB.out))) : w.heap.size ≤ gb111));have n5_:=A_ ((by rw [hg];exact (below_size (by repeat (first|(with_reducible first|exact HB.out|apply ba|apply bb|apply bc|refine below_set ?_ GE109.out|refine below_set ?_ GE110.out)|exact HB.out))) : w.heap.size ≤ gb111));have n6_:=A_ ((by rw [hg];exact Nat.ne_of_lt (blk_lt (g:=gb109) (o:=.cells #[.slice A0_0 l0_0.length c0_0,.slice A0_1 l0_1.length c0_1] 25 (0,0)) (by (with_reducible repeat (first|refine blk_drewN ?_ _|refine blk_drew ?_|refine blk_alloc ?_ _));exact BK109.out)) : gb109≠gb111));have n7_:=A_ ((by rw [hg];exact Nat.ne_of_gt (blk_lt (g:=gb109) (o:=.cells #[.slice A0_0 l0_0.length c0_0,.slice A0_1 l0_1.length c0_1] 25 (0,0)) (by (with_reducible repeat (first|refine blk_drewN ?_ _|refine blk_drew ?_|refine blk_alloc ?_ _));exact BK109.out)) : gb111≠gb109));have n8_:=A_ ((by rw [hg];exact Nat.ne_of_lt (blk_lt (g:=gb110) (o:=.cells #[.slice none 0 0,.slice none 0 0] 25 (0,0)) (by (with_reducible repeat (first|refine blk_drewN ?_ _|refine blk_drew ?_|refine blk_alloc ?_ _));exact BK110.out)) : gb110≠gb111));have n9_:=A_ ((by rw [hg];exact Nat.ne_of_gt (blk_lt (g:=gb110) (o:=.cells #[.slice none 0 0,.slice none 0 0] 25 (0,0)) (by (with_reducible repeat (first|refine blk_drewN ?_ _|refine blk_drew ?_|refine blk_alloc ?_ _));exact BK110.out)) : gb111≠gb110));clear BK109;clear BK110;clear HB;have BK109:=n0_;have BK110:=n1_;have HB:=n2_;have BK111:=n3_;have GW111:=n4_;have GE111:=n5_;have NB109_111:=n6_;have NB111_109:=n7_;have NB110_111:=n8_;have NB111_110:=n9_;clear n0_ n1_ n2_ n3_ n4_ n5_ n6_ n7_ n8_ n9_;clear hb hbox hg;have hnb5:=NB109_110.out;have hnc5:=NB110_109.out;have hnb6:=NB109_111.out;have hnc6:=NB111_109.out;have hcz7_0 : w4.cell? ⟨gb109,0,none⟩ = some (.slice A0_0 l0_0.length c0_0):=(blk_cell BK109.out 0).trans rfl;have hcz7_1 : w4.cell? ⟨gb109,1,none⟩ = some (.slice A0_1 l0_1.length c0_1):=(blk_cell BK109.out 1).trans rfl;have hfz7_0:=blk_frozen BK109.out 0;have hfz7_1:=blk_frozen BK109.out 1))
 go_loopg [11] k (fun kq v11 w'=>∃ (x11_1 : Int) (x112000_1 : List (List Int)) (u112000 : Value),v11 = .int .i64 x11_1∧Aside0 (device_copied.l0 kq l0_0 (l0_0.length : Int) x11_1 l0_0 l0_1 x112000_1 = some (r1,r2))∧Aside0 (kq ≤ k)∧Aside0 (Kd.S (Kd.slice 5 (Kd.int .u8)) 26 w' w.heap.size (fun _=>True) u112000 x112000_1)∧Aside0 (w'.heap[gb109]? = some (.cells #[(.slice A0_0 l0_0.length c0_0),(.slice A0_1 l0_1.length c0_1)] 25 (0,0)))∧Aside0 (w'.heap[gb110]? = some (.cells #[(.slice none 0 0),(.slice none 0 0)] 25 (0,0)))∧Aside0 (w'.heap[gb111]? = some (.cells #[u112000,(.slice none 0 0)] 25 (0,0)))∧Aside0 (Below w.heap.size w w'))
 case atStart=>exact ⟨(0),(([] : List (List Int))),(.slice none 0 0),(by first|rfl|(simp;done)|(simp [*];done)),H',⟨Nat.le_refl _⟩,⟨by first|exact Kd.S_nil _ _ _ _ _|exact Kd.N_nil _ _ _ _ _|exact Kd.V_nil _ _ _ _ _|exact Kd.Q_nil _ _ _ _ _|exact Kd.R_nil _ _ _ _ _⟩,⟨by (with_reducible repeat (first|refine blk_drewN ?_ _|refine blk_drew ?_|refine blk_alloc ?_ _));exact BK109.out⟩,⟨by (with_reducible repeat (first|refine blk_drewN ?_ _|refine blk_drew ?_|refine blk_alloc ?_ _));exact BK110.out⟩,⟨by (with_reducible repeat (first|refine blk_drewN ?_ _|refine blk_drew ?_|refine blk_alloc ?_ _));exact BK111.out⟩,⟨by repeat (first|(with_reducible first|exact HB.out|apply ba|apply bb|apply bc|refine below_set ?_ GE109.out|refine below_set ?_ GE110.out|refine below_set ?_ GE111.out)|exact HB.out)⟩⟩
 case round =>
  clear H'
  try clear c2
  try clear p2
  try clear c5
  try clear c6
  try clear hcz7_0
  try clear hcz7_1
  try clear hfz7_0
  try clear hfz7_1
  obtain ⟨x11_1,x112000_1,u112000,rfl,HA,HK1,HO_112000,BK109,BK110,BK111,HB⟩:=hrel
  cases gk with
  | zero=>exact absurd HA.out (by simp [device_copied.l0])
  | succ k1 =>
   have H:=HA.out
   clear HA
   simp only [device_copied.l0] at H
   by_cases c8 : x11_1 < (l0_0.length : Int)
   ·
    rw [if_pos c8] at H
    have c8b0 : decide (x11_1 < (l0_0.length : Int)) = true:=decide_eq_true c8
    clear c8
    by_cases c9 : 0 ≤ x11_1
    ·
     rw [if_pos c9] at H
     have c9b0 : decide (0 ≤ x11_1) = true:=decide_eq_true c9
     clear c9
     by_cases c10 : x11_1 < (l0_0.length : Int)
     ·
      rw [if_pos c10] at H
      have c10b0 : decide (x11_1 < (l0_0.length : Int)) = true:=decide_eq_true c10
      clear c10
      replace H:=Option.bind_eq_some_iff.mp H
      obtain ⟨t113,A110,H⟩:=H
      replace H : (if x112000_1.length < 5864062014805 then (device_copied.l0 k1 l0_0 (l0_0.length : Int) (wrap64 (x11_1 + 1)) l0_0 l0_1 (x112000_1 ++ [t113])) else (none)) = some (r1,r2):=H
      have A11:=A_ A110
      clear A110
      by_cases c12 : x112000_1.length < 5864062014805
      ·
       rw [if_pos c12] at H
       have LMc12:=A_ c12
       clear c12
       obtain ⟨y116,hy116⟩ : ∃ y_ : List (List Int),y_ = (x112000_1 ++ [t113]):=⟨_,rfl⟩
       replace H : (device_copied.l0 k1 l0_0 (l0_0.length : Int) (wrap64 (x11_1 + 1)) l0_0 l0_1 y116) = some (r1,r2):=by first|(rw [hy116];with_reducible exact H)|(have H2_:=(Option.bind_some _ _).symm.trans H;rw [hy116];with_reducible exact H2_)|(have H2_:=(Option.bind_some _ _).symm.trans H;with_reducible exact H2_)|with_reducible exact H|(rw [hy116];exact H)|exact H
       have Ny116:=A_ hy116
       clear hy116
       have H':=A_ H
       clear H
       have p112 : 0 ≤ (x11_1 : Int):=of_decide_eq_true (by first|(with_reducible assumption)|assumption)
       have q112 : x11_1 < (l0_0.length : Int):=of_decide_eq_true (by first|(with_reducible assumption)|assumption)
       obtain ⟨ad112,A112_0,c112_0,e112,hx112_0,hl112_0,hi112_0⟩:=at_L1 HR0_0.out x11_1 p112 q112
       cases e112
       replace hx112_0:=(HB.out.cell (World.block_lt_of_cell? w _ hx112_0)).trans hx112_0
       have HR112_0:=A_ hi112_0
       have HC112_0:=A_ hl112_0
       clear hi112_0 hl112_0
       replace p112:=eq_true p112
       replace q112:=eq_true q112
       try go_wp2
       have n0_:=A_ (Kd.S_drew HO_112000.out)
       have n1_:=A_ (blk_drew BK109.out)
       have n2_:=A_ (blk_drew BK110.out)
       have n3_:=A_ (blk_drew BK111.out)
       have n4_:=A_ (below_drew1 HB.out)
       clear HO_112000
       clear BK109
       clear BK110
       clear BK111
       clear HB
       have HO_112000:=n0_
       have BK109:=n1_
       have BK110:=n2_
       have BK111:=n3_
       have HB:=n4_
       clear n0_ n1_ n2_ n3_ n4_
       refine start_ (n:=10) (S:=fun w'=>w'.cell? ⟨gb111,0,none⟩ = some (u112000)∧w'.cell? ⟨gb111,1,none⟩ = some (.slice none 0 0)) (ds:=[9]) #[false,false,false,false,false,false,false,false,false,false] (by kernel_rfl) rfl rfl ⟨(blk_cell BK111.out 0).trans rfl,(blk_cell BK111.out 1).trans rfl⟩ (fun hHeld=>?_);refine with_tabW device_copied.tab5 device_copied.bits5 (fun HT_ HW_=>?_)
       generalize wr.drew = w13 at HO_112000 BK109 BK110 BK111 HB hHeld ⊢
       refine pure_ (i:=0) (N:=some 15) (v:=?_) (a':=?_) #[true,false,false,false,false,false,false,false,false,false] rfl rfl (any_of HT_.out (by kernel_rfl)) (fun _ _ _ h=>h) (Or.inl ⟨by rfl,?_⟩) ?_ ?_
       rotate_left
       ·
        intro w'
        go_simp
        with_reducible rfl
       rotate_left
       ·
        simp only [Act.put,sa,sb,sc,i64_w,i32_w]
        rfl
       refine pure_ (i:=2) (N:=some 17) (v:=?_) (a':=?_) #[true,false,true,false,false,false,false,false,false,false] rfl rfl (any_of HT_.out (by kernel_rfl)) (fun _ _ _ h=>h) (Or.inl ⟨by rfl,?_⟩) ?_ ?_
       rotate_left
       ·
        intro w'
        go_simp
        with_reducible rfl
       rotate_left
       ·
        simp only [Act.put,sa,sb,sc,i64_w,i32_w]
        rfl
       refine pure_ (i:=3) (N:=some 18) (v:=?_) (a':=?_) #[true,false,true,true,false,false,false,false,false,false] rfl rfl (any_of HT_.out (by kernel_rfl)) (fun _ _ _ h=>h) (Or.inl ⟨by rfl,?_⟩) ?_ ?_
       rotate_left
       ·
        intro w'
        go_simp
        with_reducible rfl
       rotate_left
       ·
        simp only [Act.put,sa,sb,sc,i64_w,i32_w]
        rfl
       refine pure_ (i:=4) (N:=some 19) (v:=?_) (a':=?_) #[true,false,true,true,true,false,false,false,false,false] rfl rfl (any_of HT_.out (by kernel_rfl)) (fun _ _ _ h=>h) (Or.inl ⟨by rfl,?_⟩) ?_ ?_
       rotate_left
       ·
        intro w'
        go_simp
        with_reducible rfl
       rotate_left
       ·
        simp only [Act.put,sa,sb,sc,i64_w,i32_w]
        rfl
       refine take_ (i:=1) (N:=some 16) (v:=?_) (a':=?_) #[true,true,true,true,true,false,false,false,false,false] rfl rfl (take_ofW HT_.out HW_.out (by kernel_rfl)) (fun _ _ _ h=>h) (Or.inl ⟨by rfl,?_⟩) hHeld ?_ ?_
       rotate_left
       ·
        rintro w' ⟨s0,s1⟩
        go_simp
        with_reducible rfl
       rotate_left
       ·
        simp only [Act.put,sa,sb,sc,i64_w,i32_w]
        rfl
       refine one_ (i:=5) (N:=some 20) #[true,true,true,true,true,true,false,false,false,false] rfl rfl (one_of HT_.out (by kernel_rfl)) (by decide) (fun K hK=>?_)
       refine goes_ Try.func24 (by kernel_rfl) rfl #[.slice A112_0 (rd_L1 l0_0 x11_1).length c112_0,.int .i64 ((rd_L1 l0_0 x11_1).length : Int)] (by rfl) rfl rfl (by (try simp only [List.map_toArray,List.map_cons,List.map_nil]);first|done|rfl|(simp only [List.length_drop,List.length_take];rfl)) ?_
       with_reducible refine (device_padded.calls _ _ (rd_L1 l0_0 x11_1) ((rd_L1 l0_0 x11_1).length : Int) t113 _ ?side1 ?side2 A11.out).mono ?_
       (case side1=>repeat (first|exact (cl HR112_0.out HB.out)|(with_reducible refine ca ?_ _)|(with_reducible refine cb ?_ _)|(with_reducible refine cc ?_)))
       (case side2=>exact HC112_0.out)
       rintro e w14 ⟨v114,rfl,ho0,hb⟩
       refine ⟨_,rfl,?_⟩
       have n0_:=A_ (Kd.S_elder' (by (with_reducible repeat (first|apply Kd.S_alloc|apply Kd.S_drewN|apply Kd.S_drew));exact HO_112000.out) (rs ho0) hb)
       have n1_:=A_ (Kd.R_lower ho0 (below_size (by repeat (first|(with_reducible first|exact HB.out|apply ba|apply bb|apply bc|refine below_set ?_ GE109.out|refine below_set ?_ GE110.out|refine below_set ?_ GE111.out)|exact HB.out))))
       have n2_:=A_ (blk_below (g:=gb109) (o:=.cells #[.slice (some ad112) l0_0.length c0_0,.slice A0_1 l0_1.length c0_1] 25 (0,0)) (by (with_reducible repeat (first|refine blk_drewN ?_ _|refine blk_drew ?_|refine blk_alloc ?_ _));exact BK109.out) hb)
       have n3_:=A_ (blk_below (g:=gb110) (o:=.cells #[.slice none 0 0,.slice none 0 0] 25 (0,0)) (by (with_reducible repeat (first|refine blk_drewN ?_ _|refine blk_drew ?_|refine blk_alloc ?_ _));exact BK110.out) hb)
       have n4_:=A_ (blk_below (g:=gb111) (o:=.cells #[u112000,.slice none 0 0] 25 (0,0)) (by (with_reducible repeat (first|refine blk_drewN ?_ _|refine blk_drew ?_|refine blk_alloc ?_ _));exact BK111.out) hb)
       have n5_:=A_ (below_step (by repeat (first|(with_reducible first|exact HB.out|apply ba|apply bb|apply bc|refine below_set ?_ GE109.out|refine below_set ?_ GE110.out|refine below_set ?_ GE111.out)|exact HB.out)) hb)
       clear HO_112000
       clear BK109
       clear BK110
       clear BK111
       clear HB
       have HO_112000:=n0_
       have HO115:=n1_
       have BK109:=n2_
       have BK110:=n3_
       have BK111:=n4_
       have HB:=n5_
       clear n0_ n1_ n2_ n3_ n4_ n5_
       (try clear hb)
       (try clear hb2)
       (try clear hk)
       (try clear hi)
       (try clear ho0)
       obtain ⟨Ao16,co16,eo16⟩:=Kd.R_slice HO115.out
       (first|subst eo16|(injection eo16 with f1_ f2_ f3_;have f4_:=f1_.symm;have f5_:=f3_.symm;clear f1_ f2_ f3_;subst f4_;subst f5_))
       refine hK.out _ _ ⟨(blk_cell BK111.out 0).trans rfl,(blk_cell BK111.out 1).trans rfl⟩ (fun hHeld=>?_)
       clear hK K
       refine norm_ (a':=?_) ?_ ?_
       rotate_left
       ·
        show Act.put _ (some 20) _ = _
        simp only [Act.put,sa,sb,sc,i64_w,i32_w]
        rfl
       refine one_ (i:=6) (N:=some 21) #[true,true,true,true,true,true,true,false,false,false] rfl rfl (one_of HT_.out (by kernel_rfl)) (by decide) (fun K hK=>?_)
       refine value_ (w1:=?_) (v:=?_) (by rfl) rfl ?_ ?_
       rotate_left 2
       ·
        go_simp
        constructor
        ·
         rfl
        ·
         rfl
       refine hK.out _ _ ⟨(blk_cell (blk_alloc BK111.out _) 0).trans rfl,(blk_cell (blk_alloc BK111.out _) 1).trans rfl⟩ (fun hHeld=>?_)
       clear hK K
       refine norm_ (a':=?_) ?_ ?_
       rotate_left
       ·
        show Act.put _ (some 21) _ = _
        simp only [Act.put,sa,sb,sc,i64_w,i32_w]
        rfl
       refine one_ (i:=7) (N:=some 22) #[true,true,true,true,true,true,true,true,false,false] rfl rfl (one_of HT_.out (by kernel_rfl)) (by decide) (fun K hK=>?_)
       refine Kd.S_append_step (Kd.slice 5 (Kd.int .u8)) (w0:=w) w.heap.size (by rfl) (.tmp 16) (.tmp 21) 22 26 (.slice none 0 0) 24 rfl Try.underlying22 info26 rfl (by decide) (by omega) u112000 x112000_1 t113 [.slice Ao16 t113.length co16] (fun _=>True) (fun k_=>some k_ = (.slice Ao16 t113.length co16 : Value).ownBlock) rfl rfl ?aP (fun k_ hk_=>((rm (ok':=fun k_=>((fun _=>True)) k_∧some k_≠(u112000 : Value).ownBlock) (Kd.R_apart' (HO115.out) (Kd.S_typed HO_112000.out) (by decide)) (fun k_ hk=>⟨trivial,hk.2⟩))).1 k_ hk_.symm) ?aF ?aO ?aB ?aS ?aL ?_
       (case aP=>exact Kd.M_row (rm (Kd.R_tight rfl (rm (ok':=fun k_=>((fun _=>True)) k_∧some k_≠(u112000 : Value).ownBlock) (Kd.R_apart' (HO115.out) (Kd.S_typed HO_112000.out) (by decide)) (fun k_ hk=>⟨trivial,hk.2⟩))) (fun _ h_=>h_)))
       (case aB=>exact (by repeat (first|(with_reducible first|exact HB.out|apply ba|apply bb|apply bc|refine below_set ?_ GE109.out|refine below_set ?_ GE110.out|refine below_set ?_ GE111.out)|exact HB.out)))
       (case aF=>exact (fun _ _=>trivial))
       (case aO=>exact (by (with_reducible repeat (first|apply Kd.S_alloc|apply Kd.S_drewN|apply Kd.S_drew));exact Kd.S_mono HO_112000.out (fun k_ hk=>⟨trivial,fun e_=>hk.2 e_⟩)))
       (case aS=>exact (below_size (by repeat (first|(with_reducible first|exact HB.out|apply ba|apply bb|apply bc|refine below_set ?_ GE109.out|refine below_set ?_ GE110.out|refine below_set ?_ GE111.out)|exact HB.out))))
       (case aL=>have:=LMc12.out;omega)
       intro v117 w15 ho hb hg hat
       rw [← Ny116.out] at ho
       have n0_:=A_ (blk_grown (g:=gb109) (o:=.cells #[.slice (some ad112) l0_0.length c0_0,.slice A0_1 l0_1.length c0_1] 25 (0,0)) (by (with_reducible repeat (first|refine blk_drewN ?_ _|refine blk_drew ?_|refine blk_alloc ?_ _));exact BK109.out) hg (Kd.S_ne HO_112000.out BK109.out (by decide)))
       have n1_:=A_ (blk_grown (g:=gb110) (o:=.cells #[.slice none 0 0,.slice none 0 0] 25 (0,0)) (by (with_reducible repeat (first|refine blk_drewN ?_ _|refine blk_drew ?_|refine blk_alloc ?_ _));exact BK110.out) hg (Kd.S_ne HO_112000.out BK110.out (by decide)))
       have n2_:=A_ (blk_grown (g:=gb111) (o:=.cells #[u112000,.slice none 0 0] 25 (0,0)) (by (with_reducible repeat (first|refine blk_drewN ?_ _|refine blk_drew ?_|refine blk_alloc ?_ _));exact BK111.out) hg (Kd.S_ne HO_112000.out BK111.out (by decide)))
       have n3_:=A_ (hb)
       have n4_:=A_ (ho)
       clear BK109
       clear BK110
       clear BK111
       clear HB
       clear HO_112000
       clear HO115
       have BK109:=n0_
       have BK110:=n1_
       have BK111:=n2_
       have HB:=n3_
       have HO118:=n4_
       clear n0_ n1_ n2_ n3_ n4_
       clear ho hb hg hat
       obtain ⟨Ao17,co17,eo17⟩:=Kd.S_slice HO118.out
       (first|subst eo17|(injection eo17 with f1_ f2_ f3_;have f4_:=f1_.symm;have f5_:=f3_.symm;clear f1_ f2_ f3_;subst f4_;subst f5_))
       refine hK.out _ _ ⟨(blk_cell BK111.out 0).trans rfl,(blk_cell BK111.out 1).trans rfl⟩ (fun hHeld=>?_)
       clear hK K
       refine norm_ (a':=?_) ?_ ?_
       rotate_left
       ·
        show Act.put _ (some 22) _ = _
        simp only [Act.put,sa,sb,sc,i64_w,i32_w]
        rfl
       refine pure_ (i:=8) (N:=some 23) (v:=?_) (a':=?_) #[true,true,true,true,true,true,true,true,true,false] rfl rfl (any_of HT_.out (by kernel_rfl)) (fun _ _ _ h=>h) (Or.inl ⟨by rfl,?_⟩) ?_ ?_
       rotate_left
       ·
        intro w'
        go_simp
        with_reducible rfl
       rotate_left
       ·
        simp only [Act.put,sa,sb,sc,i64_w,i32_w]
        rfl
       refine last_ (i:=9) (N:=none) #[true,true,true,true,true,true,true,true,true,true] rfl rfl (one_of HT_.out (by kernel_rfl)) (by decide) (fun K hK=>?_)
       have hs18 : w15.cell? ⟨gb111,0,none⟩ = some (u112000):=(blk_cell BK111.out 0).trans rfl
       have hfs18:=blk_frozen BK111.out 0
       have hns18_0:=NB109_111.out
       have hns18_1:=NB110_111.out
       have hms18_0:=NB111_109.out
       have hms18_1:=NB111_110.out
       refine skip_ (w1:=?_) (by rfl) rfl ?_ ?_
       rotate_left
       ·
        go_simp
        rfl
       refine hK.out _ _ ?_
       clear hK K
       refine done_ (done_of HT_.out (by kernel_rfl)) ?_
       try go_wp2
       go_roundg k1
       case measure=>have:=HK1.out;omega
       case rel=>exact ⟨(wrap64 (x11_1 + 1)),(y116),(.slice Ao17 y116.length co17),(by first|rfl|(simp;done)|(simp [*];done)),H',⟨by have:=HK1.out;omega⟩,⟨by (with_reducible repeat (first|apply Kd.S_alloc|apply Kd.S_drewN|apply Kd.S_drew));exact Kd.S_mono (Kd.S_far (p:=⟨gb111,0,none⟩) (Kd.S_types HO118.out BK111.out (by decide)) (fun _ hk=>hk.2) (.slice Ao17 y116.length co17)) (fun _ hk=>trivial)⟩,⟨by (with_reducible repeat (first|refine blk_drewN ?_ _|refine blk_drew ?_|refine blk_alloc ?_ _));refine blk_far ?_ NB109_111.out _;(with_reducible repeat (first|refine blk_drewN ?_ _|refine blk_drew ?_|refine blk_alloc ?_ _));exact BK109.out⟩,⟨by (with_reducible repeat (first|refine blk_drewN ?_ _|refine blk_drew ?_|refine blk_alloc ?_ _));refine blk_far ?_ NB110_111.out _;(with_reducible repeat (first|refine blk_drewN ?_ _|refine blk_drew ?_|refine blk_alloc ?_ _));exact BK110.out⟩,⟨by (with_reducible repeat (first|refine blk_drewN ?_ _|refine blk_drew ?_|refine blk_alloc ?_ _));refine blk_put (cs:=#[u112000,.slice none 0 0]) ?_ 0 _ rfl;(with_reducible repeat (first|refine blk_drewN ?_ _|refine blk_drew ?_|refine blk_alloc ?_ _));exact BK111.out⟩,⟨by repeat (first|(with_reducible first|exact HB.out|apply ba|apply bb|apply bc|refine below_set ?_ GE109.out|refine below_set ?_ GE110.out|refine below_set ?_ GE111.out)|exact HB.out)⟩⟩
      ·
       rw [if_neg c12] at H
       exact absurd H (by simp)
     ·
      rw [if_neg c10] at H
      exact absurd H (by simp)
    ·
     rw [if_neg c9] at H
     exact absurd H (by simp)
   ·
    rw [if_neg c8] at H
    have c8b0 : decide (x11_1 < (l0_0.length : Int)) = false:=decide_eq_false c8
    clear c8
    have H':=A_ H
    clear H
    have hnb19:=NB109_110.out
    have hnc19:=NB110_109.out
    have hnb20:=NB109_111.out
    have hnc20:=NB111_109.out
    have hcz21_0 : wr.cell? ⟨gb109,0,none⟩ = some (.slice A0_0 l0_0.length c0_0):=(blk_cell BK109.out 0).trans rfl
    have hcz21_1 : wr.cell? ⟨gb109,1,none⟩ = some (.slice A0_1 l0_1.length c0_1):=(blk_cell BK109.out 1).trans rfl
    have hfz21_0:=blk_frozen BK109.out 0
    have hfz21_1:=blk_frozen BK109.out 1
    obtain ⟨wm,hwm_,hmp_⟩:=Kd.S_mid HO_112000.out
    have HMP:=A_ hmp_
    have HWM:=A_ (show w.heap.size ≤ wm.heap.size from by rw [hwm_];exact HB.out.size)
    have HKM:=A_ (show KeepBut wm _ gb111 none from by rw [hwm_];exact KeepBut.refl _ _ _)
    have HKB:=A_ (show wm.heap[gb111]? = some (.cells #[u112000,.slice none 0 0] 25 (0,0)) from by rw [hwm_];exact BK111.out)
    clear hwm_ hmp_
    go_wp2
    go_loopg [28] k1 (fun kq v28 w'=>∃ (x28_2 : Int) (x112001_2 : List (S42)) (u112001 : Value),v28 = .int .i64 x28_2∧Aside0 (device_copied.l1 kq l0_1 (l0_1.length : Int) x28_2 x112000_1 x112001_2 = some (r1,r2))∧Aside0 (kq ≤ k1)∧Aside0 (Kd.S (Kd.slice 5 (Kd.int .u8)) 26 w' w.heap.size (fun _=>True) u112000 x112000_1)∧Aside0 (Kd.S k42 42 w' wm.heap.size (fun _=>True) u112001 x112001_2)∧Aside0 (w'.heap[gb109]? = some (.cells #[(.slice A0_0 l0_0.length c0_0),(.slice A0_1 l0_1.length c0_1)] 25 (0,0)))∧Aside0 (w'.heap[gb110]? = some (.cells #[(.slice none 0 0),(.slice none 0 0)] 25 (0,0)))∧Aside0 (w'.heap[gb111]? = some (.cells #[u112000,u112001] 25 (0,0)))∧Aside0 (Below w.heap.size w w')∧Aside0 (KeepBut wm w' gb111 none))
    case atStart=>exact ⟨(0),(([] : List (S42))),(.slice none 0 0),(by first|rfl|(simp;done)|(simp [*];done)),H',⟨Nat.le_refl _⟩,⟨by (with_reducible repeat (first|apply Kd.S_alloc|apply Kd.S_drewN|apply Kd.S_drew));exact HO_112000.out⟩,⟨by first|exact Kd.S_nil _ _ _ _ _|exact Kd.N_nil _ _ _ _ _|exact Kd.V_nil _ _ _ _ _|exact Kd.Q_nil _ _ _ _ _|exact Kd.R_nil _ _ _ _ _⟩,⟨by (with_reducible repeat (first|refine blk_drewN ?_ _|refine blk_drew ?_|refine blk_alloc ?_ _));exact BK109.out⟩,⟨by (with_reducible repeat (first|refine blk_drewN ?_ _|refine blk_drew ?_|refine blk_alloc ?_ _));exact BK110.out⟩,⟨by (with_reducible repeat (first|refine blk_drewN ?_ _|refine blk_drew ?_|refine blk_alloc ?_ _));exact BK111.out⟩,⟨by repeat (first|(with_reducible first|exact HB.out|apply ba|apply bb|apply bc|refine below_set ?_ GE109.out|refine below_set ?_ GE110.out|refine below_set ?_ GE111.out)|exact HB.out)⟩,⟨by repeat (first|(with_reducible first|exact HKM.out|apply KeepBut.set_|apply keep_drewN|apply keep_drew|apply keep_alloc|refine keep_far ?_ GEK.out _)|exact HKM.out)⟩⟩
    case round =>
     clear H'
     try clear c1
     try clear p1
     try clear q1
     try clear hx1
     try clear c2
     try clear p2
     try clear c5
     try clear c6
     try clear p6
     try clear c8
     try clear c8b0
     try clear c9
     try clear c9b0
     try clear c10
     try clear c10b0
     try clear c11
     try clear p11
     try clear q11
     try clear hx11
     try clear c12
     try clear c19
     try clear c20
     try clear hcz21_0
     try clear hcz21_1
     try clear hcz7_0
     try clear hcz7_1
     try clear hfz21_0
     try clear hfz21_1
     try clear hfz7_0
     try clear hfz7_1
     try clear hx112_0
     try clear p112
     try clear p2
     try clear q112
     obtain ⟨x28_2,x112001_2,u112001,rfl,HA,HK2,HO_112000,HO_112001,BK109,BK110,BK111,HB,HKM⟩:=hrel
     cases gk with
     | zero=>exact absurd HA.out (by simp [device_copied.l1])
     | succ k2 =>
      have H:=HA.out
      clear HA
      simp only [device_copied.l1] at H
      by_cases c22 : x28_2 < (l0_1.length : Int)
      ·
       rw [if_pos c22] at H
       have c22b0 : decide (x28_2 < (l0_1.length : Int)) = true:=decide_eq_true c22
       clear c22
       by_cases c23 : 0 ≤ x28_2
       ·
        rw [if_pos c23] at H
        have c23b0 : decide (0 ≤ x28_2) = true:=decide_eq_true c23
        clear c23
        by_cases c24 : x28_2 < (l0_1.length : Int)
        ·
         rw [if_pos c24] at H
         have c24b0 : decide (x28_2 < (l0_1.length : Int)) = true:=decide_eq_true c24
         clear c24
         replace H:=Option.bind_eq_some_iff.mp H
         obtain ⟨t121,A250,H⟩:=H
         replace H : (if x112001_2.length < 4398046511104 then (device_copied.l1 k2 l0_1 (l0_1.length : Int) (wrap64 (x28_2 + 1)) x112000_1 (x112001_2 ++ [(⟨(rd_T42 l0_1 x28_2).f0,t121⟩ : S42)])) else (none)) = some (r1,r2):=H
         have A25:=A_ A250
         clear A250
         by_cases c26 : x112001_2.length < 4398046511104
         ·
          rw [if_pos c26] at H
          have LMc26:=A_ c26
          clear c26
          obtain ⟨y124,hy124⟩ : ∃ y_ : List (S42),y_ = (x112001_2 ++ [(⟨(rd_T42 l0_1 x28_2).f0,t121⟩ : S42)]):=⟨_,rfl⟩
          replace H : (device_copied.l1 k2 l0_1 (l0_1.length : Int) (wrap64 (x28_2 + 1)) x112000_1 y124) = some (r1,r2):=by first|(rw [hy124];with_reducible exact H)|(have H2_:=(Option.bind_some _ _).symm.trans H;rw [hy124];with_reducible exact H2_)|(have H2_:=(Option.bind_some _ _).symm.trans H;with_reducible exact H2_)|with_reducible exact H|(rw [hy124];exact H)|exact H
          have Ny124:=A_ hy124
          clear hy124
          have H':=A_ H
          clear H
          have p119 : 0 ≤ (x28_2 : Int):=of_decide_eq_true (by first|(with_reducible assumption)|assumption)
          have q119 : x28_2 < (l0_1.length : Int):=of_decide_eq_true (by first|(with_reducible assumption)|assumption)
          obtain ⟨ad119,A119_1,c119_1,e119,hx119_0,hx119_1,hl119_1,hi119_1⟩:=at_T42 HR0_1.out x28_2 p119 q119
          cases e119
          replace hx119_0:=(HB.out.cell (World.block_lt_of_cell? w _ hx119_0)).trans hx119_0
          replace hx119_1:=(HB.out.cell (World.block_lt_of_cell? w _ hx119_1)).trans hx119_1
          have HR119_1:=A_ hi119_1
          have HC119_1:=A_ hl119_1
          clear hi119_1 hl119_1
          replace p119:=eq_true p119
          replace q119:=eq_true q119
          try go_wp2_with (first|((with_reducible refine gate_dst (N:=7) rfl ?_);refine box_event ?hg (N:=7) ?hd (cs:=#[.int .i64 0,.slice none 0 0]) (t:=42) ?hr ?_;(case hd=>rfl);(case hg=>rfl);(case hr=>first|(go_simp;done)|(go_simp;rfl));intro gb120 hg w27 hbox hb;have n0_:=A_ (Kd.S_below (by (with_reducible repeat (first|apply Kd.S_alloc|apply Kd.S_drewN|apply Kd.S_drew));exact HO_112000.out) hb);have n1_:=A_ (Kd.S_below (Kd.S_elderB (by (with_reducible repeat (first|apply Kd.S_alloc|apply Kd.S_drewN|apply Kd.S_drew));exact HO_112001.out) gb120 (Nat.le_of_eq hg.symm)) hb);have n2_:=A_ (blk_below (g:=gb109) (o:=.cells #[.slice A0_0 l0_0.length c0_0,.slice (some ad119) l0_1.length c0_1] 25 (0,0)) (by (with_reducible repeat (first|refine blk_drewN ?_ _|refine blk_drew ?_|refine blk_alloc ?_ _));exact BK109.out) hb);have n3_:=A_ (blk_below (g:=gb110) (o:=.cells #[.slice none 0 0,.slice none 0 0] 25 (0,0)) (by (with_reducible repeat (first|refine blk_drewN ?_ _|refine blk_drew ?_|refine blk_alloc ?_ _));exact BK110.out) hb);have n4_:=A_ (blk_below (g:=gb111) (o:=.cells #[u112000,u112001] 25 (0,0)) (by (with_reducible repeat (first|refine blk_drewN ?_ _|refine blk_drew ?_|refine blk_alloc ?_ _));exact BK111.out) hb);have n5_:=A_ (below_step (by repeat (first|(with_reducible first|exact HB.out|apply ba|apply bb|apply bc|refine below_set ?_ GE109.out|refine below_set ?_ GE110.out|refine below_set ?_ GE111.out)|exact HB.out)) hb);have nk_:=A_ (KeepBut.trans (by repeat (first|(with_reducible first|exact HKM.out|apply KeepBut.set_|apply keep_drewN|apply keep_drew|apply keep_alloc|refine keep_far ?_ GEK.out _)|exact HKM.out)) (KeepBut.of_below hb gb111 none) (.inl rfl));have n6_:=A_ (hbox);have n7_:=A_ ((by rw [hg];exact (below_size (by repeat (first|(with_reducible first|exact HB.out|apply ba|apply bb|apply bc|refine below_set ?_ GE109.out|refine below_set ?_ GE110.out|refine below_set ?_ GE111.out)|exact HB.out))) : w.heap.size ≤ gb120));have nq_:=A_ ((by rw [hg];exact keep_size (w:=wm) (g:=gb111) (row:=none) (by repeat (first|(with_reducible first|exact HKM.out|apply KeepBut.set_|apply keep_drewN|apply keep_drew|apply keep_alloc|refine keep_far ?_ GEK.out _)|exact HKM.out))) : wm.heap.size ≤ gb120);have n8_:=A_ ((by rw [hg];exact (below_size (by repeat (first|(with_reducible first|exact HB.out|apply ba|apply bb|apply bc|refine below_set ?_ GE109.out|refine below_set ?_ GE110.out|refine below_set ?_ GE111.out)|exact HB.out))) : w.heap.size ≤ gb120));have nq_:=A_ ((by rw [hg];exact keep_size (w:=wm) (g:=gb111) (row:=none) (by repeat (first|(with_reducible first|exact HKM.out|apply KeepBut.set_|apply keep_drewN|apply keep_drew|apply keep_alloc|refine keep_far ?_ GEK.out _)|exact HKM.out))) : wm.heap.size ≤ gb120);have n9_:=A_ ((by rw [hg];exact Nat.ne_of_lt (blk_lt (g:=gb109) (o:=.cells #[.slice A0_0 l0_0.length c0_0,.slice (some ad119) l0_1.length c0_1] 25 (0,0)) (by (with_reducible repeat (first|refine blk_drewN ?_ _|refine blk_drew ?_|refine blk_alloc ?_ _));exact BK109.out)) : gb109≠gb120));have n10_:=A_ ((by rw [hg];exact Nat.ne_of_gt (blk_lt (g:=gb109) (o:=.cells #[.slice A0_0 l0_0.length c0_0,.slice (some ad119) l0_1.length c0_1] 25 (0,0)) (by (with_reducible repeat (first|refine blk_drewN ?_ _|refine blk_drew ?_|refine blk_alloc ?_ _));exact BK109.out)) : gb120≠gb109));have n11_:=A_ ((by rw [hg];exact Nat.ne_of_lt (blk_lt (g:=gb110) (o:=.cells #[.slice none 0 0,.slice none 0 0] 25 (0,0)) (by (with_reducible repeat (first|refine blk_drewN ?_ _|refine blk_drew ?_|refine blk_alloc ?_ _));exact BK110.out)) : gb110≠gb120));have n12_:=A_ ((by rw [hg];exact Nat.ne_of_gt (blk_lt (g:=gb110) (o:=.cells #[.slice none 0 0,.slice none 0 0] 25 (0,0)) (by (with_reducible repeat (first|refine blk_drewN ?_ _|refine blk_drew ?_|refine blk_alloc ?_ _));exact BK110.out)) : gb120≠gb110));have n13_:=A_ ((by rw [hg];exact Nat.ne_of_lt (blk_lt (g:=gb111) (o:=.cells #[u112000,u112001] 25 (0,0)) (by (with_reducible repeat (first|refine blk_drewN ?_ _|refine blk_drew ?_|refine blk_alloc ?_ _));exact BK111.out)) : gb111≠gb120));have n14_:=A_ ((by rw [hg];exact Nat.ne_of_gt (blk_lt (g:=gb111) (o:=.cells #[u112000,u112001] 25 (0,0)) (by (with_reducible repeat (first|refine blk_drewN ?_ _|refine blk_drew ?_|refine blk_alloc ?_ _));exact BK111.out)) : gb120≠gb111));clear HO_112000;clear HO_112001;clear BK109;clear BK110;clear BK111;clear HB;clear HKM;have HO_112000:=n0_;have HO_112001:=n1_;have BK109:=n2_;have BK110:=n3_;have BK111:=n4_;have HB:=n5_;have HKM:=nk_;have BK120:=n6_;have GW120:=n7_;have GE120:=n8_;(try have GEK:=nq_);have NB109_120:=n9_;have NB120_109:=n10_;have NB110_120:=n11_;have NB120_110:=n12_;have NB111_120:=n13_;have NB120_111:=n14_;clear n0_ n1_ n2_ n3_ n4_ n5_ n6_ n7_ n8_ n9_ n10_ n11_ n12_ n13_ n14_;(try clear nk_);(try clear nq_);clear hb hbox hg;have hnb28:=NB120_109.out;have hnc28:=NB109_120.out;have hnb29:=NB120_110.out;have hnc29:=NB110_120.out;have hnb30:=NB120_111.out;have hnc30:=NB111_120.out;have hcz31_0 : w27.cell? ⟨gb120,0,none⟩ = some (.int .i64 0):=(blk_cell BK120.out 0).trans rfl;have hcz31_1 : w27.cell? ⟨gb120,1,none⟩ = some (.slice none 0 0):=(blk_cell BK120.out 1).trans rfl;have hfz31_0:=blk_frozen BK120.out 0;have hfz31_1:=blk_frozen BK120.out 1))
          have n0_ : Aside0 (Kd.S (Kd.slice 5 (Kd.int .u8)) 26 ((w27.setCell ⟨gb120,0,none⟩ (.int .i64 ((rd_T42 l0_1 x28_2).f0))).setCell ⟨gb120,1,none⟩ (.slice A119_1 ((rd_T42 l0_1 x28_2).f1).length c119_1)) w.heap.size (fun _=>True) u112000 x112000_1):=⟨by (with_reducible repeat (first|apply Kd.S_alloc|apply Kd.S_drewN|apply Kd.S_drew));exact Kd.S_mono (Kd.S_far (p:=⟨gb120,1,none⟩) (Kd.S_far (p:=⟨gb120,0,none⟩) (Kd.S_types HO_112000.out BK120.out (by decide)) (fun _ hk=>hk.2) (.int .i64 ((rd_T42 l0_1 x28_2).f0))) (fun _ hk=>hk.2) (.slice A119_1 ((rd_T42 l0_1 x28_2).f1).length c119_1)) (fun _ hk=>trivial)⟩
          have n1_ : Aside0 (Kd.S k42 42 ((w27.setCell ⟨gb120,0,none⟩ (.int .i64 ((rd_T42 l0_1 x28_2).f0))).setCell ⟨gb120,1,none⟩ (.slice A119_1 ((rd_T42 l0_1 x28_2).f1).length c119_1)) wm.heap.size (fun k_=>k_≠gb120) u112001 x112001_2):=⟨by (with_reducible repeat (first|apply Kd.S_alloc|apply Kd.S_drewN|apply Kd.S_drew));exact Kd.S_mono (Kd.S_far (p:=⟨gb120,1,none⟩) (Kd.S_far (p:=⟨gb120,0,none⟩) (Kd.S_mono HO_112001.out (fun k_ hk=>(⟨hk,hk.2⟩ : _∧k_≠gb120))) (fun _ hk=>hk.2) (.int .i64 ((rd_T42 l0_1 x28_2).f0))) (fun _ hk=>hk.2) (.slice A119_1 ((rd_T42 l0_1 x28_2).f1).length c119_1)) (fun _ hk=>hk.1.2)⟩
          have n2_ : Aside0 (((w27.setCell ⟨gb120,0,none⟩ (.int .i64 ((rd_T42 l0_1 x28_2).f0))).setCell ⟨gb120,1,none⟩ (.slice A119_1 ((rd_T42 l0_1 x28_2).f1).length c119_1)).heap[gb109]? = some (.cells #[.slice A0_0 l0_0.length c0_0,.slice (some ad119) l0_1.length c0_1] 25 (0,0))):=⟨by (with_reducible repeat (first|refine blk_drewN ?_ _|refine blk_drew ?_|refine blk_alloc ?_ _));refine blk_far ?_ NB109_120.out _;(with_reducible repeat (first|refine blk_drewN ?_ _|refine blk_drew ?_|refine blk_alloc ?_ _));refine blk_far ?_ NB109_120.out _;(with_reducible repeat (first|refine blk_drewN ?_ _|refine blk_drew ?_|refine blk_alloc ?_ _));exact BK109.out⟩
          have n3_ : Aside0 (((w27.setCell ⟨gb120,0,none⟩ (.int .i64 ((rd_T42 l0_1 x28_2).f0))).setCell ⟨gb120,1,none⟩ (.slice A119_1 ((rd_T42 l0_1 x28_2).f1).length c119_1)).heap[gb110]? = some (.cells #[.slice none 0 0,.slice none 0 0] 25 (0,0))):=⟨by (with_reducible repeat (first|refine blk_drewN ?_ _|refine blk_drew ?_|refine blk_alloc ?_ _));refine blk_far ?_ NB110_120.out _;(with_reducible repeat (first|refine blk_drewN ?_ _|refine blk_drew ?_|refine blk_alloc ?_ _));refine blk_far ?_ NB110_120.out _;(with_reducible repeat (first|refine blk_drewN ?_ _|refine blk_drew ?_|refine blk_alloc ?_ _));exact BK110.out⟩
          have n4_ : Aside0 (((w27.setCell ⟨gb120,0,none⟩ (.int .i64 ((rd_T42 l0_1 x28_2).f0))).setCell ⟨gb120,1,none⟩ (.slice A119_1 ((rd_T42 l0_1 x28_2).f1).length c119_1)).heap[gb111]? = some (.cells #[u112000,u112001] 25 (0,0))):=⟨by (with_reducible repeat (first|refine blk_drewN ?_ _|refine blk_drew ?_|refine blk_alloc ?_ _));refine blk_far ?_ NB111_120.out _;(with_reducible repeat (first|refine blk_drewN ?_ _|refine blk_drew ?_|refine blk_alloc ?_ _));refine blk_far ?_ NB111_120.out _;(with_reducible repeat (first|refine blk_drewN ?_ _|refine blk_drew ?_|refine blk_alloc ?_ _));exact BK111.out⟩
          have n5_ : Aside0 (((w27.setCell ⟨gb120,0,none⟩ (.int .i64 ((rd_T42 l0_1 x28_2).f0))).setCell ⟨gb120,1,none⟩ (.slice A119_1 ((rd_T42 l0_1 x28_2).f1).length c119_1)).heap[gb120]? = some (.cells #[.int .i64 ((rd_T42 l0_1 x28_2).f0),.slice A119_1 ((rd_T42 l0_1 x28_2).f1).length c119_1] 42 (0,0))):=⟨by (with_reducible repeat (first|refine blk_drewN ?_ _|refine blk_drew ?_|refine blk_alloc ?_ _));refine blk_put (cs:=#[.int .i64 ((rd_T42 l0_1 x28_2).f0),.slice none 0 0]) ?_ 1 _ rfl;(with_reducible repeat (first|refine blk_drewN ?_ _|refine blk_drew ?_|refine blk_alloc ?_ _));refine blk_put (cs:=#[.int .i64 0,.slice none 0 0]) ?_ 0 _ rfl;(with_reducible repeat (first|refine blk_drewN ?_ _|refine blk_drew ?_|refine blk_alloc ?_ _));exact BK120.out⟩
          have n6_ : Aside0 (Below w.heap.size w ((w27.setCell ⟨gb120,0,none⟩ (.int .i64 ((rd_T42 l0_1 x28_2).f0))).setCell ⟨gb120,1,none⟩ (.slice A119_1 ((rd_T42 l0_1 x28_2).f1).length c119_1))):=⟨by repeat (first|(with_reducible first|exact HB.out|apply ba|apply bb|apply bc|refine below_set ?_ GE109.out|refine below_set ?_ GE110.out|refine below_set ?_ GE111.out|refine below_set ?_ GE120.out)|exact HB.out)⟩
          (try clear HO_112000)
          (try clear HO_112001)
          (try clear BK109)
          (try clear BK110)
          (try clear BK111)
          (try clear BK120)
          (try clear HB)
          have nk_ : Aside0 (KeepBut wm ((w27.setCell ⟨gb120,0,none⟩ (.int .i64 ((rd_T42 l0_1 x28_2).f0))).setCell ⟨gb120,1,none⟩ (.slice A119_1 ((rd_T42 l0_1 x28_2).f1).length c119_1)) gb111 none):=⟨by repeat (first|(with_reducible first|exact HKM.out|apply KeepBut.set_|apply keep_drewN|apply keep_drew|apply keep_alloc|refine keep_far ?_ GEK.out _)|exact HKM.out)⟩
          (try clear HKM)
          generalize ((w27.setCell ⟨gb120,0,none⟩ (.int .i64 ((rd_T42 l0_1 x28_2).f0))).setCell ⟨gb120,1,none⟩ (.slice A119_1 ((rd_T42 l0_1 x28_2).f1).length c119_1)) = w32 at n0_ n1_ n2_ n3_ n4_ n5_ n6_ nk_ ⊢
          have HO_112000:=n0_
          have HO_112001:=n1_
          have BK109:=n2_
          have BK110:=n3_
          have BK111:=n4_
          have BK120:=n5_
          have HB:=n6_;have HKM:=nk_
          clear n0_ n1_ n2_ n3_ n4_ n5_ n6_;(try clear nk_);(try clear nq_)
          have n0_:=A_ (Kd.S_drew HO_112000.out)
          have n1_:=A_ (Kd.S_drew HO_112001.out)
          have n2_:=A_ (blk_drew BK109.out)
          have n3_:=A_ (blk_drew BK110.out)
          have n4_:=A_ (blk_drew BK111.out)
          have n5_:=A_ (blk_drew BK120.out)
          have n6_:=A_ (below_drew1 HB.out);have nk_:=A_ (keep_drew HKM.out)
          clear HO_112000
          clear HO_112001
          clear BK109
          clear BK110
          clear BK111
          clear BK120
          clear HB;clear HKM
          have HO_112000:=n0_
          have HO_112001:=n1_
          have BK109:=n2_
          have BK110:=n3_
          have BK111:=n4_
          have BK120:=n5_
          have HB:=n6_;have HKM:=nk_
          clear n0_ n1_ n2_ n3_ n4_ n5_ n6_;(try clear nk_);(try clear nq_)
          refine start_ (n:=15) (S:=fun w'=>w'.cell? ⟨gb111,0,none⟩ = some (u112000)∧w'.cell? ⟨gb111,1,none⟩ = some (u112001)∧w'.cell? ⟨gb120,0,none⟩ = some (.int .i64 ((rd_T42 l0_1 x28_2).f0))∧w'.cell? ⟨gb120,1,none⟩ = some (.slice A119_1 ((rd_T42 l0_1 x28_2).f1).length c119_1)) (ds:=[14]) #[false,false,false,false,false,false,false,false,false,false,false,false,false,false,false] (by kernel_rfl) rfl rfl ⟨(blk_cell BK111.out 0).trans rfl,(blk_cell BK111.out 1).trans rfl,(blk_cell BK120.out 0).trans rfl,(blk_cell BK120.out 1).trans rfl⟩ (fun hHeld=>?_);refine with_tabW device_copied.tab10 device_copied.bits10 (fun HT_ HW_=>?_)
          generalize w32.drew = w33 at HO_112000 HO_112001 BK109 BK110 BK111 BK120 HB HKM hHeld ⊢
          refine pure_ (i:=0) (N:=some 32) (v:=?_) (a':=?_) #[true,false,false,false,false,false,false,false,false,false,false,false,false,false,false] rfl rfl (any_of HT_.out (by kernel_rfl)) (fun _ _ _ h=>h) (Or.inl ⟨by rfl,?_⟩) ?_ ?_
          rotate_left
          ·
           intro w'
           go_simp
           with_reducible rfl
          rotate_left
          ·
           simp only [Act.put,sa,sb,sc,i64_w,i32_w]
           rfl
          refine pure_ (i:=2) (N:=some 34) (v:=?_) (a':=?_) #[true,false,true,false,false,false,false,false,false,false,false,false,false,false,false] rfl rfl (any_of HT_.out (by kernel_rfl)) (fun _ _ _ h=>h) (Or.inl ⟨by rfl,?_⟩) ?_ ?_
          rotate_left
          ·
           intro w'
           go_simp
           with_reducible rfl
          rotate_left
          ·
           simp only [Act.put,sa,sb,sc,i64_w,i32_w]
           rfl
          refine pure_ (i:=4) (N:=some 36) (v:=?_) (a':=?_) #[true,false,true,false,true,false,false,false,false,false,false,false,false,false,false] rfl rfl (any_of HT_.out (by kernel_rfl)) (fun _ _ _ h=>h) (Or.inl ⟨by rfl,?_⟩) ?_ ?_
          rotate_left
          ·
           intro w'
           go_simp
           with_reducible rfl
          rotate_left
          ·
           simp only [Act.put,sa,sb,sc,i64_w,i32_w]
           rfl
          refine pure_ (i:=6) (N:=some 38) (v:=?_) (a':=?_) #[true,false,true,false,true,false,true,false,false,false,false,false,false,false,false] rfl rfl (any_of HT_.out (by kernel_rfl)) (fun _ _ _ h=>h) (Or.inl ⟨by rfl,?_⟩) ?_ ?_
          rotate_left
          ·
           intro w'
           go_simp
           with_reducible rfl
          rotate_left
          ·
           simp only [Act.put,sa,sb,sc,i64_w,i32_w]
           rfl
          refine take_ (i:=1) (N:=some 33) (v:=?_) (a':=?_) #[true,true,true,false,true,false,true,false,false,false,false,false,false,false,false] rfl rfl (take_ofW HT_.out HW_.out (by kernel_rfl)) (fun _ _ _ h=>h) (Or.inl ⟨by rfl,?_⟩) hHeld ?_ ?_
          rotate_left
          ·
           rintro w' ⟨s0,s1,s2,s3⟩
           go_simp
           with_reducible rfl
          rotate_left
          ·
           simp only [Act.put,sa,sb,sc,i64_w,i32_w]
           rfl
          refine take_ (i:=3) (N:=some 35) (v:=?_) (a':=?_) #[true,true,true,true,true,false,true,false,false,false,false,false,false,false,false] rfl rfl (take_ofW HT_.out HW_.out (by kernel_rfl)) (fun _ _ _ h=>h) (Or.inl ⟨by rfl,?_⟩) hHeld ?_ ?_
          rotate_left
          ·
           rintro w' ⟨s0,s1,s2,s3⟩
           go_simp
           with_reducible rfl
          rotate_left
          ·
           simp only [Act.put,sa,sb,sc,i64_w,i32_w]
           rfl
          refine take_ (i:=5) (N:=some 37) (v:=?_) (a':=?_) #[true,true,true,true,true,true,true,false,false,false,false,false,false,false,false] rfl rfl (take_ofW HT_.out HW_.out (by kernel_rfl)) (fun _ _ _ h=>h) (Or.inl ⟨by rfl,?_⟩) hHeld ?_ ?_
          rotate_left
          ·
           rintro w' ⟨s0,s1,s2,s3⟩
           go_simp
           with_reducible rfl
          rotate_left
          ·
           simp only [Act.put,sa,sb,sc,i64_w,i32_w]
           rfl
          refine take_ (i:=7) (N:=some 39) (v:=?_) (a':=?_) #[true,true,true,true,true,true,true,true,false,false,false,false,false,false,false] rfl rfl (take_ofW HT_.out HW_.out (by kernel_rfl)) (fun _ _ _ h=>h) (Or.inl ⟨by rfl,?_⟩) hHeld ?_ ?_
          rotate_left
          ·
           rintro w' ⟨s0,s1,s2,s3⟩
           go_simp
           with_reducible rfl
          rotate_left
          ·
           simp only [Act.put,sa,sb,sc,i64_w,i32_w]
           rfl
          refine pure_ (i:=8) (N:=some 40) (v:=?_) (a':=?_) #[true,true,true,true,true,true,true,true,true,false,false,false,false,false,false] rfl rfl (any_of HT_.out (by kernel_rfl)) (fun _ _ _ h=>h) (Or.inl ⟨by rfl,?_⟩) ?_ ?_
          rotate_left
          ·
           intro w'
           go_simp
           with_reducible rfl
          rotate_left
          ·
           simp only [Act.put,sa,sb,sc,i64_w,i32_w]
           rfl
          refine one_ (i:=9) (N:=some 41) #[true,true,true,true,true,true,true,true,true,true,false,false,false,false,false] rfl rfl (one_of HT_.out (by kernel_rfl)) (by decide) (fun K hK=>?_)
          refine goes_ Try.func24 (by kernel_rfl) rfl #[.slice A119_1 ((rd_T42 l0_1 x28_2).f1).length c119_1,.int .i64 (((rd_T42 l0_1 x28_2).f1).length : Int)] (by rfl) rfl rfl (by (try simp only [List.map_toArray,List.map_cons,List.map_nil]);first|done|rfl|(simp only [List.length_drop,List.length_take];rfl)) ?_
          with_reducible refine (device_padded.calls _ _ ((rd_T42 l0_1 x28_2).f1) (((rd_T42 l0_1 x28_2).f1).length : Int) t121 _ ?side1 ?side2 A25.out).mono ?_
          (case side1=>repeat (first|exact (cl HR119_1.out HB.out)|(with_reducible refine ca ?_ _)|(with_reducible refine cb ?_ _)|(with_reducible refine cc ?_)))
          (case side2=>exact HC119_1.out)
          rintro e w34 ⟨v122,rfl,ho0,hb⟩
          refine ⟨_,rfl,?_⟩
          have n0_:=A_ (Kd.S_elder' (by (with_reducible repeat (first|apply Kd.S_alloc|apply Kd.S_drewN|apply Kd.S_drew));exact HO_112000.out) (rs ho0) hb)
          have n1_:=A_ (Kd.S_elder' (by (with_reducible repeat (first|apply Kd.S_alloc|apply Kd.S_drewN|apply Kd.S_drew));exact HO_112001.out) (rs ho0) hb)
          have n2_:=A_ (Kd.R_lower ho0 (keep_size (w:=wm) (g:=gb111) (row:=none) (by repeat (first|(with_reducible first|exact HKM.out|apply KeepBut.set_|apply keep_drewN|apply keep_drew|apply keep_alloc|refine keep_far ?_ GEK.out _)|exact HKM.out))))
          have n3_:=A_ (blk_below (g:=gb109) (o:=.cells #[.slice A0_0 l0_0.length c0_0,.slice (some ad119) l0_1.length c0_1] 25 (0,0)) (by (with_reducible repeat (first|refine blk_drewN ?_ _|refine blk_drew ?_|refine blk_alloc ?_ _));exact BK109.out) hb)
          have n4_:=A_ (blk_below (g:=gb110) (o:=.cells #[.slice none 0 0,.slice none 0 0] 25 (0,0)) (by (with_reducible repeat (first|refine blk_drewN ?_ _|refine blk_drew ?_|refine blk_alloc ?_ _));exact BK110.out) hb)
          have n5_:=A_ (blk_below (g:=gb111) (o:=.cells #[u112000,u112001] 25 (0,0)) (by (with_reducible repeat (first|refine blk_drewN ?_ _|refine blk_drew ?_|refine blk_alloc ?_ _));exact BK111.out) hb)
          have n6_:=A_ (blk_below (g:=gb120) (o:=.cells #[.int .i64 ((rd_T42 l0_1 x28_2).f0),.slice A119_1 ((rd_T42 l0_1 x28_2).f1).length c119_1] 42 (0,0)) (by (with_reducible repeat (first|refine blk_drewN ?_ _|refine blk_drew ?_|refine blk_alloc ?_ _));exact BK120.out) hb)
          have n7_:=A_ (below_step (by repeat (first|(with_reducible first|exact HB.out|apply ba|apply bb|apply bc|refine below_set ?_ GE109.out|refine below_set ?_ GE110.out|refine below_set ?_ GE111.out|refine below_set ?_ GE120.out)|exact HB.out)) hb);have nk_:=A_ (KeepBut.trans (by repeat (first|(with_reducible first|exact HKM.out|apply KeepBut.set_|apply keep_drewN|apply keep_drew|apply keep_alloc|refine keep_far ?_ GEK.out _)|exact HKM.out)) (KeepBut.of_below hb gb111 none) (.inl rfl))
          clear HO_112000
          clear HO_112001
          clear BK109
          clear BK110
          clear BK111
          clear BK120
          clear HB;clear HKM
          have HO_112000:=n0_
          have HO_112001:=n1_
          have HO123:=n2_
          have BK109:=n3_
          have BK110:=n4_
          have BK111:=n5_
          have BK120:=n6_
          have HB:=n7_;have HKM:=nk_
          clear n0_ n1_ n2_ n3_ n4_ n5_ n6_ n7_;(try clear nk_);(try clear nq_)
          (try clear hb)
          (try clear hb2)
          (try clear hk)
          (try clear hi)
          (try clear ho0)
          obtain ⟨Ao35,co35,eo35⟩:=Kd.R_slice HO123.out
          (first|subst eo35|(injection eo35 with f1_ f2_ f3_;have f4_:=f1_.symm;have f5_:=f3_.symm;clear f1_ f2_ f3_;subst f4_;subst f5_))
          refine hK.out _ _ ⟨(blk_cell BK111.out 0).trans rfl,(blk_cell BK111.out 1).trans rfl,(blk_cell BK120.out 0).trans rfl,(blk_cell BK120.out 1).trans rfl⟩ (fun hHeld=>?_)
          clear hK K
          refine norm_ (a':=?_) ?_ ?_
          rotate_left
          ·
           show Act.put _ (some 41) _ = _
           simp only [Act.put,sa,sb,sc,i64_w,i32_w]
           rfl
          refine pure_ (i:=10) (N:=some 42) (v:=?_) (a':=?_) #[true,true,true,true,true,true,true,true,true,true,true,false,false,false,false] rfl rfl (any_of HT_.out (by kernel_rfl)) (fun _ _ _ h=>h) (Or.inl ⟨by rfl,?_⟩) ?_ ?_
          rotate_left
          ·
           intro w'
           go_simp
           with_reducible rfl
          rotate_left
          ·
           simp only [Act.put,sa,sb,sc,i64_w,i32_w]
           rfl
          refine one_ (i:=11) (N:=some 43) #[true,true,true,true,true,true,true,true,true,true,true,true,false,false,false] rfl rfl (one_of HT_.out (by kernel_rfl)) (by decide) (fun K hK=>?_)
          refine value_ (w1:=?_) (v:=?_) (by rfl) rfl ?_ ?_
          rotate_left 2
          ·
           go_simp
           constructor
           ·
            rfl
           ·
            rfl
          refine hK.out _ _ ⟨(blk_cell (blk_alloc BK111.out _) 0).trans rfl,(blk_cell (blk_alloc BK111.out _) 1).trans rfl,(blk_cell (blk_alloc BK120.out _) 0).trans rfl,(blk_cell (blk_alloc BK120.out _) 1).trans rfl⟩ (fun hHeld=>?_)
          clear hK K
          refine norm_ (a':=?_) ?_ ?_
          rotate_left
          ·
           show Act.put _ (some 43) _ = _
           simp only [Act.put,sa,sb,sc,i64_w,i32_w]
           rfl
          refine one_ (i:=12) (N:=some 44) #[true,true,true,true,true,true,true,true,true,true,true,true,true,false,false] rfl rfl (one_of HT_.out (by kernel_rfl)) (by decide) (fun K hK=>?_)
          refine Kd.S_append_step k42 (w0:=w34) wm.heap.size (by rfl) (.tmp 33) (.tmp 43) 23 42 (.agg #[(.int .i64 0),(.slice none 0 0)]) 32 rfl Try.underlying23 info42 rfl (by decide) (by omega) u112001 x112001_2 (⟨(rd_T42 l0_1 x28_2).f0,t121⟩ : S42) [.int .i64 ((rd_T42 l0_1 x28_2).f0),.slice Ao35 t121.length co35] (fun k_=>k_≠gb120) (fun k_=>some k_ = (.slice Ao35 t121.length co35 : Value).ownBlock) rfl rfl ?aP (fun k_ hk_=>((rm (ok':=fun k_=>((fun k_=>k_≠gb120)) k_∧some k_≠(u112001 : Value).ownBlock) (Kd.R_types (Kd.R_apart' (HO123.out) (Kd.S_typed HO_112001.out) (by decide)) BK120.out (by decide)) (fun k_ hk=>⟨hk.2,hk.1.2⟩))).1 k_ hk_.symm) ?aF ?aO ?aB ?aS ?aL ?_
          (case aP=>exact k42_mkM _ _ _ (⟨(rd_T42 l0_1 x28_2).f0,t121⟩ : S42) (rm (Kd.R_tight rfl (rm (ok':=fun k_=>((fun k_=>k_≠gb120)) k_∧some k_≠(u112001 : Value).ownBlock) (Kd.R_types (Kd.R_apart' (HO123.out) (Kd.S_typed HO_112001.out) (by decide)) BK120.out (by decide)) (fun k_ hk=>⟨hk.2,hk.1.2⟩))) (fun _ h_=>h_)))
          (case aB=>exact Below.refl _ _)
          (case aF=>exact (fun k_ hk=>Kd.freshB (g:=gb120) (o:=.cells #[.int .i64 ((rd_T42 l0_1 x28_2).f0),.slice A119_1 ((rd_T42 l0_1 x28_2).f1).length c119_1] 42 (0,0)) (by (with_reducible repeat (first|refine blk_drewN ?_ _|refine blk_drew ?_|refine blk_alloc ?_ _));exact BK120.out) k_ hk))
          (case aO=>exact (by (with_reducible repeat (first|apply Kd.S_alloc|apply Kd.S_drewN|apply Kd.S_drew));exact Kd.S_mono HO_112001.out (fun k_ hk=>⟨hk.1,fun e_=>hk.2 e_⟩)))
          (case aS=>exact (keep_size (w:=wm) (g:=gb111) (row:=none) (by repeat (first|(with_reducible first|exact HKM.out|apply KeepBut.set_|apply keep_drewN|apply keep_drew|apply keep_alloc|refine keep_far ?_ GEK.out _)|exact HKM.out))))
          (case aL=>have:=LMc26.out;omega)
          intro v125 w36 ho hb hg hat
          rw [← Ny124.out] at ho
          have n0_:=A_ (Kd.S_over' (by (with_reducible repeat (first|apply Kd.S_alloc|apply Kd.S_drewN|apply Kd.S_drew));exact HO_112000.out) (Kd.S_typed (by (with_reducible repeat (first|apply Kd.S_alloc|apply Kd.S_drewN|apply Kd.S_drew));exact HO_112001.out)) (by decide) hg)
          have n1_:=A_ (blk_grown (g:=gb109) (o:=.cells #[.slice A0_0 l0_0.length c0_0,.slice (some ad119) l0_1.length c0_1] 25 (0,0)) (by (with_reducible repeat (first|refine blk_drewN ?_ _|refine blk_drew ?_|refine blk_alloc ?_ _));exact BK109.out) hg (Kd.S_ne HO_112001.out BK109.out (by decide)))
          have n2_:=A_ (blk_grown (g:=gb110) (o:=.cells #[.slice none 0 0,.slice none 0 0] 25 (0,0)) (by (with_reducible repeat (first|refine blk_drewN ?_ _|refine blk_drew ?_|refine blk_alloc ?_ _));exact BK110.out) hg (Kd.S_ne HO_112001.out BK110.out (by decide)))
          have n3_:=A_ (blk_grown (g:=gb111) (o:=.cells #[u112000,u112001] 25 (0,0)) (by (with_reducible repeat (first|refine blk_drewN ?_ _|refine blk_drew ?_|refine blk_alloc ?_ _));exact BK111.out) hg (Kd.S_ne HO_112001.out BK111.out (by decide)))
          have n4_:=A_ (blk_grown (g:=gb120) (o:=.cells #[.int .i64 ((rd_T42 l0_1 x28_2).f0),.slice A119_1 ((rd_T42 l0_1 x28_2).f1).length c119_1] 42 (0,0)) (by (with_reducible repeat (first|refine blk_drewN ?_ _|refine blk_drew ?_|refine blk_alloc ?_ _));exact BK120.out) hg (Kd.S_away HO_112001.out (fun _ hk=>hk.1)))
          have n5_:=A_ (Below.grown (B:=w.heap.size) (by repeat (first|(with_reducible first|exact HB.out|apply ba|apply bb|apply bc|refine below_set ?_ GE109.out|refine below_set ?_ GE110.out|refine below_set ?_ GE111.out|refine below_set ?_ GE120.out)|exact HB.out)) hg (below_size (by repeat (first|(with_reducible first|exact HB.out|apply ba|apply bb|apply bc|refine below_set ?_ GE109.out|refine below_set ?_ GE110.out|refine below_set ?_ GE111.out|refine below_set ?_ GE120.out)|exact HB.out))) (fun k_ hk_=>Nat.le_trans HWM.out (Kd.S_base HO_112001.out k_ hk_)))
          have nk_:=A_ (KeepBut.trans (by repeat (first|(with_reducible first|exact HKM.out|apply KeepBut.set_|apply keep_drewN|apply keep_drew|apply keep_alloc|refine keep_far ?_ GEK.out _)|exact HKM.out)) (KeepBut.of_grown hg gb111) (Kd.R_base2 (Kd.S_R HO_112001.out)))
          have n6_:=A_ (ho)
          clear HO_112000
          clear BK109
          clear BK110
          clear BK111
          clear BK120
          clear HB;clear HKM
          clear HO_112001
          clear HO123
          have HO_112000:=n0_
          have BK109:=n1_
          have BK110:=n2_
          have BK111:=n3_
          have BK120:=n4_
          have HB:=n5_;have HKM:=nk_
          have HO126:=n6_
          clear n0_ n1_ n2_ n3_ n4_ n5_ n6_;(try clear nk_);(try clear nq_)
          clear ho hb hg hat
          obtain ⟨Ao37,co37,eo37⟩:=Kd.S_slice HO126.out
          (first|subst eo37|(injection eo37 with f1_ f2_ f3_;have f4_:=f1_.symm;have f5_:=f3_.symm;clear f1_ f2_ f3_;subst f4_;subst f5_))
          refine hK.out _ _ ⟨(blk_cell BK111.out 0).trans rfl,(blk_cell BK111.out 1).trans rfl,(blk_cell BK120.out 0).trans rfl,(blk_cell BK120.out 1).trans rfl⟩ (fun hHeld=>?_)
          clear hK K
          refine norm_ (a':=?_) ?_ ?_
          rotate_left
          ·
           show Act.put _ (some 44) _ = _
           simp only [Act.put,sa,sb,sc,i64_w,i32_w]
           rfl
          refine pure_ (i:=13) (N:=some 45) (v:=?_) (a':=?_) #[true,true,true,true,true,true,true,true,true,true,true,true,true,true,false] rfl rfl (any_of HT_.out (by kernel_rfl)) (fun _ _ _ h=>h) (Or.inl ⟨by rfl,?_⟩) ?_ ?_
          rotate_left
          ·
           intro w'
           go_simp
           with_reducible rfl
          rotate_left
          ·
           simp only [Act.put,sa,sb,sc,i64_w,i32_w]
           rfl
          refine last_ (i:=14) (N:=none) #[true,true,true,true,true,true,true,true,true,true,true,true,true,true,true] rfl rfl (one_of HT_.out (by kernel_rfl)) (by decide) (fun K hK=>?_)
          have hs38 : w36.cell? ⟨gb111,1,none⟩ = some (u112001):=(blk_cell BK111.out 1).trans rfl
          have hfs38:=blk_frozen BK111.out 1
          have hns38_0:=NB109_111.out
          have hns38_1:=NB110_111.out
          have hns38_3:=NB120_111.out
          have hms38_0:=NB111_109.out
          have hms38_1:=NB111_110.out
          have hms38_3:=NB111_120.out
          refine skip_ (w1:=?_) (by rfl) rfl ?_ ?_
          rotate_left
          ·
           go_simp
           rfl
          refine hK.out _ _ ?_
          clear hK K
          refine done_ (done_of HT_.out (by kernel_rfl)) ?_
          try go_wp2
          go_roundg k2
          case measure=>have:=HK1.out;have:=HK2.out;omega
          case rel=>exact ⟨(wrap64 (x28_2 + 1)),(y124),(.slice Ao37 y124.length co37),(by first|rfl|(simp;done)|(simp [*];done)),H',⟨by have:=HK1.out;have:=HK2.out;omega⟩,⟨by (with_reducible repeat (first|apply Kd.S_alloc|apply Kd.S_drewN|apply Kd.S_drew));exact Kd.S_mono (Kd.S_far (p:=⟨gb111,1,none⟩) (Kd.S_types HO_112000.out BK111.out (by decide)) (fun _ hk=>hk.2) (.slice Ao37 y124.length co37)) (fun _ hk=>trivial)⟩,⟨by (with_reducible repeat (first|apply Kd.S_alloc|apply Kd.S_drewN|apply Kd.S_drew));exact Kd.S_mono (Kd.S_far (p:=⟨gb111,1,none⟩) (Kd.S_types HO126.out BK111.out (by decide)) (fun _ hk=>hk.2) (.slice Ao37 y124.length co37)) (fun _ hk=>trivial)⟩,⟨by (with_reducible repeat (first|refine blk_drewN ?_ _|refine blk_drew ?_|refine blk_alloc ?_ _));refine blk_far ?_ NB109_111.out _;(with_reducible repeat (first|refine blk_drewN ?_ _|refine blk_drew ?_|refine blk_alloc ?_ _));exact BK109.out⟩,⟨by (with_reducible repeat (first|refine blk_drewN ?_ _|refine blk_drew ?_|refine blk_alloc ?_ _));refine blk_far ?_ NB110_111.out _;(with_reducible repeat (first|refine blk_drewN ?_ _|refine blk_drew ?_|refine blk_alloc ?_ _));exact BK110.out⟩,⟨by (with_reducible repeat (first|refine blk_drewN ?_ _|refine blk_drew ?_|refine blk_alloc ?_ _));refine blk_put (cs:=#[u112000,u112001]) ?_ 1 _ rfl;(with_reducible repeat (first|refine blk_drewN ?_ _|refine blk_drew ?_|refine blk_alloc ?_ _));exact BK111.out⟩,⟨by repeat (first|(with_reducible first|exact HB.out|apply ba|apply bb|apply bc|refine below_set ?_ GE109.out|refine below_set ?_ GE110.out|refine below_set ?_ GE111.out|refine below_set ?_ GE120.out)|exact HB.out)⟩,⟨by repeat (first|(with_reducible first|exact HKM.out|apply KeepBut.set_|apply keep_drewN|apply keep_drew|apply keep_alloc|refine keep_far ?_ GEK.out _)|exact HKM.out)⟩⟩
         ·
          rw [if_neg c26] at H
          exact absurd H (by simp)
        ·
         rw [if_neg c24] at H
         exact absurd H (by simp)
       ·
        rw [if_neg c23] at H
        exact absurd H (by simp)
      ·
       rw [if_neg c22] at H
       have c22b0 : decide (x28_2 < (l0_1.length : Int)) = false:=decide_eq_false c22
       clear c22
       simp only [Option.some.injEq,Prod.mk.injEq] at H
       obtain ⟨rfl,rfl⟩:=H
       have hnb39:=NB111_109.out
       have hnc39:=NB109_111.out
       have hnb40:=NB111_110.out
       have hnc40:=NB110_111.out
       have hcz41_0 : wr.cell? ⟨gb111,0,none⟩ = some (u112000):=(blk_cell BK111.out 0).trans rfl
       have hcz41_1 : wr.cell? ⟨gb111,1,none⟩ = some (u112001):=(blk_cell BK111.out 1).trans rfl
       have hfz41_0:=blk_frozen BK111.out 0
       have hfz41_1:=blk_frozen BK111.out 1
       obtain ⟨Ao42,co42,eo42⟩:=Kd.S_slice HO_112000.out
       subst eo42
       have hnb43:=NB110_109.out
       have hnc43:=NB109_110.out
       have hcz44_0 : wr.cell? ⟨gb110,0,none⟩ = some (.slice none 0 0):=(blk_cell BK110.out 0).trans rfl
       have hcz44_1 : wr.cell? ⟨gb110,1,none⟩ = some (.slice none 0 0):=(blk_cell BK110.out 1).trans rfl
       have hfz44_0:=blk_frozen BK110.out 0
       have hfz44_1:=blk_frozen BK110.out 1
       obtain ⟨Ao45,co45,eo45⟩:=Kd.S_slice HO_112001.out
       subst eo45
       go_wp2
       refine bodyPost_ret (results_cell_row rfl _ _ gb110 25 #[.slice Ao42 x112000_1.length co42,.slice Ao45 x112001_2.length co45] (0,0) _ rfl (by (with_reducible repeat (first|refine blk_drewN ?_ _|refine blk_drew ?_|refine blk_alloc ?_ _));refine blk_put (cs:=#[.slice Ao42 x112000_1.length co42,.slice none 0 0]) ?_ 1 _ rfl;(with_reducible repeat (first|refine blk_drewN ?_ _|refine blk_drew ?_|refine blk_alloc ?_ _));refine blk_put (cs:=#[.slice none 0 0,.slice none 0 0]) ?_ 0 _ rfl;(with_reducible repeat (first|refine blk_drewN ?_ _|refine blk_drew ?_|refine blk_alloc ?_ _));exact BK110.out) Try.underlying25 rfl (by kernel_rfl)) rfl ?_
       exact ⟨_,_,by first|rfl|(simp [errW_none,errW_some] <;> rfl)|(simp [*,errW_none,errW_some] <;> rfl),wm.heap.size,HWM.out,by (with_reducible repeat (first|apply Kd.S_alloc|apply Kd.S_drewN|apply Kd.S_drew));exact Kd.S_mono (Kd.S_far (p:=⟨gb110,1,none⟩) (Kd.S_far (p:=⟨gb110,0,none⟩) (Kd.S_types (Kd.S_mid_keep HMP.out HKM.out HKB.out (by decide)) BK110.out (by decide)) (fun _ hk=>hk.2) (.slice Ao42 x112000_1.length co42)) (fun _ hk=>hk.2) (.slice Ao45 x112001_2.length co45)) (fun _ hk=>hk.1),by (with_reducible repeat (first|apply Kd.S_alloc|apply Kd.S_drewN|apply Kd.S_drew));exact Kd.S_mono (Kd.S_far (p:=⟨gb110,1,none⟩) (Kd.S_far (p:=⟨gb110,0,none⟩) (Kd.S_types HO_112001.out BK110.out (by decide)) (fun _ hk=>hk.2) (.slice Ao42 x112000_1.length co42)) (fun _ hk=>hk.2) (.slice Ao45 x112001_2.length co45)) (fun _ hk=>trivial),by repeat (first|(with_reducible first|exact HB.out|apply ba|apply bb|apply bc|refine below_set ?_ GE109.out|refine below_set ?_ GE110.out|refine below_set ?_ GE111.out)|exact HB.out)⟩

theorem device_copied.calls (k : Nat) (A0_0 : Option Addr) (c0_0 : Nat) (l0_0 : List (List Int)) (A0_1 : Option Addr) (c0_1 : Nat) (l0_1 : List (S42)) (r1 : List (List Int)) (r2 : List (S42)) (w : World) (hr0_0 : Kd.C (Kd.slice 5 (Kd.int .u8)) w A0_0 l0_0.length l0_0) (hc0_0 : l0_0.length ≤ c0_0) (hr0_1 : Kd.C k42 w A0_1 l0_1.length l0_1) (hc0_1 : l0_1.length ≤ c0_1) (h : device_copied.f k l0_0 l0_1 = some (r1,r2)) :
  Calls Try.prog 22 #[.agg #[.slice A0_0 l0_0.length c0_0,.slice A0_1 l0_1.length c0_1]] w fun e w'=>∃ v0_ v1_ : Value,e = .returned (.agg #[v0_,v1_])∧Kd.S (Kd.slice 5 (Kd.int .u8)) 26 w' w.heap.size (fun _=>True) v0_ r1∧Kd.S k42 42 w' w.heap.size (fun _=>True) v1_ r2∧Below w.heap.size w w':=by
 refine (device_copied.calls2 k A0_0 c0_0 l0_0 A0_1 c0_1 l0_1 r1 r2 w hr0_0 hc0_0 hr0_1 hc0_1 h).mono ?_
 rintro e w' ⟨v0_,v1_,rfl,mid,hm,h0,h1,hb⟩
 exact ⟨v0_,v1_,rfl,Kd.S_mono h0 (fun _ _=>trivial),Kd.S_lower h1 hm,hb⟩
end Go.Proofs.Ythpiafbloebpjaa.PDeviceSteps
