/- This file proves, function by function, what the Go functions that one law uses compute; most of it was printed by a program (wip/tools of this session, over the kit's print). -/
import Derived.Test.YtodipcfbgnljeaaPChannelsOrderx0
import Derived.Test.YtodipcfbgnljeaaPChannelsOrderx5
import Derived.Test.YtodipcfbgnljeaaPChannelsOrderx7
namespace Go.Proofs.Ytodipcfbgnljeaa.PChannelsOrder
open Go.RowKit Go.Proofs.YtodipcfbgnljeaaW.PrintWords Go.Proofs.YtodipcfbgnljeaaW.PrintLast Go.Proofs.YtodipcfbgnljeaaW.PrintMore
attribute [local go_sem] max2_int min2_int max_two min_two max_three min_three max_four min_four   -- for this text's walks alone
set_option linter.unusedVariables false
set_option linter.unusedSimpArgs false

/-! ### channels_Greatest: function 16 -/
def channels_Greatest.l0 : Nat → List (List Int) → List (List Int) → Int → Int → Int → Int → Option (Int × Int × Int)
 | 0,_,_,_,_,_,_=>none
 | k + 1,x0,x1,x20,x21,x199000,x199001=>if x21 < x20 then (if 0 ≤ x21 then (if x21 < (x0.length : Int) then (if x21 < (x1.length : Int) then ((normal_Gap.f k (rd_L1 x0 x21) (rd_L1 x1 x21)).bind fun bt201=>(if bt201.2.2 = 0 then ((ratio_Less.f k x199000 x199001 bt201.1 bt201.2.1).bind fun t205=>(if t205 = true then (channels_Greatest.l0 k x0 x1 x20 (wrap64 (x21 + 1)) bt201.1 bt201.2.1) else (channels_Greatest.l0 k x0 x1 x20 (wrap64 (x21 + 1)) x199000 x199001))) else (some (0,0,bt201.2.2)))) else (none)) else (none)) else (none)) else (some (x199000,x199001,0))
def channels_Greatest.f (k : Nat) (l0 : List (List Int)) (l1 : List (List Int)) : Option (Int × Int × Int):=(channels_check.f k l0 l1 0).bind fun t197=>(if t197 = 0 then (channels_Greatest.l0 k l0 l1 (l0.length : Int) 0 0 1) else (some (0,0,t197)))
theorem channels_Greatest.mono_l : ∀ k,(∀ y0 y1 y2 y3 y4 y5,LeO (channels_Greatest.l0 k y0 y1 y2 y3 y4 y5) (channels_Greatest.l0 (k + 1) y0 y1 y2 y3 y4 y5))
 | 0=>fun _ _ _ _ _ _ r h=>by simp [channels_Greatest.l0] at h
 | k + 1=>by
  have ih0:=channels_Greatest.mono_l k
  ·
   intro y0 y1 y2 y3 y4 y5
   unfold channels_Greatest.l0
   repeat' first
   | (with_reducible exact ih0 _ _ _ _ _ _)
   | (with_reducible exact channels_check.mono _ _ _ _)
   | (with_reducible exact normal_Gap.mono _ _ _)
   | (with_reducible exact ratio_Less.mono _ _ _ _ _)
   | (with_reducible exact LeO.refl _)
   | (with_reducible exact LeO.none _)
   | (with_reducible refine LeO.ite ?_ ?_)
   | (with_reducible refine LeO.bind ?_ (fun _=>?_))
   | exact ih0 _ _ _ _ _ _
   | exact channels_check.mono _ _ _ _
   | exact normal_Gap.mono _ _ _
   | exact ratio_Less.mono _ _ _ _ _
   | exact LeO.none _
   | refine LeO.ite ?_ ?_
   | refine LeO.bind ?_ (fun _=>?_)
theorem channels_Greatest.mono : ∀ a0 a1 k,LeO (channels_Greatest.f k a0 a1) (channels_Greatest.f (k + 1) a0 a1):=by
 intro a0 a1 k
 have ih0:=channels_Greatest.mono_l k
 unfold channels_Greatest.f
 repeat' first
   | (with_reducible exact ih0 _ _ _ _ _ _)
   | (with_reducible exact channels_check.mono _ _ _ _)
   | (with_reducible exact normal_Gap.mono _ _ _)
   | (with_reducible exact ratio_Less.mono _ _ _ _ _)
   | (with_reducible exact LeO.refl _)
   | (with_reducible exact LeO.none _)
   | (with_reducible refine LeO.ite ?_ ?_)
   | (with_reducible refine LeO.bind ?_ (fun _=>?_))
   | exact ih0 _ _ _ _ _ _
   | exact channels_check.mono _ _ _ _
   | exact normal_Gap.mono _ _ _
   | exact ratio_Less.mono _ _ _ _ _
   | exact LeO.none _
   | refine LeO.ite ?_ ?_
   | refine LeO.bind ?_ (fun _=>?_)
theorem channels_Greatest.ld {w : World} {g : Nat} {x y : Int} (h : w.heap[g]? = some (.cells #[.int .i64 x,.int .i64 y] 36 (0,0))) : w.cell? ⟨g,0,none⟩ = some (.int .i64 x)∧w.cell? ⟨g,1,none⟩ = some (.int .i64 y)∧w.frozen? ⟨g,0,none⟩ = false∧w.frozen? ⟨g,1,none⟩ = false :=
 ⟨(blk_cell h 0).trans rfl,(blk_cell h 1).trans rfl,blk_frozen h 0,blk_frozen h 1⟩
theorem channels_Greatest.st {w : World} {g : Nat} {x y : Int} (x1 y1 : Int) (h : w.heap[g]? = some (.cells #[.int .i64 x,.int .i64 y] 36 (0,0))) : ((w.setCell ⟨g,0,none⟩ (.int .i64 x1)).setCell ⟨g,1,none⟩ (.int .i64 y1)).heap[g]? = some (.cells #[.int .i64 x1,.int .i64 y1] 36 (0,0)):=blk_set (blk_set h 0 _) 1 _
theorem channels_Greatest.fa {w : World} {g g' : Nat} {o : Obj} (u v : Value) (hne : g'≠g) (h : w.heap[g']? = some o) : ((w.setCell ⟨g,0,none⟩ u).setCell ⟨g,1,none⟩ v).heap[g']? = some o:=(Below.heap_setCell _ ⟨g,1,none⟩ v g' hne).trans ((Below.heap_setCell _ ⟨g,0,none⟩ u g' hne).trans h)
theorem channels_Greatest.bcell {W w1 : World} (hb : Below W.heap.size W w1) : (∀ b o,b < W.heap.size → w1.cell? ⟨b,o,none⟩ = W.cell? ⟨b,o,none⟩)∧(∀ b o,b < W.heap.size → w1.frozen? ⟨b,o,none⟩ = W.frozen? ⟨b,o,none⟩) :=
 ⟨fun b o h=>hb.cell (p:=⟨b,o,none⟩) h,fun b o h=>hb.frozen (p:=⟨b,o,none⟩) h⟩
theorem channels_Greatest.be {w W : World} {g : Nat} (u v : Value) (hg : w.heap.size ≤ g) (h : Below w.heap.size w W) : Below w.heap.size w ((W.setCell ⟨g,0,none⟩ u).setCell ⟨g,1,none⟩ v):=(h.setCell (p:=⟨g,0,none⟩) hg u).setCell (p:=⟨g,1,none⟩) hg v
set_option maxHeartbeats 8000000 in
set_option maxRecDepth 100000 in
theorem channels_Greatest.calls (k : Nat) (A0 : Option Addr) (c0 : Nat) (l0 : List (List Int)) (A1 : Option Addr) (c1 : Nat) (l1 : List (List Int)) (r1 : Int) (r2 : Int) (r3 : Int) (w : World) (hr0 : Kd.C (Kd.slice 3 (Kd.int .i64)) w A0 l0.length l0) (hc0 : l0.length ≤ c0) (hr1 : Kd.C (Kd.slice 3 (Kd.int .i64)) w A1 l1.length l1) (hc1 : l1.length ≤ c1) (h : channels_Greatest.f k l0 l1 = some (r1,r2,r3)) :
  Calls Try.prog 16 #[.slice A0 l0.length c0,.slice A1 l1.length c1] w fun e w'=>e = .returned (.tuple #[.agg #[.int .i64 r1,.int .i64 r2],.int .i64 r3])∧Below w.heap.size w w':=by
 have HR0:=A_ hr0
 have HR1:=A_ hr1
 unfold channels_Greatest.f at h
 obtain ⟨e0,he,H1⟩:=Option.bind_eq_some_iff.mp h
 have HCK:=A_ (fun (W : World) (hW : Below w.heap.size w W)=>channels_check.calls k A0 c0 l0 A1 c1 l1 0 e0 W (cl hr0 hW) hc0 (cl hr1 hW) hc1 he)
 clear h he hr0 hr1 hc0 hc1
 go_enter Try.func16,Try.ntmps16
 go_upto_region 1 with (fail)
 have HZ:=A_ (heap_alloc_new w (Obj.cells #[.int .i64 0,.int .i64 0] 36))
 have HB:=A_ ((Below.refl w.heap.size w).alloc (Nat.le_refl _) (Obj.cells #[.int .i64 0,.int .i64 0] 36))
 generalize w.alloc (Obj.cells #[.int .i64 0,.int .i64 0] 36) = W0 at HZ HB ⊢
 by_cases h0 : e0 = 0
 case neg =>
  have hn : (e0 != 0) = true:=bne_iff_ne.mpr h0
  rw [if_neg h0] at H1
  clear h0
  cases H1
  go_upto_region 3 with (go_at_call 32;refine (HCK.out W0 HB.out).mono ?_;rintro e w1 ⟨rfl,hb1⟩)
  have HZ1:=A_ (blk_below HZ.out hb1)
  have HB1:=A_ (below_step HB.out hb1)
  clear hb1
  obtain ⟨z0,z1,f0,f1⟩:=channels_Greatest.ld HZ1.out
  go_wp2_with fail
  exact bodyPost_ret (results_ct rfl _ _ w.heap.size 36 _ (0,0) _ rfl (channels_Greatest.st 0 0 HZ1.out) Try.underlying36 rfl (by kernel_rfl)) rfl ⟨rfl,channels_Greatest.be _ _ (Nat.le_refl _) HB1.out⟩
 rw [if_pos h0] at H1
 subst h0
 go_upto_region 4 with (go_at_call 32;refine (HCK.out W0 HB.out).mono ?_;rintro e w1 ⟨rfl,hb1⟩)
 have HZ1:=A_ (blk_below HZ.out hb1)
 have HB1:=A_ (below_step HB.out hb1)
 clear hb1 HZ HB HCK
 clear W0
 go_wp2_with fail
 have HQ:=A_ (heap_alloc_new w1 (Obj.cells #[.int .i64 0,.int .i64 1] 36))
 have HZ2:=A_ (blk_alloc HZ1.out (Obj.cells #[.int .i64 0,.int .i64 1] 36))
 have HB2:=A_ (HB1.out.alloc HB1.out.size (Obj.cells #[.int .i64 0,.int .i64 1] 36))
 have hgb:=blk_lt HZ1.out
 generalize w1.alloc (Obj.cells #[.int .i64 0,.int .i64 1] 36) = W2 at HQ HZ2 HB2 ⊢
 generalize w1.heap.size = gq at HQ hgb ⊢
 have HH:=A_ H1
 clear H1 HZ1 HB1 w1
 go_loopg [21] k (fun gk s21 wx=>∃ (z b0 b1 : Int),s21 = .int .i64 z∧Aside0 (channels_Greatest.l0 gk l0 l1 (l0.length : Int) z b0 b1 = some (r1,r2,r3))∧Aside0 (gk ≤ k)∧Aside0 (wx.heap[w.heap.size]? = some (.cells #[.int .i64 0,.int .i64 0] 36 (0,0)))∧Aside0 (wx.heap[gq]? = some (.cells #[.int .i64 b0,.int .i64 b1] 36 (0,0)))∧Aside0 (Below w.heap.size w wx))
 case atStart=>exact ⟨0,0,1,rfl,HH,⟨Nat.le_refl _⟩,HZ2,HQ,HB2⟩
 case round =>
  clear HH HZ2 HQ HB2
  obtain ⟨z,b0,b1,rfl,HH,HKK,HZ,HQ,HBw⟩:=hrel
  cases gk with
  | zero=>exact absurd HH.out (by simp [channels_Greatest.l0])
  | succ gk =>
   have H:=HH.out
   clear HH
   simp only [channels_Greatest.l0] at H
   by_cases g1 : z < (l0.length : Int)
   case neg =>
    rw [if_neg g1] at H
    have d1 : decide (z < (l0.length : Int)) = false:=decide_eq_false g1
    clear g1
    cases H
    obtain ⟨q0,q1,q2,q3⟩:=channels_Greatest.ld HQ.out
    obtain ⟨z0,z1,f0,f1⟩:=channels_Greatest.ld HZ.out
    go_wp2_with fail
    exact bodyPost_ret (results_ct rfl _ _ w.heap.size 36 _ (0,0) _ rfl (channels_Greatest.st _ _ HZ.out) Try.underlying36 rfl (by kernel_rfl)) rfl ⟨rfl,channels_Greatest.be _ _ (Nat.le_refl _) HBw.out⟩
   rw [if_pos g1] at H
   by_cases g2 : 0 ≤ z
   case neg=>rw [if_neg g2] at H;cases H
   rw [if_pos g2,if_pos g1] at H
   by_cases g3 : z < (l1.length : Int)
   case neg=>rw [if_neg g3] at H;cases H
   rw [if_pos g3] at H
   obtain ⟨⟨v1,v2,e1⟩,hgap,H2⟩:=Option.bind_eq_some_iff.mp H
   clear H
   obtain ⟨ad0,B0,d0,rfl,hx0,hy0,hz0⟩:=at_L1 (cl HR0.out HBw.out) z g2 g1
   obtain ⟨ad1,B1,d1,rfl,hx1,hy1,hz1⟩:=at_L1 (cl HR1.out HBw.out) z g2 g3
   have HG:=A_ (fun (W : World) (hW : Below wr.heap.size wr W)=>normal_Gap.calls gk B0 d0 _ B1 d1 _ v1 v2 e1 W (cl hz0 hW) hy0 (cl hz1 hW) hy1 hgap)
   have HH2:=A_ (show (if e1 = 0 then ((ratio_Less.f gk b0 b1 v1 v2).bind fun t=>(if t = true then channels_Greatest.l0 gk l0 l1 (l0.length : Int) (wrap64 (z + 1)) v1 v2 else channels_Greatest.l0 gk l0 l1 (l0.length : Int) (wrap64 (z + 1)) b0 b1)) else some (0,0,e1)) = some (r1,r2,r3) from H2)
   clear H2 hgap hz0 hz1 hy0 hy1
   generalize (rd_L1 l0 z).length = n0 at hx0 HG
   generalize (rd_L1 l1 z).length = n1 at hx1 HG
   go_upto_region 8 with (fail)
   go_cut [9,10] (fun s9 s10 wx=>∃ g,s9 = .pointer (some ⟨g,0,none⟩)∧s10 = .int .i64 e1∧wr.heap.size ≤ g∧Aside0 (wx.heap[g]? = some (.cells #[.int .i64 v1,.int .i64 v2] 36 (0,0)))∧Aside0 (Below wr.heap.size wr wx))
   case first =>
    have HKS:=A_ (show ∀ W : World,Below wr.heap.size wr W → W.cell? (ad0.add z.toNat) = some (.slice B0 n0 d0)∧W.cell? (ad1.add z.toNat) = some (.slice B1 n1 d1) from fun W hW=>⟨(hW.cell (World.block_lt_of_cell? _ _ hx0)).trans hx0,(hW.cell (World.block_lt_of_cell? _ _ hx1)).trans hx1⟩)
    go_region_held3 (fun W=>W.cell? (ad0.add z.toNat) = some (.slice B0 n0 d0)∧W.cell? (ad1.add z.toNat) = some (.slice B1 n1 d1)) (first|go_keep|exact HKS.out _ (by repeat (first|exact HB3.out|exact Below.refl _ _|apply below_alloc|apply below_drew|(refine Below.setCell ?_ (by simp) _)))) ((go_at_call 40;refine (HG.out _ (by repeat (first|exact Below.refl _ _|apply below_drew|apply below_alloc))).mono ?_;rintro e w3 ⟨rfl,hb3⟩;have HB3:=A_ (show Below wr.heap.size wr w3 from below_step (by repeat (first|exact Below.refl _ _|apply below_alloc|apply below_drew)) hb3);have hz3:=hb3.size;obtain ⟨hd3,hf3⟩:=channels_Greatest.bcell hb3;simp only [World.size_alloc,World.size_drew] at hz3 hd3 hf3;have HBB:=A_ hb3;(try (have hv3 : wr.heap.size < w3.heap.size:=by omega));have hu3 : wr.heap.size ≤ w3.heap.size:=(by omega);clear hb3))
    all_goals (go_wp2_with fail;go_meet)
    all_goals refine ⟨_,rfl,rfl,by first|exact hu3|exact Nat.le_refl _,⟨?_⟩,⟨?_⟩⟩
    all_goals first
     | exact heap_alloc_new w3 _
     | exact channels_Greatest.st _ _ (blk_below (w:=wr.alloc _) (heap_alloc_new wr _) HBB.out)
     | exact channels_Greatest.st _ _ (blk_below (w:=(wr.alloc _).drew) (blk_drew (heap_alloc_new wr _)) HBB.out)
     | exact HB3.out.alloc hu3 _
     | exact (HB3.out.setCell (p:=⟨wr.heap.size,0,none⟩) (Nat.le_refl _) _).setCell (p:=⟨wr.heap.size,1,none⟩) (Nat.le_refl _) _
   case rest =>
    obtain ⟨g,rfl,rfl,hgg,HX,HBg⟩:=hcut
    have HZ2:=A_ (blk_below HZ.out HBg.out)
    have HQ2:=A_ (blk_below HQ.out HBg.out)
    have HB2:=A_ (below_step HBw.out HBg.out)
    have n1:=blk_lt HZ.out
    have n2:=blk_lt HQ.out
    obtain ⟨z0,z1,f0,f1⟩:=channels_Greatest.ld HZ2.out
    obtain ⟨q0,q1,q2,q3⟩:=channels_Greatest.ld HQ2.out
    obtain ⟨x0,x1,-,-⟩:=channels_Greatest.ld HX.out
    have H:=HH2.out
    clear HH2 HG HZ HQ HBw HBg hx0 hx1
    by_cases h0 : e1 = 0
    case neg =>
     have hn : (e1 != 0) = true:=bne_iff_ne.mpr h0
     rw [if_neg h0] at H
     clear h0
     cases H
     go_wp2_with fail
     exact bodyPost_ret (results_ct rfl _ _ w.heap.size 36 _ (0,0) _ rfl (channels_Greatest.st _ _ HZ2.out) Try.underlying36 rfl (by kernel_rfl)) rfl ⟨rfl,channels_Greatest.be _ _ (Nat.le_refl _) HB2.out⟩
    rw [if_pos h0] at H
    subst h0
    obtain ⟨t,ht,H2⟩:=Option.bind_eq_some_iff.mp H
    have HT:=A_ ht
    clear H ht z0 z1 f0 f1 q2 q3
    cases t with
    | true =>
     have HN:=A_ (show channels_Greatest.l0 gk l0 l1 (l0.length : Int) (wrap64 (z + 1)) v1 v2 = some (r1,r2,r3) from H2)
     clear H2
     go_upto_region 12 with (go_at_call 41;refine (ratio_Less.calls gk b0 b1 v1 v2 true _ HT.out).mono ?_;rintro e w4 ⟨rfl,hb4⟩)
     have HZ4:=A_ (blk_below HZ2.out hb4)
     have HQ4:=A_ (blk_below HQ2.out hb4)
     have HX4:=A_ (blk_below HX.out hb4)
     have HB4:=A_ (below_step HB2.out hb4)
     clear hb4 x0 x1 q0 q1
     obtain ⟨q0,q1,q2,q3⟩:=channels_Greatest.ld HQ4.out
     obtain ⟨x0,x1,-,-⟩:=channels_Greatest.ld HX4.out
     go_wp2_with fail
     go_roundg gk
     case measure=>have:=HKK.out;omega
     case rel=>exact ⟨wrap64 (z + 1),v1,v2,by first|rfl|simp,HN,⟨by have:=HKK.out;omega⟩,⟨channels_Greatest.fa _ _ (by omega) HZ4.out⟩,⟨channels_Greatest.st _ _ HQ4.out⟩,⟨channels_Greatest.be _ _ (by omega) HB4.out⟩⟩
    | false =>
     have HN:=A_ (show channels_Greatest.l0 gk l0 l1 (l0.length : Int) (wrap64 (z + 1)) b0 b1 = some (r1,r2,r3) from H2)
     clear H2
     go_wp2_with (go_at_call 41;refine (ratio_Less.calls gk b0 b1 v1 v2 false _ HT.out).mono ?_;rintro e w4 ⟨rfl,hb4⟩;have HZ4:=A_ (blk_below HZ2.out hb4);have HQ4:=A_ (blk_below HQ2.out hb4);have HB4:=A_ (below_step HB2.out hb4);clear hb4)
     go_roundg gk
     case measure=>have:=HKK.out;omega
     case rel=>exact ⟨wrap64 (z + 1),b0,b1,by first|rfl|simp,HN,⟨by have:=HKK.out;omega⟩,HZ4,HQ4,HB4⟩

end Go.Proofs.Ytodipcfbgnljeaa.PChannelsOrder
