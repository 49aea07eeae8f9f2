/- This file proves, function by function, what the Go functions that one law uses compute; most of it was printed by a program (wip/tools of this session, over the kit's print). -/
import Derived.Test.YtodipcfbgnljeaaPChannelsGreatestx0
import Derived.Test.YtodipcfbgnljeaaPChannelsGreatestx2
namespace Go.Proofs.Ytodipcfbgnljeaa.PChannelsGreatest
open Go.RowKit Go.Proofs.YtodipcfbgnljeaaW.PrintWords Go.Proofs.YtodipcfbgnljeaaW.PrintLast Go.Proofs.YtodipcfbgnljeaaW.PrintMore
attribute [local go_sem] max2_int min2_int max_two min_two max_three min_three max_four min_four   -- for this text's walks alone
set_option linter.unusedVariables false
set_option linter.unusedSimpArgs false

/-! ### channels_proper: function 55 -/
mutual
def channels_proper.l0 : Nat → Int → List (List (List Int)) → Int → Int → Option (Int)
 | 0,_,_,_,_=>none
 | k + 1,x5,x14,x15,x16=>if x16 < x15 then (if 0 ≤ x16 then (if x16 < (x14.length : Int) then (channels_proper.l1 k x5 x14 x15 x16 (rd_L2 x14 x16) ((rd_L2 x14 x16).length : Int) 0) else (none)) else (none)) else (some x5)
def channels_proper.l1 : Nat → Int → List (List (List Int)) → Int → Int → List (List Int) → Int → Int → Option (Int)
 | 0,_,_,_,_,_,_,_=>none
 | k + 1,x5,x14,x15,x16,x20,x21,x22=>if x22 < x21 then (if 0 ≤ x22 then (if x22 < (x20.length : Int) then ((euclid_Distance.f k (rd_L1 x20 x22) (rd_L1 x20 x22)).bind fun bt119=>(if bt119.2 = 8 then (some bt119.2) else (channels_proper.l1 k (mx x5 bt119.2) x14 x15 x16 x20 x21 (wrap64 (x22 + 1))))) else (none)) else (none)) else (channels_proper.l0 k x5 x14 x15 (wrap64 (x16 + 1)))
end
def channels_proper.f (k : Nat) (l0 : List (List Int)) (l1 : List (List Int)) : Option (Int):=(some (([l0,l1] : List (List (List Int))) : List (List (List Int)))).bind fun y113=>(channels_proper.l0 k 0 y113 (y113.length : Int) 0)
theorem channels_proper.mono_l : ∀ k,(∀ y0 y1 y2 y3,LeO (channels_proper.l0 k y0 y1 y2 y3) (channels_proper.l0 (k + 1) y0 y1 y2 y3))∧(∀ y0 y1 y2 y3 y4 y5 y6,LeO (channels_proper.l1 k y0 y1 y2 y3 y4 y5 y6) (channels_proper.l1 (k + 1) y0 y1 y2 y3 y4 y5 y6))
 | 0=>⟨fun _ _ _ _ r h=>by simp [channels_proper.l0] at h,fun _ _ _ _ _ _ _ r h=>by simp [channels_proper.l1] at h⟩
 | k + 1=>by
  obtain ⟨ih0,ih1⟩:=channels_proper.mono_l k
  refine ⟨?_,?_⟩
  ·
   intro y0 y1 y2 y3
   unfold channels_proper.l0
   repeat' first
   | (with_reducible exact ih0 _ _ _ _)
   | (with_reducible exact ih1 _ _ _ _ _ _ _)
   | (with_reducible exact euclid_Distance.mono _ _ _)
   | (with_reducible exact LeO.refl _)
   | (with_reducible exact LeO.none _)
   | (with_reducible refine LeO.ite ?_ ?_)
   | (with_reducible refine LeO.bind ?_ (fun _=>?_))
   | exact ih0 _ _ _ _
   | exact ih1 _ _ _ _ _ _ _
   | exact euclid_Distance.mono _ _ _
   | exact LeO.none _
   | refine LeO.ite ?_ ?_
   | refine LeO.bind ?_ (fun _=>?_)
  ·
   intro y0 y1 y2 y3 y4 y5 y6
   unfold channels_proper.l1
   repeat' first
   | (with_reducible exact ih0 _ _ _ _)
   | (with_reducible exact ih1 _ _ _ _ _ _ _)
   | (with_reducible exact euclid_Distance.mono _ _ _)
   | (with_reducible exact LeO.refl _)
   | (with_reducible exact LeO.none _)
   | (with_reducible refine LeO.ite ?_ ?_)
   | (with_reducible refine LeO.bind ?_ (fun _=>?_))
   | exact ih0 _ _ _ _
   | exact ih1 _ _ _ _ _ _ _
   | exact euclid_Distance.mono _ _ _
   | exact LeO.none _
   | refine LeO.ite ?_ ?_
   | refine LeO.bind ?_ (fun _=>?_)
theorem channels_proper.mono : ∀ a0 a1 k,LeO (channels_proper.f k a0 a1) (channels_proper.f (k + 1) a0 a1):=by
 intro a0 a1 k
 obtain ⟨ih0,ih1⟩:=channels_proper.mono_l k
 unfold channels_proper.f
 repeat' first
   | (with_reducible exact ih0 _ _ _ _)
   | (with_reducible exact ih1 _ _ _ _ _ _ _)
   | (with_reducible exact euclid_Distance.mono _ _ _)
   | (with_reducible exact LeO.refl _)
   | (with_reducible exact LeO.none _)
   | (with_reducible refine LeO.ite ?_ ?_)
   | (with_reducible refine LeO.bind ?_ (fun _=>?_))
   | exact ih0 _ _ _ _
   | exact ih1 _ _ _ _ _ _ _
   | exact euclid_Distance.mono _ _ _
   | exact LeO.none _
   | refine LeO.ite ?_ ?_
   | refine LeO.bind ?_ (fun _=>?_)
set_option maxHeartbeats 8000000 in
set_option maxRecDepth 100000 in
theorem channels_proper.calls (k : Nat) (A0 : Option Addr) (c0 : Nat) (l0 : List (List Int)) (A1 : Option Addr) (c1 : Nat) (l1 : List (List Int)) (r : Int) (w : World) (hr0 : Kd.C (Kd.slice 3 (Kd.int .i64)) w A0 l0.length l0) (hc0 : l0.length ≤ c0) (hr1 : Kd.C (Kd.slice 3 (Kd.int .i64)) w A1 l1.length l1) (hc1 : l1.length ≤ c1) (h : channels_proper.f k l0 l1 = some r) :
  Calls Try.prog 55 #[.slice A0 l0.length c0,.slice A1 l1.length c1] w fun e w'=>e = .returned (.int .i64 r)∧Below w.heap.size w w':=by
 have HR0:=A_ hr0
 have HC0:=A_ hc0
 clear hr0 hc0
 have HR1:=A_ hr1
 have HC1:=A_ hc1
 clear hr1 hc1
 have HB:=A_ (Below.refl w.heap.size w)
 have H : ((some (([l0,l1] : List (List (List Int))) : List (List (List Int)))).bind fun y113=>(channels_proper.l0 k 0 y113 (y113.length : Int) 0)) = some r:=h
 clear h
 obtain ⟨y113,hy113⟩ : ∃ y_ : List (List (List Int)),y_ = (([l0,l1] : List (List (List Int)))):=⟨_,rfl⟩
 replace H : (channels_proper.l0 k 0 y113 (y113.length : Int) 0) = some r:=by first|(rw [hy113];with_reducible exact H)|(have H2_:=(Option.bind_some _ _).symm.trans H;rw [hy113];with_reducible exact H2_)|(have H2_:=(Option.bind_some _ _).symm.trans H;with_reducible exact H2_)|with_reducible exact H|(rw [hy113];exact H)|exact H
 have Ny113:=A_ hy113
 clear hy113
 have H':=A_ H
 clear H
 go_enter Try.func55,Try.ntmps55
 go_wp2_with (first|((with_reducible refine gate_dst (N:=14) rfl ?_);refine lit_seen 23 ?hg (xs:=y113) (ys:=([l0,l1] : List (List (List Int)))) (inner:=[.slice A0 l0.length c0,.slice A1 l1.length c1]) Ny113.out ?hr ?_;(case hg=>rfl);(case hr=>first|(go_simp;done)|(go_simp;rfl));intro Ao4 co4 w3 hlc_ hk_ hb;have hrep_:=(Reps.one (show Kd.K (Kd.slice 22 (Kd.slice 3 (Kd.int .i64))) w3 l0 [.slice A0 l0.length c0] from ⟨_,_,rfl,HC0.out,cl (w:=w) (by repeat (first|exact HR0.out|(with_reducible refine ca ?_ _)|(with_reducible refine cb ?_ _)|(with_reducible refine cc ?_))) hb⟩) (Reps.one (show Kd.K (Kd.slice 22 (Kd.slice 3 (Kd.int .i64))) w3 l1 [.slice A1 l1.length c1] from ⟨_,_,rfl,HC1.out,cl (w:=w) (by repeat (first|exact HR1.out|(with_reducible refine ca ?_ _)|(with_reducible refine cb ?_ _)|(with_reducible refine cc ?_))) hb⟩) (Reps.none _ _)));have hC_:=lit_C (Kd.slice 22 (Kd.slice 3 (Kd.int .i64))) (xs:=y113) hk_ (by rw [Ny113.out];exact hrep_) (by rw [Ny113.out];first|decide|simp);clear hk_ hrep_;have n0_:=A_ (below_step (by repeat (first|(with_reducible first|exact HB.out|apply ba|apply bb|apply bc)|exact HB.out)) hb);clear HB;have HB:=n0_;clear n0_;have HR116:=A_ hC_;have HC116:=A_ hlc_;clear hC_ hlc_ hb))
 go_loopg [5,16] k (fun kq v5 v16 w'=>∃ (x5_1 : Int) (x16_1 : Int),v5 = .int .i64 x5_1∧v16 = .int .i64 x16_1∧Aside0 (channels_proper.l0 kq x5_1 y113 (y113.length : Int) x16_1 = some r)∧Aside0 (kq ≤ k)∧Aside0 (Kd.C (Kd.slice 22 (Kd.slice 3 (Kd.int .i64))) w' Ao4 y113.length y113)∧Aside0 (Below w.heap.size w w'))
 case atStart=>exact ⟨(0),(0),(by first|rfl|(simp;done)|(simp [*];done)),(by first|rfl|(simp;done)|(simp [*];done)),H',⟨Nat.le_refl _⟩,⟨by repeat (first|(with_reducible exact HR116.out)|(with_reducible refine ca ?_ _)|(with_reducible refine cb ?_ _)|(with_reducible refine cc ?_)|exact HR116.out)⟩,⟨by repeat (first|(with_reducible first|exact HB.out|apply ba|apply bb|apply bc)|exact HB.out)⟩⟩
 case round =>
  clear H'
  try clear c1
  try clear p2
  obtain ⟨x5_1,x16_1,rfl,rfl,HA,HK1,HR116,HB⟩:=hrel
  cases gk with
  | zero=>exact absurd HA.out (by simp [channels_proper.l0])
  | succ k1 =>
   have H:=HA.out
   clear HA
   simp only [channels_proper.l0] at H
   by_cases c5 : x16_1 < (y113.length : Int)
   ·
    rw [if_pos c5] at H
    have c5b0 : decide (x16_1 < (y113.length : Int)) = true:=decide_eq_true c5
    clear c5
    by_cases c6 : 0 ≤ x16_1
    ·
     rw [if_pos c6] at H
     have c6b0 : decide (0 ≤ x16_1) = true:=decide_eq_true c6
     clear c6
     by_cases c7 : x16_1 < (y113.length : Int)
     ·
      rw [if_pos c7] at H
      have c7b0 : decide (x16_1 < (y113.length : Int)) = true:=decide_eq_true c7
      clear c7
      have H':=A_ H
      clear H
      have p117 : 0 ≤ (x16_1 : Int):=of_decide_eq_true (by first|(with_reducible assumption)|assumption)
      have q117 : x16_1 < (y113.length : Int):=of_decide_eq_true (by first|(with_reducible assumption)|assumption)
      obtain ⟨ad117,A117_0,c117_0,e117,hx117_0,hl117_0,hi117_0⟩:=at_L2 HR116.out x16_1 p117 q117
      cases e117
      have HR117_0:=A_ hi117_0
      have HC117_0:=A_ hl117_0
      clear hi117_0 hl117_0
      replace p117:=eq_true p117
      replace q117:=eq_true q117
      go_wp2
      go_loopg [5,22] k1 (fun kq v5 v22 w'=>∃ (x5_2 : Int) (x22_2 : Int),v5 = .int .i64 x5_2∧v22 = .int .i64 x22_2∧Aside0 (channels_proper.l1 kq x5_2 y113 (y113.length : Int) x16_1 (rd_L2 y113 x16_1) ((rd_L2 y113 x16_1).length : Int) x22_2 = some r)∧Aside0 (kq ≤ k1)∧Aside0 (Kd.C (Kd.slice 22 (Kd.slice 3 (Kd.int .i64))) w' (some ad117) y113.length y113)∧Aside0 (Kd.C (Kd.slice 3 (Kd.int .i64)) w' A117_0 (rd_L2 y113 x16_1).length (rd_L2 y113 x16_1))∧Aside0 (Below w.heap.size w w'))
      case atStart=>exact ⟨(x5_1),(0),(by first|rfl|(simp;done)|(simp [*];done)),(by first|rfl|(simp;done)|(simp [*];done)),H',⟨Nat.le_refl _⟩,⟨by repeat (first|(with_reducible exact HR116.out)|(with_reducible refine ca ?_ _)|(with_reducible refine cb ?_ _)|(with_reducible refine cc ?_)|exact HR116.out)⟩,⟨by repeat (first|(with_reducible exact HR117_0.out)|(with_reducible refine ca ?_ _)|(with_reducible refine cb ?_ _)|(with_reducible refine cc ?_)|exact HR117_0.out)⟩,⟨by repeat (first|(with_reducible first|exact HB.out|apply ba|apply bb|apply bc)|exact HB.out)⟩⟩
      case round =>
       clear H'
       try clear c1
       try clear p1
       try clear q1
       try clear hx1
       try clear p2
       try clear c5
       try clear c5b0
       try clear c6
       try clear c6b0
       try clear c7
       try clear c7b0
       try clear hx117_0
       try clear p117
       try clear p2
       try clear q117
       obtain ⟨x5_2,x22_2,rfl,rfl,HA,HK2,HR116,HR117_0,HB⟩:=hrel
       cases gk with
       | zero=>exact absurd HA.out (by simp [channels_proper.l1])
       | succ k2 =>
        have H:=HA.out
        clear HA
        simp only [channels_proper.l1] at H
        by_cases c8 : x22_2 < ((rd_L2 y113 x16_1).length : Int)
        ·
         rw [if_pos c8] at H
         have c8b0 : decide (x22_2 < ((rd_L2 y113 x16_1).length : Int)) = true:=decide_eq_true c8
         clear c8
         by_cases c9 : 0 ≤ x22_2
         ·
          rw [if_pos c9] at H
          have c9b0 : decide (0 ≤ x22_2) = true:=decide_eq_true c9
          clear c9
          by_cases c10 : x22_2 < ((rd_L2 y113 x16_1).length : Int)
          ·
           rw [if_pos c10] at H
           have c10b0 : decide (x22_2 < ((rd_L2 y113 x16_1).length : Int)) = true:=decide_eq_true c10
           clear c10
           replace H:=Option.bind_eq_some_iff.mp H
           obtain ⟨⟨t119,t120⟩,A110,H⟩:=H
           replace H : (if t120 = 8 then (some t120) else (channels_proper.l1 k2 (mx x5_2 t120) y113 (y113.length : Int) x16_1 (rd_L2 y113 x16_1) ((rd_L2 y113 x16_1).length : Int) (wrap64 (x22_2 + 1)))) = some r:=H
           have A11:=A_ A110
           clear A110
           by_cases c12 : t120 = 8
           ·
            rw [if_pos c12] at H
            have c12b0 : (t120 == 8) = true:=beq_iff_eq.mpr c12
            have c12b1 : (t120 != 8) = false:=bne_eq_false_iff_eq.mpr c12
            clear c12
            obtain rfl:=Option.some.inj H
            have p118 : 0 ≤ (x22_2 : Int):=of_decide_eq_true (by first|(with_reducible assumption)|assumption)
            have q118 : x22_2 < ((rd_L2 y113 x16_1).length : Int):=of_decide_eq_true (by first|(with_reducible assumption)|assumption)
            obtain ⟨ad118,A118_0,c118_0,e118,hx118_0,hl118_0,hi118_0⟩:=at_L1 HR117_0.out x22_2 p118 q118
            cases e118
            have HR118_0:=A_ hi118_0
            have HC118_0:=A_ hl118_0
            clear hi118_0 hl118_0
            replace p118:=eq_true p118
            replace q118:=eq_true q118
            go_wp2_with (first|((with_reducible refine gate_callee (f:=61) rfl ?_);refine goesL_ (some 29) rfl rfl Try.func61 (by kernel_rfl) rfl #[.slice A118_0 (rd_L1 (rd_L2 y113 x16_1) x22_2).length c118_0,.slice A118_0 (rd_L1 (rd_L2 y113 x16_1) x22_2).length c118_0] rfl (by (try simp only [List.map_toArray,List.map_cons,List.map_nil]);first|done|rfl|(simp only [List.length_drop,List.length_take];rfl)) ?_;(with_reducible refine (euclid_Distance.calls k2 _ _ (rd_L1 (rd_L2 y113 x16_1) x22_2) _ _ (rd_L1 (rd_L2 y113 x16_1) x22_2) t119 t120 _ ?side1 ?side2 ?side3 ?side4 A11.out).mono ?_);(case side1=>repeat (first|exact HR118_0.out|(with_reducible refine ca ?_ _)|(with_reducible refine cb ?_ _)|(with_reducible refine cc ?_)));(case side2=>exact HC118_0.out);(case side3=>repeat (first|exact HR118_0.out|(with_reducible refine ca ?_ _)|(with_reducible refine cb ?_ _)|(with_reducible refine cc ?_)));(case side4=>exact HC118_0.out);rintro e w' ⟨rfl,⟨nd,rfl⟩⟩;refine ⟨_,rfl,?_⟩))
            go_ret
            exact ⟨by first|rfl|(simp [errW_none,errW_some] <;> rfl)|(simp [*,errW_none,errW_some] <;> rfl),by repeat (first|(with_reducible first|exact HB.out|apply ba|apply bb|apply bc)|exact HB.out)⟩
           ·
            rw [if_neg c12] at H
            have c12b0 : (t120 == 8) = false:=beq_eq_false_iff_ne.mpr c12
            have c12b1 : (t120 != 8) = true:=bne_iff_ne.mpr c12
            obtain ⟨ji13,hji13⟩ : ∃ j_ : Int,(mx x5_2 t120) = j_:=⟨_,rfl⟩
            replace H : (channels_proper.l1 k2 ji13 y113 (y113.length : Int) x16_1 (rd_L2 y113 x16_1) ((rd_L2 y113 x16_1).length : Int) (wrap64 (x22_2 + 1))) = some r:=by first|(rw [hji13] at H;exact H)|(simp only [hji13] at H ⊢;exact H)
            (try rw [hji13] at A11)
            have hji13_ : (if x5_2 < t120 then t120 else x5_2) = ji13:=hji13
            have H':=A_ H
            clear H
            have p118 : 0 ≤ (x22_2 : Int):=of_decide_eq_true (by first|(with_reducible assumption)|assumption)
            have q118 : x22_2 < ((rd_L2 y113 x16_1).length : Int):=of_decide_eq_true (by first|(with_reducible assumption)|assumption)
            obtain ⟨ad118,A118_0,c118_0,e118,hx118_0,hl118_0,hi118_0⟩:=at_L1 HR117_0.out x22_2 p118 q118
            cases e118
            have HR118_0:=A_ hi118_0
            have HC118_0:=A_ hl118_0
            clear hi118_0 hl118_0
            replace p118:=eq_true p118
            replace q118:=eq_true q118
            go_wp2_with (first|((with_reducible refine gate_callee (f:=61) rfl ?_);refine goesL_ (some 29) rfl rfl Try.func61 (by kernel_rfl) rfl #[.slice A118_0 (rd_L1 (rd_L2 y113 x16_1) x22_2).length c118_0,.slice A118_0 (rd_L1 (rd_L2 y113 x16_1) x22_2).length c118_0] rfl (by (try simp only [List.map_toArray,List.map_cons,List.map_nil]);first|done|rfl|(simp only [List.length_drop,List.length_take];rfl)) ?_;(with_reducible refine (euclid_Distance.calls k2 _ _ (rd_L1 (rd_L2 y113 x16_1) x22_2) _ _ (rd_L1 (rd_L2 y113 x16_1) x22_2) t119 t120 _ ?side1 ?side2 ?side3 ?side4 A11.out).mono ?_);(case side1=>repeat (first|exact HR118_0.out|(with_reducible refine ca ?_ _)|(with_reducible refine cb ?_ _)|(with_reducible refine cc ?_)));(case side2=>exact HC118_0.out);(case side3=>repeat (first|exact HR118_0.out|(with_reducible refine ca ?_ _)|(with_reducible refine cb ?_ _)|(with_reducible refine cc ?_)));(case side4=>exact HC118_0.out);rintro e w' ⟨rfl,⟨nd,rfl⟩⟩;refine ⟨_,rfl,?_⟩))
            go_roundg k2
            case measure=>have:=HK1.out;have:=HK2.out;omega
            case rel=>exact ⟨(ji13),(wrap64 (x22_2 + 1)),(by first|rfl|(simp;done)|(simp only [← hji13] <;> (first|rfl|simp))|(simp [*];done)),(by first|rfl|(simp;done)|(simp [*];done)),H',⟨by have:=HK1.out;have:=HK2.out;omega⟩,⟨by repeat (first|(with_reducible exact HR116.out)|(with_reducible refine ca ?_ _)|(with_reducible refine cb ?_ _)|(with_reducible refine cc ?_)|exact HR116.out)⟩,⟨by repeat (first|(with_reducible exact HR117_0.out)|(with_reducible refine ca ?_ _)|(with_reducible refine cb ?_ _)|(with_reducible refine cc ?_)|exact HR117_0.out)⟩,⟨by repeat (first|(with_reducible first|exact HB.out|apply ba|apply bb|apply bc)|exact HB.out)⟩⟩
          ·
           rw [if_neg c10] at H
           exact absurd H (by simp)
         ·
          rw [if_neg c9] at H
          exact absurd H (by simp)
        ·
         rw [if_neg c8] at H
         have c8b0 : decide (x22_2 < ((rd_L2 y113 x16_1).length : Int)) = false:=decide_eq_false c8
         clear c8
         have H':=A_ H
         clear H
         go_wp2
         go_roundg k2
         case measure=>have:=HK1.out;have:=HK2.out;omega
         case rel=>exact ⟨(x5_2),(wrap64 (x16_1 + 1)),(by first|rfl|(simp;done)|(simp [*];done)),(by first|rfl|(simp;done)|(simp [*];done)),H',⟨by have:=HK1.out;have:=HK2.out;omega⟩,⟨by repeat (first|(with_reducible exact HR116.out)|(with_reducible refine ca ?_ _)|(with_reducible refine cb ?_ _)|(with_reducible refine cc ?_)|exact HR116.out)⟩,⟨by repeat (first|(with_reducible first|exact HB.out|apply ba|apply bb|apply bc)|exact HB.out)⟩⟩
     ·
      rw [if_neg c7] at H
      exact absurd H (by simp)
    ·
     rw [if_neg c6] at H
     exact absurd H (by simp)
   ·
    rw [if_neg c5] at H
    have c5b0 : decide (x16_1 < (y113.length : Int)) = false:=decide_eq_false c5
    clear c5
    obtain rfl:=Option.some.inj H
    go_wp2
    go_ret
    exact ⟨by first|rfl|(simp [errW_none,errW_some] <;> rfl)|(simp [*,errW_none,errW_some] <;> rfl),by repeat (first|(with_reducible first|exact HB.out|apply ba|apply bb|apply bc)|exact HB.out)⟩

/-! ### channels_even: function 56 -/
def channels_even.l0 : Nat → List (List Int) → List (List Int) → Int → Int → Option (Bool)
 | 0,_,_,_,_=>none
 | k + 1,x0,x5,x6,x7=>if x7 < x6 then (if 0 ≤ x7 then (if x7 < (x5.length : Int) then (if 0 < (x0.length : Int) then (if ((rd_L1 x5 x7).length : Int) = ((rd_L1 x0 0).length : Int) then (channels_even.l0 k x0 x5 x6 (wrap64 (x7 + 1))) else (some false)) else (none)) else (none)) else (none)) else (some true)
def channels_even.f (k : Nat) (l0 : List (List Int)) : Option (Bool):=channels_even.l0 k l0 l0 (l0.length : Int) 0
theorem channels_even.mono_l : ∀ k,(∀ y0 y1 y2 y3,LeO (channels_even.l0 k y0 y1 y2 y3) (channels_even.l0 (k + 1) y0 y1 y2 y3))
 | 0=>fun _ _ _ _ r h=>by simp [channels_even.l0] at h
 | k + 1=>by
  have ih0:=channels_even.mono_l k
  ·
   intro y0 y1 y2 y3
   unfold channels_even.l0
   repeat' first
   | (with_reducible exact ih0 _ _ _ _)
   | (with_reducible exact LeO.refl _)
   | (with_reducible exact LeO.none _)
   | (with_reducible refine LeO.ite ?_ ?_)
   | (with_reducible refine LeO.bind ?_ (fun _=>?_))
   | exact ih0 _ _ _ _
   | exact LeO.none _
   | refine LeO.ite ?_ ?_
   | refine LeO.bind ?_ (fun _=>?_)
theorem channels_even.mono : ∀ a0 k,LeO (channels_even.f k a0) (channels_even.f (k + 1) a0):=by
 intro a0 k
 have ih0:=channels_even.mono_l k
 unfold channels_even.f
 repeat' first
   | (with_reducible exact ih0 _ _ _ _)
   | (with_reducible exact LeO.refl _)
   | (with_reducible exact LeO.none _)
   | (with_reducible refine LeO.ite ?_ ?_)
   | (with_reducible refine LeO.bind ?_ (fun _=>?_))
   | exact ih0 _ _ _ _
   | exact LeO.none _
   | refine LeO.ite ?_ ?_
   | refine LeO.bind ?_ (fun _=>?_)
set_option maxHeartbeats 8000000 in
set_option maxRecDepth 100000 in
theorem channels_even.calls (k : Nat) (A0 : Option Addr) (c0 : Nat) (l0 : List (List Int)) (r : Bool) (w : World) (hr0 : Kd.C (Kd.slice 3 (Kd.int .i64)) w A0 l0.length l0) (hc0 : l0.length ≤ c0) (h : channels_even.f k l0 = some r) :
  Calls Try.prog 56 #[.slice A0 l0.length c0] w fun e w'=>e = .returned (.bool r)∧Drawn0 w w':=by
 have HR0:=A_ hr0
 have HC0:=A_ hc0
 clear hr0 hc0
 have H : (channels_even.l0 k l0 l0 (l0.length : Int) 0) = some r:=h
 clear h
 have H':=A_ H
 clear H
 go_enter Try.func56,Try.ntmps56
 go_wp2
 go_loopg [7] k (fun kq v7 w'=>∃ (x7_1 : Int),v7 = .int .i64 x7_1∧Aside0 (channels_even.l0 kq l0 l0 (l0.length : Int) x7_1 = some r)∧Aside0 (kq ≤ k)∧Drawn0 w w')
 case atStart=>exact ⟨(0),(by first|rfl|(simp;done)|(simp [*];done)),H',⟨Nat.le_refl _⟩,by repeat (first|exact Drawn0.refl _|apply Drawn0.step)⟩
 case round =>
  clear H'
  obtain ⟨x7_1,rfl,HA,HK1,⟨m1,rfl⟩⟩:=hrel
  cases gk with
  | zero=>exact absurd HA.out (by simp [channels_even.l0])
  | succ k1 =>
   have H:=HA.out
   clear HA
   simp only [channels_even.l0] at H
   by_cases c2 : x7_1 < (l0.length : Int)
   ·
    rw [if_pos c2] at H
    have c2b0 : decide (x7_1 < (l0.length : Int)) = true:=decide_eq_true c2
    clear c2
    by_cases c3 : 0 ≤ x7_1
    ·
     rw [if_pos c3] at H
     have c3b0 : decide (0 ≤ x7_1) = true:=decide_eq_true c3
     clear c3
     by_cases c4 : x7_1 < (l0.length : Int)
     ·
      rw [if_pos c4] at H
      have c4b0 : decide (x7_1 < (l0.length : Int)) = true:=decide_eq_true c4
      clear c4
      by_cases c5 : 0 < (l0.length : Int)
      ·
       rw [if_pos c5] at H
       have c5b0 : decide (0 < (l0.length : Int)) = true:=decide_eq_true c5
       have c5b1 : decide (0 < l0.length) = true:=decide_eq_true (by omega)
       clear c5
       by_cases c6 : ((rd_L1 l0 x7_1).length : Int) = ((rd_L1 l0 0).length : Int)
       ·
        rw [if_pos c6] at H
        have c6b0 : (((rd_L1 l0 x7_1).length : Int) == ((rd_L1 l0 0).length : Int)) = true:=beq_iff_eq.mpr c6
        have c6b1 : (((rd_L1 l0 x7_1).length : Int) != ((rd_L1 l0 0).length : Int)) = false:=bne_eq_false_iff_eq.mpr c6
        have c6b2 : ((rd_L1 l0 x7_1).length == (rd_L1 l0 0).length) = true:=by first|simpa using c6|(simp at c6 ⊢;omega)
        clear c6
        have H':=A_ H
        clear H
        have p121 : 0 ≤ (x7_1 : Int):=of_decide_eq_true (by first|(with_reducible assumption)|assumption)
        have q121 : x7_1 < (l0.length : Int):=of_decide_eq_true (by first|(with_reducible assumption)|assumption)
        obtain ⟨ad121,A121_0,c121_0,e121,hx121_0,hl121_0,hi121_0⟩:=at_L1 HR0.out x7_1 p121 q121
        cases e121
        have HR121_0:=A_ hi121_0
        have HC121_0:=A_ hl121_0
        clear hi121_0 hl121_0
        replace p121:=eq_true p121
        replace q121:=eq_true q121
        have p122 : 0 ≤ (0 : Int):=(by omega)
        have q122 : 0 < (l0.length : Int):=of_decide_eq_true (by first|(with_reducible assumption)|assumption)
        obtain ⟨ad122,A122_0,c122_0,e122,hx122_0,hl122_0,hi122_0⟩:=at_L1 HR0.out 0 p122 q122
        obtain rfl : ad121 = ad122:=(by injection e122)
        have qi122 : (0 < l0.length) = True:=eq_true (by omega)
        (try rw [show ((0 : Int)).toNat = 0 from rfl] at hx122_0)
        (try rw [Addr.add_zero'] at hx122_0)
        have HR122_0:=A_ hi122_0
        have HC122_0:=A_ hl122_0
        clear hi122_0 hl122_0
        replace p122:=eq_true p122
        replace q122:=eq_true q122
        go_wp2
        go_roundg k1
        case measure=>have:=HK1.out;omega
        case rel=>exact ⟨(wrap64 (x7_1 + 1)),(by first|rfl|(simp;done)|(simp [*];done)),H',⟨by have:=HK1.out;omega⟩,by repeat (first|exact Drawn0.refl _|apply Drawn0.step)⟩
       ·
        rw [if_neg c6] at H
        have c6b0 : (((rd_L1 l0 x7_1).length : Int) == ((rd_L1 l0 0).length : Int)) = false:=beq_eq_false_iff_ne.mpr c6
        have c6b1 : (((rd_L1 l0 x7_1).length : Int) != ((rd_L1 l0 0).length : Int)) = true:=bne_iff_ne.mpr c6
        have c6b2 : ((rd_L1 l0 x7_1).length == (rd_L1 l0 0).length) = false:=by first|simpa using c6|(simp at c6 ⊢;omega)
        obtain rfl:=Option.some.inj H
        have p121 : 0 ≤ (x7_1 : Int):=of_decide_eq_true (by first|(with_reducible assumption)|assumption)
        have q121 : x7_1 < (l0.length : Int):=of_decide_eq_true (by first|(with_reducible assumption)|assumption)
        obtain ⟨ad121,A121_0,c121_0,e121,hx121_0,hl121_0,hi121_0⟩:=at_L1 HR0.out x7_1 p121 q121
        cases e121
        have HR121_0:=A_ hi121_0
        have HC121_0:=A_ hl121_0
        clear hi121_0 hl121_0
        replace p121:=eq_true p121
        replace q121:=eq_true q121
        have p122 : 0 ≤ (0 : Int):=(by omega)
        have q122 : 0 < (l0.length : Int):=of_decide_eq_true (by first|(with_reducible assumption)|assumption)
        obtain ⟨ad122,A122_0,c122_0,e122,hx122_0,hl122_0,hi122_0⟩:=at_L1 HR0.out 0 p122 q122
        obtain rfl : ad121 = ad122:=(by injection e122)
        have qi122 : (0 < l0.length) = True:=eq_true (by omega)
        (try rw [show ((0 : Int)).toNat = 0 from rfl] at hx122_0)
        (try rw [Addr.add_zero'] at hx122_0)
        have HR122_0:=A_ hi122_0
        have HC122_0:=A_ hl122_0
        clear hi122_0 hl122_0
        replace p122:=eq_true p122
        replace q122:=eq_true q122
        go_wp2
        go_ret
        exact ⟨by first|rfl|(simp;done)|(simp [*];done),by repeat (first|exact Drawn0.refl _|apply Drawn0.step)⟩
      ·
       rw [if_neg c5] at H
       exact absurd H (by simp)
     ·
      rw [if_neg c4] at H
      exact absurd H (by simp)
    ·
     rw [if_neg c3] at H
     exact absurd H (by simp)
   ·
    rw [if_neg c2] at H
    have c2b0 : decide (x7_1 < (l0.length : Int)) = false:=decide_eq_false c2
    clear c2
    obtain rfl:=Option.some.inj H
    go_wp2
    go_ret
    exact ⟨by first|rfl|(simp;done)|(simp [*];done),by repeat (first|exact Drawn0.refl _|apply Drawn0.step)⟩

/-! ### channels_check: function 32 -/
def channels_check.fit (l0 l1 : List (List Int)) (a2 : Int) : Prop:=l0.length = l1.length∧((rd_L1 l0 0).length : Int) - ((rd_L1 l1 0).length : Int) ≤ a2∧((rd_L1 l1 0).length : Int) - ((rd_L1 l0 0).length : Int) ≤ a2
instance (l0 l1 : List (List Int)) (a2 : Int) : Decidable (channels_check.fit l0 l1 a2) := by unfold channels_check.fit; infer_instance
def channels_check.f (k : Nat) (l0 : List (List Int)) (l1 : List (List Int)) (a2 : Int) : Option Int :=
 if a2 < 0 ∨ 32 < a2 then some 1 else (channels_count.f l0).bind fun b0=>(channels_count.f l1).bind fun b1=>if b0 = true∧b1 = true then ((channels_proper.f k l0 l1).bind fun e=>if e = 0 then
  ((channels_even.f k l0).bind fun v0=>(channels_even.f k l1).bind fun v1=>if v0 = true∧v1 = true∧channels_check.fit l0 l1 a2 then some 0 else some 8) else some e) else some 4
theorem channels_check.mono : ∀ a0 a1 a2 k,LeO (channels_check.f k a0 a1 a2) (channels_check.f (k + 1) a0 a1 a2):=by
 intro a0 a1 a2 k
 unfold channels_check.f
 refine LeO.ite (LeO.refl _) (LeO.bind (LeO.refl _) fun _=>LeO.bind (LeO.refl _) fun _=>LeO.ite (LeO.bind (channels_proper.mono _ _ _) fun _=>LeO.ite (LeO.bind (channels_even.mono _ _) fun _=>LeO.bind (channels_even.mono _ _) fun _=>LeO.refl _) (LeO.refl _)) (LeO.refl _))
set_option maxHeartbeats 8000000 in
set_option maxRecDepth 100000 in
theorem channels_check.calls (k : Nat) (A0 : Option Addr) (c0 : Nat) (l0 : List (List Int)) (A1 : Option Addr) (c1 : Nat) (l1 : List (List Int)) (a2 : Int) (r : Int) (w : World) (hr0 : Kd.C (Kd.slice 3 (Kd.int .i64)) w A0 l0.length l0) (hc0 : l0.length ≤ c0) (hr1 : Kd.C (Kd.slice 3 (Kd.int .i64)) w A1 l1.length l1) (hc1 : l1.length ≤ c1) (h : channels_check.f k l0 l1 a2 = some r) :
  Calls Try.prog 32 #[.slice A0 l0.length c0,.slice A1 l1.length c1,.int .i64 a2] w fun e w'=>e = .returned (.int .i64 r)∧Below w.heap.size w w':=by
 have HR0:=A_ hr0
 have HR1:=A_ hr1
 have HC0:=A_ hc0
 have HC1:=A_ hc1
 clear hr0 hr1 hc0 hc1
 unfold channels_check.f at h
 by_cases ha : a2 < 0 ∨ 32 < a2
 ·
  rw [if_pos ha] at h
  cases h
  by_cases h0 : a2 < 0
  ·
   have d0 : decide (a2 < 0) = true:=decide_eq_true h0
   clear ha
   go_enter Try.func32,Try.ntmps32
   go_wp2_with fail
   go_ret
   exact ⟨rfl,by repeat (first|(with_reducible first|exact Below.refl _ _|apply ba|apply bb|apply bc)|exact Below.refl _ _)⟩
  ·
   have d0 : decide (a2 < 0) = false:=decide_eq_false h0
   have d1 : decide (32 < a2) = true:=decide_eq_true (by omega)
   clear ha
   go_enter Try.func32,Try.ntmps32
   go_wp2_with fail
   go_ret
   exact ⟨rfl,by repeat (first|(with_reducible first|exact Below.refl _ _|apply ba|apply bb|apply bc)|exact Below.refl _ _)⟩
 rw [if_neg ha] at h
 have d0 : decide (a2 < 0) = false:=decide_eq_false (by omega)
 have d1 : decide (32 < a2) = false:=decide_eq_false (by omega)
 clear ha
 obtain ⟨b0,hb0,H1⟩:=Option.bind_eq_some_iff.mp h
 obtain ⟨b1,hb1,H2⟩:=Option.bind_eq_some_iff.mp H1
 clear h H1
 have HN0:=A_ (fun (W : World) (hW : Below w.heap.size w W)=>channels_count.calls A0 c0 l0 b0 W (cl HR0.out hW) HC0.out hb0)
 have HN1:=A_ (fun (W : World) (hW : Below w.heap.size w W)=>channels_count.calls A1 c1 l1 b1 W (cl HR1.out hW) HC1.out hb1)
 by_cases hbb : b0 = true∧b1 = true
 case neg =>
  rw [if_neg hbb] at H2
  cases H2
  go_enter Try.func32,Try.ntmps32
  cases b0 with
  | false =>
   clear hb0 hb1 hbb
   go_wp2_with (first|(go_at_call 54;with_reducible refine (HN0.out _ (by repeat (first|(with_reducible first|exact Below.refl _ _|apply ba|apply bb|apply bc)|exact Below.refl _ _))).mono ?_;rintro e w1 ⟨rfl,nd,rfl⟩))
   go_ret
   exact ⟨rfl,by repeat (first|(with_reducible first|exact Below.refl _ _|apply ba|apply bb|apply bc)|exact Below.refl _ _)⟩
  | true =>
   have e1 : b1 = false:=by cases b1 <;> simp_all
   subst e1
   clear hb0 hb1 hbb
   go_wp2_with (first|(go_at_call 54;with_reducible refine (HN0.out _ (by repeat (first|(with_reducible first|exact Below.refl _ _|apply ba|apply bb|apply bc)|exact Below.refl _ _))).mono ?_;rintro e w1 ⟨rfl,nd,rfl⟩)|(go_at_call 54;with_reducible refine (HN1.out _ (by repeat (first|(with_reducible first|exact Below.refl _ _|apply ba|apply bb|apply bc)|exact Below.refl _ _))).mono ?_;rintro e w1 ⟨rfl,nd2,rfl⟩))
   go_ret
   exact ⟨rfl,by repeat (first|(with_reducible first|exact Below.refl _ _|apply ba|apply bb|apply bc)|exact Below.refl _ _)⟩
 rw [if_pos hbb] at H2
 obtain ⟨rfl,rfl⟩:=hbb
 obtain ⟨e0,he0,H3⟩:=Option.bind_eq_some_iff.mp H2
 clear H2
 have HP:=A_ (fun (W : World) (hW : Below w.heap.size w W)=>channels_proper.calls k A0 c0 l0 A1 c1 l1 e0 W (cl HR0.out hW) HC0.out (cl HR1.out hW) HC1.out he0)
 have hl0 : 1 ≤ l0.length:=by
  unfold channels_count.f at hb0
  by_cases hg : (l0.length : Int) ≥ 1
  ·
   omega
  ·
   rw [if_neg hg] at hb0;cases hb0
 have hl1 : 1 ≤ l1.length:=by
  unfold channels_count.f at hb1
  by_cases hg : (l1.length : Int) ≥ 1
  ·
   omega
  ·
   rw [if_neg hg] at hb1;cases hb1
 clear hb0 hb1 he0
 go_enter Try.func32,Try.ntmps32
 by_cases h0 : e0 = 0
 case neg =>
  rw [if_neg h0] at H3
  have hn : (e0 != 0) = true:=bne_iff_ne.mpr h0
  clear h0
  cases H3
  go_wp2_with (first|(go_at_call 54;with_reducible refine (HN0.out _ (by repeat (first|(with_reducible first|exact Below.refl _ _|apply ba|apply bb|apply bc)|exact Below.refl _ _))).mono ?_;rintro e w1 ⟨rfl,nd,rfl⟩)|(go_at_call 54;with_reducible refine (HN1.out _ (by repeat (first|(with_reducible first|exact Below.refl _ _|apply ba|apply bb|apply bc)|exact Below.refl _ _))).mono ?_;rintro e w1 ⟨rfl,nd2,rfl⟩)|(go_at_call 55;refine (HP.out _ (by repeat (first|(with_reducible first|exact Below.refl _ _|apply ba|apply bb|apply bc)|exact Below.refl _ _))).mono ?_;rintro e w2 ⟨rfl,hb2⟩;have HB2:=A_ (show Below w.heap.size w w2 from below_step (by repeat (first|(with_reducible first|exact Below.refl _ _|apply ba|apply bb|apply bc)|exact Below.refl _ _)) hb2);clear hb2))
  go_ret
  exact ⟨rfl,HB2.out⟩
 rw [if_pos h0] at H3
 subst h0
 obtain ⟨v0,hv0,H4⟩:=Option.bind_eq_some_iff.mp H3
 obtain ⟨v1,hv1,H5⟩:=Option.bind_eq_some_iff.mp H4
 clear H3 H4
 have HE0:=A_ (fun (W : World) (hW : Below w.heap.size w W)=>channels_even.calls k A0 c0 l0 v0 W (cl HR0.out hW) HC0.out hv0)
 have HE1:=A_ (fun (W : World) (hW : Below w.heap.size w W)=>channels_even.calls k A1 c1 l1 v1 W (cl HR1.out hW) HC1.out hv1)
 clear hv0 hv1
 go_upto_region 8 with (first|(go_at_call 54;with_reducible refine (HN0.out _ (by repeat (first|(with_reducible first|exact Below.refl _ _|apply ba|apply bb|apply bc)|exact Below.refl _ _))).mono ?_;rintro e w1 ⟨rfl,nd,rfl⟩)|(go_at_call 54;with_reducible refine (HN1.out _ (by repeat (first|(with_reducible first|exact Below.refl _ _|apply ba|apply bb|apply bc)|exact Below.refl _ _))).mono ?_;rintro e w1 ⟨rfl,nd2,rfl⟩)|(go_at_call 55;refine (HP.out _ (by repeat (first|(with_reducible first|exact Below.refl _ _|apply ba|apply bb|apply bc)|exact Below.refl _ _))).mono ?_;rintro e w2 ⟨rfl,hb2⟩;have HB2:=A_ (show Below w.heap.size w w2 from below_step (by repeat (first|(with_reducible first|exact Below.refl _ _|apply ba|apply bb|apply bc)|exact Below.refl _ _)) hb2);clear hb2))
 have HQ0:=A_ (fun n_ : Nat=>Calls.quiet_of (n:=n_) (v:=.bool v0) ((HE0.out (w2.drewN n_) (pw_below_drewN HB2.out n_)).mono fun e w' ⟨h1,m,hm⟩=>⟨h1,m,hm⟩))
 have HQ1:=A_ (fun n_ : Nat=>Calls.quiet_of (n:=n_) (v:=.bool v1) ((HE1.out (w2.drewN n_) (pw_below_drewN HB2.out n_)).mono fun e w' ⟨h1,m,hm⟩=>⟨h1,m,hm⟩))
 obtain ⟨ad0,B0,d0_,e_0,hx0,hy0,hz0⟩:=at_L1 (cl HR0.out HB2.out) 0 (Int.le_refl _) (by omega)
 obtain ⟨ad1,B1,d1_,e_1,hx1,hy1,hz1⟩:=at_L1 (cl HR1.out HB2.out) 0 (Int.le_refl _) (by omega)
 subst e_0
 subst e_1
 have hm0:=Kd.C_max hz0
 have hm1:=Kd.C_max hz1
 obtain ⟨m0,hn0⟩ : ∃ m0 : Nat,m0 = (rd_L1 l0 0).length:=⟨_,rfl⟩
 obtain ⟨m1,hn1⟩ : ∃ m1 : Nat,m1 = (rd_L1 l1 0).length:=⟨_,rfl⟩
 rw [← hn0] at hx0 hm0
 rw [← hn1] at hx1 hm1
 have e0 : ad0.add (Int.toNat 0) = ad0:=by cases ad0;rfl
 have e1 : ad1.add (Int.toNat 0) = ad1:=by cases ad1;rfl
 rw [e0] at hx0
 rw [e1] at hx1
 have hs0 : IntKind.i64.wrap ((m0 : Int) - (m1 : Int)) = (m0 : Int) - (m1 : Int):=IntWalk.i64_in _ (by omega)
 have hs1 : IntKind.i64.wrap ((m1 : Int) - (m0 : Int)) = (m1 : Int) - (m0 : Int):=IntWalk.i64_in _ (by omega)
 have hf : channels_check.fit l0 l1 a2 ↔ (l0.length = l1.length∧(m0 : Int) - (m1 : Int) ≤ a2∧(m1 : Int) - (m0 : Int) ≤ a2):=by unfold channels_check.fit;rw [hn0,hn1]
 simp only [hf] at H5
 have HH:=A_ H5
 clear H5 hf hn0 hn1 hz0 hz1 hy0 hy1 e0 e1 hm0 hm1
 have hp0 : (0 : Int) < (l0.length : Int):=by omega
 have hp1 : (0 : Int) < (l1.length : Int):=by omega
 clear hl0 hl1
 have ev : r = if v0 = true∧v1 = true∧l0.length = l1.length∧(m0 : Int) - (m1 : Int) ≤ a2∧(m1 : Int) - (m0 : Int) ≤ a2 then 0 else 8:=by
  have:=HH.out
  split at this <;> rename_i g <;> cases this
  ·
   rw [if_pos g]
  ·
   rw [if_neg g]
 clear HH
 cases v0 with
 | false =>
  rw [if_neg (by simp)] at ev
  subst ev
  go_quiet (first|(go_at_call 56;with_reducible exact HQ0.out _)|(go_at_call 56;with_reducible exact HQ1.out _))
  go_wp2_with fail
  go_ret
  exact ⟨rfl,pw_below_drewN HB2.out _⟩
 | true =>
 cases v1 with
 | false =>
  rw [if_neg (by simp)] at ev
  subst ev
  go_quiet (first|(go_at_call 56;with_reducible exact HQ0.out _)|(go_at_call 56;with_reducible exact HQ1.out _))
  go_wp2_with fail
  go_ret
  exact ⟨rfl,pw_below_drewN HB2.out _⟩
 | true =>
 by_cases hL : l0.length = l1.length
 case neg =>
  have hLi : ((l0.length : Int) != (l1.length : Int)) = true:=bne_iff_ne.mpr (by omega)
  rw [if_neg (fun g=>hL g.2.2.1)] at ev
  subst ev
  clear hL
  go_quiet (first|(go_at_call 56;with_reducible exact HQ0.out _)|(go_at_call 56;with_reducible exact HQ1.out _))
  go_wp2_with fail
  go_ret
  exact ⟨rfl,pw_below_drewN HB2.out _⟩
 have hLi : ((l0.length : Int) != (l1.length : Int)) = false:=bne_eq_false_iff_eq.mpr (by omega)
 by_cases hD : (m0 : Int) - (m1 : Int) ≤ a2
 case neg =>
  have hDi : decide (a2 < (m0 : Int) - (m1 : Int)) = true:=decide_eq_true (by omega)
  rw [if_neg (fun g=>hD g.2.2.2.1)] at ev
  subst ev
  clear hL hD
  go_quiet (first|(go_at_call 56;with_reducible exact HQ0.out _)|(go_at_call 56;with_reducible exact HQ1.out _))
  go_wp2_with fail
  go_ret
  exact ⟨rfl,pw_below_drewN HB2.out _⟩
 have hDi : decide (a2 < (m0 : Int) - (m1 : Int)) = false:=decide_eq_false (by omega)
 by_cases hE : (m1 : Int) - (m0 : Int) ≤ a2
 case neg =>
  have hEi : decide (a2 < (m1 : Int) - (m0 : Int)) = true:=decide_eq_true (by omega)
  rw [if_neg (fun g=>hE g.2.2.2.2)] at ev
  subst ev
  clear hL hD hE
  go_quiet (first|(go_at_call 56;with_reducible exact HQ0.out _)|(go_at_call 56;with_reducible exact HQ1.out _))
  go_wp2_with fail
  go_ret
  exact ⟨rfl,pw_below_drewN HB2.out _⟩
 have hEi : decide (a2 < (m1 : Int) - (m0 : Int)) = false:=decide_eq_false (by omega)
 rw [if_pos ⟨rfl,rfl,hL,hD,hE⟩] at ev
 subst ev
 clear hL hD hE
 go_quiet (first|(go_at_call 56;with_reducible exact HQ0.out _)|(go_at_call 56;with_reducible exact HQ1.out _))
 go_wp2_with fail
 go_ret
 exact ⟨rfl,pw_below_drewN HB2.out _⟩

-- NOT PRINTED: function 35 (channels_search_least)

/-! ### channels_Apart: function 11 -/
def channels_Apart.f (k : Nat) (l0 : List (List Int)) (l1 : List (List Int)) (a2 : Int) : Option (Int × Int):=(channels_check.f k l0 l1 a2).bind fun e=>if e = 0 then (if X.OkC l0 l1 a2 then some (X.apart l0 l1 a2,0) else none) else some (0,e)
theorem channels_Apart.mono : ∀ a0 a1 a2 k,LeO (channels_Apart.f k a0 a1 a2) (channels_Apart.f (k + 1) a0 a1 a2):=by
 intro a0 a1 a2 k
 unfold channels_Apart.f
 exact LeO.bind (channels_check.mono _ _ _ _) (fun _=>LeO.refl _)
theorem channels_Apart.calls (k : Nat) (A0 : Option Addr) (c0 : Nat) (l0 : List (List Int)) (A1 : Option Addr) (c1 : Nat) (l1 : List (List Int)) (a2 : Int) (r1 : Int) (r2 : Int) (w : World) (hr0 : Kd.C (Kd.slice 3 (Kd.int .i64)) w A0 l0.length l0) (hc0 : l0.length ≤ c0) (hr1 : Kd.C (Kd.slice 3 (Kd.int .i64)) w A1 l1.length l1) (hc1 : l1.length ≤ c1) (h : channels_Apart.f k l0 l1 a2 = some (r1,r2)) :
  Calls Try.prog 11 #[.slice A0 l0.length c0,.slice A1 l1.length c1,.int .i64 a2] w fun e w'=>e = .returned (.tuple #[.int .i64 r1,.int .i64 r2])∧Below w.heap.size w w':=by
 unfold channels_Apart.f at h
 obtain ⟨e,he,h⟩:=Option.bind_eq_some_iff.mp h
 have hc:=A_ (fun (W : World) (hW : Below w.heap.size w W)=>channels_check.calls k A0 c0 l0 A1 c1 l1 a2 e W (cl hr0 hW) hc0 (cl hr1 hW) hc1 he)
 by_cases h0 : e = 0
 ·
  subst h0
  rw [if_pos rfl] at h
  by_cases ho : X.OkC l0 l1 a2
  ·
   rw [if_pos ho] at h
   cases h
   exact X.apart_yes A0 c0 l0 A1 c1 l1 a2 w hr0 hr1 ho hc
  ·
   rw [if_neg ho] at h
   cases h
 ·
  rw [if_neg h0] at h
  cases h
  exact X.apart_no A0 c0 l0 A1 c1 l1 a2 _ w h0 hc

/-! ### channels_Together: function 12 -/
def channels_Together.f (k : Nat) (l0 : List (List Int)) (l1 : List (List Int)) (a2 : Int) : Option (Int × Int):=(channels_check.f k l0 l1 a2).bind fun e=>if e = 0 then (if X.OkC l0 l1 a2 then some (X.together l0 l1 a2,0) else none) else some (0,e)
theorem channels_Together.mono : ∀ a0 a1 a2 k,LeO (channels_Together.f k a0 a1 a2) (channels_Together.f (k + 1) a0 a1 a2):=by
 intro a0 a1 a2 k
 unfold channels_Together.f
 exact LeO.bind (channels_check.mono _ _ _ _) (fun _=>LeO.refl _)
theorem channels_Together.calls (k : Nat) (A0 : Option Addr) (c0 : Nat) (l0 : List (List Int)) (A1 : Option Addr) (c1 : Nat) (l1 : List (List Int)) (a2 : Int) (r1 : Int) (r2 : Int) (w : World) (hr0 : Kd.C (Kd.slice 3 (Kd.int .i64)) w A0 l0.length l0) (hc0 : l0.length ≤ c0) (hr1 : Kd.C (Kd.slice 3 (Kd.int .i64)) w A1 l1.length l1) (hc1 : l1.length ≤ c1) (h : channels_Together.f k l0 l1 a2 = some (r1,r2)) :
  Calls Try.prog 12 #[.slice A0 l0.length c0,.slice A1 l1.length c1,.int .i64 a2] w fun e w'=>e = .returned (.tuple #[.int .i64 r1,.int .i64 r2])∧Below w.heap.size w w':=by
 unfold channels_Together.f at h
 obtain ⟨e,he,h⟩:=Option.bind_eq_some_iff.mp h
 have hc:=A_ (fun (W : World) (hW : Below w.heap.size w W)=>channels_check.calls k A0 c0 l0 A1 c1 l1 a2 e W (cl hr0 hW) hc0 (cl hr1 hW) hc1 he)
 by_cases h0 : e = 0
 ·
  subst h0
  rw [if_pos rfl] at h
  by_cases ho : X.OkC l0 l1 a2
  ·
   rw [if_pos ho] at h
   cases h
   exact X.together_yes A0 c0 l0 A1 c1 l1 a2 w hr0 hr1 ho hc
  ·
   rw [if_neg ho] at h
   cases h
 ·
  rw [if_neg h0] at h
  cases h
  exact X.together_no A0 c0 l0 A1 c1 l1 a2 _ w h0 hc

/-! ### shapesearchlaw16_awake: function 15 -/
def shapesearchlaw16_awake.f (k : Nat)  : Option (Bool):=(some (([(([0,0,5] : List Int)),(([0,5,5] : List Int))] : List (List Int)) : List (List Int))).bind fun y129=>((some (([(([0,5,5] : List Int)),(([0,0,5] : List Int))] : List (List Int)) : List (List Int))).bind fun y138=>((channels_Apart.f k y129 y138 1).bind fun bt141=>((channels_Together.f k y129 y138 1).bind fun bt143=>(if bt141.2 = 0 then (if bt141.1 = 0 then (if bt143.2 = 0 then (some (bt143.1 == 50)) else (some false)) else (some false)) else (some false)))))
theorem shapesearchlaw16_awake.mono : ∀ k,LeO (shapesearchlaw16_awake.f k ) (shapesearchlaw16_awake.f (k + 1) ):=by
 intro  k
 unfold shapesearchlaw16_awake.f
 repeat' first
   | (with_reducible exact channels_Apart.mono _ _ _ _)
   | (with_reducible exact channels_Together.mono _ _ _ _)
   | (with_reducible exact LeO.refl _)
   | (with_reducible exact LeO.none _)
   | (with_reducible refine LeO.ite ?_ ?_)
   | (with_reducible refine LeO.bind ?_ (fun _=>?_))
   | exact channels_Apart.mono _ _ _ _
   | exact channels_Together.mono _ _ _ _
   | exact LeO.none _
   | refine LeO.ite ?_ ?_
   | refine LeO.bind ?_ (fun _=>?_)
set_option maxHeartbeats 8000000 in
set_option maxRecDepth 100000 in
theorem shapesearchlaw16_awake.calls (k : Nat)  (r : Bool) (w : World) (h : shapesearchlaw16_awake.f k  = some r) :
  Calls Try.prog 15 #[] w fun e w'=>e = .returned (.bool r)∧Below w.heap.size w w':=by
 have HB:=A_ (Below.refl w.heap.size w)
 have H : ((some (([(([0,0,5] : List Int)),(([0,5,5] : List Int))] : List (List Int)) : List (List Int))).bind fun y129=>((some (([(([0,5,5] : List Int)),(([0,0,5] : List Int))] : List (List Int)) : List (List Int))).bind fun y138=>((channels_Apart.f k y129 y138 1).bind fun bt141=>((channels_Together.f k y129 y138 1).bind fun bt143=>(if bt141.2 = 0 then (if bt141.1 = 0 then (if bt143.2 = 0 then (some (bt143.1 == 50)) else (some false)) else (some false)) else (some false)))))) = some r:=h
 clear h
 obtain ⟨y123,hy123⟩ : ∃ y_ : List Int,y_ = (([0,0,5] : List Int)):=⟨_,rfl⟩
 replace H : ((some (([y123,(([0,5,5] : List Int))] : List (List Int)) : List (List Int))).bind fun y129=>((some (([(([0,5,5] : List Int)),(([0,0,5] : List Int))] : List (List Int)) : List (List Int))).bind fun y138=>((channels_Apart.f k y129 y138 1).bind fun bt141=>((channels_Together.f k y129 y138 1).bind fun bt143=>(if bt141.2 = 0 then (if bt141.1 = 0 then (if bt143.2 = 0 then (some (bt143.1 == 50)) else (some false)) else (some false)) else (some false)))))) = some r:=by first|(rw [hy123];with_reducible exact H)|(have H2_:=(Option.bind_some _ _).symm.trans H;rw [hy123];with_reducible exact H2_)|(have H2_:=(Option.bind_some _ _).symm.trans H;with_reducible exact H2_)|with_reducible exact H|(rw [hy123];exact H)|exact H
 have Ny123:=A_ hy123
 clear hy123
 obtain ⟨y126,hy126⟩ : ∃ y_ : List Int,y_ = (([0,5,5] : List Int)):=⟨_,rfl⟩
 replace H : ((some (([y123,y126] : List (List Int)) : List (List Int))).bind fun y129=>((some (([(([0,5,5] : List Int)),(([0,0,5] : List Int))] : List (List Int)) : List (List Int))).bind fun y138=>((channels_Apart.f k y129 y138 1).bind fun bt141=>((channels_Together.f k y129 y138 1).bind fun bt143=>(if bt141.2 = 0 then (if bt141.1 = 0 then (if bt143.2 = 0 then (some (bt143.1 == 50)) else (some false)) else (some false)) else (some false)))))) = some r:=by first|(rw [hy126];with_reducible exact H)|(have H2_:=(Option.bind_some _ _).symm.trans H;rw [hy126];with_reducible exact H2_)|(have H2_:=(Option.bind_some _ _).symm.trans H;with_reducible exact H2_)|with_reducible exact H|(rw [hy126];exact H)|exact H
 have Ny126:=A_ hy126
 clear hy126
 obtain ⟨y129,hy129⟩ : ∃ y_ : List (List Int),y_ = (([y123,y126] : List (List Int))):=⟨_,rfl⟩
 replace H : ((some (([(([0,5,5] : List Int)),(([0,0,5] : List Int))] : List (List Int)) : List (List Int))).bind fun y138=>((channels_Apart.f k y129 y138 1).bind fun bt141=>((channels_Together.f k y129 y138 1).bind fun bt143=>(if bt141.2 = 0 then (if bt141.1 = 0 then (if bt143.2 = 0 then (some (bt143.1 == 50)) else (some false)) else (some false)) else (some false))))) = some r:=by first|(rw [hy129];with_reducible exact H)|(have H2_:=(Option.bind_some _ _).symm.trans H;rw [hy129];with_reducible exact H2_)|(have H2_:=(Option.bind_some _ _).symm.trans H;with_reducible exact H2_)|with_reducible exact H|(rw [hy129];exact H)|exact H
 have Ny129:=A_ hy129
 clear hy129
 obtain ⟨y132,hy132⟩ : ∃ y_ : List Int,y_ = (([0,5,5] : List Int)):=⟨_,rfl⟩
 replace H : ((some (([y132,(([0,0,5] : List Int))] : List (List Int)) : List (List Int))).bind fun y138=>((channels_Apart.f k y129 y138 1).bind fun bt141=>((channels_Together.f k y129 y138 1).bind fun bt143=>(if bt141.2 = 0 then (if bt141.1 = 0 then (if bt143.2 = 0 then (some (bt143.1 == 50)) else (some false)) else (some false)) else (some false))))) = some r:=by first|(rw [hy132];with_reducible exact H)|(have H2_:=(Option.bind_some _ _).symm.trans H;rw [hy132];with_reducible exact H2_)|(have H2_:=(Option.bind_some _ _).symm.trans H;with_reducible exact H2_)|with_reducible exact H|(rw [hy132];exact H)|exact H
 have Ny132:=A_ hy132
 clear hy132
 obtain ⟨y135,hy135⟩ : ∃ y_ : List Int,y_ = (([0,0,5] : List Int)):=⟨_,rfl⟩
 replace H : ((some (([y132,y135] : List (List Int)) : List (List Int))).bind fun y138=>((channels_Apart.f k y129 y138 1).bind fun bt141=>((channels_Together.f k y129 y138 1).bind fun bt143=>(if bt141.2 = 0 then (if bt141.1 = 0 then (if bt143.2 = 0 then (some (bt143.1 == 50)) else (some false)) else (some false)) else (some false))))) = some r:=by first|(rw [hy135];with_reducible exact H)|(have H2_:=(Option.bind_some _ _).symm.trans H;rw [hy135];with_reducible exact H2_)|(have H2_:=(Option.bind_some _ _).symm.trans H;with_reducible exact H2_)|with_reducible exact H|(rw [hy135];exact H)|exact H
 have Ny135:=A_ hy135
 clear hy135
 obtain ⟨y138,hy138⟩ : ∃ y_ : List (List Int),y_ = (([y132,y135] : List (List Int))):=⟨_,rfl⟩
 replace H : ((channels_Apart.f k y129 y138 1).bind fun bt141=>((channels_Together.f k y129 y138 1).bind fun bt143=>(if bt141.2 = 0 then (if bt141.1 = 0 then (if bt143.2 = 0 then (some (bt143.1 == 50)) else (some false)) else (some false)) else (some false)))) = some r:=by first|(rw [hy138];with_reducible exact H)|(have H2_:=(Option.bind_some _ _).symm.trans H;rw [hy138];with_reducible exact H2_)|(have H2_:=(Option.bind_some _ _).symm.trans H;with_reducible exact H2_)|with_reducible exact H|(rw [hy138];exact H)|exact H
 have Ny138:=A_ hy138
 clear hy138
 replace H:=Option.bind_eq_some_iff.mp H
 obtain ⟨⟨t141,t142⟩,A10,H⟩:=H
 replace H : ((channels_Together.f k y129 y138 1).bind fun bt143=>(if t142 = 0 then (if t141 = 0 then (if bt143.2 = 0 then (some (bt143.1 == 50)) else (some false)) else (some false)) else (some false))) = some r:=H
 have A1:=A_ A10
 clear A10
 replace H:=Option.bind_eq_some_iff.mp H
 obtain ⟨⟨t143,t144⟩,A20,H⟩:=H
 replace H : (if t142 = 0 then (if t141 = 0 then (if t144 = 0 then (some (t143 == 50)) else (some false)) else (some false)) else (some false)) = some r:=H
 have A2:=A_ A20
 clear A20
 by_cases c3 : t142 = 0
 ·
  rw [if_pos c3] at H
  have c3b0 : (t142 == 0) = true:=beq_iff_eq.mpr c3
  have c3b1 : (t142 != 0) = false:=bne_eq_false_iff_eq.mpr c3
  clear c3
  by_cases c4 : t141 = 0
  ·
   rw [if_pos c4] at H
   have c4b0 : (t141 == 0) = true:=beq_iff_eq.mpr c4
   have c4b1 : (t141 != 0) = false:=bne_eq_false_iff_eq.mpr c4
   clear c4
   by_cases c5 : t144 = 0
   ·
    rw [if_pos c5] at H
    have c5b0 : (t144 == 0) = true:=beq_iff_eq.mpr c5
    have c5b1 : (t144 != 0) = false:=bne_eq_false_iff_eq.mpr c5
    clear c5
    obtain rfl:=Option.some.inj H
    go_enter Try.func15,Try.ntmps15
    go_wp2_with (first|((with_reducible refine gate_dst (N:=7) rfl ?_);refine Kd.R_lit (Kd.int .i64) _ 3 ?hg (N:=7) ?hd (xs:=([0,0,5] : List Int)) (inner:=[.int .i64 0,.int .i64 0,.int .i64 5]) (ok:=fun _=>True) (okp:=fun _=>True) ?hr ?hp (fun _ hk=>hk) trivial (Below.refl _ _) (Nat.le_refl _) (by simp) ?_;(case hd=>rfl);(case hg=>rfl);(case hr=>first|(go_simp;done)|(go_simp;rfl));(case hp=>exact (Reps.one (show Kd.M (Kd.int .i64) _ _ _ 0 [.int .i64 0] from rfl) (Reps.one (show Kd.M (Kd.int .i64) _ _ _ 0 [.int .i64 0] from rfl) (Reps.one (show Kd.M (Kd.int .i64) _ _ _ 5 [.int .i64 5] from rfl) (Reps.none _ _)))));intro v124 w6 ho7 hb hg_ hnew_;clear hg_ hnew_;(first|rw [← Ny123.out] at ho7|(simp only [Int.reduceToNat] at ho7;rw [← Ny123.out] at ho7));have n0_:=A_ (Kd.R_lower ho7 (below_size (by repeat (first|(with_reducible first|exact HB.out|apply ba|apply bb|apply bc)|exact HB.out))));have n1_:=A_ (below_step (by repeat (first|(with_reducible first|exact HB.out|apply ba|apply bb|apply bc)|exact HB.out)) hb);clear HB;have HO125:=n0_;have HB:=n1_;clear n0_ n1_;clear hb ho7)|((with_reducible refine gate_dst (N:=8) rfl ?_);refine Kd.R_lit (Kd.int .i64) _ 3 ?hg (N:=8) ?hd (xs:=([0,5,5] : List Int)) (inner:=[.int .i64 0,.int .i64 5,.int .i64 5]) (ok:=fun _=>True) (okp:=fun _=>True) ?hr ?hp (fun _ hk=>hk) trivial (Below.refl _ _) (Nat.le_refl _) (by simp) ?_;(case hd=>rfl);(case hg=>rfl);(case hr=>first|(go_simp;done)|(go_simp;rfl));(case hp=>exact (Reps.one (show Kd.M (Kd.int .i64) _ _ _ 0 [.int .i64 0] from rfl) (Reps.one (show Kd.M (Kd.int .i64) _ _ _ 5 [.int .i64 5] from rfl) (Reps.one (show Kd.M (Kd.int .i64) _ _ _ 5 [.int .i64 5] from rfl) (Reps.none _ _)))));intro v127 w8 ho9 hb hg_ hnew_;clear hg_ hnew_;(first|rw [← Ny126.out] at ho9|(simp only [Int.reduceToNat] at ho9;rw [← Ny126.out] at ho9));have n0_:=A_ (re (by (with_reducible repeat (first|apply ra|apply rb|apply rc));exact HO125.out) (rs ho9) hb);have n1_:=A_ (Kd.R_lower (rn ho9 (rl (by (with_reducible repeat (first|apply ra|apply rb|apply rc));exact HO125.out))) (below_size (by repeat (first|(with_reducible first|exact HB.out|apply ba|apply bb|apply bc)|exact HB.out))));have n2_:=A_ (below_step (by repeat (first|(with_reducible first|exact HB.out|apply ba|apply bb|apply bc)|exact HB.out)) hb);clear HO125;clear HB;have HO125:=n0_;have HO128:=n1_;have HB:=n2_;clear n0_ n1_ n2_;clear hb ho9;obtain ⟨Ao10,co10,eo10⟩:=Kd.R_slice HO125.out;subst eo10;obtain ⟨Ao11,co11,eo11⟩:=Kd.R_slice HO128.out;subst eo11)|((with_reducible refine gate_dst (N:=9) rfl ?_);refine Kd.N_lit (Kd.slice 3 (Kd.int .i64)) _ 22 ?hg (N':=9) ?hd (xs:=([y123,y126] : List (List Int))) (inner:=[.slice Ao10 y123.length co10,.slice Ao11 y126.length co11]) (ok:=(fun _=>True)) (okp:=(fun _=>True)) ?hr ?hp (fun _ hk=>hk) ((show ∀ k_,w8.heap.size ≤ k_ → (fun _=>True) k_ from fun k_ hk=>trivial) _ (Nat.le_refl _)) (Below.refl _ _) (Nat.le_refl _) (by simp) ?_;(case hd=>rfl);(case hg=>rfl);(case hr=>first|(go_simp;done)|(go_simp;rfl));(case hp=>exact (Reps.one (show Kd.FK (Kd.slice 3 (Kd.int .i64)) _ _ y123 [.slice Ao10 y123.length co10] from (Kd.FK_slice_mk (rd_ (rm (ok':=(fun _=>True)) (HO125.out) (fun k_ hk=>trivial))).2.1 (Kd.R_F (rm (ok':=(fun _=>True)) (HO125.out) (fun k_ hk=>trivial))))) (Reps.one (show Kd.FK (Kd.slice 3 (Kd.int .i64)) _ _ y126 [.slice Ao11 y126.length co11] from (Kd.FK_slice_mk (rd_ (rm (ok':=(fun _=>True)) (HO128.out) (fun k_ hk=>trivial))).2.1 (Kd.R_F (rm (ok':=(fun _=>True)) (HO128.out) (fun k_ hk=>trivial))))) (Reps.none _ _))));intro v130 w12 ho13 hb hg_ hnew_;clear hg_ hnew_;(first|rw [← Ny129.out] at ho13|(simp only [Int.reduceToNat] at ho13;rw [← Ny129.out] at ho13));have n0_:=A_ (Kd.N_lower ho13 (below_size (by repeat (first|(with_reducible first|exact HB.out|apply ba|apply bb|apply bc)|exact HB.out))));have n1_:=A_ (below_step (by repeat (first|(with_reducible first|exact HB.out|apply ba|apply bb|apply bc)|exact HB.out)) hb);clear HB;clear HO125;clear HO128;have HO131:=n0_;have HB:=n1_;clear n0_ n1_;clear hb ho13)|((with_reducible refine gate_dst (N:=10) rfl ?_);refine Kd.R_lit (Kd.int .i64) _ 3 ?hg (N:=10) ?hd (xs:=([0,5,5] : List Int)) (inner:=[.int .i64 0,.int .i64 5,.int .i64 5]) (ok:=fun _=>True) (okp:=fun _=>True) ?hr ?hp (fun _ hk=>hk) trivial (Below.refl _ _) (Nat.le_refl _) (by simp) ?_;(case hd=>rfl);(case hg=>rfl);(case hr=>first|(go_simp;done)|(go_simp;rfl));(case hp=>exact (Reps.one (show Kd.M (Kd.int .i64) _ _ _ 0 [.int .i64 0] from rfl) (Reps.one (show Kd.M (Kd.int .i64) _ _ _ 5 [.int .i64 5] from rfl) (Reps.one (show Kd.M (Kd.int .i64) _ _ _ 5 [.int .i64 5] from rfl) (Reps.none _ _)))));intro v133 w14 ho15 hb hg_ hnew_;clear hg_ hnew_;(first|rw [← Ny132.out] at ho15|(simp only [Int.reduceToNat] at ho15;rw [← Ny132.out] at ho15));have n0_:=A_ (Kd.N_elder' (by (with_reducible repeat (first|apply na|apply nd_|apply ne_));exact HO131.out) (rs ho15) hb);have n1_:=A_ (Kd.R_lower ho15 (below_size (by repeat (first|(with_reducible first|exact HB.out|apply ba|apply bb|apply bc)|exact HB.out))));have n2_:=A_ (below_step (by repeat (first|(with_reducible first|exact HB.out|apply ba|apply bb|apply bc)|exact HB.out)) hb);clear HO131;clear HB;have HO131:=n0_;have HO134:=n1_;have HB:=n2_;clear n0_ n1_ n2_;clear hb ho15)|((with_reducible refine gate_dst (N:=11) rfl ?_);refine Kd.R_lit (Kd.int .i64) _ 3 ?hg (N:=11) ?hd (xs:=([0,0,5] : List Int)) (inner:=[.int .i64 0,.int .i64 0,.int .i64 5]) (ok:=fun _=>True) (okp:=fun _=>True) ?hr ?hp (fun _ hk=>hk) trivial (Below.refl _ _) (Nat.le_refl _) (by simp) ?_;(case hd=>rfl);(case hg=>rfl);(case hr=>first|(go_simp;done)|(go_simp;rfl));(case hp=>exact (Reps.one (show Kd.M (Kd.int .i64) _ _ _ 0 [.int .i64 0] from rfl) (Reps.one (show Kd.M (Kd.int .i64) _ _ _ 0 [.int .i64 0] from rfl) (Reps.one (show Kd.M (Kd.int .i64) _ _ _ 5 [.int .i64 5] from rfl) (Reps.none _ _)))));intro v136 w16 ho17 hb hg_ hnew_;clear hg_ hnew_;(first|rw [← Ny135.out] at ho17|(simp only [Int.reduceToNat] at ho17;rw [← Ny135.out] at ho17));have n0_:=A_ (Kd.N_elder' (by (with_reducible repeat (first|apply na|apply nd_|apply ne_));exact HO131.out) (rs ho17) hb);have n1_:=A_ (re (by (with_reducible repeat (first|apply ra|apply rb|apply rc));exact HO134.out) (rs ho17) hb);have n2_:=A_ (Kd.R_lower (rn ho17 (rl (by (with_reducible repeat (first|apply ra|apply rb|apply rc));exact HO134.out))) (below_size (by repeat (first|(with_reducible first|exact HB.out|apply ba|apply bb|apply bc)|exact HB.out))));have n3_:=A_ (below_step (by repeat (first|(with_reducible first|exact HB.out|apply ba|apply bb|apply bc)|exact HB.out)) hb);clear HO131;clear HO134;clear HB;have HO131:=n0_;have HO134:=n1_;have HO137:=n2_;have HB:=n3_;clear n0_ n1_ n2_ n3_;clear hb ho17;obtain ⟨Ao18,co18,eo18⟩:=Kd.R_slice HO134.out;subst eo18;obtain ⟨Ao19,co19,eo19⟩:=Kd.R_slice HO137.out;subst eo19)|((with_reducible refine gate_dst (N:=12) rfl ?_);refine Kd.N_lit (Kd.slice 3 (Kd.int .i64)) _ 22 ?hg (N':=12) ?hd (xs:=([y132,y135] : List (List Int))) (inner:=[.slice Ao18 y132.length co18,.slice Ao19 y135.length co19]) (ok:=(fun k_=>nb k_ v130)) (okp:=(fun k_=>nb k_ v130)) ?hr ?hp (fun _ hk=>hk) ((show ∀ k_,w16.heap.size ≤ k_ → (fun k_=>nb k_ v130) k_ from fun k_ hk=>rh (Kd.N_lt (by (with_reducible repeat (first|apply na|apply nd_|apply ne_));exact HO131.out)) k_ hk) _ (Nat.le_refl _)) (Below.refl _ _) (Nat.le_refl _) (by simp) ?_;(case hd=>rfl);(case hg=>rfl);(case hr=>first|(go_simp;done)|(go_simp;rfl));(case hp=>exact (Reps.one (show Kd.FK (Kd.slice 3 (Kd.int .i64)) _ _ y132 [.slice Ao18 y132.length co18] from (Kd.FK_slice_mk (rd_ (rm (ok':=(fun k_=>nb k_ v130)) (Kd.R_apart' (HO134.out) (Kd.N_typed HO131.out) (by decide)) (fun k_ hk=>hk.2))).2.1 (Kd.R_F (rm (ok':=(fun k_=>nb k_ v130)) (Kd.R_apart' (HO134.out) (Kd.N_typed HO131.out) (by decide)) (fun k_ hk=>hk.2))))) (Reps.one (show Kd.FK (Kd.slice 3 (Kd.int .i64)) _ _ y135 [.slice Ao19 y135.length co19] from (Kd.FK_slice_mk (rd_ (rm (ok':=(fun k_=>nb k_ v130)) (Kd.R_apart' (HO137.out) (Kd.N_typed HO131.out) (by decide)) (fun k_ hk=>hk.2))).2.1 (Kd.R_F (rm (ok':=(fun k_=>nb k_ v130)) (Kd.R_apart' (HO137.out) (Kd.N_typed HO131.out) (by decide)) (fun k_ hk=>hk.2))))) (Reps.none _ _))));intro v139 w20 ho21 hb hg_ hnew_;clear hg_ hnew_;(first|rw [← Ny138.out] at ho21|(simp only [Int.reduceToNat] at ho21;rw [← Ny138.out] at ho21));have n0_:=A_ (Kd.N_elder' (by (with_reducible repeat (first|apply na|apply nd_|apply ne_));exact HO131.out) (Kd.N_base ho21) hb);have n1_:=A_ (Kd.N_lower ho21 (below_size (by repeat (first|(with_reducible first|exact HB.out|apply ba|apply bb|apply bc)|exact HB.out))));have n2_:=A_ (below_step (by repeat (first|(with_reducible first|exact HB.out|apply ba|apply bb|apply bc)|exact HB.out)) hb);clear HO131;clear HB;clear HO134;clear HO137;have HO131:=n0_;have HO140:=n1_;have HB:=n2_;clear n0_ n1_ n2_;clear hb ho21;obtain ⟨Ao22,co22,eo22⟩:=Kd.N_slice HO131.out;subst eo22;obtain ⟨Ao23,co23,eo23⟩:=Kd.N_slice HO140.out;subst eo23)|((with_reducible refine gate_callee (f:=11) rfl ?_);refine goesL_ (some 16) rfl rfl Try.func11 (by kernel_rfl) rfl #[.slice Ao22 y129.length co22,.slice Ao23 y138.length co23,.int .i64 1] rfl (by (try simp only [List.map_toArray,List.map_cons,List.map_nil]);first|done|rfl|(simp only [List.length_drop,List.length_take];rfl)) ?_;(with_reducible refine (channels_Apart.calls k _ _ y129 _ _ y138 1 t141 t142 _ ?side1 ?side2 ?side3 ?side4 A1.out).mono ?_);(case side1=>repeat (first|exact (Kd.N_reads' HO131.out).2.2|(with_reducible refine ca ?_ _)|(with_reducible refine cb ?_ _)|(with_reducible refine cc ?_)));(case side2=>exact (Kd.N_reads' HO131.out).2.1);(case side3=>repeat (first|exact (Kd.N_reads' HO140.out).2.2|(with_reducible refine ca ?_ _)|(with_reducible refine cb ?_ _)|(with_reducible refine cc ?_)));(case side4=>exact (Kd.N_reads' HO140.out).2.1);rintro e w24 ⟨rfl,hb⟩;refine ⟨_,rfl,?_⟩;have n0_:=A_ (Kd.N_below (by (with_reducible repeat (first|apply na|apply nd_|apply ne_));exact HO131.out) hb);have n1_:=A_ (Kd.N_below (by (with_reducible repeat (first|apply na|apply nd_|apply ne_));exact HO140.out) hb);have n2_:=A_ (below_step (by repeat (first|(with_reducible first|exact HB.out|apply ba|apply bb|apply bc)|exact HB.out)) hb);clear HO131;clear HO140;clear HB;have HO131:=n0_;have HO140:=n1_;have HB:=n2_;clear n0_ n1_ n2_;(try clear hb);(try clear hb2);(try clear hk);(try clear hi))|((with_reducible refine gate_callee (f:=12) rfl ?_);refine goesL_ (some 22) rfl rfl Try.func12 (by kernel_rfl) rfl #[.slice Ao22 y129.length co22,.slice Ao23 y138.length co23,.int .i64 1] rfl (by (try simp only [List.map_toArray,List.map_cons,List.map_nil]);first|done|rfl|(simp only [List.length_drop,List.length_take];rfl)) ?_;(with_reducible refine (channels_Together.calls k _ _ y129 _ _ y138 1 t143 t144 _ ?side1 ?side2 ?side3 ?side4 A2.out).mono ?_);(case side1=>repeat (first|exact (Kd.N_reads' HO131.out).2.2|(with_reducible refine ca ?_ _)|(with_reducible refine cb ?_ _)|(with_reducible refine cc ?_)));(case side2=>exact (Kd.N_reads' HO131.out).2.1);(case side3=>repeat (first|exact (Kd.N_reads' HO140.out).2.2|(with_reducible refine ca ?_ _)|(with_reducible refine cb ?_ _)|(with_reducible refine cc ?_)));(case side4=>exact (Kd.N_reads' HO140.out).2.1);rintro e w25 ⟨rfl,hb⟩;refine ⟨_,rfl,?_⟩;have n0_:=A_ (Kd.N_below (by (with_reducible repeat (first|apply na|apply nd_|apply ne_));exact HO131.out) hb);have n1_:=A_ (Kd.N_below (by (with_reducible repeat (first|apply na|apply nd_|apply ne_));exact HO140.out) hb);have n2_:=A_ (below_step (by repeat (first|(with_reducible first|exact HB.out|apply ba|apply bb|apply bc)|exact HB.out)) hb);clear HO131;clear HO140;clear HB;have HO131:=n0_;have HO140:=n1_;have HB:=n2_;clear n0_ n1_ n2_;(try clear hb);(try clear hb2);(try clear hk);(try clear hi)))
    go_ret
    exact ⟨by first|rfl|(simp [errW_none,errW_some] <;> rfl)|(simp [*,errW_none,errW_some] <;> rfl),by repeat (first|(with_reducible first|exact HB.out|apply ba|apply bb|apply bc)|exact HB.out)⟩
   ·
    rw [if_neg c5] at H
    have c5b0 : (t144 == 0) = false:=beq_eq_false_iff_ne.mpr c5
    have c5b1 : (t144 != 0) = true:=bne_iff_ne.mpr c5
    obtain rfl:=Option.some.inj H
    go_enter Try.func15,Try.ntmps15
    go_wp2_with (first|((with_reducible refine gate_dst (N:=7) rfl ?_);refine Kd.R_lit (Kd.int .i64) _ 3 ?hg (N:=7) ?hd (xs:=([0,0,5] : List Int)) (inner:=[.int .i64 0,.int .i64 0,.int .i64 5]) (ok:=fun _=>True) (okp:=fun _=>True) ?hr ?hp (fun _ hk=>hk) trivial (Below.refl _ _) (Nat.le_refl _) (by simp) ?_;(case hd=>rfl);(case hg=>rfl);(case hr=>first|(go_simp;done)|(go_simp;rfl));(case hp=>exact (Reps.one (show Kd.M (Kd.int .i64) _ _ _ 0 [.int .i64 0] from rfl) (Reps.one (show Kd.M (Kd.int .i64) _ _ _ 0 [.int .i64 0] from rfl) (Reps.one (show Kd.M (Kd.int .i64) _ _ _ 5 [.int .i64 5] from rfl) (Reps.none _ _)))));intro v124 w26 ho27 hb hg_ hnew_;clear hg_ hnew_;(first|rw [← Ny123.out] at ho27|(simp only [Int.reduceToNat] at ho27;rw [← Ny123.out] at ho27));have n0_:=A_ (Kd.R_lower ho27 (below_size (by repeat (first|(with_reducible first|exact HB.out|apply ba|apply bb|apply bc)|exact HB.out))));have n1_:=A_ (below_step (by repeat (first|(with_reducible first|exact HB.out|apply ba|apply bb|apply bc)|exact HB.out)) hb);clear HB;have HO125:=n0_;have HB:=n1_;clear n0_ n1_;clear hb ho27)|((with_reducible refine gate_dst (N:=8) rfl ?_);refine Kd.R_lit (Kd.int .i64) _ 3 ?hg (N:=8) ?hd (xs:=([0,5,5] : List Int)) (inner:=[.int .i64 0,.int .i64 5,.int .i64 5]) (ok:=fun _=>True) (okp:=fun _=>True) ?hr ?hp (fun _ hk=>hk) trivial (Below.refl _ _) (Nat.le_refl _) (by simp) ?_;(case hd=>rfl);(case hg=>rfl);(case hr=>first|(go_simp;done)|(go_simp;rfl));(case hp=>exact (Reps.one (show Kd.M (Kd.int .i64) _ _ _ 0 [.int .i64 0] from rfl) (Reps.one (show Kd.M (Kd.int .i64) _ _ _ 5 [.int .i64 5] from rfl) (Reps.one (show Kd.M (Kd.int .i64) _ _ _ 5 [.int .i64 5] from rfl) (Reps.none _ _)))));intro v127 w28 ho29 hb hg_ hnew_;clear hg_ hnew_;(first|rw [← Ny126.out] at ho29|(simp only [Int.reduceToNat] at ho29;rw [← Ny126.out] at ho29));have n0_:=A_ (re (by (with_reducible repeat (first|apply ra|apply rb|apply rc));exact HO125.out) (rs ho29) hb);have n1_:=A_ (Kd.R_lower (rn ho29 (rl (by (with_reducible repeat (first|apply ra|apply rb|apply rc));exact HO125.out))) (below_size (by repeat (first|(with_reducible first|exact HB.out|apply ba|apply bb|apply bc)|exact HB.out))));have n2_:=A_ (below_step (by repeat (first|(with_reducible first|exact HB.out|apply ba|apply bb|apply bc)|exact HB.out)) hb);clear HO125;clear HB;have HO125:=n0_;have HO128:=n1_;have HB:=n2_;clear n0_ n1_ n2_;clear hb ho29;obtain ⟨Ao30,co30,eo30⟩:=Kd.R_slice HO125.out;subst eo30;obtain ⟨Ao31,co31,eo31⟩:=Kd.R_slice HO128.out;subst eo31)|((with_reducible refine gate_dst (N:=9) rfl ?_);refine Kd.N_lit (Kd.slice 3 (Kd.int .i64)) _ 22 ?hg (N':=9) ?hd (xs:=([y123,y126] : List (List Int))) (inner:=[.slice Ao30 y123.length co30,.slice Ao31 y126.length co31]) (ok:=(fun _=>True)) (okp:=(fun _=>True)) ?hr ?hp (fun _ hk=>hk) ((show ∀ k_,w28.heap.size ≤ k_ → (fun _=>True) k_ from fun k_ hk=>trivial) _ (Nat.le_refl _)) (Below.refl _ _) (Nat.le_refl _) (by simp) ?_;(case hd=>rfl);(case hg=>rfl);(case hr=>first|(go_simp;done)|(go_simp;rfl));(case hp=>exact (Reps.one (show Kd.FK (Kd.slice 3 (Kd.int .i64)) _ _ y123 [.slice Ao30 y123.length co30] from (Kd.FK_slice_mk (rd_ (rm (ok':=(fun _=>True)) (HO125.out) (fun k_ hk=>trivial))).2.1 (Kd.R_F (rm (ok':=(fun _=>True)) (HO125.out) (fun k_ hk=>trivial))))) (Reps.one (show Kd.FK (Kd.slice 3 (Kd.int .i64)) _ _ y126 [.slice Ao31 y126.length co31] from (Kd.FK_slice_mk (rd_ (rm (ok':=(fun _=>True)) (HO128.out) (fun k_ hk=>trivial))).2.1 (Kd.R_F (rm (ok':=(fun _=>True)) (HO128.out) (fun k_ hk=>trivial))))) (Reps.none _ _))));intro v130 w32 ho33 hb hg_ hnew_;clear hg_ hnew_;(first|rw [← Ny129.out] at ho33|(simp only [Int.reduceToNat] at ho33;rw [← Ny129.out] at ho33));have n0_:=A_ (Kd.N_lower ho33 (below_size (by repeat (first|(with_reducible first|exact HB.out|apply ba|apply bb|apply bc)|exact HB.out))));have n1_:=A_ (below_step (by repeat (first|(with_reducible first|exact HB.out|apply ba|apply bb|apply bc)|exact HB.out)) hb);clear HB;clear HO125;clear HO128;have HO131:=n0_;have HB:=n1_;clear n0_ n1_;clear hb ho33)|((with_reducible refine gate_dst (N:=10) rfl ?_);refine Kd.R_lit (Kd.int .i64) _ 3 ?hg (N:=10) ?hd (xs:=([0,5,5] : List Int)) (inner:=[.int .i64 0,.int .i64 5,.int .i64 5]) (ok:=fun _=>True) (okp:=fun _=>True) ?hr ?hp (fun _ hk=>hk) trivial (Below.refl _ _) (Nat.le_refl _) (by simp) ?_;(case hd=>rfl);(case hg=>rfl);(case hr=>first|(go_simp;done)|(go_simp;rfl));(case hp=>exact (Reps.one (show Kd.M (Kd.int .i64) _ _ _ 0 [.int .i64 0] from rfl) (Reps.one (show Kd.M (Kd.int .i64) _ _ _ 5 [.int .i64 5] from rfl) (Reps.one (show Kd.M (Kd.int .i64) _ _ _ 5 [.int .i64 5] from rfl) (Reps.none _ _)))));intro v133 w34 ho35 hb hg_ hnew_;clear hg_ hnew_;(first|rw [← Ny132.out] at ho35|(simp only [Int.reduceToNat] at ho35;rw [← Ny132.out] at ho35));have n0_:=A_ (Kd.N_elder' (by (with_reducible repeat (first|apply na|apply nd_|apply ne_));exact HO131.out) (rs ho35) hb);have n1_:=A_ (Kd.R_lower ho35 (below_size (by repeat (first|(with_reducible first|exact HB.out|apply ba|apply bb|apply bc)|exact HB.out))));have n2_:=A_ (below_step (by repeat (first|(with_reducible first|exact HB.out|apply ba|apply bb|apply bc)|exact HB.out)) hb);clear HO131;clear HB;have HO131:=n0_;have HO134:=n1_;have HB:=n2_;clear n0_ n1_ n2_;clear hb ho35)|((with_reducible refine gate_dst (N:=11) rfl ?_);refine Kd.R_lit (Kd.int .i64) _ 3 ?hg (N:=11) ?hd (xs:=([0,0,5] : List Int)) (inner:=[.int .i64 0,.int .i64 0,.int .i64 5]) (ok:=fun _=>True) (okp:=fun _=>True) ?hr ?hp (fun _ hk=>hk) trivial (Below.refl _ _) (Nat.le_refl _) (by simp) ?_;(case hd=>rfl);(case hg=>rfl);(case hr=>first|(go_simp;done)|(go_simp;rfl));(case hp=>exact (Reps.one (show Kd.M (Kd.int .i64) _ _ _ 0 [.int .i64 0] from rfl) (Reps.one (show Kd.M (Kd.int .i64) _ _ _ 0 [.int .i64 0] from rfl) (Reps.one (show Kd.M (Kd.int .i64) _ _ _ 5 [.int .i64 5] from rfl) (Reps.none _ _)))));intro v136 w36 ho37 hb hg_ hnew_;clear hg_ hnew_;(first|rw [← Ny135.out] at ho37|(simp only [Int.reduceToNat] at ho37;rw [← Ny135.out] at ho37));have n0_:=A_ (Kd.N_elder' (by (with_reducible repeat (first|apply na|apply nd_|apply ne_));exact HO131.out) (rs ho37) hb);have n1_:=A_ (re (by (with_reducible repeat (first|apply ra|apply rb|apply rc));exact HO134.out) (rs ho37) hb);have n2_:=A_ (Kd.R_lower (rn ho37 (rl (by (with_reducible repeat (first|apply ra|apply rb|apply rc));exact HO134.out))) (below_size (by repeat (first|(with_reducible first|exact HB.out|apply ba|apply bb|apply bc)|exact HB.out))));have n3_:=A_ (below_step (by repeat (first|(with_reducible first|exact HB.out|apply ba|apply bb|apply bc)|exact HB.out)) hb);clear HO131;clear HO134;clear HB;have HO131:=n0_;have HO134:=n1_;have HO137:=n2_;have HB:=n3_;clear n0_ n1_ n2_ n3_;clear hb ho37;obtain ⟨Ao38,co38,eo38⟩:=Kd.R_slice HO134.out;subst eo38;obtain ⟨Ao39,co39,eo39⟩:=Kd.R_slice HO137.out;subst eo39)|((with_reducible refine gate_dst (N:=12) rfl ?_);refine Kd.N_lit (Kd.slice 3 (Kd.int .i64)) _ 22 ?hg (N':=12) ?hd (xs:=([y132,y135] : List (List Int))) (inner:=[.slice Ao38 y132.length co38,.slice Ao39 y135.length co39]) (ok:=(fun k_=>nb k_ v130)) (okp:=(fun k_=>nb k_ v130)) ?hr ?hp (fun _ hk=>hk) ((show ∀ k_,w36.heap.size ≤ k_ → (fun k_=>nb k_ v130) k_ from fun k_ hk=>rh (Kd.N_lt (by (with_reducible repeat (first|apply na|apply nd_|apply ne_));exact HO131.out)) k_ hk) _ (Nat.le_refl _)) (Below.refl _ _) (Nat.le_refl _) (by simp) ?_;(case hd=>rfl);(case hg=>rfl);(case hr=>first|(go_simp;done)|(go_simp;rfl));(case hp=>exact (Reps.one (show Kd.FK (Kd.slice 3 (Kd.int .i64)) _ _ y132 [.slice Ao38 y132.length co38] from (Kd.FK_slice_mk (rd_ (rm (ok':=(fun k_=>nb k_ v130)) (Kd.R_apart' (HO134.out) (Kd.N_typed HO131.out) (by decide)) (fun k_ hk=>hk.2))).2.1 (Kd.R_F (rm (ok':=(fun k_=>nb k_ v130)) (Kd.R_apart' (HO134.out) (Kd.N_typed HO131.out) (by decide)) (fun k_ hk=>hk.2))))) (Reps.one (show Kd.FK (Kd.slice 3 (Kd.int .i64)) _ _ y135 [.slice Ao39 y135.length co39] from (Kd.FK_slice_mk (rd_ (rm (ok':=(fun k_=>nb k_ v130)) (Kd.R_apart' (HO137.out) (Kd.N_typed HO131.out) (by decide)) (fun k_ hk=>hk.2))).2.1 (Kd.R_F (rm (ok':=(fun k_=>nb k_ v130)) (Kd.R_apart' (HO137.out) (Kd.N_typed HO131.out) (by decide)) (fun k_ hk=>hk.2))))) (Reps.none _ _))));intro v139 w40 ho41 hb hg_ hnew_;clear hg_ hnew_;(first|rw [← Ny138.out] at ho41|(simp only [Int.reduceToNat] at ho41;rw [← Ny138.out] at ho41));have n0_:=A_ (Kd.N_elder' (by (with_reducible repeat (first|apply na|apply nd_|apply ne_));exact HO131.out) (Kd.N_base ho41) hb);have n1_:=A_ (Kd.N_lower ho41 (below_size (by repeat (first|(with_reducible first|exact HB.out|apply ba|apply bb|apply bc)|exact HB.out))));have n2_:=A_ (below_step (by repeat (first|(with_reducible first|exact HB.out|apply ba|apply bb|apply bc)|exact HB.out)) hb);clear HO131;clear HB;clear HO134;clear HO137;have HO131:=n0_;have HO140:=n1_;have HB:=n2_;clear n0_ n1_ n2_;clear hb ho41;obtain ⟨Ao42,co42,eo42⟩:=Kd.N_slice HO131.out;subst eo42;obtain ⟨Ao43,co43,eo43⟩:=Kd.N_slice HO140.out;subst eo43)|((with_reducible refine gate_callee (f:=11) rfl ?_);refine goesL_ (some 16) rfl rfl Try.func11 (by kernel_rfl) rfl #[.slice Ao42 y129.length co42,.slice Ao43 y138.length co43,.int .i64 1] rfl (by (try simp only [List.map_toArray,List.map_cons,List.map_nil]);first|done|rfl|(simp only [List.length_drop,List.length_take];rfl)) ?_;(with_reducible refine (channels_Apart.calls k _ _ y129 _ _ y138 1 t141 t142 _ ?side1 ?side2 ?side3 ?side4 A1.out).mono ?_);(case side1=>repeat (first|exact (Kd.N_reads' HO131.out).2.2|(with_reducible refine ca ?_ _)|(with_reducible refine cb ?_ _)|(with_reducible refine cc ?_)));(case side2=>exact (Kd.N_reads' HO131.out).2.1);(case side3=>repeat (first|exact (Kd.N_reads' HO140.out).2.2|(with_reducible refine ca ?_ _)|(with_reducible refine cb ?_ _)|(with_reducible refine cc ?_)));(case side4=>exact (Kd.N_reads' HO140.out).2.1);rintro e w44 ⟨rfl,hb⟩;refine ⟨_,rfl,?_⟩;have n0_:=A_ (Kd.N_below (by (with_reducible repeat (first|apply na|apply nd_|apply ne_));exact HO131.out) hb);have n1_:=A_ (Kd.N_below (by (with_reducible repeat (first|apply na|apply nd_|apply ne_));exact HO140.out) hb);have n2_:=A_ (below_step (by repeat (first|(with_reducible first|exact HB.out|apply ba|apply bb|apply bc)|exact HB.out)) hb);clear HO131;clear HO140;clear HB;have HO131:=n0_;have HO140:=n1_;have HB:=n2_;clear n0_ n1_ n2_;(try clear hb);(try clear hb2);(try clear hk);(try clear hi))|((with_reducible refine gate_callee (f:=12) rfl ?_);refine goesL_ (some 22) rfl rfl Try.func12 (by kernel_rfl) rfl #[.slice Ao42 y129.length co42,.slice Ao43 y138.length co43,.int .i64 1] rfl (by (try simp only [List.map_toArray,List.map_cons,List.map_nil]);first|done|rfl|(simp only [List.length_drop,List.length_take];rfl)) ?_;(with_reducible refine (channels_Together.calls k _ _ y129 _ _ y138 1 t143 t144 _ ?side1 ?side2 ?side3 ?side4 A2.out).mono ?_);(case side1=>repeat (first|exact (Kd.N_reads' HO131.out).2.2|(with_reducible refine ca ?_ _)|(with_reducible refine cb ?_ _)|(with_reducible refine cc ?_)));(case side2=>exact (Kd.N_reads' HO131.out).2.1);(case side3=>repeat (first|exact (Kd.N_reads' HO140.out).2.2|(with_reducible refine ca ?_ _)|(with_reducible refine cb ?_ _)|(with_reducible refine cc ?_)));(case side4=>exact (Kd.N_reads' HO140.out).2.1);rintro e w45 ⟨rfl,hb⟩;refine ⟨_,rfl,?_⟩;have n0_:=A_ (Kd.N_below (by (with_reducible repeat (first|apply na|apply nd_|apply ne_));exact HO131.out) hb);have n1_:=A_ (Kd.N_below (by (with_reducible repeat (first|apply na|apply nd_|apply ne_));exact HO140.out) hb);have n2_:=A_ (below_step (by repeat (first|(with_reducible first|exact HB.out|apply ba|apply bb|apply bc)|exact HB.out)) hb);clear HO131;clear HO140;clear HB;have HO131:=n0_;have HO140:=n1_;have HB:=n2_;clear n0_ n1_ n2_;(try clear hb);(try clear hb2);(try clear hk);(try clear hi)))
    go_ret
    exact ⟨by first|rfl|(simp [errW_none,errW_some] <;> rfl)|(simp [*,errW_none,errW_some] <;> rfl),by repeat (first|(with_reducible first|exact HB.out|apply ba|apply bb|apply bc)|exact HB.out)⟩
  ·
   rw [if_neg c4] at H
   have c4b0 : (t141 == 0) = false:=beq_eq_false_iff_ne.mpr c4
   have c4b1 : (t141 != 0) = true:=bne_iff_ne.mpr c4
   obtain rfl:=Option.some.inj H
   go_enter Try.func15,Try.ntmps15
   go_wp2_with (first|((with_reducible refine gate_dst (N:=7) rfl ?_);refine Kd.R_lit (Kd.int .i64) _ 3 ?hg (N:=7) ?hd (xs:=([0,0,5] : List Int)) (inner:=[.int .i64 0,.int .i64 0,.int .i64 5]) (ok:=fun _=>True) (okp:=fun _=>True) ?hr ?hp (fun _ hk=>hk) trivial (Below.refl _ _) (Nat.le_refl _) (by simp) ?_;(case hd=>rfl);(case hg=>rfl);(case hr=>first|(go_simp;done)|(go_simp;rfl));(case hp=>exact (Reps.one (show Kd.M (Kd.int .i64) _ _ _ 0 [.int .i64 0] from rfl) (Reps.one (show Kd.M (Kd.int .i64) _ _ _ 0 [.int .i64 0] from rfl) (Reps.one (show Kd.M (Kd.int .i64) _ _ _ 5 [.int .i64 5] from rfl) (Reps.none _ _)))));intro v124 w46 ho47 hb hg_ hnew_;clear hg_ hnew_;(first|rw [← Ny123.out] at ho47|(simp only [Int.reduceToNat] at ho47;rw [← Ny123.out] at ho47));have n0_:=A_ (Kd.R_lower ho47 (below_size (by repeat (first|(with_reducible first|exact HB.out|apply ba|apply bb|apply bc)|exact HB.out))));have n1_:=A_ (below_step (by repeat (first|(with_reducible first|exact HB.out|apply ba|apply bb|apply bc)|exact HB.out)) hb);clear HB;have HO125:=n0_;have HB:=n1_;clear n0_ n1_;clear hb ho47)|((with_reducible refine gate_dst (N:=8) rfl ?_);refine Kd.R_lit (Kd.int .i64) _ 3 ?hg (N:=8) ?hd (xs:=([0,5,5] : List Int)) (inner:=[.int .i64 0,.int .i64 5,.int .i64 5]) (ok:=fun _=>True) (okp:=fun _=>True) ?hr ?hp (fun _ hk=>hk) trivial (Below.refl _ _) (Nat.le_refl _) (by simp) ?_;(case hd=>rfl);(case hg=>rfl);(case hr=>first|(go_simp;done)|(go_simp;rfl));(case hp=>exact (Reps.one (show Kd.M (Kd.int .i64) _ _ _ 0 [.int .i64 0] from rfl) (Reps.one (show Kd.M (Kd.int .i64) _ _ _ 5 [.int .i64 5] from rfl) (Reps.one (show Kd.M (Kd.int .i64) _ _ _ 5 [.int .i64 5] from rfl) (Reps.none _ _)))));intro v127 w48 ho49 hb hg_ hnew_;clear hg_ hnew_;(first|rw [← Ny126.out] at ho49|(simp only [Int.reduceToNat] at ho49;rw [← Ny126.out] at ho49));have n0_:=A_ (re (by (with_reducible repeat (first|apply ra|apply rb|apply rc));exact HO125.out) (rs ho49) hb);have n1_:=A_ (Kd.R_lower (rn ho49 (rl (by (with_reducible repeat (first|apply ra|apply rb|apply rc));exact HO125.out))) (below_size (by repeat (first|(with_reducible first|exact HB.out|apply ba|apply bb|apply bc)|exact HB.out))));have n2_:=A_ (below_step (by repeat (first|(with_reducible first|exact HB.out|apply ba|apply bb|apply bc)|exact HB.out)) hb);clear HO125;clear HB;have HO125:=n0_;have HO128:=n1_;have HB:=n2_;clear n0_ n1_ n2_;clear hb ho49;obtain ⟨Ao50,co50,eo50⟩:=Kd.R_slice HO125.out;subst eo50;obtain ⟨Ao51,co51,eo51⟩:=Kd.R_slice HO128.out;subst eo51)|((with_reducible refine gate_dst (N:=9) rfl ?_);refine Kd.N_lit (Kd.slice 3 (Kd.int .i64)) _ 22 ?hg (N':=9) ?hd (xs:=([y123,y126] : List (List Int))) (inner:=[.slice Ao50 y123.length co50,.slice Ao51 y126.length co51]) (ok:=(fun _=>True)) (okp:=(fun _=>True)) ?hr ?hp (fun _ hk=>hk) ((show ∀ k_,w48.heap.size ≤ k_ → (fun _=>True) k_ from fun k_ hk=>trivial) _ (Nat.le_refl _)) (Below.refl _ _) (Nat.le_refl _) (by simp) ?_;(case hd=>rfl);(case hg=>rfl);(case hr=>first|(go_simp;done)|(go_simp;rfl));(case hp=>exact (Reps.one (show Kd.FK (Kd.slice 3 (Kd.int .i64)) _ _ y123 [.slice Ao50 y123.length co50] from (Kd.FK_slice_mk (rd_ (rm (ok':=(fun _=>True)) (HO125.out) (fun k_ hk=>trivial))).2.1 (Kd.R_F (rm (ok':=(fun _=>True)) (HO125.out) (fun k_ hk=>trivial))))) (Reps.one (show Kd.FK (Kd.slice 3 (Kd.int .i64)) _ _ y126 [.slice Ao51 y126.length co51] from (Kd.FK_slice_mk (rd_ (rm (ok':=(fun _=>True)) (HO128.out) (fun k_ hk=>trivial))).2.1 (Kd.R_F (rm (ok':=(fun _=>True)) (HO128.out) (fun k_ hk=>trivial))))) (Reps.none _ _))));intro v130 w52 ho53 hb hg_ hnew_;clear hg_ hnew_;(first|rw [← Ny129.out] at ho53|(simp only [Int.reduceToNat] at ho53;rw [← Ny129.out] at ho53));have n0_:=A_ (Kd.N_lower ho53 (below_size (by repeat (first|(with_reducible first|exact HB.out|apply ba|apply bb|apply bc)|exact HB.out))));have n1_:=A_ (below_step (by repeat (first|(with_reducible first|exact HB.out|apply ba|apply bb|apply bc)|exact HB.out)) hb);clear HB;clear HO125;clear HO128;have HO131:=n0_;have HB:=n1_;clear n0_ n1_;clear hb ho53)|((with_reducible refine gate_dst (N:=10) rfl ?_);refine Kd.R_lit (Kd.int .i64) _ 3 ?hg (N:=10) ?hd (xs:=([0,5,5] : List Int)) (inner:=[.int .i64 0,.int .i64 5,.int .i64 5]) (ok:=fun _=>True) (okp:=fun _=>True) ?hr ?hp (fun _ hk=>hk) trivial (Below.refl _ _) (Nat.le_refl _) (by simp) ?_;(case hd=>rfl);(case hg=>rfl);(case hr=>first|(go_simp;done)|(go_simp;rfl));(case hp=>exact (Reps.one (show Kd.M (Kd.int .i64) _ _ _ 0 [.int .i64 0] from rfl) (Reps.one (show Kd.M (Kd.int .i64) _ _ _ 5 [.int .i64 5] from rfl) (Reps.one (show Kd.M (Kd.int .i64) _ _ _ 5 [.int .i64 5] from rfl) (Reps.none _ _)))));intro v133 w54 ho55 hb hg_ hnew_;clear hg_ hnew_;(first|rw [← Ny132.out] at ho55|(simp only [Int.reduceToNat] at ho55;rw [← Ny132.out] at ho55));have n0_:=A_ (Kd.N_elder' (by (with_reducible repeat (first|apply na|apply nd_|apply ne_));exact HO131.out) (rs ho55) hb);have n1_:=A_ (Kd.R_lower ho55 (below_size (by repeat (first|(with_reducible first|exact HB.out|apply ba|apply bb|apply bc)|exact HB.out))));have n2_:=A_ (below_step (by repeat (first|(with_reducible first|exact HB.out|apply ba|apply bb|apply bc)|exact HB.out)) hb);clear HO131;clear HB;have HO131:=n0_;have HO134:=n1_;have HB:=n2_;clear n0_ n1_ n2_;clear hb ho55)|((with_reducible refine gate_dst (N:=11) rfl ?_);refine Kd.R_lit (Kd.int .i64) _ 3 ?hg (N:=11) ?hd (xs:=([0,0,5] : List Int)) (inner:=[.int .i64 0,.int .i64 0,.int .i64 5]) (ok:=fun _=>True) (okp:=fun _=>True) ?hr ?hp (fun _ hk=>hk) trivial (Below.refl _ _) (Nat.le_refl _) (by simp) ?_;(case hd=>rfl);(case hg=>rfl);(case hr=>first|(go_simp;done)|(go_simp;rfl));(case hp=>exact (Reps.one (show Kd.M (Kd.int .i64) _ _ _ 0 [.int .i64 0] from rfl) (Reps.one (show Kd.M (Kd.int .i64) _ _ _ 0 [.int .i64 0] from rfl) (Reps.one (show Kd.M (Kd.int .i64) _ _ _ 5 [.int .i64 5] from rfl) (Reps.none _ _)))));intro v136 w56 ho57 hb hg_ hnew_;clear hg_ hnew_;(first|rw [← Ny135.out] at ho57|(simp only [Int.reduceToNat] at ho57;rw [← Ny135.out] at ho57));have n0_:=A_ (Kd.N_elder' (by (with_reducible repeat (first|apply na|apply nd_|apply ne_));exact HO131.out) (rs ho57) hb);have n1_:=A_ (re (by (with_reducible repeat (first|apply ra|apply rb|apply rc));exact HO134.out) (rs ho57) hb);have n2_:=A_ (Kd.R_lower (rn ho57 (rl (by (with_reducible repeat (first|apply ra|apply rb|apply rc));exact HO134.out))) (below_size (by repeat (first|(with_reducible first|exact HB.out|apply ba|apply bb|apply bc)|exact HB.out))));have n3_:=A_ (below_step (by repeat (first|(with_reducible first|exact HB.out|apply ba|apply bb|apply bc)|exact HB.out)) hb);clear HO131;clear HO134;clear HB;have HO131:=n0_;have HO134:=n1_;have HO137:=n2_;have HB:=n3_;clear n0_ n1_ n2_ n3_;clear hb ho57;obtain ⟨Ao58,co58,eo58⟩:=Kd.R_slice HO134.out;subst eo58;obtain ⟨Ao59,co59,eo59⟩:=Kd.R_slice HO137.out;subst eo59)|((with_reducible refine gate_dst (N:=12) rfl ?_);refine Kd.N_lit (Kd.slice 3 (Kd.int .i64)) _ 22 ?hg (N':=12) ?hd (xs:=([y132,y135] : List (List Int))) (inner:=[.slice Ao58 y132.length co58,.slice Ao59 y135.length co59]) (ok:=(fun k_=>nb k_ v130)) (okp:=(fun k_=>nb k_ v130)) ?hr ?hp (fun _ hk=>hk) ((show ∀ k_,w56.heap.size ≤ k_ → (fun k_=>nb k_ v130) k_ from fun k_ hk=>rh (Kd.N_lt (by (with_reducible repeat (first|apply na|apply nd_|apply ne_));exact HO131.out)) k_ hk) _ (Nat.le_refl _)) (Below.refl _ _) (Nat.le_refl _) (by simp) ?_;(case hd=>rfl);(case hg=>rfl);(case hr=>first|(go_simp;done)|(go_simp;rfl));(case hp=>exact (Reps.one (show Kd.FK (Kd.slice 3 (Kd.int .i64)) _ _ y132 [.slice Ao58 y132.length co58] from (Kd.FK_slice_mk (rd_ (rm (ok':=(fun k_=>nb k_ v130)) (Kd.R_apart' (HO134.out) (Kd.N_typed HO131.out) (by decide)) (fun k_ hk=>hk.2))).2.1 (Kd.R_F (rm (ok':=(fun k_=>nb k_ v130)) (Kd.R_apart' (HO134.out) (Kd.N_typed HO131.out) (by decide)) (fun k_ hk=>hk.2))))) (Reps.one (show Kd.FK (Kd.slice 3 (Kd.int .i64)) _ _ y135 [.slice Ao59 y135.length co59] from (Kd.FK_slice_mk (rd_ (rm (ok':=(fun k_=>nb k_ v130)) (Kd.R_apart' (HO137.out) (Kd.N_typed HO131.out) (by decide)) (fun k_ hk=>hk.2))).2.1 (Kd.R_F (rm (ok':=(fun k_=>nb k_ v130)) (Kd.R_apart' (HO137.out) (Kd.N_typed HO131.out) (by decide)) (fun k_ hk=>hk.2))))) (Reps.none _ _))));intro v139 w60 ho61 hb hg_ hnew_;clear hg_ hnew_;(first|rw [← Ny138.out] at ho61|(simp only [Int.reduceToNat] at ho61;rw [← Ny138.out] at ho61));have n0_:=A_ (Kd.N_elder' (by (with_reducible repeat (first|apply na|apply nd_|apply ne_));exact HO131.out) (Kd.N_base ho61) hb);have n1_:=A_ (Kd.N_lower ho61 (below_size (by repeat (first|(with_reducible first|exact HB.out|apply ba|apply bb|apply bc)|exact HB.out))));have n2_:=A_ (below_step (by repeat (first|(with_reducible first|exact HB.out|apply ba|apply bb|apply bc)|exact HB.out)) hb);clear HO131;clear HB;clear HO134;clear HO137;have HO131:=n0_;have HO140:=n1_;have HB:=n2_;clear n0_ n1_ n2_;clear hb ho61;obtain ⟨Ao62,co62,eo62⟩:=Kd.N_slice HO131.out;subst eo62;obtain ⟨Ao63,co63,eo63⟩:=Kd.N_slice HO140.out;subst eo63)|((with_reducible refine gate_callee (f:=11) rfl ?_);refine goesL_ (some 16) rfl rfl Try.func11 (by kernel_rfl) rfl #[.slice Ao62 y129.length co62,.slice Ao63 y138.length co63,.int .i64 1] rfl (by (try simp only [List.map_toArray,List.map_cons,List.map_nil]);first|done|rfl|(simp only [List.length_drop,List.length_take];rfl)) ?_;(with_reducible refine (channels_Apart.calls k _ _ y129 _ _ y138 1 t141 t142 _ ?side1 ?side2 ?side3 ?side4 A1.out).mono ?_);(case side1=>repeat (first|exact (Kd.N_reads' HO131.out).2.2|(with_reducible refine ca ?_ _)|(with_reducible refine cb ?_ _)|(with_reducible refine cc ?_)));(case side2=>exact (Kd.N_reads' HO131.out).2.1);(case side3=>repeat (first|exact (Kd.N_reads' HO140.out).2.2|(with_reducible refine ca ?_ _)|(with_reducible refine cb ?_ _)|(with_reducible refine cc ?_)));(case side4=>exact (Kd.N_reads' HO140.out).2.1);rintro e w64 ⟨rfl,hb⟩;refine ⟨_,rfl,?_⟩;have n0_:=A_ (Kd.N_below (by (with_reducible repeat (first|apply na|apply nd_|apply ne_));exact HO131.out) hb);have n1_:=A_ (Kd.N_below (by (with_reducible repeat (first|apply na|apply nd_|apply ne_));exact HO140.out) hb);have n2_:=A_ (below_step (by repeat (first|(with_reducible first|exact HB.out|apply ba|apply bb|apply bc)|exact HB.out)) hb);clear HO131;clear HO140;clear HB;have HO131:=n0_;have HO140:=n1_;have HB:=n2_;clear n0_ n1_ n2_;(try clear hb);(try clear hb2);(try clear hk);(try clear hi))|((with_reducible refine gate_callee (f:=12) rfl ?_);refine goesL_ (some 22) rfl rfl Try.func12 (by kernel_rfl) rfl #[.slice Ao62 y129.length co62,.slice Ao63 y138.length co63,.int .i64 1] rfl (by (try simp only [List.map_toArray,List.map_cons,List.map_nil]);first|done|rfl|(simp only [List.length_drop,List.length_take];rfl)) ?_;(with_reducible refine (channels_Together.calls k _ _ y129 _ _ y138 1 t143 t144 _ ?side1 ?side2 ?side3 ?side4 A2.out).mono ?_);(case side1=>repeat (first|exact (Kd.N_reads' HO131.out).2.2|(with_reducible refine ca ?_ _)|(with_reducible refine cb ?_ _)|(with_reducible refine cc ?_)));(case side2=>exact (Kd.N_reads' HO131.out).2.1);(case side3=>repeat (first|exact (Kd.N_reads' HO140.out).2.2|(with_reducible refine ca ?_ _)|(with_reducible refine cb ?_ _)|(with_reducible refine cc ?_)));(case side4=>exact (Kd.N_reads' HO140.out).2.1);rintro e w65 ⟨rfl,hb⟩;refine ⟨_,rfl,?_⟩;have n0_:=A_ (Kd.N_below (by (with_reducible repeat (first|apply na|apply nd_|apply ne_));exact HO131.out) hb);have n1_:=A_ (Kd.N_below (by (with_reducible repeat (first|apply na|apply nd_|apply ne_));exact HO140.out) hb);have n2_:=A_ (below_step (by repeat (first|(with_reducible first|exact HB.out|apply ba|apply bb|apply bc)|exact HB.out)) hb);clear HO131;clear HO140;clear HB;have HO131:=n0_;have HO140:=n1_;have HB:=n2_;clear n0_ n1_ n2_;(try clear hb);(try clear hb2);(try clear hk);(try clear hi)))
   go_ret
   exact ⟨by first|rfl|(simp [errW_none,errW_some] <;> rfl)|(simp [*,errW_none,errW_some] <;> rfl),by repeat (first|(with_reducible first|exact HB.out|apply ba|apply bb|apply bc)|exact HB.out)⟩
 ·
  rw [if_neg c3] at H
  have c3b0 : (t142 == 0) = false:=beq_eq_false_iff_ne.mpr c3
  have c3b1 : (t142 != 0) = true:=bne_iff_ne.mpr c3
  obtain rfl:=Option.some.inj H
  go_enter Try.func15,Try.ntmps15
  go_wp2_with (first|((with_reducible refine gate_dst (N:=7) rfl ?_);refine Kd.R_lit (Kd.int .i64) _ 3 ?hg (N:=7) ?hd (xs:=([0,0,5] : List Int)) (inner:=[.int .i64 0,.int .i64 0,.int .i64 5]) (ok:=fun _=>True) (okp:=fun _=>True) ?hr ?hp (fun _ hk=>hk) trivial (Below.refl _ _) (Nat.le_refl _) (by simp) ?_;(case hd=>rfl);(case hg=>rfl);(case hr=>first|(go_simp;done)|(go_simp;rfl));(case hp=>exact (Reps.one (show Kd.M (Kd.int .i64) _ _ _ 0 [.int .i64 0] from rfl) (Reps.one (show Kd.M (Kd.int .i64) _ _ _ 0 [.int .i64 0] from rfl) (Reps.one (show Kd.M (Kd.int .i64) _ _ _ 5 [.int .i64 5] from rfl) (Reps.none _ _)))));intro v124 w66 ho67 hb hg_ hnew_;clear hg_ hnew_;(first|rw [← Ny123.out] at ho67|(simp only [Int.reduceToNat] at ho67;rw [← Ny123.out] at ho67));have n0_:=A_ (Kd.R_lower ho67 (below_size (by repeat (first|(with_reducible first|exact HB.out|apply ba|apply bb|apply bc)|exact HB.out))));have n1_:=A_ (below_step (by repeat (first|(with_reducible first|exact HB.out|apply ba|apply bb|apply bc)|exact HB.out)) hb);clear HB;have HO125:=n0_;have HB:=n1_;clear n0_ n1_;clear hb ho67)|((with_reducible refine gate_dst (N:=8) rfl ?_);refine Kd.R_lit (Kd.int .i64) _ 3 ?hg (N:=8) ?hd (xs:=([0,5,5] : List Int)) (inner:=[.int .i64 0,.int .i64 5,.int .i64 5]) (ok:=fun _=>True) (okp:=fun _=>True) ?hr ?hp (fun _ hk=>hk) trivial (Below.refl _ _) (Nat.le_refl _) (by simp) ?_;(case hd=>rfl);(case hg=>rfl);(case hr=>first|(go_simp;done)|(go_simp;rfl));(case hp=>exact (Reps.one (show Kd.M (Kd.int .i64) _ _ _ 0 [.int .i64 0] from rfl) (Reps.one (show Kd.M (Kd.int .i64) _ _ _ 5 [.int .i64 5] from rfl) (Reps.one (show Kd.M (Kd.int .i64) _ _ _ 5 [.int .i64 5] from rfl) (Reps.none _ _)))));intro v127 w68 ho69 hb hg_ hnew_;clear hg_ hnew_;(first|rw [← Ny126.out] at ho69|(simp only [Int.reduceToNat] at ho69;rw [← Ny126.out] at ho69));have n0_:=A_ (re (by (with_reducible repeat (first|apply ra|apply rb|apply rc));exact HO125.out) (rs ho69) hb);have n1_:=A_ (Kd.R_lower (rn ho69 (rl (by (with_reducible repeat (first|apply ra|apply rb|apply rc));exact HO125.out))) (below_size (by repeat (first|(with_reducible first|exact HB.out|apply ba|apply bb|apply bc)|exact HB.out))));have n2_:=A_ (below_step (by repeat (first|(with_reducible first|exact HB.out|apply ba|apply bb|apply bc)|exact HB.out)) hb);clear HO125;clear HB;have HO125:=n0_;have HO128:=n1_;have HB:=n2_;clear n0_ n1_ n2_;clear hb ho69;obtain ⟨Ao70,co70,eo70⟩:=Kd.R_slice HO125.out;subst eo70;obtain ⟨Ao71,co71,eo71⟩:=Kd.R_slice HO128.out;subst eo71)|((with_reducible refine gate_dst (N:=9) rfl ?_);refine Kd.N_lit (Kd.slice 3 (Kd.int .i64)) _ 22 ?hg (N':=9) ?hd (xs:=([y123,y126] : List (List Int))) (inner:=[.slice Ao70 y123.length co70,.slice Ao71 y126.length co71]) (ok:=(fun _=>True)) (okp:=(fun _=>True)) ?hr ?hp (fun _ hk=>hk) ((show ∀ k_,w68.heap.size ≤ k_ → (fun _=>True) k_ from fun k_ hk=>trivial) _ (Nat.le_refl _)) (Below.refl _ _) (Nat.le_refl _) (by simp) ?_;(case hd=>rfl);(case hg=>rfl);(case hr=>first|(go_simp;done)|(go_simp;rfl));(case hp=>exact (Reps.one (show Kd.FK (Kd.slice 3 (Kd.int .i64)) _ _ y123 [.slice Ao70 y123.length co70] from (Kd.FK_slice_mk (rd_ (rm (ok':=(fun _=>True)) (HO125.out) (fun k_ hk=>trivial))).2.1 (Kd.R_F (rm (ok':=(fun _=>True)) (HO125.out) (fun k_ hk=>trivial))))) (Reps.one (show Kd.FK (Kd.slice 3 (Kd.int .i64)) _ _ y126 [.slice Ao71 y126.length co71] from (Kd.FK_slice_mk (rd_ (rm (ok':=(fun _=>True)) (HO128.out) (fun k_ hk=>trivial))).2.1 (Kd.R_F (rm (ok':=(fun _=>True)) (HO128.out) (fun k_ hk=>trivial))))) (Reps.none _ _))));intro v130 w72 ho73 hb hg_ hnew_;clear hg_ hnew_;(first|rw [← Ny129.out] at ho73|(simp only [Int.reduceToNat] at ho73;rw [← Ny129.out] at ho73));have n0_:=A_ (Kd.N_lower ho73 (below_size (by repeat (first|(with_reducible first|exact HB.out|apply ba|apply bb|apply bc)|exact HB.out))));have n1_:=A_ (below_step (by repeat (first|(with_reducible first|exact HB.out|apply ba|apply bb|apply bc)|exact HB.out)) hb);clear HB;clear HO125;clear HO128;have HO131:=n0_;have HB:=n1_;clear n0_ n1_;clear hb ho73)|((with_reducible refine gate_dst (N:=10) rfl ?_);refine Kd.R_lit (Kd.int .i64) _ 3 ?hg (N:=10) ?hd (xs:=([0,5,5] : List Int)) (inner:=[.int .i64 0,.int .i64 5,.int .i64 5]) (ok:=fun _=>True) (okp:=fun _=>True) ?hr ?hp (fun _ hk=>hk) trivial (Below.refl _ _) (Nat.le_refl _) (by simp) ?_;(case hd=>rfl);(case hg=>rfl);(case hr=>first|(go_simp;done)|(go_simp;rfl));(case hp=>exact (Reps.one (show Kd.M (Kd.int .i64) _ _ _ 0 [.int .i64 0] from rfl) (Reps.one (show Kd.M (Kd.int .i64) _ _ _ 5 [.int .i64 5] from rfl) (Reps.one (show Kd.M (Kd.int .i64) _ _ _ 5 [.int .i64 5] from rfl) (Reps.none _ _)))));intro v133 w74 ho75 hb hg_ hnew_;clear hg_ hnew_;(first|rw [← Ny132.out] at ho75|(simp only [Int.reduceToNat] at ho75;rw [← Ny132.out] at ho75));have n0_:=A_ (Kd.N_elder' (by (with_reducible repeat (first|apply na|apply nd_|apply ne_));exact HO131.out) (rs ho75) hb);have n1_:=A_ (Kd.R_lower ho75 (below_size (by repeat (first|(with_reducible first|exact HB.out|apply ba|apply bb|apply bc)|exact HB.out))));have n2_:=A_ (below_step (by repeat (first|(with_reducible first|exact HB.out|apply ba|apply bb|apply bc)|exact HB.out)) hb);clear HO131;clear HB;have HO131:=n0_;have HO134:=n1_;have HB:=n2_;clear n0_ n1_ n2_;clear hb ho75)|((with_reducible refine gate_dst (N:=11) rfl ?_);refine Kd.R_lit (Kd.int .i64) _ 3 ?hg (N:=11) ?hd (xs:=([0,0,5] : List Int)) (inner:=[.int .i64 0,.int .i64 0,.int .i64 5]) (ok:=fun _=>True) (okp:=fun _=>True) ?hr ?hp (fun _ hk=>hk) trivial (Below.refl _ _) (Nat.le_refl _) (by simp) ?_;(case hd=>rfl);(case hg=>rfl);(case hr=>first|(go_simp;done)|(go_simp;rfl));(case hp=>exact (Reps.one (show Kd.M (Kd.int .i64) _ _ _ 0 [.int .i64 0] from rfl) (Reps.one (show Kd.M (Kd.int .i64) _ _ _ 0 [.int .i64 0] from rfl) (Reps.one (show Kd.M (Kd.int .i64) _ _ _ 5 [.int .i64 5] from rfl) (Reps.none _ _)))));intro v136 w76 ho77 hb hg_ hnew_;clear hg_ hnew_;(first|rw [← Ny135.out] at ho77|(simp only [Int.reduceToNat] at ho77;rw [← Ny135.out] at ho77));have n0_:=A_ (Kd.N_elder' (by (with_reducible repeat (first|apply na|apply nd_|apply ne_));exact HO131.out) (rs ho77) hb);have n1_:=A_ (re (by (with_reducible repeat (first|apply ra|apply rb|apply rc));exact HO134.out) (rs ho77) hb);have n2_:=A_ (Kd.R_lower (rn ho77 (rl (by (with_reducible repeat (first|apply ra|apply rb|apply rc));exact HO134.out))) (below_size (by repeat (first|(with_reducible first|exact HB.out|apply ba|apply bb|apply bc)|exact HB.out))));have n3_:=A_ (below_step (by repeat (first|(with_reducible first|exact HB.out|apply ba|apply bb|apply bc)|exact HB.out)) hb);clear HO131;clear HO134;clear HB;have HO131:=n0_;have HO134:=n1_;have HO137:=n2_;have HB:=n3_;clear n0_ n1_ n2_ n3_;clear hb ho77;obtain ⟨Ao78,co78,eo78⟩:=Kd.R_slice HO134.out;subst eo78;obtain ⟨Ao79,co79,eo79⟩:=Kd.R_slice HO137.out;subst eo79)|((with_reducible refine gate_dst (N:=12) rfl ?_);refine Kd.N_lit (Kd.slice 3 (Kd.int .i64)) _ 22 ?hg (N':=12) ?hd (xs:=([y132,y135] : List (List Int))) (inner:=[.slice Ao78 y132.length co78,.slice Ao79 y135.length co79]) (ok:=(fun k_=>nb k_ v130)) (okp:=(fun k_=>nb k_ v130)) ?hr ?hp (fun _ hk=>hk) ((show ∀ k_,w76.heap.size ≤ k_ → (fun k_=>nb k_ v130) k_ from fun k_ hk=>rh (Kd.N_lt (by (with_reducible repeat (first|apply na|apply nd_|apply ne_));exact HO131.out)) k_ hk) _ (Nat.le_refl _)) (Below.refl _ _) (Nat.le_refl _) (by simp) ?_;(case hd=>rfl);(case hg=>rfl);(case hr=>first|(go_simp;done)|(go_simp;rfl));(case hp=>exact (Reps.one (show Kd.FK (Kd.slice 3 (Kd.int .i64)) _ _ y132 [.slice Ao78 y132.length co78] from (Kd.FK_slice_mk (rd_ (rm (ok':=(fun k_=>nb k_ v130)) (Kd.R_apart' (HO134.out) (Kd.N_typed HO131.out) (by decide)) (fun k_ hk=>hk.2))).2.1 (Kd.R_F (rm (ok':=(fun k_=>nb k_ v130)) (Kd.R_apart' (HO134.out) (Kd.N_typed HO131.out) (by decide)) (fun k_ hk=>hk.2))))) (Reps.one (show Kd.FK (Kd.slice 3 (Kd.int .i64)) _ _ y135 [.slice Ao79 y135.length co79] from (Kd.FK_slice_mk (rd_ (rm (ok':=(fun k_=>nb k_ v130)) (Kd.R_apart' (HO137.out) (Kd.N_typed HO131.out) (by decide)) (fun k_ hk=>hk.2))).2.1 (Kd.R_F (rm (ok':=(fun k_=>nb k_ v130)) (Kd.R_apart' (HO137.out) (Kd.N_typed HO131.out) (by decide)) (fun k_ hk=>hk.2))))) (Reps.none _ _))));intro v139 w80 ho81 hb hg_ hnew_;clear hg_ hnew_;(first|rw [← Ny138.out] at ho81|(simp only [Int.reduceToNat] at ho81;rw [← Ny138.out] at ho81));have n0_:=A_ (Kd.N_elder' (by (with_reducible repeat (first|apply na|apply nd_|apply ne_));exact HO131.out) (Kd.N_base ho81) hb);have n1_:=A_ (Kd.N_lower ho81 (below_size (by repeat (first|(with_reducible first|exact HB.out|apply ba|apply bb|apply bc)|exact HB.out))));have n2_:=A_ (below_step (by repeat (first|(with_reducible first|exact HB.out|apply ba|apply bb|apply bc)|exact HB.out)) hb);clear HO131;clear HB;clear HO134;clear HO137;have HO131:=n0_;have HO140:=n1_;have HB:=n2_;clear n0_ n1_ n2_;clear hb ho81;obtain ⟨Ao82,co82,eo82⟩:=Kd.N_slice HO131.out;subst eo82;obtain ⟨Ao83,co83,eo83⟩:=Kd.N_slice HO140.out;subst eo83)|((with_reducible refine gate_callee (f:=11) rfl ?_);refine goesL_ (some 16) rfl rfl Try.func11 (by kernel_rfl) rfl #[.slice Ao82 y129.length co82,.slice Ao83 y138.length co83,.int .i64 1] rfl (by (try simp only [List.map_toArray,List.map_cons,List.map_nil]);first|done|rfl|(simp only [List.length_drop,List.length_take];rfl)) ?_;(with_reducible refine (channels_Apart.calls k _ _ y129 _ _ y138 1 t141 t142 _ ?side1 ?side2 ?side3 ?side4 A1.out).mono ?_);(case side1=>repeat (first|exact (Kd.N_reads' HO131.out).2.2|(with_reducible refine ca ?_ _)|(with_reducible refine cb ?_ _)|(with_reducible refine cc ?_)));(case side2=>exact (Kd.N_reads' HO131.out).2.1);(case side3=>repeat (first|exact (Kd.N_reads' HO140.out).2.2|(with_reducible refine ca ?_ _)|(with_reducible refine cb ?_ _)|(with_reducible refine cc ?_)));(case side4=>exact (Kd.N_reads' HO140.out).2.1);rintro e w84 ⟨rfl,hb⟩;refine ⟨_,rfl,?_⟩;have n0_:=A_ (Kd.N_below (by (with_reducible repeat (first|apply na|apply nd_|apply ne_));exact HO131.out) hb);have n1_:=A_ (Kd.N_below (by (with_reducible repeat (first|apply na|apply nd_|apply ne_));exact HO140.out) hb);have n2_:=A_ (below_step (by repeat (first|(with_reducible first|exact HB.out|apply ba|apply bb|apply bc)|exact HB.out)) hb);clear HO131;clear HO140;clear HB;have HO131:=n0_;have HO140:=n1_;have HB:=n2_;clear n0_ n1_ n2_;(try clear hb);(try clear hb2);(try clear hk);(try clear hi))|((with_reducible refine gate_callee (f:=12) rfl ?_);refine goesL_ (some 22) rfl rfl Try.func12 (by kernel_rfl) rfl #[.slice Ao82 y129.length co82,.slice Ao83 y138.length co83,.int .i64 1] rfl (by (try simp only [List.map_toArray,List.map_cons,List.map_nil]);first|done|rfl|(simp only [List.length_drop,List.length_take];rfl)) ?_;(with_reducible refine (channels_Together.calls k _ _ y129 _ _ y138 1 t143 t144 _ ?side1 ?side2 ?side3 ?side4 A2.out).mono ?_);(case side1=>repeat (first|exact (Kd.N_reads' HO131.out).2.2|(with_reducible refine ca ?_ _)|(with_reducible refine cb ?_ _)|(with_reducible refine cc ?_)));(case side2=>exact (Kd.N_reads' HO131.out).2.1);(case side3=>repeat (first|exact (Kd.N_reads' HO140.out).2.2|(with_reducible refine ca ?_ _)|(with_reducible refine cb ?_ _)|(with_reducible refine cc ?_)));(case side4=>exact (Kd.N_reads' HO140.out).2.1);rintro e w85 ⟨rfl,hb⟩;refine ⟨_,rfl,?_⟩;have n0_:=A_ (Kd.N_below (by (with_reducible repeat (first|apply na|apply nd_|apply ne_));exact HO131.out) hb);have n1_:=A_ (Kd.N_below (by (with_reducible repeat (first|apply na|apply nd_|apply ne_));exact HO140.out) hb);have n2_:=A_ (below_step (by repeat (first|(with_reducible first|exact HB.out|apply ba|apply bb|apply bc)|exact HB.out)) hb);clear HO131;clear HO140;clear HB;have HO131:=n0_;have HO140:=n1_;have HB:=n2_;clear n0_ n1_ n2_;(try clear hb);(try clear hb2);(try clear hk);(try clear hi)))
  go_ret
  exact ⟨by first|rfl|(simp [errW_none,errW_some] <;> rfl)|(simp [*,errW_none,errW_some] <;> rfl),by repeat (first|(with_reducible first|exact HB.out|apply ba|apply bb|apply bc)|exact HB.out)⟩

/-! ### window_Variance: function 78 -/
def window_Variance.f (a0_0 : Int) (a0_1 : Int) (a0_2 : Int) : Option (Int):=if a0_0 < 1 then (some 0) else (if a0_0 > 2000 then (some 0) else (if a0_1 < (wrap64 ((-1000) * a0_0)) then (some 0) else (if a0_1 > (wrap64 (1000 * a0_0)) then (some 0) else (if a0_2 < 0 then (some 0) else (if a0_2 > (wrap64 (1000000 * a0_0)) then (some 0) else (some (mx 0 (wrap64 ((wrap64 (a0_0 * a0_2)) - (wrap64 (a0_1 * a0_1)))))))))))
set_option maxHeartbeats 8000000 in
set_option maxRecDepth 100000 in
theorem window_Variance.calls (a0_0 : Int) (a0_1 : Int) (a0_2 : Int) (r : Int) (w : World) (h : window_Variance.f a0_0 a0_1 a0_2 = some r) :
  Calls Try.prog 78 #[.agg #[.int .i64 a0_0,.int .i64 a0_1,.int .i64 a0_2]] w fun e w'=>e = .returned (.int .i64 r)∧Below w.heap.size w w':=by
 have hu88:=Try.underlying88
 have HB:=A_ (Below.refl w.heap.size w)
 have H : (if a0_0 < 1 then (some 0) else (if a0_0 > 2000 then (some 0) else (if a0_1 < (wrap64 ((-1000) * a0_0)) then (some 0) else (if a0_1 > (wrap64 (1000 * a0_0)) then (some 0) else (if a0_2 < 0 then (some 0) else (if a0_2 > (wrap64 (1000000 * a0_0)) then (some 0) else (some (mx 0 (wrap64 ((wrap64 (a0_0 * a0_2)) - (wrap64 (a0_1 * a0_1)))))))))))) = some r:=h
 clear h
 by_cases c2 : a0_0 < 1
 ·
  rw [if_pos c2] at H
  have c2b0 : decide (a0_0 < 1) = true:=decide_eq_true c2
  clear c2
  obtain rfl:=Option.some.inj H
  go_enter Try.func78,Try.ntmps78
  go_wp2_with (first|((with_reducible refine gate_dst (N:=1) rfl ?_);refine box_event ?hg (N:=1) ?hd (cs:=#[.int .i64 a0_0,.int .i64 a0_1,.int .i64 a0_2]) (t:=88) ?hr ?_;(case hd=>rfl);(case hg=>rfl);(case hr=>first|(go_simp;done)|(go_simp;rfl));intro gb145 hg w3 hbox hb;have n0_:=A_ (below_step (by repeat (first|(with_reducible first|exact HB.out|apply ba|apply bb|apply bc)|exact HB.out)) hb);have n1_:=A_ (hbox);have n2_:=A_ ((by rw [hg];exact (below_size (by repeat (first|(with_reducible first|exact HB.out|apply ba|apply bb|apply bc)|exact HB.out))) : w.heap.size ≤ gb145));have n3_:=A_ ((by rw [hg];exact (below_size (by repeat (first|(with_reducible first|exact HB.out|apply ba|apply bb|apply bc)|exact HB.out))) : w.heap.size ≤ gb145));clear HB;have HB:=n0_;have BK145:=n1_;have GW145:=n2_;have GE145:=n3_;clear n0_ n1_ n2_ n3_;clear hb hbox hg;have hcz4_0 : w3.cell? ⟨gb145,0,none⟩ = some (.int .i64 a0_0):=(blk_cell BK145.out 0).trans rfl;have hcz4_1 : w3.cell? ⟨gb145,1,none⟩ = some (.int .i64 a0_1):=(blk_cell BK145.out 1).trans rfl;have hcz4_2 : w3.cell? ⟨gb145,2,none⟩ = some (.int .i64 a0_2):=(blk_cell BK145.out 2).trans rfl;have hfz4_0:=blk_frozen BK145.out 0;have hfz4_1:=blk_frozen BK145.out 1;have hfz4_2:=blk_frozen BK145.out 2))
  go_ret
  exact ⟨by first|rfl|(simp [errW_none,errW_some] <;> rfl)|(simp [*,errW_none,errW_some] <;> rfl),by repeat (first|(with_reducible first|exact HB.out|apply ba|apply bb|apply bc|refine below_set ?_ GE145.out)|exact HB.out)⟩
 ·
  rw [if_neg c2] at H
  have c2b0 : decide (a0_0 < 1) = false:=decide_eq_false c2
  clear c2
  by_cases c5 : a0_0 > 2000
  ·
   rw [if_pos c5] at H
   have c5b0 : decide (2000 < a0_0) = true:=decide_eq_true c5
   clear c5
   obtain rfl:=Option.some.inj H
   go_enter Try.func78,Try.ntmps78
   go_wp2_with (first|((with_reducible refine gate_dst (N:=1) rfl ?_);refine box_event ?hg (N:=1) ?hd (cs:=#[.int .i64 a0_0,.int .i64 a0_1,.int .i64 a0_2]) (t:=88) ?hr ?_;(case hd=>rfl);(case hg=>rfl);(case hr=>first|(go_simp;done)|(go_simp;rfl));intro gb145 hg w6 hbox hb;have n0_:=A_ (below_step (by repeat (first|(with_reducible first|exact HB.out|apply ba|apply bb|apply bc)|exact HB.out)) hb);have n1_:=A_ (hbox);have n2_:=A_ ((by rw [hg];exact (below_size (by repeat (first|(with_reducible first|exact HB.out|apply ba|apply bb|apply bc)|exact HB.out))) : w.heap.size ≤ gb145));have n3_:=A_ ((by rw [hg];exact (below_size (by repeat (first|(with_reducible first|exact HB.out|apply ba|apply bb|apply bc)|exact HB.out))) : w.heap.size ≤ gb145));clear HB;have HB:=n0_;have BK145:=n1_;have GW145:=n2_;have GE145:=n3_;clear n0_ n1_ n2_ n3_;clear hb hbox hg;have hcz7_0 : w6.cell? ⟨gb145,0,none⟩ = some (.int .i64 a0_0):=(blk_cell BK145.out 0).trans rfl;have hcz7_1 : w6.cell? ⟨gb145,1,none⟩ = some (.int .i64 a0_1):=(blk_cell BK145.out 1).trans rfl;have hcz7_2 : w6.cell? ⟨gb145,2,none⟩ = some (.int .i64 a0_2):=(blk_cell BK145.out 2).trans rfl;have hfz7_0:=blk_frozen BK145.out 0;have hfz7_1:=blk_frozen BK145.out 1;have hfz7_2:=blk_frozen BK145.out 2))
   go_ret
   exact ⟨by first|rfl|(simp [errW_none,errW_some] <;> rfl)|(simp [*,errW_none,errW_some] <;> rfl),by repeat (first|(with_reducible first|exact HB.out|apply ba|apply bb|apply bc|refine below_set ?_ GE145.out)|exact HB.out)⟩
  ·
   rw [if_neg c5] at H
   have c5b0 : decide (2000 < a0_0) = false:=decide_eq_false c5
   clear c5
   by_cases c8 : a0_1 < (wrap64 ((-1000) * a0_0))
   ·
    rw [if_pos c8] at H
    have c8b0 : decide (a0_1 < (wrap64 ((-1000) * a0_0))) = true:=decide_eq_true c8
    clear c8
    obtain rfl:=Option.some.inj H
    go_enter Try.func78,Try.ntmps78
    go_wp2_with (first|((with_reducible refine gate_dst (N:=1) rfl ?_);refine box_event ?hg (N:=1) ?hd (cs:=#[.int .i64 a0_0,.int .i64 a0_1,.int .i64 a0_2]) (t:=88) ?hr ?_;(case hd=>rfl);(case hg=>rfl);(case hr=>first|(go_simp;done)|(go_simp;rfl));intro gb145 hg w9 hbox hb;have n0_:=A_ (below_step (by repeat (first|(with_reducible first|exact HB.out|apply ba|apply bb|apply bc)|exact HB.out)) hb);have n1_:=A_ (hbox);have n2_:=A_ ((by rw [hg];exact (below_size (by repeat (first|(with_reducible first|exact HB.out|apply ba|apply bb|apply bc)|exact HB.out))) : w.heap.size ≤ gb145));have n3_:=A_ ((by rw [hg];exact (below_size (by repeat (first|(with_reducible first|exact HB.out|apply ba|apply bb|apply bc)|exact HB.out))) : w.heap.size ≤ gb145));clear HB;have HB:=n0_;have BK145:=n1_;have GW145:=n2_;have GE145:=n3_;clear n0_ n1_ n2_ n3_;clear hb hbox hg;have hcz10_0 : w9.cell? ⟨gb145,0,none⟩ = some (.int .i64 a0_0):=(blk_cell BK145.out 0).trans rfl;have hcz10_1 : w9.cell? ⟨gb145,1,none⟩ = some (.int .i64 a0_1):=(blk_cell BK145.out 1).trans rfl;have hcz10_2 : w9.cell? ⟨gb145,2,none⟩ = some (.int .i64 a0_2):=(blk_cell BK145.out 2).trans rfl;have hfz10_0:=blk_frozen BK145.out 0;have hfz10_1:=blk_frozen BK145.out 1;have hfz10_2:=blk_frozen BK145.out 2))
    go_ret
    exact ⟨by first|rfl|(simp [errW_none,errW_some] <;> rfl)|(simp [*,errW_none,errW_some] <;> rfl),by repeat (first|(with_reducible first|exact HB.out|apply ba|apply bb|apply bc|refine below_set ?_ GE145.out)|exact HB.out)⟩
   ·
    rw [if_neg c8] at H
    have c8b0 : decide (a0_1 < (wrap64 ((-1000) * a0_0))) = false:=decide_eq_false c8
    clear c8
    by_cases c11 : a0_1 > (wrap64 (1000 * a0_0))
    ·
     rw [if_pos c11] at H
     have c11b0 : decide ((wrap64 (1000 * a0_0)) < a0_1) = true:=decide_eq_true c11
     clear c11
     obtain rfl:=Option.some.inj H
     go_enter Try.func78,Try.ntmps78
     go_wp2_with (first|((with_reducible refine gate_dst (N:=1) rfl ?_);refine box_event ?hg (N:=1) ?hd (cs:=#[.int .i64 a0_0,.int .i64 a0_1,.int .i64 a0_2]) (t:=88) ?hr ?_;(case hd=>rfl);(case hg=>rfl);(case hr=>first|(go_simp;done)|(go_simp;rfl));intro gb145 hg w12 hbox hb;have n0_:=A_ (below_step (by repeat (first|(with_reducible first|exact HB.out|apply ba|apply bb|apply bc)|exact HB.out)) hb);have n1_:=A_ (hbox);have n2_:=A_ ((by rw [hg];exact (below_size (by repeat (first|(with_reducible first|exact HB.out|apply ba|apply bb|apply bc)|exact HB.out))) : w.heap.size ≤ gb145));have n3_:=A_ ((by rw [hg];exact (below_size (by repeat (first|(with_reducible first|exact HB.out|apply ba|apply bb|apply bc)|exact HB.out))) : w.heap.size ≤ gb145));clear HB;have HB:=n0_;have BK145:=n1_;have GW145:=n2_;have GE145:=n3_;clear n0_ n1_ n2_ n3_;clear hb hbox hg;have hcz13_0 : w12.cell? ⟨gb145,0,none⟩ = some (.int .i64 a0_0):=(blk_cell BK145.out 0).trans rfl;have hcz13_1 : w12.cell? ⟨gb145,1,none⟩ = some (.int .i64 a0_1):=(blk_cell BK145.out 1).trans rfl;have hcz13_2 : w12.cell? ⟨gb145,2,none⟩ = some (.int .i64 a0_2):=(blk_cell BK145.out 2).trans rfl;have hfz13_0:=blk_frozen BK145.out 0;have hfz13_1:=blk_frozen BK145.out 1;have hfz13_2:=blk_frozen BK145.out 2))
     go_ret
     exact ⟨by first|rfl|(simp [errW_none,errW_some] <;> rfl)|(simp [*,errW_none,errW_some] <;> rfl),by repeat (first|(with_reducible first|exact HB.out|apply ba|apply bb|apply bc|refine below_set ?_ GE145.out)|exact HB.out)⟩
    ·
     rw [if_neg c11] at H
     have c11b0 : decide ((wrap64 (1000 * a0_0)) < a0_1) = false:=decide_eq_false c11
     clear c11
     by_cases c14 : a0_2 < 0
     ·
      rw [if_pos c14] at H
      have c14b0 : decide (a0_2 < 0) = true:=decide_eq_true c14
      clear c14
      obtain rfl:=Option.some.inj H
      go_enter Try.func78,Try.ntmps78
      go_wp2_with (first|((with_reducible refine gate_dst (N:=1) rfl ?_);refine box_event ?hg (N:=1) ?hd (cs:=#[.int .i64 a0_0,.int .i64 a0_1,.int .i64 a0_2]) (t:=88) ?hr ?_;(case hd=>rfl);(case hg=>rfl);(case hr=>first|(go_simp;done)|(go_simp;rfl));intro gb145 hg w15 hbox hb;have n0_:=A_ (below_step (by repeat (first|(with_reducible first|exact HB.out|apply ba|apply bb|apply bc)|exact HB.out)) hb);have n1_:=A_ (hbox);have n2_:=A_ ((by rw [hg];exact (below_size (by repeat (first|(with_reducible first|exact HB.out|apply ba|apply bb|apply bc)|exact HB.out))) : w.heap.size ≤ gb145));have n3_:=A_ ((by rw [hg];exact (below_size (by repeat (first|(with_reducible first|exact HB.out|apply ba|apply bb|apply bc)|exact HB.out))) : w.heap.size ≤ gb145));clear HB;have HB:=n0_;have BK145:=n1_;have GW145:=n2_;have GE145:=n3_;clear n0_ n1_ n2_ n3_;clear hb hbox hg;have hcz16_0 : w15.cell? ⟨gb145,0,none⟩ = some (.int .i64 a0_0):=(blk_cell BK145.out 0).trans rfl;have hcz16_1 : w15.cell? ⟨gb145,1,none⟩ = some (.int .i64 a0_1):=(blk_cell BK145.out 1).trans rfl;have hcz16_2 : w15.cell? ⟨gb145,2,none⟩ = some (.int .i64 a0_2):=(blk_cell BK145.out 2).trans rfl;have hfz16_0:=blk_frozen BK145.out 0;have hfz16_1:=blk_frozen BK145.out 1;have hfz16_2:=blk_frozen BK145.out 2))
      go_ret
      exact ⟨by first|rfl|(simp [errW_none,errW_some] <;> rfl)|(simp [*,errW_none,errW_some] <;> rfl),by repeat (first|(with_reducible first|exact HB.out|apply ba|apply bb|apply bc|refine below_set ?_ GE145.out)|exact HB.out)⟩
     ·
      rw [if_neg c14] at H
      have c14b0 : decide (a0_2 < 0) = false:=decide_eq_false c14
      clear c14
      by_cases c17 : a0_2 > (wrap64 (1000000 * a0_0))
      ·
       rw [if_pos c17] at H
       have c17b0 : decide ((wrap64 (1000000 * a0_0)) < a0_2) = true:=decide_eq_true c17
       clear c17
       obtain rfl:=Option.some.inj H
       go_enter Try.func78,Try.ntmps78
       go_wp2_with (first|((with_reducible refine gate_dst (N:=1) rfl ?_);refine box_event ?hg (N:=1) ?hd (cs:=#[.int .i64 a0_0,.int .i64 a0_1,.int .i64 a0_2]) (t:=88) ?hr ?_;(case hd=>rfl);(case hg=>rfl);(case hr=>first|(go_simp;done)|(go_simp;rfl));intro gb145 hg w18 hbox hb;have n0_:=A_ (below_step (by repeat (first|(with_reducible first|exact HB.out|apply ba|apply bb|apply bc)|exact HB.out)) hb);have n1_:=A_ (hbox);have n2_:=A_ ((by rw [hg];exact (below_size (by repeat (first|(with_reducible first|exact HB.out|apply ba|apply bb|apply bc)|exact HB.out))) : w.heap.size ≤ gb145));have n3_:=A_ ((by rw [hg];exact (below_size (by repeat (first|(with_reducible first|exact HB.out|apply ba|apply bb|apply bc)|exact HB.out))) : w.heap.size ≤ gb145));clear HB;have HB:=n0_;have BK145:=n1_;have GW145:=n2_;have GE145:=n3_;clear n0_ n1_ n2_ n3_;clear hb hbox hg;have hcz19_0 : w18.cell? ⟨gb145,0,none⟩ = some (.int .i64 a0_0):=(blk_cell BK145.out 0).trans rfl;have hcz19_1 : w18.cell? ⟨gb145,1,none⟩ = some (.int .i64 a0_1):=(blk_cell BK145.out 1).trans rfl;have hcz19_2 : w18.cell? ⟨gb145,2,none⟩ = some (.int .i64 a0_2):=(blk_cell BK145.out 2).trans rfl;have hfz19_0:=blk_frozen BK145.out 0;have hfz19_1:=blk_frozen BK145.out 1;have hfz19_2:=blk_frozen BK145.out 2))
       go_ret
       exact ⟨by first|rfl|(simp [errW_none,errW_some] <;> rfl)|(simp [*,errW_none,errW_some] <;> rfl),by repeat (first|(with_reducible first|exact HB.out|apply ba|apply bb|apply bc|refine below_set ?_ GE145.out)|exact HB.out)⟩
      ·
       rw [if_neg c17] at H
       have c17b0 : decide ((wrap64 (1000000 * a0_0)) < a0_2) = false:=decide_eq_false c17
       clear c17
       obtain ⟨ji20,hji20⟩ : ∃ j_ : Int,(mx 0 (wrap64 ((wrap64 (a0_0 * a0_2)) - (wrap64 (a0_1 * a0_1))))) = j_:=⟨_,rfl⟩
       replace H : (some ji20) = some r:=by first|(rw [hji20] at H;exact H)|(simp only [hji20] at H ⊢;exact H)
       (try (have hji20l : 0 ≤ ji20:=by (rw [← hji20];unfold mx;(repeat' split) <;> omega)))
       (try (have hji20m : 0 ≤ ji20:=by omega))
       have hji20_ : (if 0 < (wrap64 ((wrap64 (a0_0 * a0_2)) - (wrap64 (a0_1 * a0_1)))) then (wrap64 ((wrap64 (a0_0 * a0_2)) - (wrap64 (a0_1 * a0_1)))) else 0) = ji20:=hji20
       obtain rfl:=Option.some.inj H
       go_enter Try.func78,Try.ntmps78
       go_wp2_with (first|((with_reducible refine gate_dst (N:=1) rfl ?_);refine box_event ?hg (N:=1) ?hd (cs:=#[.int .i64 a0_0,.int .i64 a0_1,.int .i64 a0_2]) (t:=88) ?hr ?_;(case hd=>rfl);(case hg=>rfl);(case hr=>first|(go_simp;done)|(go_simp;rfl));intro gb145 hg w21 hbox hb;have n0_:=A_ (below_step (by repeat (first|(with_reducible first|exact HB.out|apply ba|apply bb|apply bc)|exact HB.out)) hb);have n1_:=A_ (hbox);have n2_:=A_ ((by rw [hg];exact (below_size (by repeat (first|(with_reducible first|exact HB.out|apply ba|apply bb|apply bc)|exact HB.out))) : w.heap.size ≤ gb145));have n3_:=A_ ((by rw [hg];exact (below_size (by repeat (first|(with_reducible first|exact HB.out|apply ba|apply bb|apply bc)|exact HB.out))) : w.heap.size ≤ gb145));clear HB;have HB:=n0_;have BK145:=n1_;have GW145:=n2_;have GE145:=n3_;clear n0_ n1_ n2_ n3_;clear hb hbox hg;have hcz22_0 : w21.cell? ⟨gb145,0,none⟩ = some (.int .i64 a0_0):=(blk_cell BK145.out 0).trans rfl;have hcz22_1 : w21.cell? ⟨gb145,1,none⟩ = some (.int .i64 a0_1):=(blk_cell BK145.out 1).trans rfl;have hcz22_2 : w21.cell? ⟨gb145,2,none⟩ = some (.int .i64 a0_2):=(blk_cell BK145.out 2).trans rfl;have hfz22_0:=blk_frozen BK145.out 0;have hfz22_1:=blk_frozen BK145.out 1;have hfz22_2:=blk_frozen BK145.out 2))
       go_ret
       exact ⟨by first|rfl|(simp [errW_none,errW_some] <;> rfl)|(simp only [← hji20];first|rfl|(simp [errW_none,errW_some] <;> rfl))|(simp [*,errW_none,errW_some] <;> rfl),by repeat (first|(with_reducible first|exact HB.out|apply ba|apply bb|apply bc|refine below_set ?_ GE145.out)|exact HB.out)⟩

end Go.Proofs.Ytodipcfbgnljeaa.PChannelsGreatest
