/- This file proves, function by function, what the Go functions that one law uses compute; most of it was printed by a program (wip/tools of this session, over the kit's print). -/
import Derived.Test.YtodipcfbgnljeaaPChannelsPathsx0
import Derived.Test.YtodipcfbgnljeaaPChannelsPathsx3
namespace Go.Proofs.Ytodipcfbgnljeaa.PChannelsPaths
open Go.RowKit Go.Proofs.YtodipcfbgnljeaaW.PrintWords Go.Proofs.YtodipcfbgnljeaaW.PrintLast Go.Proofs.YtodipcfbgnljeaaW.PrintMore
attribute [local go_sem] max2_int min2_int max_two min_two max_three min_three max_four min_four   -- for this text's walks alone
set_option linter.unusedVariables false
set_option linter.unusedSimpArgs false

/-! ### channels_proper: function 55 -/
mutual
def channels_proper.l0 : Nat → Int → List (List (List Int)) → Int → Int → Option (Int)
 | 0,_,_,_,_=>none
 | k + 1,x5,x14,x15,x16=>if x16 < x15 then (if 0 ≤ x16 then (if x16 < (x14.length : Int) then (channels_proper.l1 k x5 x14 x15 x16 (rd_L2 x14 x16) ((rd_L2 x14 x16).length : Int) 0) else (none)) else (none)) else (some x5)
def channels_proper.l1 : Nat → Int → List (List (List Int)) → Int → Int → List (List Int) → Int → Int → Option (Int)
 | 0,_,_,_,_,_,_,_=>none
 | k + 1,x5,x14,x15,x16,x20,x21,x22=>if x22 < x21 then (if 0 ≤ x22 then (if x22 < (x20.length : Int) then ((euclid_Distance.f k (rd_L1 x20 x22) (rd_L1 x20 x22)).bind fun bt245=>(if bt245.2 = 8 then (some bt245.2) else (channels_proper.l1 k (mx x5 bt245.2) x14 x15 x16 x20 x21 (wrap64 (x22 + 1))))) else (none)) else (none)) else (channels_proper.l0 k x5 x14 x15 (wrap64 (x16 + 1)))
end
def channels_proper.f (k : Nat) (l0 : List (List Int)) (l1 : List (List Int)) : Option (Int):=(some (([l0,l1] : List (List (List Int))) : List (List (List Int)))).bind fun y239=>(channels_proper.l0 k 0 y239 (y239.length : Int) 0)
theorem channels_proper.mono_l : ∀ k,(∀ y0 y1 y2 y3,LeO (channels_proper.l0 k y0 y1 y2 y3) (channels_proper.l0 (k + 1) y0 y1 y2 y3))∧(∀ y0 y1 y2 y3 y4 y5 y6,LeO (channels_proper.l1 k y0 y1 y2 y3 y4 y5 y6) (channels_proper.l1 (k + 1) y0 y1 y2 y3 y4 y5 y6))
 | 0=>⟨fun _ _ _ _ r h=>by simp [channels_proper.l0] at h,fun _ _ _ _ _ _ _ r h=>by simp [channels_proper.l1] at h⟩
 | k + 1=>by
  obtain ⟨ih0,ih1⟩:=channels_proper.mono_l k
  refine ⟨?_,?_⟩
  ·
   intro y0 y1 y2 y3
   unfold channels_proper.l0
   repeat' first
   | (with_reducible exact ih0 _ _ _ _)
   | (with_reducible exact ih1 _ _ _ _ _ _ _)
   | (with_reducible exact euclid_Distance.mono _ _ _)
   | (with_reducible exact LeO.refl _)
   | (with_reducible exact LeO.none _)
   | (with_reducible refine LeO.ite ?_ ?_)
   | (with_reducible refine LeO.bind ?_ (fun _=>?_))
   | exact ih0 _ _ _ _
   | exact ih1 _ _ _ _ _ _ _
   | exact euclid_Distance.mono _ _ _
   | exact LeO.none _
   | refine LeO.ite ?_ ?_
   | refine LeO.bind ?_ (fun _=>?_)
  ·
   intro y0 y1 y2 y3 y4 y5 y6
   unfold channels_proper.l1
   repeat' first
   | (with_reducible exact ih0 _ _ _ _)
   | (with_reducible exact ih1 _ _ _ _ _ _ _)
   | (with_reducible exact euclid_Distance.mono _ _ _)
   | (with_reducible exact LeO.refl _)
   | (with_reducible exact LeO.none _)
   | (with_reducible refine LeO.ite ?_ ?_)
   | (with_reducible refine LeO.bind ?_ (fun _=>?_))
   | exact ih0 _ _ _ _
   | exact ih1 _ _ _ _ _ _ _
   | exact euclid_Distance.mono _ _ _
   | exact LeO.none _
   | refine LeO.ite ?_ ?_
   | refine LeO.bind ?_ (fun _=>?_)
theorem channels_proper.mono : ∀ a0 a1 k,LeO (channels_proper.f k a0 a1) (channels_proper.f (k + 1) a0 a1):=by
 intro a0 a1 k
 obtain ⟨ih0,ih1⟩:=channels_proper.mono_l k
 unfold channels_proper.f
 repeat' first
   | (with_reducible exact ih0 _ _ _ _)
   | (with_reducible exact ih1 _ _ _ _ _ _ _)
   | (with_reducible exact euclid_Distance.mono _ _ _)
   | (with_reducible exact LeO.refl _)
   | (with_reducible exact LeO.none _)
   | (with_reducible refine LeO.ite ?_ ?_)
   | (with_reducible refine LeO.bind ?_ (fun _=>?_))
   | exact ih0 _ _ _ _
   | exact ih1 _ _ _ _ _ _ _
   | exact euclid_Distance.mono _ _ _
   | exact LeO.none _
   | refine LeO.ite ?_ ?_
   | refine LeO.bind ?_ (fun _=>?_)
set_option maxHeartbeats 8000000 in
set_option maxRecDepth 100000 in
theorem channels_proper.calls (k : Nat) (A0 : Option Addr) (c0 : Nat) (l0 : List (List Int)) (A1 : Option Addr) (c1 : Nat) (l1 : List (List Int)) (r : Int) (w : World) (hr0 : Kd.C (Kd.slice 3 (Kd.int .i64)) w A0 l0.length l0) (hc0 : l0.length ≤ c0) (hr1 : Kd.C (Kd.slice 3 (Kd.int .i64)) w A1 l1.length l1) (hc1 : l1.length ≤ c1) (h : channels_proper.f k l0 l1 = some r) :
  Calls Try.prog 55 #[.slice A0 l0.length c0,.slice A1 l1.length c1] w fun e w'=>e = .returned (.int .i64 r)∧Below w.heap.size w w':=by
 have HR0:=A_ hr0
 have HC0:=A_ hc0
 clear hr0 hc0
 have HR1:=A_ hr1
 have HC1:=A_ hc1
 clear hr1 hc1
 have HB:=A_ (Below.refl w.heap.size w)
 have H : ((some (([l0,l1] : List (List (List Int))) : List (List (List Int)))).bind fun y239=>(channels_proper.l0 k 0 y239 (y239.length : Int) 0)) = some r:=h
 clear h
 obtain ⟨y239,hy239⟩ : ∃ y_ : List (List (List Int)),y_ = (([l0,l1] : List (List (List Int)))):=⟨_,rfl⟩
 replace H : (channels_proper.l0 k 0 y239 (y239.length : Int) 0) = some r:=by first|(rw [hy239];with_reducible exact H)|(have H2_:=(Option.bind_some _ _).symm.trans H;rw [hy239];with_reducible exact H2_)|(have H2_:=(Option.bind_some _ _).symm.trans H;with_reducible exact H2_)|with_reducible exact H|(rw [hy239];exact H)|exact H
 have Ny239:=A_ hy239
 clear hy239
 have H':=A_ H
 clear H
 go_enter Try.func55,Try.ntmps55
 go_wp2_with (first|((with_reducible refine gate_dst (N:=14) rfl ?_);refine lit_seen 23 ?hg (xs:=y239) (ys:=([l0,l1] : List (List (List Int)))) (inner:=[.slice A0 l0.length c0,.slice A1 l1.length c1]) Ny239.out ?hr ?_;(case hg=>rfl);(case hr=>first|(go_simp;done)|(go_simp;rfl));intro Ao4 co4 w3 hlc_ hk_ hb;have hrep_:=(Reps.one (show Kd.K (Kd.slice 22 (Kd.slice 3 (Kd.int .i64))) w3 l0 [.slice A0 l0.length c0] from ⟨_,_,rfl,HC0.out,cl (w:=w) (by repeat (first|exact HR0.out|(with_reducible refine ca ?_ _)|(with_reducible refine cb ?_ _)|(with_reducible refine cc ?_))) hb⟩) (Reps.one (show Kd.K (Kd.slice 22 (Kd.slice 3 (Kd.int .i64))) w3 l1 [.slice A1 l1.length c1] from ⟨_,_,rfl,HC1.out,cl (w:=w) (by repeat (first|exact HR1.out|(with_reducible refine ca ?_ _)|(with_reducible refine cb ?_ _)|(with_reducible refine cc ?_))) hb⟩) (Reps.none _ _)));have hC_:=lit_C (Kd.slice 22 (Kd.slice 3 (Kd.int .i64))) (xs:=y239) hk_ (by rw [Ny239.out];exact hrep_) (by rw [Ny239.out];first|decide|simp);clear hk_ hrep_;have n0_:=A_ (below_step (by repeat (first|(with_reducible first|exact HB.out|apply ba|apply bb|apply bc)|exact HB.out)) hb);clear HB;have HB:=n0_;clear n0_;have HR242:=A_ hC_;have HC242:=A_ hlc_;clear hC_ hlc_ hb))
 go_loopg [5,16] k (fun kq v5 v16 w'=>∃ (x5_1 : Int) (x16_1 : Int),v5 = .int .i64 x5_1∧v16 = .int .i64 x16_1∧Aside0 (channels_proper.l0 kq x5_1 y239 (y239.length : Int) x16_1 = some r)∧Aside0 (kq ≤ k)∧Aside0 (Kd.C (Kd.slice 22 (Kd.slice 3 (Kd.int .i64))) w' Ao4 y239.length y239)∧Aside0 (Below w.heap.size w w'))
 case atStart=>exact ⟨(0),(0),(by first|rfl|(simp;done)|(simp [*];done)),(by first|rfl|(simp;done)|(simp [*];done)),H',⟨Nat.le_refl _⟩,⟨by repeat (first|(with_reducible exact HR242.out)|(with_reducible refine ca ?_ _)|(with_reducible refine cb ?_ _)|(with_reducible refine cc ?_)|exact HR242.out)⟩,⟨by repeat (first|(with_reducible first|exact HB.out|apply ba|apply bb|apply bc)|exact HB.out)⟩⟩
 case round =>
  clear H'
  try clear c1
  try clear p2
  obtain ⟨x5_1,x16_1,rfl,rfl,HA,HK1,HR242,HB⟩:=hrel
  cases gk with
  | zero=>exact absurd HA.out (by simp [channels_proper.l0])
  | succ k1 =>
   have H:=HA.out
   clear HA
   simp only [channels_proper.l0] at H
   by_cases c5 : x16_1 < (y239.length : Int)
   ·
    rw [if_pos c5] at H
    have c5b0 : decide (x16_1 < (y239.length : Int)) = true:=decide_eq_true c5
    clear c5
    by_cases c6 : 0 ≤ x16_1
    ·
     rw [if_pos c6] at H
     have c6b0 : decide (0 ≤ x16_1) = true:=decide_eq_true c6
     clear c6
     by_cases c7 : x16_1 < (y239.length : Int)
     ·
      rw [if_pos c7] at H
      have c7b0 : decide (x16_1 < (y239.length : Int)) = true:=decide_eq_true c7
      clear c7
      have H':=A_ H
      clear H
      have p243 : 0 ≤ (x16_1 : Int):=of_decide_eq_true (by first|(with_reducible assumption)|assumption)
      have q243 : x16_1 < (y239.length : Int):=of_decide_eq_true (by first|(with_reducible assumption)|assumption)
      obtain ⟨ad243,A243_0,c243_0,e243,hx243_0,hl243_0,hi243_0⟩:=at_L2 HR242.out x16_1 p243 q243
      cases e243
      have HR243_0:=A_ hi243_0
      have HC243_0:=A_ hl243_0
      clear hi243_0 hl243_0
      replace p243:=eq_true p243
      replace q243:=eq_true q243
      go_wp2
      go_loopg [5,22] k1 (fun kq v5 v22 w'=>∃ (x5_2 : Int) (x22_2 : Int),v5 = .int .i64 x5_2∧v22 = .int .i64 x22_2∧Aside0 (channels_proper.l1 kq x5_2 y239 (y239.length : Int) x16_1 (rd_L2 y239 x16_1) ((rd_L2 y239 x16_1).length : Int) x22_2 = some r)∧Aside0 (kq ≤ k1)∧Aside0 (Kd.C (Kd.slice 22 (Kd.slice 3 (Kd.int .i64))) w' (some ad243) y239.length y239)∧Aside0 (Kd.C (Kd.slice 3 (Kd.int .i64)) w' A243_0 (rd_L2 y239 x16_1).length (rd_L2 y239 x16_1))∧Aside0 (Below w.heap.size w w'))
      case atStart=>exact ⟨(x5_1),(0),(by first|rfl|(simp;done)|(simp [*];done)),(by first|rfl|(simp;done)|(simp [*];done)),H',⟨Nat.le_refl _⟩,⟨by repeat (first|(with_reducible exact HR242.out)|(with_reducible refine ca ?_ _)|(with_reducible refine cb ?_ _)|(with_reducible refine cc ?_)|exact HR242.out)⟩,⟨by repeat (first|(with_reducible exact HR243_0.out)|(with_reducible refine ca ?_ _)|(with_reducible refine cb ?_ _)|(with_reducible refine cc ?_)|exact HR243_0.out)⟩,⟨by repeat (first|(with_reducible first|exact HB.out|apply ba|apply bb|apply bc)|exact HB.out)⟩⟩
      case round =>
       clear H'
       try clear c1
       try clear c2
       try clear p2
       try clear q2
       try clear hx2
       try clear c5
       try clear c5b0
       try clear c6
       try clear c6b0
       try clear c7
       try clear c7b0
       try clear hx243_0
       try clear p2
       try clear p243
       try clear q243
       obtain ⟨x5_2,x22_2,rfl,rfl,HA,HK2,HR242,HR243_0,HB⟩:=hrel
       cases gk with
       | zero=>exact absurd HA.out (by simp [channels_proper.l1])
       | succ k2 =>
        have H:=HA.out
        clear HA
        simp only [channels_proper.l1] at H
        by_cases c8 : x22_2 < ((rd_L2 y239 x16_1).length : Int)
        ·
         rw [if_pos c8] at H
         have c8b0 : decide (x22_2 < ((rd_L2 y239 x16_1).length : Int)) = true:=decide_eq_true c8
         clear c8
         by_cases c9 : 0 ≤ x22_2
         ·
          rw [if_pos c9] at H
          have c9b0 : decide (0 ≤ x22_2) = true:=decide_eq_true c9
          clear c9
          by_cases c10 : x22_2 < ((rd_L2 y239 x16_1).length : Int)
          ·
           rw [if_pos c10] at H
           have c10b0 : decide (x22_2 < ((rd_L2 y239 x16_1).length : Int)) = true:=decide_eq_true c10
           clear c10
           replace H:=Option.bind_eq_some_iff.mp H
           obtain ⟨⟨t245,t246⟩,A110,H⟩:=H
           replace H : (if t246 = 8 then (some t246) else (channels_proper.l1 k2 (mx x5_2 t246) y239 (y239.length : Int) x16_1 (rd_L2 y239 x16_1) ((rd_L2 y239 x16_1).length : Int) (wrap64 (x22_2 + 1)))) = some r:=H
           have A11:=A_ A110
           clear A110
           by_cases c12 : t246 = 8
           ·
            rw [if_pos c12] at H
            have c12b0 : (t246 == 8) = true:=beq_iff_eq.mpr c12
            have c12b1 : (t246 != 8) = false:=bne_eq_false_iff_eq.mpr c12
            clear c12
            obtain rfl:=Option.some.inj H
            have p244 : 0 ≤ (x22_2 : Int):=of_decide_eq_true (by first|(with_reducible assumption)|assumption)
            have q244 : x22_2 < ((rd_L2 y239 x16_1).length : Int):=of_decide_eq_true (by first|(with_reducible assumption)|assumption)
            obtain ⟨ad244,A244_0,c244_0,e244,hx244_0,hl244_0,hi244_0⟩:=at_L1 HR243_0.out x22_2 p244 q244
            cases e244
            have HR244_0:=A_ hi244_0
            have HC244_0:=A_ hl244_0
            clear hi244_0 hl244_0
            replace p244:=eq_true p244
            replace q244:=eq_true q244
            go_wp2_with (first|((with_reducible refine gate_callee (f:=61) rfl ?_);refine goesL_ (some 29) rfl rfl Try.func61 (by kernel_rfl) rfl #[.slice A244_0 (rd_L1 (rd_L2 y239 x16_1) x22_2).length c244_0,.slice A244_0 (rd_L1 (rd_L2 y239 x16_1) x22_2).length c244_0] rfl (by (try simp only [List.map_toArray,List.map_cons,List.map_nil]);first|done|rfl|(simp only [List.length_drop,List.length_take];rfl)) ?_;(with_reducible refine (euclid_Distance.calls k2 _ _ (rd_L1 (rd_L2 y239 x16_1) x22_2) _ _ (rd_L1 (rd_L2 y239 x16_1) x22_2) t245 t246 _ ?side1 ?side2 ?side3 ?side4 A11.out).mono ?_);(case side1=>repeat (first|exact HR244_0.out|(with_reducible refine ca ?_ _)|(with_reducible refine cb ?_ _)|(with_reducible refine cc ?_)));(case side2=>exact HC244_0.out);(case side3=>repeat (first|exact HR244_0.out|(with_reducible refine ca ?_ _)|(with_reducible refine cb ?_ _)|(with_reducible refine cc ?_)));(case side4=>exact HC244_0.out);rintro e w' ⟨rfl,⟨nd,rfl⟩⟩;refine ⟨_,rfl,?_⟩))
            go_ret
            exact ⟨by first|rfl|(simp [errW_none,errW_some] <;> rfl)|(simp [*,errW_none,errW_some] <;> rfl),by repeat (first|(with_reducible first|exact HB.out|apply ba|apply bb|apply bc)|exact HB.out)⟩
           ·
            rw [if_neg c12] at H
            have c12b0 : (t246 == 8) = false:=beq_eq_false_iff_ne.mpr c12
            have c12b1 : (t246 != 8) = true:=bne_iff_ne.mpr c12
            obtain ⟨ji13,hji13⟩ : ∃ j_ : Int,(mx x5_2 t246) = j_:=⟨_,rfl⟩
            replace H : (channels_proper.l1 k2 ji13 y239 (y239.length : Int) x16_1 (rd_L2 y239 x16_1) ((rd_L2 y239 x16_1).length : Int) (wrap64 (x22_2 + 1))) = some r:=by first|(rw [hji13] at H;exact H)|(simp only [hji13] at H ⊢;exact H)
            (try rw [hji13] at A11)
            have hji13_ : (if x5_2 < t246 then t246 else x5_2) = ji13:=hji13
            have H':=A_ H
            clear H
            have p244 : 0 ≤ (x22_2 : Int):=of_decide_eq_true (by first|(with_reducible assumption)|assumption)
            have q244 : x22_2 < ((rd_L2 y239 x16_1).length : Int):=of_decide_eq_true (by first|(with_reducible assumption)|assumption)
            obtain ⟨ad244,A244_0,c244_0,e244,hx244_0,hl244_0,hi244_0⟩:=at_L1 HR243_0.out x22_2 p244 q244
            cases e244
            have HR244_0:=A_ hi244_0
            have HC244_0:=A_ hl244_0
            clear hi244_0 hl244_0
            replace p244:=eq_true p244
            replace q244:=eq_true q244
            go_wp2_with (first|((with_reducible refine gate_callee (f:=61) rfl ?_);refine goesL_ (some 29) rfl rfl Try.func61 (by kernel_rfl) rfl #[.slice A244_0 (rd_L1 (rd_L2 y239 x16_1) x22_2).length c244_0,.slice A244_0 (rd_L1 (rd_L2 y239 x16_1) x22_2).length c244_0] rfl (by (try simp only [List.map_toArray,List.map_cons,List.map_nil]);first|done|rfl|(simp only [List.length_drop,List.length_take];rfl)) ?_;(with_reducible refine (euclid_Distance.calls k2 _ _ (rd_L1 (rd_L2 y239 x16_1) x22_2) _ _ (rd_L1 (rd_L2 y239 x16_1) x22_2) t245 t246 _ ?side1 ?side2 ?side3 ?side4 A11.out).mono ?_);(case side1=>repeat (first|exact HR244_0.out|(with_reducible refine ca ?_ _)|(with_reducible refine cb ?_ _)|(with_reducible refine cc ?_)));(case side2=>exact HC244_0.out);(case side3=>repeat (first|exact HR244_0.out|(with_reducible refine ca ?_ _)|(with_reducible refine cb ?_ _)|(with_reducible refine cc ?_)));(case side4=>exact HC244_0.out);rintro e w' ⟨rfl,⟨nd,rfl⟩⟩;refine ⟨_,rfl,?_⟩))
            go_roundg k2
            case measure=>have:=HK1.out;have:=HK2.out;omega
            case rel=>exact ⟨(ji13),(wrap64 (x22_2 + 1)),(by first|rfl|(simp;done)|(simp only [← hji13] <;> (first|rfl|simp))|(simp [*];done)),(by first|rfl|(simp;done)|(simp [*];done)),H',⟨by have:=HK1.out;have:=HK2.out;omega⟩,⟨by repeat (first|(with_reducible exact HR242.out)|(with_reducible refine ca ?_ _)|(with_reducible refine cb ?_ _)|(with_reducible refine cc ?_)|exact HR242.out)⟩,⟨by repeat (first|(with_reducible exact HR243_0.out)|(with_reducible refine ca ?_ _)|(with_reducible refine cb ?_ _)|(with_reducible refine cc ?_)|exact HR243_0.out)⟩,⟨by repeat (first|(with_reducible first|exact HB.out|apply ba|apply bb|apply bc)|exact HB.out)⟩⟩
          ·
           rw [if_neg c10] at H
           exact absurd H (by simp)
         ·
          rw [if_neg c9] at H
          exact absurd H (by simp)
        ·
         rw [if_neg c8] at H
         have c8b0 : decide (x22_2 < ((rd_L2 y239 x16_1).length : Int)) = false:=decide_eq_false c8
         clear c8
         have H':=A_ H
         clear H
         go_wp2
         go_roundg k2
         case measure=>have:=HK1.out;have:=HK2.out;omega
         case rel=>exact ⟨(x5_2),(wrap64 (x16_1 + 1)),(by first|rfl|(simp;done)|(simp [*];done)),(by first|rfl|(simp;done)|(simp [*];done)),H',⟨by have:=HK1.out;have:=HK2.out;omega⟩,⟨by repeat (first|(with_reducible exact HR242.out)|(with_reducible refine ca ?_ _)|(with_reducible refine cb ?_ _)|(with_reducible refine cc ?_)|exact HR242.out)⟩,⟨by repeat (first|(with_reducible first|exact HB.out|apply ba|apply bb|apply bc)|exact HB.out)⟩⟩
     ·
      rw [if_neg c7] at H
      exact absurd H (by simp)
    ·
     rw [if_neg c6] at H
     exact absurd H (by simp)
   ·
    rw [if_neg c5] at H
    have c5b0 : decide (x16_1 < (y239.length : Int)) = false:=decide_eq_false c5
    clear c5
    obtain rfl:=Option.some.inj H
    go_wp2
    go_ret
    exact ⟨by first|rfl|(simp [errW_none,errW_some] <;> rfl)|(simp [*,errW_none,errW_some] <;> rfl),by repeat (first|(with_reducible first|exact HB.out|apply ba|apply bb|apply bc)|exact HB.out)⟩

/-! ### channels_even: function 56 -/
def channels_even.l0 : Nat → List (List Int) → List (List Int) → Int → Int → Option (Bool)
 | 0,_,_,_,_=>none
 | k + 1,x0,x5,x6,x7=>if x7 < x6 then (if 0 ≤ x7 then (if x7 < (x5.length : Int) then (if 0 < (x0.length : Int) then (if ((rd_L1 x5 x7).length : Int) = ((rd_L1 x0 0).length : Int) then (channels_even.l0 k x0 x5 x6 (wrap64 (x7 + 1))) else (some false)) else (none)) else (none)) else (none)) else (some true)
def channels_even.f (k : Nat) (l0 : List (List Int)) : Option (Bool):=channels_even.l0 k l0 l0 (l0.length : Int) 0
theorem channels_even.mono_l : ∀ k,(∀ y0 y1 y2 y3,LeO (channels_even.l0 k y0 y1 y2 y3) (channels_even.l0 (k + 1) y0 y1 y2 y3))
 | 0=>fun _ _ _ _ r h=>by simp [channels_even.l0] at h
 | k + 1=>by
  have ih0:=channels_even.mono_l k
  ·
   intro y0 y1 y2 y3
   unfold channels_even.l0
   repeat' first
   | (with_reducible exact ih0 _ _ _ _)
   | (with_reducible exact LeO.refl _)
   | (with_reducible exact LeO.none _)
   | (with_reducible refine LeO.ite ?_ ?_)
   | (with_reducible refine LeO.bind ?_ (fun _=>?_))
   | exact ih0 _ _ _ _
   | exact LeO.none _
   | refine LeO.ite ?_ ?_
   | refine LeO.bind ?_ (fun _=>?_)
theorem channels_even.mono : ∀ a0 k,LeO (channels_even.f k a0) (channels_even.f (k + 1) a0):=by
 intro a0 k
 have ih0:=channels_even.mono_l k
 unfold channels_even.f
 repeat' first
   | (with_reducible exact ih0 _ _ _ _)
   | (with_reducible exact LeO.refl _)
   | (with_reducible exact LeO.none _)
   | (with_reducible refine LeO.ite ?_ ?_)
   | (with_reducible refine LeO.bind ?_ (fun _=>?_))
   | exact ih0 _ _ _ _
   | exact LeO.none _
   | refine LeO.ite ?_ ?_
   | refine LeO.bind ?_ (fun _=>?_)
set_option maxHeartbeats 8000000 in
set_option maxRecDepth 100000 in
theorem channels_even.calls (k : Nat) (A0 : Option Addr) (c0 : Nat) (l0 : List (List Int)) (r : Bool) (w : World) (hr0 : Kd.C (Kd.slice 3 (Kd.int .i64)) w A0 l0.length l0) (hc0 : l0.length ≤ c0) (h : channels_even.f k l0 = some r) :
  Calls Try.prog 56 #[.slice A0 l0.length c0] w fun e w'=>e = .returned (.bool r)∧Drawn0 w w':=by
 have HR0:=A_ hr0
 have HC0:=A_ hc0
 clear hr0 hc0
 have H : (channels_even.l0 k l0 l0 (l0.length : Int) 0) = some r:=h
 clear h
 have H':=A_ H
 clear H
 go_enter Try.func56,Try.ntmps56
 go_wp2
 go_loopg [7] k (fun kq v7 w'=>∃ (x7_1 : Int),v7 = .int .i64 x7_1∧Aside0 (channels_even.l0 kq l0 l0 (l0.length : Int) x7_1 = some r)∧Aside0 (kq ≤ k)∧Drawn0 w w')
 case atStart=>exact ⟨(0),(by first|rfl|(simp;done)|(simp [*];done)),H',⟨Nat.le_refl _⟩,by repeat (first|exact Drawn0.refl _|apply Drawn0.step)⟩
 case round =>
  clear H'
  obtain ⟨x7_1,rfl,HA,HK1,⟨m1,rfl⟩⟩:=hrel
  cases gk with
  | zero=>exact absurd HA.out (by simp [channels_even.l0])
  | succ k1 =>
   have H:=HA.out
   clear HA
   simp only [channels_even.l0] at H
   by_cases c2 : x7_1 < (l0.length : Int)
   ·
    rw [if_pos c2] at H
    have c2b0 : decide (x7_1 < (l0.length : Int)) = true:=decide_eq_true c2
    clear c2
    by_cases c3 : 0 ≤ x7_1
    ·
     rw [if_pos c3] at H
     have c3b0 : decide (0 ≤ x7_1) = true:=decide_eq_true c3
     clear c3
     by_cases c4 : x7_1 < (l0.length : Int)
     ·
      rw [if_pos c4] at H
      have c4b0 : decide (x7_1 < (l0.length : Int)) = true:=decide_eq_true c4
      clear c4
      by_cases c5 : 0 < (l0.length : Int)
      ·
       rw [if_pos c5] at H
       have c5b0 : decide (0 < (l0.length : Int)) = true:=decide_eq_true c5
       have c5b1 : decide (0 < l0.length) = true:=decide_eq_true (by omega)
       clear c5
       by_cases c6 : ((rd_L1 l0 x7_1).length : Int) = ((rd_L1 l0 0).length : Int)
       ·
        rw [if_pos c6] at H
        have c6b0 : (((rd_L1 l0 x7_1).length : Int) == ((rd_L1 l0 0).length : Int)) = true:=beq_iff_eq.mpr c6
        have c6b1 : (((rd_L1 l0 x7_1).length : Int) != ((rd_L1 l0 0).length : Int)) = false:=bne_eq_false_iff_eq.mpr c6
        have c6b2 : ((rd_L1 l0 x7_1).length == (rd_L1 l0 0).length) = true:=by first|simpa using c6|(simp at c6 ⊢;omega)
        clear c6
        have H':=A_ H
        clear H
        have p247 : 0 ≤ (x7_1 : Int):=of_decide_eq_true (by first|(with_reducible assumption)|assumption)
        have q247 : x7_1 < (l0.length : Int):=of_decide_eq_true (by first|(with_reducible assumption)|assumption)
        obtain ⟨ad247,A247_0,c247_0,e247,hx247_0,hl247_0,hi247_0⟩:=at_L1 HR0.out x7_1 p247 q247
        cases e247
        have HR247_0:=A_ hi247_0
        have HC247_0:=A_ hl247_0
        clear hi247_0 hl247_0
        replace p247:=eq_true p247
        replace q247:=eq_true q247
        have p248 : 0 ≤ (0 : Int):=(by omega)
        have q248 : 0 < (l0.length : Int):=of_decide_eq_true (by first|(with_reducible assumption)|assumption)
        obtain ⟨ad248,A248_0,c248_0,e248,hx248_0,hl248_0,hi248_0⟩:=at_L1 HR0.out 0 p248 q248
        obtain rfl : ad247 = ad248:=(by injection e248)
        have qi248 : (0 < l0.length) = True:=eq_true (by omega)
        (try rw [show ((0 : Int)).toNat = 0 from rfl] at hx248_0)
        (try rw [Addr.add_zero'] at hx248_0)
        have HR248_0:=A_ hi248_0
        have HC248_0:=A_ hl248_0
        clear hi248_0 hl248_0
        replace p248:=eq_true p248
        replace q248:=eq_true q248
        go_wp2
        go_roundg k1
        case measure=>have:=HK1.out;omega
        case rel=>exact ⟨(wrap64 (x7_1 + 1)),(by first|rfl|(simp;done)|(simp [*];done)),H',⟨by have:=HK1.out;omega⟩,by repeat (first|exact Drawn0.refl _|apply Drawn0.step)⟩
       ·
        rw [if_neg c6] at H
        have c6b0 : (((rd_L1 l0 x7_1).length : Int) == ((rd_L1 l0 0).length : Int)) = false:=beq_eq_false_iff_ne.mpr c6
        have c6b1 : (((rd_L1 l0 x7_1).length : Int) != ((rd_L1 l0 0).length : Int)) = true:=bne_iff_ne.mpr c6
        have c6b2 : ((rd_L1 l0 x7_1).length == (rd_L1 l0 0).length) = false:=by first|simpa using c6|(simp at c6 ⊢;omega)
        obtain rfl:=Option.some.inj H
        have p247 : 0 ≤ (x7_1 : Int):=of_decide_eq_true (by first|(with_reducible assumption)|assumption)
        have q247 : x7_1 < (l0.length : Int):=of_decide_eq_true (by first|(with_reducible assumption)|assumption)
        obtain ⟨ad247,A247_0,c247_0,e247,hx247_0,hl247_0,hi247_0⟩:=at_L1 HR0.out x7_1 p247 q247
        cases e247
        have HR247_0:=A_ hi247_0
        have HC247_0:=A_ hl247_0
        clear hi247_0 hl247_0
        replace p247:=eq_true p247
        replace q247:=eq_true q247
        have p248 : 0 ≤ (0 : Int):=(by omega)
        have q248 : 0 < (l0.length : Int):=of_decide_eq_true (by first|(with_reducible assumption)|assumption)
        obtain ⟨ad248,A248_0,c248_0,e248,hx248_0,hl248_0,hi248_0⟩:=at_L1 HR0.out 0 p248 q248
        obtain rfl : ad247 = ad248:=(by injection e248)
        have qi248 : (0 < l0.length) = True:=eq_true (by omega)
        (try rw [show ((0 : Int)).toNat = 0 from rfl] at hx248_0)
        (try rw [Addr.add_zero'] at hx248_0)
        have HR248_0:=A_ hi248_0
        have HC248_0:=A_ hl248_0
        clear hi248_0 hl248_0
        replace p248:=eq_true p248
        replace q248:=eq_true q248
        go_wp2
        go_ret
        exact ⟨by first|rfl|(simp;done)|(simp [*];done),by repeat (first|exact Drawn0.refl _|apply Drawn0.step)⟩
      ·
       rw [if_neg c5] at H
       exact absurd H (by simp)
     ·
      rw [if_neg c4] at H
      exact absurd H (by simp)
    ·
     rw [if_neg c3] at H
     exact absurd H (by simp)
   ·
    rw [if_neg c2] at H
    have c2b0 : decide (x7_1 < (l0.length : Int)) = false:=decide_eq_false c2
    clear c2
    obtain rfl:=Option.some.inj H
    go_wp2
    go_ret
    exact ⟨by first|rfl|(simp;done)|(simp [*];done),by repeat (first|exact Drawn0.refl _|apply Drawn0.step)⟩

/-! ### channels_check: function 32 -/
def channels_check.fit (l0 l1 : List (List Int)) (a2 : Int) : Prop:=l0.length = l1.length∧((rd_L1 l0 0).length : Int) - ((rd_L1 l1 0).length : Int) ≤ a2∧((rd_L1 l1 0).length : Int) - ((rd_L1 l0 0).length : Int) ≤ a2
instance (l0 l1 : List (List Int)) (a2 : Int) : Decidable (channels_check.fit l0 l1 a2) := by unfold channels_check.fit; infer_instance
def channels_check.f (k : Nat) (l0 : List (List Int)) (l1 : List (List Int)) (a2 : Int) : Option Int :=
 if a2 < 0 ∨ 32 < a2 then some 1 else (channels_count.f l0).bind fun b0=>(channels_count.f l1).bind fun b1=>if b0 = true∧b1 = true then ((channels_proper.f k l0 l1).bind fun e=>if e = 0 then
  ((channels_even.f k l0).bind fun v0=>(channels_even.f k l1).bind fun v1=>if v0 = true∧v1 = true∧channels_check.fit l0 l1 a2 then some 0 else some 8) else some e) else some 4
theorem channels_check.mono : ∀ a0 a1 a2 k,LeO (channels_check.f k a0 a1 a2) (channels_check.f (k + 1) a0 a1 a2):=by
 intro a0 a1 a2 k
 unfold channels_check.f
 refine LeO.ite (LeO.refl _) (LeO.bind (LeO.refl _) fun _=>LeO.bind (LeO.refl _) fun _=>LeO.ite (LeO.bind (channels_proper.mono _ _ _) fun _=>LeO.ite (LeO.bind (channels_even.mono _ _) fun _=>LeO.bind (channels_even.mono _ _) fun _=>LeO.refl _) (LeO.refl _)) (LeO.refl _))
set_option maxHeartbeats 8000000 in
set_option maxRecDepth 100000 in
theorem channels_check.calls (k : Nat) (A0 : Option Addr) (c0 : Nat) (l0 : List (List Int)) (A1 : Option Addr) (c1 : Nat) (l1 : List (List Int)) (a2 : Int) (r : Int) (w : World) (hr0 : Kd.C (Kd.slice 3 (Kd.int .i64)) w A0 l0.length l0) (hc0 : l0.length ≤ c0) (hr1 : Kd.C (Kd.slice 3 (Kd.int .i64)) w A1 l1.length l1) (hc1 : l1.length ≤ c1) (h : channels_check.f k l0 l1 a2 = some r) :
  Calls Try.prog 32 #[.slice A0 l0.length c0,.slice A1 l1.length c1,.int .i64 a2] w fun e w'=>e = .returned (.int .i64 r)∧Below w.heap.size w w':=by
 have HR0:=A_ hr0
 have HR1:=A_ hr1
 have HC0:=A_ hc0
 have HC1:=A_ hc1
 clear hr0 hr1 hc0 hc1
 unfold channels_check.f at h
 by_cases ha : a2 < 0 ∨ 32 < a2
 ·
  rw [if_pos ha] at h
  cases h
  by_cases h0 : a2 < 0
  ·
   have d0 : decide (a2 < 0) = true:=decide_eq_true h0
   clear ha
   go_enter Try.func32,Try.ntmps32
   go_wp2_with fail
   go_ret
   exact ⟨rfl,by repeat (first|(with_reducible first|exact Below.refl _ _|apply ba|apply bb|apply bc)|exact Below.refl _ _)⟩
  ·
   have d0 : decide (a2 < 0) = false:=decide_eq_false h0
   have d1 : decide (32 < a2) = true:=decide_eq_true (by omega)
   clear ha
   go_enter Try.func32,Try.ntmps32
   go_wp2_with fail
   go_ret
   exact ⟨rfl,by repeat (first|(with_reducible first|exact Below.refl _ _|apply ba|apply bb|apply bc)|exact Below.refl _ _)⟩
 rw [if_neg ha] at h
 have d0 : decide (a2 < 0) = false:=decide_eq_false (by omega)
 have d1 : decide (32 < a2) = false:=decide_eq_false (by omega)
 clear ha
 obtain ⟨b0,hb0,H1⟩:=Option.bind_eq_some_iff.mp h
 obtain ⟨b1,hb1,H2⟩:=Option.bind_eq_some_iff.mp H1
 clear h H1
 have HN0:=A_ (fun (W : World) (hW : Below w.heap.size w W)=>channels_count.calls A0 c0 l0 b0 W (cl HR0.out hW) HC0.out hb0)
 have HN1:=A_ (fun (W : World) (hW : Below w.heap.size w W)=>channels_count.calls A1 c1 l1 b1 W (cl HR1.out hW) HC1.out hb1)
 by_cases hbb : b0 = true∧b1 = true
 case neg =>
  rw [if_neg hbb] at H2
  cases H2
  go_enter Try.func32,Try.ntmps32
  cases b0 with
  | false =>
   clear hb0 hb1 hbb
   go_wp2_with (first|(go_at_call 54;with_reducible refine (HN0.out _ (by repeat (first|(with_reducible first|exact Below.refl _ _|apply ba|apply bb|apply bc)|exact Below.refl _ _))).mono ?_;rintro e w1 ⟨rfl,nd,rfl⟩))
   go_ret
   exact ⟨rfl,by repeat (first|(with_reducible first|exact Below.refl _ _|apply ba|apply bb|apply bc)|exact Below.refl _ _)⟩
  | true =>
   have e1 : b1 = false:=by cases b1 <;> simp_all
   subst e1
   clear hb0 hb1 hbb
   go_wp2_with (first|(go_at_call 54;with_reducible refine (HN0.out _ (by repeat (first|(with_reducible first|exact Below.refl _ _|apply ba|apply bb|apply bc)|exact Below.refl _ _))).mono ?_;rintro e w1 ⟨rfl,nd,rfl⟩)|(go_at_call 54;with_reducible refine (HN1.out _ (by repeat (first|(with_reducible first|exact Below.refl _ _|apply ba|apply bb|apply bc)|exact Below.refl _ _))).mono ?_;rintro e w1 ⟨rfl,nd2,rfl⟩))
   go_ret
   exact ⟨rfl,by repeat (first|(with_reducible first|exact Below.refl _ _|apply ba|apply bb|apply bc)|exact Below.refl _ _)⟩
 rw [if_pos hbb] at H2
 obtain ⟨rfl,rfl⟩:=hbb
 obtain ⟨e0,he0,H3⟩:=Option.bind_eq_some_iff.mp H2
 clear H2
 have HP:=A_ (fun (W : World) (hW : Below w.heap.size w W)=>channels_proper.calls k A0 c0 l0 A1 c1 l1 e0 W (cl HR0.out hW) HC0.out (cl HR1.out hW) HC1.out he0)
 have hl0 : 1 ≤ l0.length:=by
  unfold channels_count.f at hb0
  by_cases hg : (l0.length : Int) ≥ 1
  ·
   omega
  ·
   rw [if_neg hg] at hb0;cases hb0
 have hl1 : 1 ≤ l1.length:=by
  unfold channels_count.f at hb1
  by_cases hg : (l1.length : Int) ≥ 1
  ·
   omega
  ·
   rw [if_neg hg] at hb1;cases hb1
 clear hb0 hb1 he0
 go_enter Try.func32,Try.ntmps32
 by_cases h0 : e0 = 0
 case neg =>
  rw [if_neg h0] at H3
  have hn : (e0 != 0) = true:=bne_iff_ne.mpr h0
  clear h0
  cases H3
  go_wp2_with (first|(go_at_call 54;with_reducible refine (HN0.out _ (by repeat (first|(with_reducible first|exact Below.refl _ _|apply ba|apply bb|apply bc)|exact Below.refl _ _))).mono ?_;rintro e w1 ⟨rfl,nd,rfl⟩)|(go_at_call 54;with_reducible refine (HN1.out _ (by repeat (first|(with_reducible first|exact Below.refl _ _|apply ba|apply bb|apply bc)|exact Below.refl _ _))).mono ?_;rintro e w1 ⟨rfl,nd2,rfl⟩)|(go_at_call 55;refine (HP.out _ (by repeat (first|(with_reducible first|exact Below.refl _ _|apply ba|apply bb|apply bc)|exact Below.refl _ _))).mono ?_;rintro e w2 ⟨rfl,hb2⟩;have HB2:=A_ (show Below w.heap.size w w2 from below_step (by repeat (first|(with_reducible first|exact Below.refl _ _|apply ba|apply bb|apply bc)|exact Below.refl _ _)) hb2);clear hb2))
  go_ret
  exact ⟨rfl,HB2.out⟩
 rw [if_pos h0] at H3
 subst h0
 obtain ⟨v0,hv0,H4⟩:=Option.bind_eq_some_iff.mp H3
 obtain ⟨v1,hv1,H5⟩:=Option.bind_eq_some_iff.mp H4
 clear H3 H4
 have HE0:=A_ (fun (W : World) (hW : Below w.heap.size w W)=>channels_even.calls k A0 c0 l0 v0 W (cl HR0.out hW) HC0.out hv0)
 have HE1:=A_ (fun (W : World) (hW : Below w.heap.size w W)=>channels_even.calls k A1 c1 l1 v1 W (cl HR1.out hW) HC1.out hv1)
 clear hv0 hv1
 go_upto_region 8 with (first|(go_at_call 54;with_reducible refine (HN0.out _ (by repeat (first|(with_reducible first|exact Below.refl _ _|apply ba|apply bb|apply bc)|exact Below.refl _ _))).mono ?_;rintro e w1 ⟨rfl,nd,rfl⟩)|(go_at_call 54;with_reducible refine (HN1.out _ (by repeat (first|(with_reducible first|exact Below.refl _ _|apply ba|apply bb|apply bc)|exact Below.refl _ _))).mono ?_;rintro e w1 ⟨rfl,nd2,rfl⟩)|(go_at_call 55;refine (HP.out _ (by repeat (first|(with_reducible first|exact Below.refl _ _|apply ba|apply bb|apply bc)|exact Below.refl _ _))).mono ?_;rintro e w2 ⟨rfl,hb2⟩;have HB2:=A_ (show Below w.heap.size w w2 from below_step (by repeat (first|(with_reducible first|exact Below.refl _ _|apply ba|apply bb|apply bc)|exact Below.refl _ _)) hb2);clear hb2))
 have HQ0:=A_ (fun n_ : Nat=>Calls.quiet_of (n:=n_) (v:=.bool v0) ((HE0.out (w2.drewN n_) (pw_below_drewN HB2.out n_)).mono fun e w' ⟨h1,m,hm⟩=>⟨h1,m,hm⟩))
 have HQ1:=A_ (fun n_ : Nat=>Calls.quiet_of (n:=n_) (v:=.bool v1) ((HE1.out (w2.drewN n_) (pw_below_drewN HB2.out n_)).mono fun e w' ⟨h1,m,hm⟩=>⟨h1,m,hm⟩))
 obtain ⟨ad0,B0,d0_,e_0,hx0,hy0,hz0⟩:=at_L1 (cl HR0.out HB2.out) 0 (Int.le_refl _) (by omega)
 obtain ⟨ad1,B1,d1_,e_1,hx1,hy1,hz1⟩:=at_L1 (cl HR1.out HB2.out) 0 (Int.le_refl _) (by omega)
 subst e_0
 subst e_1
 have hm0:=Kd.C_max hz0
 have hm1:=Kd.C_max hz1
 obtain ⟨m0,hn0⟩ : ∃ m0 : Nat,m0 = (rd_L1 l0 0).length:=⟨_,rfl⟩
 obtain ⟨m1,hn1⟩ : ∃ m1 : Nat,m1 = (rd_L1 l1 0).length:=⟨_,rfl⟩
 rw [← hn0] at hx0 hm0
 rw [← hn1] at hx1 hm1
 have e0 : ad0.add (Int.toNat 0) = ad0:=by cases ad0;rfl
 have e1 : ad1.add (Int.toNat 0) = ad1:=by cases ad1;rfl
 rw [e0] at hx0
 rw [e1] at hx1
 have hs0 : IntKind.i64.wrap ((m0 : Int) - (m1 : Int)) = (m0 : Int) - (m1 : Int):=IntWalk.i64_in _ (by omega)
 have hs1 : IntKind.i64.wrap ((m1 : Int) - (m0 : Int)) = (m1 : Int) - (m0 : Int):=IntWalk.i64_in _ (by omega)
 have hf : channels_check.fit l0 l1 a2 ↔ (l0.length = l1.length∧(m0 : Int) - (m1 : Int) ≤ a2∧(m1 : Int) - (m0 : Int) ≤ a2):=by unfold channels_check.fit;rw [hn0,hn1]
 simp only [hf] at H5
 have HH:=A_ H5
 clear H5 hf hn0 hn1 hz0 hz1 hy0 hy1 e0 e1 hm0 hm1
 have hp0 : (0 : Int) < (l0.length : Int):=by omega
 have hp1 : (0 : Int) < (l1.length : Int):=by omega
 clear hl0 hl1
 have ev : r = if v0 = true∧v1 = true∧l0.length = l1.length∧(m0 : Int) - (m1 : Int) ≤ a2∧(m1 : Int) - (m0 : Int) ≤ a2 then 0 else 8:=by
  have:=HH.out
  split at this <;> rename_i g <;> cases this
  ·
   rw [if_pos g]
  ·
   rw [if_neg g]
 clear HH
 cases v0 with
 | false =>
  rw [if_neg (by simp)] at ev
  subst ev
  go_quiet (first|(go_at_call 56;with_reducible exact HQ0.out _)|(go_at_call 56;with_reducible exact HQ1.out _))
  go_wp2_with fail
  go_ret
  exact ⟨rfl,pw_below_drewN HB2.out _⟩
 | true =>
 cases v1 with
 | false =>
  rw [if_neg (by simp)] at ev
  subst ev
  go_quiet (first|(go_at_call 56;with_reducible exact HQ0.out _)|(go_at_call 56;with_reducible exact HQ1.out _))
  go_wp2_with fail
  go_ret
  exact ⟨rfl,pw_below_drewN HB2.out _⟩
 | true =>
 by_cases hL : l0.length = l1.length
 case neg =>
  have hLi : ((l0.length : Int) != (l1.length : Int)) = true:=bne_iff_ne.mpr (by omega)
  rw [if_neg (fun g=>hL g.2.2.1)] at ev
  subst ev
  clear hL
  go_quiet (first|(go_at_call 56;with_reducible exact HQ0.out _)|(go_at_call 56;with_reducible exact HQ1.out _))
  go_wp2_with fail
  go_ret
  exact ⟨rfl,pw_below_drewN HB2.out _⟩
 have hLi : ((l0.length : Int) != (l1.length : Int)) = false:=bne_eq_false_iff_eq.mpr (by omega)
 by_cases hD : (m0 : Int) - (m1 : Int) ≤ a2
 case neg =>
  have hDi : decide (a2 < (m0 : Int) - (m1 : Int)) = true:=decide_eq_true (by omega)
  rw [if_neg (fun g=>hD g.2.2.2.1)] at ev
  subst ev
  clear hL hD
  go_quiet (first|(go_at_call 56;with_reducible exact HQ0.out _)|(go_at_call 56;with_reducible exact HQ1.out _))
  go_wp2_with fail
  go_ret
  exact ⟨rfl,pw_below_drewN HB2.out _⟩
 have hDi : decide (a2 < (m0 : Int) - (m1 : Int)) = false:=decide_eq_false (by omega)
 by_cases hE : (m1 : Int) - (m0 : Int) ≤ a2
 case neg =>
  have hEi : decide (a2 < (m1 : Int) - (m0 : Int)) = true:=decide_eq_true (by omega)
  rw [if_neg (fun g=>hE g.2.2.2.2)] at ev
  subst ev
  clear hL hD hE
  go_quiet (first|(go_at_call 56;with_reducible exact HQ0.out _)|(go_at_call 56;with_reducible exact HQ1.out _))
  go_wp2_with fail
  go_ret
  exact ⟨rfl,pw_below_drewN HB2.out _⟩
 have hEi : decide (a2 < (m1 : Int) - (m0 : Int)) = false:=decide_eq_false (by omega)
 rw [if_pos ⟨rfl,rfl,hL,hD,hE⟩] at ev
 subst ev
 clear hL hD hE
 go_quiet (first|(go_at_call 56;with_reducible exact HQ0.out _)|(go_at_call 56;with_reducible exact HQ1.out _))
 go_wp2_with fail
 go_ret
 exact ⟨rfl,pw_below_drewN HB2.out _⟩

-- NOT PRINTED: function 35 (channels_search_least)

/-! ### channels_Apart: function 11 -/
def channels_Apart.f (k : Nat) (l0 : List (List Int)) (l1 : List (List Int)) (a2 : Int) : Option (Int × Int):=(channels_check.f k l0 l1 a2).bind fun e=>if e = 0 then (if X.OkC l0 l1 a2 then some (X.apart l0 l1 a2,0) else none) else some (0,e)
theorem channels_Apart.mono : ∀ a0 a1 a2 k,LeO (channels_Apart.f k a0 a1 a2) (channels_Apart.f (k + 1) a0 a1 a2):=by
 intro a0 a1 a2 k
 unfold channels_Apart.f
 exact LeO.bind (channels_check.mono _ _ _ _) (fun _=>LeO.refl _)
theorem channels_Apart.calls (k : Nat) (A0 : Option Addr) (c0 : Nat) (l0 : List (List Int)) (A1 : Option Addr) (c1 : Nat) (l1 : List (List Int)) (a2 : Int) (r1 : Int) (r2 : Int) (w : World) (hr0 : Kd.C (Kd.slice 3 (Kd.int .i64)) w A0 l0.length l0) (hc0 : l0.length ≤ c0) (hr1 : Kd.C (Kd.slice 3 (Kd.int .i64)) w A1 l1.length l1) (hc1 : l1.length ≤ c1) (h : channels_Apart.f k l0 l1 a2 = some (r1,r2)) :
  Calls Try.prog 11 #[.slice A0 l0.length c0,.slice A1 l1.length c1,.int .i64 a2] w fun e w'=>e = .returned (.tuple #[.int .i64 r1,.int .i64 r2])∧Below w.heap.size w w':=by
 unfold channels_Apart.f at h
 obtain ⟨e,he,h⟩:=Option.bind_eq_some_iff.mp h
 have hc:=A_ (fun (W : World) (hW : Below w.heap.size w W)=>channels_check.calls k A0 c0 l0 A1 c1 l1 a2 e W (cl hr0 hW) hc0 (cl hr1 hW) hc1 he)
 by_cases h0 : e = 0
 ·
  subst h0
  rw [if_pos rfl] at h
  by_cases ho : X.OkC l0 l1 a2
  ·
   rw [if_pos ho] at h
   cases h
   exact X.apart_yes A0 c0 l0 A1 c1 l1 a2 w hr0 hr1 ho hc
  ·
   rw [if_neg ho] at h
   cases h
 ·
  rw [if_neg h0] at h
  cases h
  exact X.apart_no A0 c0 l0 A1 c1 l1 a2 _ w h0 hc

/-! ### channels_Together: function 12 -/
def channels_Together.f (k : Nat) (l0 : List (List Int)) (l1 : List (List Int)) (a2 : Int) : Option (Int × Int):=(channels_check.f k l0 l1 a2).bind fun e=>if e = 0 then (if X.OkC l0 l1 a2 then some (X.together l0 l1 a2,0) else none) else some (0,e)
theorem channels_Together.mono : ∀ a0 a1 a2 k,LeO (channels_Together.f k a0 a1 a2) (channels_Together.f (k + 1) a0 a1 a2):=by
 intro a0 a1 a2 k
 unfold channels_Together.f
 exact LeO.bind (channels_check.mono _ _ _ _) (fun _=>LeO.refl _)
theorem channels_Together.calls (k : Nat) (A0 : Option Addr) (c0 : Nat) (l0 : List (List Int)) (A1 : Option Addr) (c1 : Nat) (l1 : List (List Int)) (a2 : Int) (r1 : Int) (r2 : Int) (w : World) (hr0 : Kd.C (Kd.slice 3 (Kd.int .i64)) w A0 l0.length l0) (hc0 : l0.length ≤ c0) (hr1 : Kd.C (Kd.slice 3 (Kd.int .i64)) w A1 l1.length l1) (hc1 : l1.length ≤ c1) (h : channels_Together.f k l0 l1 a2 = some (r1,r2)) :
  Calls Try.prog 12 #[.slice A0 l0.length c0,.slice A1 l1.length c1,.int .i64 a2] w fun e w'=>e = .returned (.tuple #[.int .i64 r1,.int .i64 r2])∧Below w.heap.size w w':=by
 unfold channels_Together.f at h
 obtain ⟨e,he,h⟩:=Option.bind_eq_some_iff.mp h
 have hc:=A_ (fun (W : World) (hW : Below w.heap.size w W)=>channels_check.calls k A0 c0 l0 A1 c1 l1 a2 e W (cl hr0 hW) hc0 (cl hr1 hW) hc1 he)
 by_cases h0 : e = 0
 ·
  subst h0
  rw [if_pos rfl] at h
  by_cases ho : X.OkC l0 l1 a2
  ·
   rw [if_pos ho] at h
   cases h
   exact X.together_yes A0 c0 l0 A1 c1 l1 a2 w hr0 hr1 ho hc
  ·
   rw [if_neg ho] at h
   cases h
 ·
  rw [if_neg h0] at h
  cases h
  exact X.together_no A0 c0 l0 A1 c1 l1 a2 _ w h0 hc

/-! ### shapesearchref04_Sample: function 75 -/
def shapesearchref04_Sample.f (a0 : Int) : Option (Bool):=if a0 ≥ (-1000) then (some (decide (a0 ≤ 1000))) else (some false)
set_option maxHeartbeats 8000000 in
set_option maxRecDepth 100000 in
theorem shapesearchref04_Sample.calls (a0 : Int) (r : Bool) (w : World) (h : shapesearchref04_Sample.f a0 = some r) :
  Calls Try.prog 75 #[.int .i64 a0] w fun e w'=>e = .returned (.bool r)∧Drawn0 w w':=by
 have H : (if a0 ≥ (-1000) then (some (decide (a0 ≤ 1000))) else (some false)) = some r:=h
 clear h
 by_cases c2 : a0 ≥ (-1000)
 ·
  rw [if_pos c2] at H
  have c2b0 : decide ((-1000) ≤ a0) = true:=decide_eq_true c2
  clear c2
  obtain rfl:=Option.some.inj H
  go_enter Try.func75,Try.ntmps75
  go_wp2
  go_ret
  exact ⟨by first|rfl|(simp;done)|(simp [*];done),by repeat (first|exact Drawn0.refl _|apply Drawn0.step)⟩
 ·
  rw [if_neg c2] at H
  have c2b0 : decide ((-1000) ≤ a0) = false:=decide_eq_false c2
  clear c2
  obtain rfl:=Option.some.inj H
  go_enter Try.func75,Try.ntmps75
  go_wp2
  go_ret
  exact ⟨by first|rfl|(simp;done)|(simp [*];done),by repeat (first|exact Drawn0.refl _|apply Drawn0.step)⟩

/-! ### shapesearchref12_Samples: function 66 -/
def shapesearchref12_Samples.l0 : Nat → List Int → Int → Int → Option (Int)
 | 0,_,_,_=>none
 | k + 1,x0,x5,x6=>if x6 < x5 then (if 0 ≤ x6 then (if x6 < (x0.length : Int) then ((shapesearchref04_Sample.f (rd x0 x6)).bind fun t250=>(if t250 = true then (shapesearchref12_Samples.l0 k x0 x5 (wrap64 (x6 + 1))) else (some 12))) else (none)) else (none)) else (some 0)
def shapesearchref12_Samples.f (k : Nat) (l0 : List Int) : Option (Int):=shapesearchref12_Samples.l0 k l0 (l0.length : Int) 0
theorem shapesearchref12_Samples.mono_l : ∀ k,(∀ y0 y1 y2,LeO (shapesearchref12_Samples.l0 k y0 y1 y2) (shapesearchref12_Samples.l0 (k + 1) y0 y1 y2))
 | 0=>fun _ _ _ r h=>by simp [shapesearchref12_Samples.l0] at h
 | k + 1=>by
  have ih0:=shapesearchref12_Samples.mono_l k
  ·
   intro y0 y1 y2
   unfold shapesearchref12_Samples.l0
   repeat' first
   | (with_reducible exact ih0 _ _ _)
   | (with_reducible exact LeO.refl _)
   | (with_reducible exact LeO.none _)
   | (with_reducible refine LeO.ite ?_ ?_)
   | (with_reducible refine LeO.bind ?_ (fun _=>?_))
   | exact ih0 _ _ _
   | exact LeO.none _
   | refine LeO.ite ?_ ?_
   | refine LeO.bind ?_ (fun _=>?_)
theorem shapesearchref12_Samples.mono : ∀ a0 k,LeO (shapesearchref12_Samples.f k a0) (shapesearchref12_Samples.f (k + 1) a0):=by
 intro a0 k
 have ih0:=shapesearchref12_Samples.mono_l k
 unfold shapesearchref12_Samples.f
 repeat' first
   | (with_reducible exact ih0 _ _ _)
   | (with_reducible exact LeO.refl _)
   | (with_reducible exact LeO.none _)
   | (with_reducible refine LeO.ite ?_ ?_)
   | (with_reducible refine LeO.bind ?_ (fun _=>?_))
   | exact ih0 _ _ _
   | exact LeO.none _
   | refine LeO.ite ?_ ?_
   | refine LeO.bind ?_ (fun _=>?_)
set_option maxHeartbeats 8000000 in
set_option maxRecDepth 100000 in
theorem shapesearchref12_Samples.calls (k : Nat) (A0 : Option Addr) (c0 : Nat) (l0 : List Int) (r : Int) (w : World) (hr0 : Kd.C (Kd.int .i64) w A0 l0.length l0) (hc0 : l0.length ≤ c0) (h : shapesearchref12_Samples.f k l0 = some r) :
  Calls Try.prog 66 #[.slice A0 l0.length c0] w fun e w'=>e = .returned (.int .i64 r)∧Drawn0 w w':=by
 have HR0:=A_ hr0
 have HC0:=A_ hc0
 clear hr0 hc0
 have H : (shapesearchref12_Samples.l0 k l0 (l0.length : Int) 0) = some r:=h
 clear h
 have H':=A_ H
 clear H
 go_enter Try.func66,Try.ntmps66
 go_wp2
 go_loopg [6] k (fun kq v6 w'=>∃ (x6_1 : Int),v6 = .int .i64 x6_1∧Aside0 (shapesearchref12_Samples.l0 kq l0 (l0.length : Int) x6_1 = some r)∧Aside0 (kq ≤ k)∧Drawn0 w w')
 case atStart=>exact ⟨(0),(by first|rfl|(simp;done)|(simp [*];done)),H',⟨Nat.le_refl _⟩,by repeat (first|exact Drawn0.refl _|apply Drawn0.step)⟩
 case round =>
  clear H'
  obtain ⟨x6_1,rfl,HA,HK1,⟨m1,rfl⟩⟩:=hrel
  cases gk with
  | zero=>exact absurd HA.out (by simp [shapesearchref12_Samples.l0])
  | succ k1 =>
   have H:=HA.out
   clear HA
   simp only [shapesearchref12_Samples.l0] at H
   by_cases c2 : x6_1 < (l0.length : Int)
   ·
    rw [if_pos c2] at H
    have c2b0 : decide (x6_1 < (l0.length : Int)) = true:=decide_eq_true c2
    clear c2
    by_cases c3 : 0 ≤ x6_1
    ·
     rw [if_pos c3] at H
     have c3b0 : decide (0 ≤ x6_1) = true:=decide_eq_true c3
     clear c3
     by_cases c4 : x6_1 < (l0.length : Int)
     ·
      rw [if_pos c4] at H
      have c4b0 : decide (x6_1 < (l0.length : Int)) = true:=decide_eq_true c4
      clear c4
      replace H:=Option.bind_eq_some_iff.mp H
      obtain ⟨t250,A50,H⟩:=H
      replace H : (if t250 = true then (shapesearchref12_Samples.l0 k1 l0 (l0.length : Int) (wrap64 (x6_1 + 1))) else (some 12)) = some r:=H
      have A5:=A_ A50
      clear A50
      by_cases c6 : t250 = true
      ·
       subst c6
       have H1 : (shapesearchref12_Samples.l0 k1 l0 (l0.length : Int) (wrap64 (x6_1 + 1))) = some r:=by rw [if_pos rfl] at H;exact H
       clear H
       have H:=H1
       clear H1
       have H':=A_ H
       clear H
       have p249 : 0 ≤ (x6_1 : Int):=of_decide_eq_true (by first|(with_reducible assumption)|assumption)
       have q249 : x6_1 < (l0.length : Int):=of_decide_eq_true (by first|(with_reducible assumption)|assumption)
       obtain ⟨ad249,e249,hx249_0⟩:=Kd.at_int HR0.out x6_1 p249 q249
       cases e249
       replace p249:=eq_true p249
       replace q249:=eq_true q249
       go_wp2_with (first|((with_reducible refine gate_callee (f:=75) rfl ?_);refine goesL_ (some 13) rfl rfl Try.func75 (by kernel_rfl) rfl #[.int .i64 (rd l0 x6_1)] rfl (by (try simp only [List.map_toArray,List.map_cons,List.map_nil]);first|done|rfl|(simp only [List.length_drop,List.length_take];rfl)) ?_;(with_reducible refine (shapesearchref04_Sample.calls (rd l0 x6_1) true _ A5.out).mono ?_);rintro e w' ⟨rfl,⟨nd,rfl⟩⟩;refine ⟨_,rfl,?_⟩))
       go_roundg k1
       case measure=>have:=HK1.out;omega
       case rel=>exact ⟨(wrap64 (x6_1 + 1)),(by first|rfl|(simp;done)|(simp [*];done)),H',⟨by have:=HK1.out;omega⟩,by repeat (first|exact Drawn0.refl _|apply Drawn0.step)⟩
      ·
       replace c6:=Bool.eq_false_iff.mpr c6
       subst c6
       have H1 : (some 12) = some r:=by rw [if_neg (show ¬ (false = true) by decide)] at H;exact H
       clear H
       have H:=H1
       clear H1
       obtain rfl:=Option.some.inj H
       have p249 : 0 ≤ (x6_1 : Int):=of_decide_eq_true (by first|(with_reducible assumption)|assumption)
       have q249 : x6_1 < (l0.length : Int):=of_decide_eq_true (by first|(with_reducible assumption)|assumption)
       obtain ⟨ad249,e249,hx249_0⟩:=Kd.at_int HR0.out x6_1 p249 q249
       cases e249
       replace p249:=eq_true p249
       replace q249:=eq_true q249
       go_wp2_with (first|((with_reducible refine gate_callee (f:=75) rfl ?_);refine goesL_ (some 13) rfl rfl Try.func75 (by kernel_rfl) rfl #[.int .i64 (rd l0 x6_1)] rfl (by (try simp only [List.map_toArray,List.map_cons,List.map_nil]);first|done|rfl|(simp only [List.length_drop,List.length_take];rfl)) ?_;(with_reducible refine (shapesearchref04_Sample.calls (rd l0 x6_1) false _ A5.out).mono ?_);rintro e w' ⟨rfl,⟨nd,rfl⟩⟩;refine ⟨_,rfl,?_⟩))
       go_ret
       exact ⟨by first|rfl|(simp;done)|(simp [*];done),by repeat (first|exact Drawn0.refl _|apply Drawn0.step)⟩
     ·
      rw [if_neg c4] at H
      exact absurd H (by simp)
    ·
     rw [if_neg c3] at H
     exact absurd H (by simp)
   ·
    rw [if_neg c2] at H
    have c2b0 : decide (x6_1 < (l0.length : Int)) = false:=decide_eq_false c2
    clear c2
    obtain rfl:=Option.some.inj H
    go_wp2
    go_ret
    exact ⟨by first|rfl|(simp;done)|(simp [*];done),by repeat (first|exact Drawn0.refl _|apply Drawn0.step)⟩

end Go.Proofs.Ytodipcfbgnljeaa.PChannelsPaths
