/- This file proves, function by function, what the Go functions that one law uses compute; most of it was printed by a program (wip/tools of this session, over the kit's print). -/
import Derived.Test.YtdnhfofmfpgmmaaPSegmentBackx0
import Derived.Test.YtdnhfofmfpgmmaaPSegmentBackx3
import Derived.Test.YtdnhfofmfpgmmaaPSegmentBackx4
namespace Go.Proofs.Ytdnhfofmfpgmmaa.PSegmentBack
open Go.RowKit Go.Proofs.YtdnhfofmfpgmmaaW.PrintWords Go.Proofs.YtdnhfofmfpgmmaaW.PrintLast Go.Proofs.YtdnhfofmfpgmmaaW.PrintMore
attribute [local go_sem] max2_int min2_int max_two min_two max_three min_three max_four min_four   -- for this text's walks alone
set_option linter.unusedVariables false
set_option linter.unusedSimpArgs false

/-! ### codec_Pack: function 101 -/
mutual
def codec_Pack.j0 : Nat → List Int → Int → Bool → Option (List Int × Int)
 | 0,_,_,_=>none
 | k + 1,x0,x1,x16=>if x16 = true then (some (([] : List Int),1)) else (if (x0.length : Int) > 2000 then (some (([] : List Int),4)) else ((codec_size.f x1 (x0.length : Int)).bind fun t186=>(if 0 ≤ t186 then (if (t186 : Int).toNat ≤ 281474976710656 then (codec_Pack.l0 k x1 (List.replicate (t186 : Int).toNat 0) x0 (x0.length : Int) 0) else (none)) else (none))))
def codec_Pack.l0 : Nat → Int → List Int → List Int → Int → Int → Option (List Int × Int)
 | 0,_,_,_,_,_=>none
 | k + 1,x1,x6,x25,x26,x27=>if x27 < x26 then (if 0 ≤ x27 then (if x27 < (x25.length : Int) then (if (rd x25 x27) < 0 then (codec_Pack.j2 k x1 x6 x27 (rd x25 x27) x25 x26 x27 true) else (if 0 ≤ x1 then (codec_Pack.j2 k x1 x6 x27 (rd x25 x27) x25 x26 x27 (decide ((rd x25 x27) ≥ (shl .i64 1 x1)))) else (none))) else (none)) else (none)) else (some (x6,0))
def codec_Pack.j2 : Nat → Int → List Int → Int → Int → List Int → Int → Int → Bool → Option (List Int × Int)
 | 0,_,_,_,_,_,_,_,_=>none
 | k + 1,x1,x6,x7,x8,x25,x26,x27,x39=>if x39 = true then (some (([] : List Int),1)) else (codec_Pack.l1 k x1 x6 x7 x8 x25 x26 x27 x1 0)
def codec_Pack.l1 : Nat → Int → List Int → Int → Int → List Int → Int → Int → Int → Int → Option (List Int × Int)
 | 0,_,_,_,_,_,_,_,_,_=>none
 | k + 1,x1,x6,x7,x8,x25,x26,x27,x40,x41=>if x41 < x40 then (if 0 ≤ x41 then (if (Go.bits .and .i64 (shr .i64 x8 x41) 1) = 1 then (if 0 ≤ (wrap64 (Int.tdiv (wrap64 ((wrap64 (x7 * x1)) + x41)) 8)) then (if (wrap64 (Int.tdiv (wrap64 ((wrap64 (x7 * x1)) + x41)) 8)) < (x6.length : Int) then (if 0 ≤ (Int.tmod (wrap64 ((wrap64 (x7 * x1)) + x41)) 8) then (codec_Pack.l1 k x1 (x6.set ((wrap64 (Int.tdiv (wrap64 ((wrap64 (x7 * x1)) + x41)) 8)) : Int).toNat (Go.bits .or .u8 (rd x6 (wrap64 (Int.tdiv (wrap64 ((wrap64 (x7 * x1)) + x41)) 8))) (shl .u8 1 (Int.tmod (wrap64 ((wrap64 (x7 * x1)) + x41)) 8)))) x7 x8 x25 x26 x27 x40 (wrap64 (x41 + 1))) else (none)) else (none)) else (none)) else (codec_Pack.l1 k x1 x6 x7 x8 x25 x26 x27 x40 (wrap64 (x41 + 1)))) else (none)) else (codec_Pack.l0 k x1 x6 x25 x26 (wrap64 (x27 + 1)))
end
def codec_Pack.f (k : Nat) (l0 : List Int) (a1 : Int) : Option (List Int × Int):=if a1 < 0 then (codec_Pack.j0 k l0 a1 true) else (codec_Pack.j0 k l0 a1 (decide (a1 > 32)))
theorem codec_Pack.mono_l : ∀ k,(∀ y0 y1 y2,LeO (codec_Pack.j0 k y0 y1 y2) (codec_Pack.j0 (k + 1) y0 y1 y2))∧(∀ y0 y1 y2 y3 y4,LeO (codec_Pack.l0 k y0 y1 y2 y3 y4) (codec_Pack.l0 (k + 1) y0 y1 y2 y3 y4))∧(∀ y0 y1 y2 y3 y4 y5 y6 y7,LeO (codec_Pack.j2 k y0 y1 y2 y3 y4 y5 y6 y7) (codec_Pack.j2 (k + 1) y0 y1 y2 y3 y4 y5 y6 y7))∧(∀ y0 y1 y2 y3 y4 y5 y6 y7 y8,LeO (codec_Pack.l1 k y0 y1 y2 y3 y4 y5 y6 y7 y8) (codec_Pack.l1 (k + 1) y0 y1 y2 y3 y4 y5 y6 y7 y8))
 | 0=>⟨fun _ _ _ r h=>by simp [codec_Pack.j0] at h,fun _ _ _ _ _ r h=>by simp [codec_Pack.l0] at h,fun _ _ _ _ _ _ _ _ r h=>by simp [codec_Pack.j2] at h,fun _ _ _ _ _ _ _ _ _ r h=>by simp [codec_Pack.l1] at h⟩
 | k + 1=>by
  obtain ⟨ih0,ih1,ih2,ih3⟩:=codec_Pack.mono_l k
  refine ⟨?_,?_,?_,?_⟩
  ·
   intro y0 y1 y2
   unfold codec_Pack.j0
   repeat' first|(with_reducible first|apply ih0|apply ih1|apply ih2|apply ih3|exact lz|refine LeO.ite ?_ ?_|refine LeO.bind ?_ fun _=>?_)
  ·
   intro y0 y1 y2 y3 y4
   unfold codec_Pack.l0
   repeat' first|(with_reducible first|apply ih0|apply ih1|apply ih2|apply ih3|exact lz|refine LeO.ite ?_ ?_|refine LeO.bind ?_ fun _=>?_)
  ·
   intro y0 y1 y2 y3 y4 y5 y6 y7
   unfold codec_Pack.j2
   repeat' first|(with_reducible first|apply ih0|apply ih1|apply ih2|apply ih3|exact lz|refine LeO.ite ?_ ?_|refine LeO.bind ?_ fun _=>?_)
  ·
   intro y0 y1 y2 y3 y4 y5 y6 y7 y8
   unfold codec_Pack.l1
   repeat' first|(with_reducible first|apply ih0|apply ih1|apply ih2|apply ih3|exact lz|refine LeO.ite ?_ ?_|refine LeO.bind ?_ fun _=>?_)
theorem codec_Pack.mono : ∀ a0 a1 k,LeO (codec_Pack.f k a0 a1) (codec_Pack.f (k + 1) a0 a1):=by
 intro a0 a1 k
 obtain ⟨ih0,ih1,ih2,ih3⟩:=codec_Pack.mono_l k
 unfold codec_Pack.f
 repeat' first|(with_reducible first|apply ih0|apply ih1|apply ih2|apply ih3|exact lz|refine LeO.ite ?_ ?_|refine LeO.bind ?_ fun _=>?_)
def codec_Pack.T16 : Bool × List (List Nat × List Nat):=(true,[([],[]),([],[]),([1],[1]),([0,2],[0,2]),([3],[3]),([],[]),([5],[5]),([6],[6]),([4,7],[4,7]),([0,2,0,1,2,3,4,5,6,7,8],[0,2]),([9,8,0,1,2,3,4,5,6,7,8],[8,9])])
def codec_Pack.B16 : List Nat:=[0,0,2,7,15,0,32,96,255,511,1023]
theorem codec_Pack.tab16 : rtab .any (opsOf Try.f101 16) = codec_Pack.T16:=by kernel_rfl
theorem codec_Pack.bits16 : waitsOk codec_Pack.T16.2 codec_Pack.B16 = true:=by kernel_rfl
set_option maxHeartbeats 8000000 in
set_option maxRecDepth 100000 in
theorem codec_Pack.calls (k : Nat) (A0 : Option Addr) (c0 : Nat) (l0 : List Int) (a1 : Int) (r1 : List Int) (r2 : Int) (w : World) (hr0 : Kd.C (Kd.int .i64) w A0 l0.length l0) (hc0 : l0.length ≤ c0) (h : codec_Pack.f k l0 a1 = some (r1,r2)) :
  Calls Try.prog 101 #[.slice A0 l0.length c0,.int .i64 a1] w fun e w'=>∃ v0_ : Value,e = .returned (.tuple #[v0_,.int .i64 r2])∧Kd.R (Kd.int .u8) 5 w' w.heap.size (fun _=>True) v0_ r1∧Below w.heap.size w w':=by
 have HR0:=A_ hr0
 have HC0:=A_ hc0
 clear hr0 hc0
 have HB:=A_ (Below.refl w.heap.size w)
 have H : (if a1 < 0 then (codec_Pack.j0 k l0 a1 true) else (codec_Pack.j0 k l0 a1 (decide (a1 > 32)))) = some (r1,r2):=h
 clear h
 have HC3:=A_ H
 clear H
 go_enter Try.func101,Try.ntmps101
 go_upto_region 1 with (fail)
 go_cut [16] (fun v16 wc=>∃ (kq : Nat) (x16_2 : Bool),v16 = .bool x16_2∧Aside0 (codec_Pack.j0 kq l0 a1 x16_2 = some (r1,r2))∧Aside0 (kq ≤ k)∧Aside0 (Below w.heap.size w wc))
 case first =>
  have H:=HC3.out
  clear HC3
  by_cases c4 : a1 < 0
  ·
   rw [if_pos c4] at H
   have c4b0 : decide (a1 < 0) = true:=decide_eq_true c4
   clear c4
   (first|rw [c4b0]|(simp only [i64_w,i32_w];rw [c4b0])|skip)
   have H':=A_ H
   clear H
   go_wp2
   go_meet
   case rel=>exact ⟨_,(true),uq2,H',⟨by first|omega|exact Nat.le_refl _⟩,⟨uq0⟩⟩
  ·
   rw [if_neg c4] at H
   have c4b0 : decide (a1 < 0) = false:=decide_eq_false c4
   clear c4
   (first|rw [c4b0]|(simp only [i64_w,i32_w];rw [c4b0])|skip)
   have H':=A_ H
   clear H
   go_wp2
   go_meet
   case rel=>exact ⟨_,(decide (a1 > 32)),uq2,H',⟨by first|omega|exact Nat.le_refl _⟩,⟨uq0⟩⟩
 case rest =>
  clear HC3
  try clear c1
  try clear p2
  try clear c4
  try clear c4b0
  obtain ⟨kq,x16_2,rfl,HA,HJ2,HB⟩:=hcut
  cases kq with
  | zero=>exact absurd HA.out (by simp [codec_Pack.j0])
  | succ kj2 =>
   have H:=HA.out
   clear HA
   simp only [codec_Pack.j0] at H
   by_cases c5 : x16_2 = true
   ·
    subst c5
    have H1 : (some (([] : List Int),1)) = some (r1,r2):=by rw [if_pos rfl] at H;exact H
    clear H
    have H:=H1
    clear H1
    simp only [Option.some.injEq,Prod.mk.injEq] at H
    obtain ⟨rfl,rfl⟩:=H
    go_wp2
    go_ret2
    exact ⟨_,by first|rfl|(simp [errW_none,errW_some] <;> rfl)|(simp [*,errW_none,errW_some] <;> rfl),by first|exact Kd.R_nil _ _ _ _ _|exact Kd.N_nil _ _ _ _ _|exact Kd.V_nil _ _ _ _ _|exact Kd.Q_nil _ _ _ _ _|exact Kd.S_nil _ _ _ _ _,uq0⟩
   ·
    replace c5:=Bool.eq_false_iff.mpr c5
    subst c5
    have H1 : (if (l0.length : Int) > 2000 then (some (([] : List Int),4)) else ((codec_size.f a1 (l0.length : Int)).bind fun t186=>(if 0 ≤ t186 then (if (t186 : Int).toNat ≤ 281474976710656 then (codec_Pack.l0 kj2 a1 (List.replicate (t186 : Int).toNat 0) l0 (l0.length : Int) 0) else (none)) else (none)))) = some (r1,r2):=by rw [if_neg (show ¬ (false = true) by decide)] at H;exact H
    clear H
    have H:=H1
    clear H1
    by_cases c6 : (l0.length : Int) > 2000
    ·
     rw [if_pos c6] at H
     have c6b0 : decide (2000 < (l0.length : Int)) = true:=decide_eq_true c6
     have c6b1 : decide (2000 < l0.length) = true:=decide_eq_true (by omega)
     clear c6
     simp only [Option.some.injEq,Prod.mk.injEq] at H
     obtain ⟨rfl,rfl⟩:=H
     go_wp2
     go_ret2
     exact ⟨_,by first|rfl|(simp [errW_none,errW_some] <;> rfl)|(simp [*,errW_none,errW_some] <;> rfl),by first|exact Kd.R_nil _ _ _ _ _|exact Kd.N_nil _ _ _ _ _|exact Kd.V_nil _ _ _ _ _|exact Kd.Q_nil _ _ _ _ _|exact Kd.S_nil _ _ _ _ _,uq0⟩
    ·
     rw [if_neg c6] at H
     have c6b0 : decide (2000 < (l0.length : Int)) = false:=decide_eq_false c6
     have c6b1 : decide (2000 < l0.length) = false:=decide_eq_false (by omega)
     clear c6
     replace H:=Option.bind_eq_some_iff.mp H
     obtain ⟨t186,A70,H⟩:=H
     replace H : (if 0 ≤ t186 then (if (t186 : Int).toNat ≤ 281474976710656 then (codec_Pack.l0 kj2 a1 (List.replicate (t186 : Int).toNat 0) l0 (l0.length : Int) 0) else (none)) else (none)) = some (r1,r2):=H
     have A7:=A_ A70
     clear A70
     by_cases c8 : 0 ≤ t186
     ·
      rw [if_pos c8] at H
      have c8b0:=eq_true c8
      have c8b1 : decide (0 ≤ t186) = true:=decide_eq_true c8
      clear c8
      by_cases c9 : (t186 : Int).toNat ≤ 281474976710656
      ·
       rw [if_pos c9] at H
       have c9b0:=eq_true c9
       have c9b1 : decide ((t186 : Int).toNat ≤ 281474976710656) = true:=decide_eq_true c9
       clear c9
       obtain ⟨y187,hy187⟩ : ∃ y_ : List Int,y_ = (List.replicate (t186 : Int).toNat 0):=⟨_,rfl⟩
       replace H : (codec_Pack.l0 kj2 a1 y187 l0 (l0.length : Int) 0) = some (r1,r2):=by first|(rw [hy187];with_reducible exact H)|(have H2_:=(Option.bind_some _ _).symm.trans H;rw [hy187];with_reducible exact H2_)|(have H2_:=(Option.bind_some _ _).symm.trans H;with_reducible exact H2_)|with_reducible exact H|(rw [hy187];exact H)|exact H
       have Ny187:=A_ hy187
       clear hy187
       have H':=A_ H
       clear H
       go_wp2_with (first|((with_reducible refine gate_callee (f:=102) rfl ?_);refine gl (some 23) Try.func102 #[.int .i64 a1,.int .i64 (l0.length : Int)] ?_;(with_reducible refine (codec_size.calls a1 (l0.length : Int) t186 _ A7.out).mono ?_);rintro e w' ⟨rfl,⟨nd,rfl⟩⟩;refine ⟨_,rfl,?_⟩)|((with_reducible refine gate_dst (N:=24) rfl ?_);refine Kd.R_make (Kd.int .u8) _ 5 rfl (N:=24) rfl 29 _ _ rfl t186 rfl rfl Try.underlying29 (.int .u8 0) 1 info5 rfl (by decide) (by omega) 0 (ok:=fun _=>True) (okp:=fun _=>True) rfl (fun _ hk=>hk) trivial (of_decide_eq_true uq1) (Nat.le_trans (Nat.mul_le_mul_right _ (of_decide_eq_true uq1 : t186.toNat ≤ 281474976710656)) (by omega)) (Below.refl _ _) (Nat.le_refl _) ?_;intro v188 w10 ho11 hb hg_ hnew_;clear hg_ hnew_;(first|rw [← Ny187.out] at ho11|(simp only [Int.reduceToNat] at ho11;rw [← Ny187.out] at ho11));have HO189:=A_ (Kd.R_lower ho11 (below_size uq0));replace HB:=A_ (below_step uq0 hb);clear hb ho11))
       go_loopg [27] kj2 (fun kq v27 w'=>∃ (x6_2 : List Int) (x27_2 : Int),v27 = .int .i64 x27_2∧Aside0 (codec_Pack.l0 kq a1 x6_2 l0 (l0.length : Int) x27_2 = some (r1,r2))∧Aside0 (kq ≤ kj2)∧Aside0 (Kd.R (Kd.int .u8) 5 w' w.heap.size (fun _=>True) v188 x6_2)∧Aside0 (Below w.heap.size w w'))
       case atStart=>exact ⟨(y187),(0),uq2,H',⟨Nat.le_refl _⟩,⟨rx HO189.out⟩,⟨uq0⟩⟩
       case round =>
        clear H'
        try clear c1
        try clear p2
        try clear c4
        try clear c4b0
        try clear c5
        try clear c6
        try clear c6b0
        try clear c6b1
        try clear c8
        try clear c8b0
        try clear c8b1
        try clear c9
        try clear c9b0
        try clear c9b1
        try clear c10
        try clear p2
        obtain ⟨x6_2,x27_2,rfl,HA,HK2,HO_6,HB⟩:=hrel
        cases gk with
        | zero=>exact absurd HA.out (by simp [codec_Pack.l0])
        | succ k2 =>
         have H:=HA.out
         clear HA
         simp only [codec_Pack.l0] at H
         by_cases c12 : x27_2 < (l0.length : Int)
         ·
          rw [if_pos c12] at H
          have c12b0 : decide (x27_2 < (l0.length : Int)) = true:=decide_eq_true c12
          clear c12
          by_cases c13 : 0 ≤ x27_2
          ·
           rw [if_pos c13] at H
           have c13b0 : decide (0 ≤ x27_2) = true:=decide_eq_true c13
           clear c13
           by_cases c14 : x27_2 < (l0.length : Int)
           ·
            rw [if_pos c14] at H
            have c14b0 : decide (x27_2 < (l0.length : Int)) = true:=decide_eq_true c14
            clear c14
            have HC15:=A_ H
            clear H
            have p190 : 0 ≤ (x27_2 : Int):=of_decide_eq_true uq1
            have q190 : x27_2 < (l0.length : Int):=of_decide_eq_true uq1
            obtain ⟨ad190,e190,hx190_0⟩:=Kd.at_int HR0.out x27_2 p190 q190
            cases e190
            replace hx190_0:=(HB.out.cell (World.block_lt_of_cell? w _ hx190_0)).trans hx190_0
            replace p190:=eq_true p190
            replace q190:=eq_true q190
            go_upto_region 9 with (fail)
            go_cut [39] (fun v39 wc=>∃ (kq : Nat) (x39_14 : Bool),v39 = .bool x39_14∧Aside0 (codec_Pack.j2 kq a1 x6_2 x27_2 (rd l0 x27_2) l0 (l0.length : Int) x27_2 x39_14 = some (r1,r2))∧Aside0 (kq ≤ k2)∧Aside0 (Kd.R (Kd.int .u8) 5 wc w.heap.size (fun _=>True) v188 x6_2)∧Aside0 (Below w.heap.size w wc))
            case first =>
             have H:=HC15.out
             clear HC15
             by_cases c16 : (rd l0 x27_2) < 0
             ·
              rw [if_pos c16] at H
              have c16b0 : decide ((rd l0 x27_2) < 0) = true:=decide_eq_true c16
              clear c16
              (first|rw [c16b0]|(simp only [i64_w,i32_w];rw [c16b0])|skip)
              have H':=A_ H
              clear H
              go_wp2
              go_meet
              case rel=>exact ⟨_,(true),uq2,H',⟨by have:=HJ2.out;have:=HK2.out;first|omega|exact Nat.le_refl _⟩,⟨rx HO_6.out⟩,⟨uq0⟩⟩
             ·
              rw [if_neg c16] at H
              have c16b0 : decide ((rd l0 x27_2) < 0) = false:=decide_eq_false c16
              clear c16
              (first|rw [c16b0]|(simp only [i64_w,i32_w];rw [c16b0])|skip)
              by_cases c17 : 0 ≤ a1
              ·
               rw [if_pos c17] at H
               have c17b0:=eq_true c17
               have c17b1 : decide (0 ≤ a1) = true:=decide_eq_true c17
               clear c17
               obtain ⟨ji18,hji18⟩ : ∃ j_ : Int,(shl .i64 1 a1) = j_:=⟨_,rfl⟩
               replace H : (codec_Pack.j2 k2 a1 x6_2 x27_2 (rd l0 x27_2) l0 (l0.length : Int) x27_2 (decide ((rd l0 x27_2) ≥ (ji18)))) = some (r1,r2):=by first|(rw [hji18] at H;exact H)|(simp only [hji18] at H ⊢;exact H)
               have hji18_ : (IntKind.i64.wrap (1 * 2 ^ min a1.toNat 64)) = ji18:=hji18
               have hji18z : a1 ≤ 64 → (IntKind.i64.wrap (1 * 2 ^ a1.toNat)) = ji18:=shl_small hji18
               have hji18u : (IntKind.i64.wrap (2 ^ min a1.toNat 64)) = ji18:=by have h_:=hji18_;rw [Int.one_mul] at h_;exact h_
               have hji18v : a1 ≤ 64 → (IntKind.i64.wrap (2 ^ a1.toNat)) = ji18:=fun hle_=>by have h_:=hji18z hle_;rw [Int.one_mul] at h_;exact h_
               have hji18y : (wrap64 (1 * 2 ^ min a1.toNat 64)) = ji18:=(i64_w _).symm.trans hji18_
               have hji18x : a1 ≤ 64 → (wrap64 (1 * 2 ^ a1.toNat)) = ji18:=fun h_=>(i64_w _).symm.trans (hji18z h_)
               have H':=A_ H
               clear H
               go_wp2
               go_meet
               case rel=>exact ⟨_,(decide ((rd l0 x27_2) ≥ (ji18))),(by first|rfl|(simp;done)|(simp only [← hji18] <;> (first|rfl|simp))|(simp [*];done)),H',⟨by have:=HJ2.out;have:=HK2.out;first|omega|exact Nat.le_refl _⟩,⟨rx HO_6.out⟩,⟨uq0⟩⟩
              ·
               rw [if_neg c17] at H
               exact absurd H (by simp)
            case rest =>
             clear HC15
             try clear c1
             try clear p1
             try clear q1
             try clear hx1
             try clear p2
             try clear c4
             try clear c4b0
             try clear c5
             try clear c6
             try clear c6b0
             try clear c6b1
             try clear p6
             try clear c8
             try clear c8b0
             try clear c8b1
             try clear c9
             try clear c9b0
             try clear c9b1
             try clear c10
             try clear c12
             try clear c12b0
             try clear c13
             try clear c13b0
             try clear c14
             try clear c14b0
             try clear c16
             try clear c16b0
             try clear c17
             try clear c17b0
             try clear c17b1
             try clear hx190_0
             try clear p190
             try clear p2
             try clear q190
             obtain ⟨kq,x39_14,rfl,HA,HJ14,HO_6,HB⟩:=hcut
             cases kq with
             | zero=>exact absurd HA.out (by simp [codec_Pack.j2])
             | succ kj14 =>
              have H:=HA.out
              clear HA
              simp only [codec_Pack.j2] at H
              by_cases c19 : x39_14 = true
              ·
               subst c19
               have H1 : (some (([] : List Int),1)) = some (r1,r2):=by rw [if_pos rfl] at H;exact H
               clear H
               have H:=H1
               clear H1
               simp only [Option.some.injEq,Prod.mk.injEq] at H
               obtain ⟨rfl,rfl⟩:=H
               go_wp2
               go_ret2
               exact ⟨_,by first|rfl|(simp [errW_none,errW_some] <;> rfl)|(simp [*,errW_none,errW_some] <;> rfl),by first|exact Kd.R_nil _ _ _ _ _|exact Kd.N_nil _ _ _ _ _|exact Kd.V_nil _ _ _ _ _|exact Kd.Q_nil _ _ _ _ _|exact Kd.S_nil _ _ _ _ _,uq0⟩
              ·
               replace c19:=Bool.eq_false_iff.mpr c19
               subst c19
               have H1 : (codec_Pack.l1 kj14 a1 x6_2 x27_2 (rd l0 x27_2) l0 (l0.length : Int) x27_2 a1 0) = some (r1,r2):=by rw [if_neg (show ¬ (false = true) by decide)] at H;exact H
               clear H
               have H:=H1
               clear H1
               have H':=A_ H
               clear H
               go_wp2
               go_loopg [41] kj14 (fun kq v41 w'=>∃ (x6_4 : List Int) (x41_4 : Int),v41 = .int .i64 x41_4∧Aside0 (codec_Pack.l1 kq a1 x6_4 x27_2 (rd l0 x27_2) l0 (l0.length : Int) x27_2 a1 x41_4 = some (r1,r2))∧Aside0 (kq ≤ kj14)∧Aside0 (Kd.R (Kd.int .u8) 5 w' w.heap.size (fun _=>True) v188 x6_4)∧Aside0 (Below w.heap.size w w'))
               case atStart=>exact ⟨(x6_2),(0),uq2,H',⟨Nat.le_refl _⟩,⟨rx HO_6.out⟩,⟨uq0⟩⟩
               case round =>
                clear H'
                try clear c1
                try clear p1
                try clear q1
                try clear hx1
                try clear p2
                try clear c4
                try clear c4b0
                try clear c5
                try clear c6
                try clear c6b0
                try clear c6b1
                try clear p6
                try clear c8
                try clear c8b0
                try clear c8b1
                try clear c9
                try clear c9b0
                try clear c9b1
                try clear c10
                try clear c12
                try clear c12b0
                try clear c13
                try clear c13b0
                try clear c14
                try clear c14b0
                try clear c16
                try clear c16b0
                try clear c17
                try clear c17b0
                try clear c17b1
                try clear c19
                try clear p19
                try clear q19
                try clear hx19
                try clear hx190_0
                try clear p1
                try clear p190
                try clear p2
                try clear p6
                try clear q1
                try clear q190
                obtain ⟨x6_4,x41_4,rfl,HA,HK4,HO_6,HB⟩:=hrel
                cases gk with
                | zero=>exact absurd HA.out (by simp [codec_Pack.l1])
                | succ k4 =>
                 have H:=HA.out
                 clear HA
                 simp only [codec_Pack.l1] at H
                 by_cases c20 : x41_4 < a1
                 ·
                  rw [if_pos c20] at H
                  have c20b0 : decide (x41_4 < a1) = true:=decide_eq_true c20
                  clear c20
                  by_cases c21 : 0 ≤ x41_4
                  ·
                   rw [if_pos c21] at H
                   have c21b0:=eq_true c21
                   have c21b1 : decide (0 ≤ x41_4) = true:=decide_eq_true c21
                   clear c21
                   obtain ⟨ji22,hji22⟩ : ∃ j_ : Int,(shr .i64 (rd l0 x27_2) x41_4) = j_:=⟨_,rfl⟩
                   replace H : (if (Go.bits .and .i64 (ji22) 1) = 1 then (if 0 ≤ (wrap64 (Int.tdiv (wrap64 ((wrap64 (x27_2 * a1)) + x41_4)) 8)) then (if (wrap64 (Int.tdiv (wrap64 ((wrap64 (x27_2 * a1)) + x41_4)) 8)) < (x6_4.length : Int) then (if 0 ≤ (Int.tmod (wrap64 ((wrap64 (x27_2 * a1)) + x41_4)) 8) then (codec_Pack.l1 k4 a1 (x6_4.set ((wrap64 (Int.tdiv (wrap64 ((wrap64 (x27_2 * a1)) + x41_4)) 8)) : Int).toNat (Go.bits .or .u8 (rd x6_4 (wrap64 (Int.tdiv (wrap64 ((wrap64 (x27_2 * a1)) + x41_4)) 8))) (shl .u8 1 (Int.tmod (wrap64 ((wrap64 (x27_2 * a1)) + x41_4)) 8)))) x27_2 (rd l0 x27_2) l0 (l0.length : Int) x27_2 a1 (wrap64 (x41_4 + 1))) else (none)) else (none)) else (none)) else (codec_Pack.l1 k4 a1 x6_4 x27_2 (rd l0 x27_2) l0 (l0.length : Int) x27_2 a1 (wrap64 (x41_4 + 1)))) = some (r1,r2):=by first|(rw [hji22] at H;exact H)|(simp only [hji22] at H ⊢;exact H)
                   have hji22_ : ((rd l0 x27_2) / 2 ^ min x41_4.toNat 64) = ji22:=hji22
                   have hji22z : x41_4 ≤ 64 → ((rd l0 x27_2) / 2 ^ x41_4.toNat) = ji22:=shr_small hji22
                   by_cases c23 : (Go.bits .and .i64 (ji22) 1) = 1
                   ·
                    rw [if_pos c23] at H
                    have c23b0 : ((Go.bits .and .i64 (ji22) 1) == 1) = true:=beq_iff_eq.mpr c23
                    have c23b1 : ((Go.bits .and .i64 (ji22) 1) != 1) = false:=bne_eq_false_iff_eq.mpr c23
                    clear c23
                    obtain ⟨ji24,hji24⟩ : ∃ j_ : Int,(wrap64 (Int.tdiv (wrap64 ((wrap64 (x27_2 * a1)) + x41_4)) 8)) = j_:=⟨_,rfl⟩
                    replace H : (if 0 ≤ (ji24) then (if (ji24) < (x6_4.length : Int) then (if 0 ≤ (Int.tmod (wrap64 ((wrap64 (x27_2 * a1)) + x41_4)) 8) then (codec_Pack.l1 k4 a1 (x6_4.set ((ji24) : Int).toNat (Go.bits .or .u8 (rd x6_4 (ji24)) (shl .u8 1 (Int.tmod (wrap64 ((wrap64 (x27_2 * a1)) + x41_4)) 8)))) x27_2 (rd l0 x27_2) l0 (l0.length : Int) x27_2 a1 (wrap64 (x41_4 + 1))) else (none)) else (none)) else (none)) = some (r1,r2):=by first|(rw [hji24] at H;exact H)|(simp only [hji24] at H ⊢;exact H)
                    have hji24w : (IntKind.i64.wrap (Int.tdiv (wrap64 ((wrap64 (x27_2 * a1)) + x41_4)) 8)) = ji24:=(i64_w _).trans hji24
                    by_cases c25 : 0 ≤ (ji24)
                    ·
                     rw [if_pos c25] at H
                     have c25b0 : decide (0 ≤ (ji24)) = true:=decide_eq_true c25
                     clear c25
                     by_cases c26 : (ji24) < (x6_4.length : Int)
                     ·
                      rw [if_pos c26] at H
                      have c26b0 : decide ((ji24) < (x6_4.length : Int)) = true:=decide_eq_true c26
                      clear c26
                      obtain ⟨ji27,hji27⟩ : ∃ j_ : Int,(Int.tmod (wrap64 ((wrap64 (x27_2 * a1)) + x41_4)) 8) = j_:=⟨_,rfl⟩
                      replace H : (if 0 ≤ (ji27) then (codec_Pack.l1 k4 a1 (x6_4.set ((ji24) : Int).toNat (Go.bits .or .u8 (rd x6_4 (ji24)) (shl .u8 1 (ji27)))) x27_2 (rd l0 x27_2) l0 (l0.length : Int) x27_2 a1 (wrap64 (x41_4 + 1))) else (none)) = some (r1,r2):=by first|(rw [hji27] at H;exact H)|(simp only [hji27] at H ⊢;exact H)
                      by_cases c28 : 0 ≤ (ji27)
                      ·
                       rw [if_pos c28] at H
                       have c28b0:=eq_true c28
                       have c28b1 : decide (0 ≤ (ji27)) = true:=decide_eq_true c28
                       clear c28
                       obtain ⟨ji29,hji29⟩ : ∃ j_ : Int,(shl .u8 1 (ji27)) = j_:=⟨_,rfl⟩
                       replace H : (codec_Pack.l1 k4 a1 (x6_4.set ((ji24) : Int).toNat (Go.bits .or .u8 (rd x6_4 (ji24)) (ji29))) x27_2 (rd l0 x27_2) l0 (l0.length : Int) x27_2 a1 (wrap64 (x41_4 + 1))) = some (r1,r2):=by first|(rw [hji29] at H;exact H)|(simp only [hji29] at H ⊢;exact H)
                       have hji29_ : (IntKind.u8.wrap (1 * 2 ^ min (ji27).toNat 8)) = ji29:=hji29
                       have hji29z : (ji27) ≤ 8 → (IntKind.u8.wrap (1 * 2 ^ (ji27).toNat)) = ji29:=shl_small hji29
                       have hji29u : (IntKind.u8.wrap (2 ^ min (ji27).toNat 8)) = ji29:=by have h_:=hji29_;rw [Int.one_mul] at h_;exact h_
                       have hji29v : (ji27) ≤ 8 → (IntKind.u8.wrap (2 ^ (ji27).toNat)) = ji29:=fun hle_=>by have h_:=hji29z hle_;rw [Int.one_mul] at h_;exact h_
                       obtain ⟨y192,hy192⟩ : ∃ y_ : List Int,y_ = (x6_4.set ((ji24) : Int).toNat (Go.bits .or .u8 (rd x6_4 (ji24)) (ji29))):=⟨_,rfl⟩
                       replace H : (codec_Pack.l1 k4 a1 y192 x27_2 (rd l0 x27_2) l0 (l0.length : Int) x27_2 a1 (wrap64 (x41_4 + 1))) = some (r1,r2):=by first|(rw [hy192];with_reducible exact H)|(have H2_:=(Option.bind_some _ _).symm.trans H;rw [hy192];with_reducible exact H2_)|(have H2_:=(Option.bind_some _ _).symm.trans H;with_reducible exact H2_)|with_reducible exact H|(rw [hy192];exact H)|exact H
                       have Ny192:=A_ hy192
                       clear hy192
                       have H':=A_ H
                       clear H
                       try go_wp2
                       have n0_:=A_ (Kd.R_drew HO_6.out)
                       have n1_:=A_ (below_drew1 HB.out)
                       clear HO_6
                       clear HB
                       have HO_6:=n0_
                       have HB:=n1_
                       clear n0_ n1_
                       obtain ⟨Ao32,co32,eo32⟩:=Kd.R_slice HO_6.out
                       (first|subst eo32|(injection eo32 with f1_ f2_ f3_;have f4_:=f1_.symm;have f5_:=f3_.symm;clear f1_ f2_ f3_;subst f4_;subst f5_))
                       have p191 : 0 ≤ ((ji24) : Int):=of_decide_eq_true uq1
                       have q191 : (ji24) < (x6_4.length : Int):=of_decide_eq_true uq1
                       obtain ⟨ad191,e191,hx191_0⟩:=Kd.at_int (rd_ HO_6.out).2.2 (ji24) p191 q191
                       cases e191
                       replace p191:=eq_true p191
                       replace q191:=eq_true q191
                       have p30 : 0 ≤ ((ji24) : Int):=of_decide_eq_true uq1
                       have q30 : ((ji24) : Int) < ((x6_4.length : Int) : Int):=of_decide_eq_true uq1
                       obtain ⟨go30,co30,eo30,gb30,gl30,cl30,HG30⟩:=Kd.R_form HO_6.out (by omega)
                       (first|cases eo30|(injection eo30 with ea_ en_ ec_;(first|subst ea_|(injection ea_ with ea_;subst ea_));subst ec_;clear en_))
                       have GB30:=A_ gb30
                       have GG30:=A_ HG30
                       clear gb30 gl30 HG30
                       (first|simp only [add_plain] at hx191_0|skip)
                       obtain ⟨hx30_0,hf30_0⟩:=Kd.R_celln 0 HO_6.out ((ji24) : Int) p30 q30
                       replace p30:=eq_true p30
                       replace q30:=eq_true q30
                       have HP33:=Kd.R_putn HO_6.out ((ji24) : Int) (Go.bits .or .u8 (rd x6_4 (ji24)) (ji29))
                       rw [← Ny192.out] at HP33
                       have HQ33:=A_ HP33
                       clear HP33
                       refine start_ (n:=11) (S:=fun w'=>w'.cell? ⟨go30,((ji24)).toNat,none⟩ = some (.int .u8 (rd x6_4 (ji24)))) (ds:=[10]) #[false,false,false,false,false,false,false,false,false,false,false] uq3 rfl rfl (hx191_0) (fun hHeld=>?_);refine with_tabW codec_Pack.tab16 codec_Pack.bits16 (fun HT_ HW_=>?_)
                       generalize wr.drew = w31 at HO_6 HB GG30 HQ33 hf30_0 hx191_0 hx30_0 hHeld ⊢
                       refine pu (i:=0) (N:=some 54) (v:=?_) (a':=?_) #[true,false,false,false,false,false,false,false,false,false,false] ?_ ?_ ?_
                       rotate_left
                       ·
                        intro w'
                        go_simp
                        with_reducible rfl
                       rotate_left
                       ·
                        simp only [Act.put,sa,sb,sc,i64_w,i32_w]
                        rfl
                       refine pu (i:=1) (N:=some 55) (v:=?_) (a':=?_) #[true,true,false,false,false,false,false,false,false,false,false] ?_ ?_ ?_
                       rotate_left
                       ·
                        intro w'
                        go_simp
                        with_reducible rfl
                       rotate_left
                       ·
                        simp only [Act.put,sa,sb,sc,i64_w,i32_w]
                        rfl
                       refine pu (i:=2) (N:=some 56) (v:=?_) (a':=?_) #[true,true,true,false,false,false,false,false,false,false,false] ?_ ?_ ?_
                       rotate_left
                       ·
                        intro w'
                        go_simp
                        with_reducible rfl
                       rotate_left
                       ·
                        simp only [Act.put,sa,sb,sc,i64_w,i32_w]
                        rfl
                       refine pu (i:=3) (N:=some 57) (v:=?_) (a':=?_) #[true,true,true,true,false,false,false,false,false,false,false] ?_ ?_ ?_
                       rotate_left
                       ·
                        intro w'
                        go_simp
                        with_reducible rfl
                       rotate_left
                       ·
                        simp only [Act.put,sa,sb,sc,i64_w,i32_w]
                        rfl
                       refine pu (i:=5) (N:=some 59) (v:=?_) (a':=?_) #[true,true,true,true,false,true,false,false,false,false,false] ?_ ?_ ?_
                       rotate_left
                       ·
                        intro w'
                        go_simp
                        with_reducible rfl
                       rotate_left
                       ·
                        simp only [Act.put,sa,sb,sc,i64_w,i32_w]
                        rfl
                       refine pu (i:=6) (N:=some 60) (v:=?_) (a':=?_) #[true,true,true,true,false,true,true,false,false,false,false] ?_ ?_ ?_
                       rotate_left
                       ·
                        intro w'
                        go_simp
                        with_reducible rfl
                       rotate_left
                       ·
                        simp only [Act.put,sa,sb,sc,i64_w,i32_w]
                        rfl
                       refine pu (i:=7) (N:=some 61) (v:=?_) (a':=?_) #[true,true,true,true,false,true,true,true,false,false,false] ?_ ?_ ?_
                       rotate_left
                       ·
                        intro w'
                        go_simp
                        with_reducible rfl
                       rotate_left
                       ·
                        simp only [Act.put,sa,sb,sc,i64_w,i32_w]
                        rfl
                       refine tk (i:=4) (N:=some 58) (v:=?_) (a':=?_) #[true,true,true,true,true,true,true,true,false,false,false] ?_ hHeld ?_ ?_
                       rotate_left
                       ·
                        intro w' s0
                        go_simp
                        with_reducible rfl
                       rotate_left
                       ·
                        simp only [Act.put,sa,sb,sc,i64_w,i32_w]
                        rfl
                       refine pu (i:=8) (N:=some 62) (v:=?_) (a':=?_) #[true,true,true,true,true,true,true,true,true,false,false] ?_ ?_ ?_
                       rotate_left
                       ·
                        intro w'
                        go_simp
                        with_reducible rfl
                       rotate_left
                       ·
                        simp only [Act.put,sa,sb,sc,i64_w,i32_w]
                        rfl
                       refine pu (i:=9) (N:=some 63) (v:=?_) (a':=?_) #[true,true,true,true,true,true,true,true,true,true,false] ?_ ?_ ?_
                       rotate_left
                       ·
                        intro w'
                        go_simp
                        with_reducible rfl
                       rotate_left
                       ·
                        simp only [Act.put,sa,sb,sc,i64_w,i32_w]
                        rfl
                       refine last_ (i:=10) (N:=none) #[true,true,true,true,true,true,true,true,true,true,true] rfl rfl (one_of HT_.out uq3) (by decide) (fun K hK=>?_)
                       refine skip_ (w1:=?_) (by rfl) rfl ?_ ?_
                       rotate_left
                       ·
                        go_simp
                        rfl
                       refine hK.out _ _ ?_
                       clear hK K
                       refine done_ (done_of HT_.out uq3) ?_
                       try go_wp2
                       go_roundg k4
                       case measure=>have:=HJ2.out;have:=HK2.out;have:=HJ14.out;have:=HK4.out;omega
                       case rel=>exact ⟨(y192),(wrap64 (x41_4 + 1)),uq2,H',⟨by have:=HJ2.out;have:=HK2.out;have:=HJ14.out;have:=HK4.out;omega⟩,⟨rx HQ33.out⟩,⟨by repeat (first|(with_reducible first|exact HB.out|apply ba|apply bb|apply bc|refine below_set ?_ GB30.out)|exact HB.out)⟩⟩
                      ·
                       rw [if_neg c28] at H
                       exact absurd H (by simp)
                     ·
                      rw [if_neg c26] at H
                      exact absurd H (by simp)
                    ·
                     rw [if_neg c25] at H
                     exact absurd H (by simp)
                   ·
                    rw [if_neg c23] at H
                    have c23b0 : ((Go.bits .and .i64 (ji22) 1) == 1) = false:=beq_eq_false_iff_ne.mpr c23
                    have c23b1 : ((Go.bits .and .i64 (ji22) 1) != 1) = true:=bne_iff_ne.mpr c23
                    have H':=A_ H
                    clear H
                    go_wp2
                    go_roundg k4
                    case measure=>have:=HJ2.out;have:=HK2.out;have:=HJ14.out;have:=HK4.out;omega
                    case rel=>exact ⟨(x6_4),(wrap64 (x41_4 + 1)),uq2,H',⟨by have:=HJ2.out;have:=HK2.out;have:=HJ14.out;have:=HK4.out;omega⟩,⟨rx HO_6.out⟩,⟨uq0⟩⟩
                  ·
                   rw [if_neg c21] at H
                   exact absurd H (by simp)
                 ·
                  rw [if_neg c20] at H
                  have c20b0 : decide (x41_4 < a1) = false:=decide_eq_false c20
                  clear c20
                  have H':=A_ H
                  clear H
                  go_wp2
                  go_roundg k4
                  case measure=>have:=HJ2.out;have:=HK2.out;have:=HJ14.out;have:=HK4.out;omega
                  case rel=>exact ⟨(x6_4),(wrap64 (x27_2 + 1)),uq2,H',⟨by have:=HJ2.out;have:=HK2.out;have:=HJ14.out;have:=HK4.out;omega⟩,⟨rx HO_6.out⟩,⟨uq0⟩⟩
           ·
            rw [if_neg c14] at H
            exact absurd H (by simp)
          ·
           rw [if_neg c13] at H
           exact absurd H (by simp)
         ·
          rw [if_neg c12] at H
          have c12b0 : decide (x27_2 < (l0.length : Int)) = false:=decide_eq_false c12
          clear c12
          simp only [Option.some.injEq,Prod.mk.injEq] at H
          obtain ⟨rfl,rfl⟩:=H
          go_wp2
          go_ret2
          exact ⟨_,by first|rfl|(simp [errW_none,errW_some] <;> rfl)|(simp [*,errW_none,errW_some] <;> rfl),rx HO_6.out,uq0⟩
      ·
       rw [if_neg c9] at H
       exact absurd H (by simp)
     ·
      rw [if_neg c8] at H
      exact absurd H (by simp)

/-! ### segment_packed_encode: function 96 -/
def segment_packed_encode.l0 : Nat → Int → List Int → Int → Int → Option (List Int × Bool)
 | 0,_,_,_,_=>none
 | k + 1,x6,x7,x16,x17=>if x17 < x16 then (if 0 ≤ x17 then (if x17 < (x7.length : Int) then (segment_packed_encode.l0 k x6 (x7.set (x17 : Int).toNat (wrap64 ((rd x7 x17) - x6))) x16 (wrap64 (x17 + 1))) else (none)) else (none)) else ((codec_Width.f k x7).bind fun t200=>((codec_Pack.f k x7 t200).bind fun bt201=>(some (bt201.1,(bt201.2 == 0)))))
def segment_packed_encode.f (k : Nat)  (l1 : List Int) : Option (List Int × Bool):=(slices_Min_int_int.f k l1).bind fun t194=>((slices_Clone_int_int.f l1).bind fun t195=>(segment_packed_encode.l0 k t194 t195 (t195.length : Int) 0))
theorem segment_packed_encode.mono_l : ∀ k,(∀ y0 y1 y2 y3,LeO (segment_packed_encode.l0 k y0 y1 y2 y3) (segment_packed_encode.l0 (k + 1) y0 y1 y2 y3))
 | 0=>fun _ _ _ _ r h=>by simp [segment_packed_encode.l0] at h
 | k + 1=>by
  have ih0:=segment_packed_encode.mono_l k
  ·
   intro y0 y1 y2 y3
   unfold segment_packed_encode.l0
   repeat' first|(with_reducible first|apply ih0|apply codec_Pack.mono|apply codec_Width.mono|apply slices_Min_int_int.mono|exact lz|refine LeO.ite ?_ ?_|refine LeO.bind ?_ fun _=>?_)
theorem segment_packed_encode.mono : ∀ a0 k,LeO (segment_packed_encode.f k a0) (segment_packed_encode.f (k + 1) a0):=by
 intro a0 k
 have ih0:=segment_packed_encode.mono_l k
 unfold segment_packed_encode.f
 repeat' first|(with_reducible first|apply ih0|apply codec_Pack.mono|apply codec_Width.mono|apply slices_Min_int_int.mono|exact lz|refine LeO.ite ?_ ?_|refine LeO.bind ?_ fun _=>?_)
set_option maxHeartbeats 8000000 in
set_option maxRecDepth 100000 in
theorem segment_packed_encode.calls (k : Nat)  (A1 : Option Addr) (c1 : Nat) (l1 : List Int) (r1 : List Int) (r2 : Bool) (w : World) (hr1 : Kd.C (Kd.int .i64) w A1 l1.length l1) (hc1 : l1.length ≤ c1) (h : segment_packed_encode.f k l1 = some (r1,r2)) :
  Calls Try.prog 96 #[.agg #[],.slice A1 l1.length c1] w fun e w'=>∃ v0_ : Value,e = .returned (.tuple #[v0_,.bool r2])∧Kd.R (Kd.int .u8) 5 w' w.heap.size (fun _=>True) v0_ r1∧Below w.heap.size w w':=by
 have hu101:=Try.underlying101
 have HR1:=A_ hr1
 have HC1:=A_ hc1
 clear hr1 hc1
 have HB:=A_ (Below.refl w.heap.size w)
 have H : ((slices_Min_int_int.f k l1).bind fun t194=>((slices_Clone_int_int.f l1).bind fun t195=>(segment_packed_encode.l0 k t194 t195 (t195.length : Int) 0))) = some (r1,r2):=h
 clear h
 replace H:=Option.bind_eq_some_iff.mp H
 obtain ⟨t194,A30,H⟩:=H
 replace H : ((slices_Clone_int_int.f l1).bind fun t195=>(segment_packed_encode.l0 k t194 t195 (t195.length : Int) 0)) = some (r1,r2):=H
 have A3:=A_ A30
 clear A30
 replace H:=Option.bind_eq_some_iff.mp H
 obtain ⟨t195,A40,H⟩:=H
 replace H : (segment_packed_encode.l0 k t194 t195 (t195.length : Int) 0) = some (r1,r2):=H
 have A4:=A_ A40
 clear A40
 have H':=A_ H
 clear H
 go_enter Try.func96,Try.ntmps96
 go_wp2_with (first|((with_reducible refine gate_dst (N:=2) rfl ?_);refine box_event ?hg (N:=2) ?hd (cs:=#[]) (t:=101) ?hr ?_;(case hd=>rfl);(case hg=>rfl);(case hr=>first|(go_simp;done)|(go_simp;rfl));intro gb193 hg w5 hbox hb;have n0_:=A_ (below_step uq0 hb);have n1_:=A_ (hbox);have n2_:=A_ ((uq8 : w.heap.size ≤ gb193));have n3_:=A_ ((uq8 : w.heap.size ≤ gb193));clear HB;have HB:=n0_;have BK193:=n1_;have GW193:=n2_;have GE193:=n3_;clear n0_ n1_ n2_ n3_;clear hb hbox hg)|((with_reducible refine gate_callee (f:=43) rfl ?_);refine gl (some 12) Try.func43 #[.slice A1 l1.length c1] ?_;(with_reducible refine (slices_Min_int_int.calls k _ _ l1 t194 _ ?side1 ?side2 A3.out).mono ?_);(case side1=>exact cx ((cl HR1.out HB.out)));(case side2=>exact HC1.out);rintro e w6 ⟨rfl,hb⟩;refine ⟨_,rfl,?_⟩;replace BK193:=A_ (blk_below (g:=gb193) (o:=.cells #[] 101 (0,0)) uq26 hb);replace HB:=A_ (below_step uq19 hb);(try clear hb);(try clear hb2);(try clear hk);(try clear hi))|((with_reducible refine gate_callee (f:=100) rfl ?_);refine gl (some 14) Try.func100 #[.slice A1 l1.length c1] ?_;(with_reducible refine (slices_Clone_int_int.calls _ _ l1 t195 _ ?side1 ?side2 A4.out).mono ?_);(case side1=>exact cx ((cl HR1.out HB.out)));(case side2=>exact HC1.out);rintro e w7 ⟨v196,rfl,ho0,hb⟩;refine ⟨_,rfl,?_⟩;have HO197:=A_ (Kd.R_lower ho0 (below_size uq19));replace BK193:=A_ (blk_below (g:=gb193) (o:=.cells #[] 101 (0,0)) uq26 hb);replace HB:=A_ (below_step uq19 hb);(try clear hb);(try clear hb2);(try clear hk);(try clear hi);(try clear ho0);obtain ⟨Ao8,co8,eo8⟩:=Kd.R_slice HO197.out;subst eo8))
 go_loopg [17] k (fun kq v17 w'=>∃ (x7_1 : List Int) (x17_1 : Int),v17 = .int .i64 x17_1∧Aside0 (segment_packed_encode.l0 kq t194 x7_1 (t195.length : Int) x17_1 = some (r1,r2))∧Aside0 (kq ≤ k)∧Aside0 (Kd.R (Kd.int .i64) 3 w' w.heap.size (fun _=>True) (.slice Ao8 t195.length co8) x7_1)∧Aside0 (w'.heap[gb193]? = some (.cells #[] 101 (0,0)))∧Aside0 (Below w.heap.size w w'))
 case atStart=>exact ⟨(t195),(0),uq2,H',⟨Nat.le_refl _⟩,⟨rx HO197.out⟩,⟨uq26⟩,⟨uq19⟩⟩
 case round =>
  clear H'
  try clear c1
  try clear p2
  try clear c4
  obtain ⟨x7_1,x17_1,rfl,HA,HK1,HO_7,BK193,HB⟩:=hrel
  have hl7_1:=(rd_ HO_7.out).1
  rw [hl7_1] at HO_7
  (try simp only [hl7_1])
  (try simp only [hl7_1] at BK193)
  cases gk with
  | zero=>exact absurd HA.out (by simp [segment_packed_encode.l0])
  | succ k1 =>
   have H:=HA.out
   clear HA
   simp only [segment_packed_encode.l0] at H
   by_cases c9 : x17_1 < (t195.length : Int)
   ·
    rw [if_pos c9] at H
    have c9b0 : decide (x17_1 < (t195.length : Int)) = true:=decide_eq_true c9
    (try (have c9b0h:=c9b0;simp only [hl7_1] at c9b0h))
    clear c9
    by_cases c10 : 0 ≤ x17_1
    ·
     rw [if_pos c10] at H
     have c10b0 : decide (0 ≤ x17_1) = true:=decide_eq_true c10
     clear c10
     by_cases c11 : x17_1 < (x7_1.length : Int)
     ·
      rw [if_pos c11] at H
      have c11b0 : decide (x17_1 < (x7_1.length : Int)) = true:=decide_eq_true c11
      (try (have c11b0h:=c11b0;simp only [hl7_1] at c11b0h))
      clear c11
      obtain ⟨y199,hy199⟩ : ∃ y_ : List Int,y_ = (x7_1.set (x17_1 : Int).toNat (wrap64 ((rd x7_1 x17_1) - t194))):=⟨_,rfl⟩
      replace H : (segment_packed_encode.l0 k1 t194 y199 (t195.length : Int) (wrap64 (x17_1 + 1))) = some (r1,r2):=by first|(rw [hy199];with_reducible exact H)|(have H2_:=(Option.bind_some _ _).symm.trans H;rw [hy199];with_reducible exact H2_)|(have H2_:=(Option.bind_some _ _).symm.trans H;with_reducible exact H2_)|with_reducible exact H|(rw [hy199];exact H)|exact H
      have Ny199:=A_ hy199
      clear hy199
      have H':=A_ H
      clear H
      have p198 : 0 ≤ (x17_1 : Int):=of_decide_eq_true uq1
      have q198 : x17_1 < (x7_1.length : Int):=of_decide_eq_true uq1
      obtain ⟨ad198,e198,hx198_0⟩:=Kd.at_int (rd_ HO_7.out).2.2 x17_1 p198 q198
      cases e198
      replace p198:=eq_true p198
      replace q198:=eq_true q198
      have p12 : 0 ≤ (x17_1 : Int):=of_decide_eq_true uq1
      have q12 : (x17_1 : Int) < ((x7_1.length : Int) : Int):=of_decide_eq_true uq1
      obtain ⟨go12,co12,eo12,gb12,gl12,cl12,HG12⟩:=Kd.R_form HO_7.out (by omega)
      (first|cases eo12|(injection eo12 with ea_ en_ ec_;(first|subst ea_|(injection ea_ with ea_;subst ea_));subst ec_;clear en_))
      have GB12:=A_ gb12
      have GG12:=A_ HG12
      clear gb12 gl12 HG12
      (first|simp only [add_plain] at hx198_0|skip)
      obtain ⟨hx12_0,hf12_0⟩:=Kd.R_celln 0 HO_7.out (x17_1 : Int) p12 q12
      replace p12:=eq_true p12
      replace q12:=eq_true q12
      have HP13:=Kd.R_putg HO_7.out (x17_1 : Int) (wrap64 ((rd x7_1 x17_1) - t194))
      go_wp2_with (first|((with_reducible refine gate_store (t:=3) (p:=26) rfl ?_);refine store_event (t:=3) (p:=26) (v:=?vo_w14) (w1:=(wr.setCell ⟨go12,(x17_1 : Int).toNat,none⟩ (.int .i64 (wrap64 ((rd x7_1 x17_1) - t194))))) ?hg ?ho ?hn ?hr ?_;(case ho=>rfl);(case hg=>rfl);(case hn=>rfl);(case hr=>first|(go_simp;done)|(go_simp;rfl));intro w14 hw;have hg : wr.grownBy w14 (some go12):=(by rw [hw];exact HP13.2);have hp_ : Kd.R (Kd.int .i64) 3 w14 w.heap.size (fun _=>True) (.slice (some ⟨go12,0,none⟩) x7_1.length co8) y199:=(by rw [hw,Ny199.out];exact HP13.1);clear HP13;have n0_:=A_ (hp_);have n1_:=A_ (blk_grown (g:=gb193) (o:=.cells #[] 101 (0,0)) uq26 hg (Kd.R_ne HO_7.out BK193.out (by decide)));have n2_:=A_ ((by rw [hw];exact below_set (HB.out) GB12.out : Below w.heap.size w w14));clear HO_7;clear BK193;clear HB;have HO_7:=n0_;have BK193:=n1_;have HB:=n2_;clear n0_ n1_ n2_;clear hg hw hp_))
      (try simp only [← hl7_1])
      go_roundg k1
      case measure=>have:=HK1.out;omega
      case rel=>exact ⟨(y199),(wrap64 (x17_1 + 1)),uq2,H',⟨by have:=HK1.out;omega⟩,⟨by (try simp only [hl7_1]);(with_reducible repeat (first|apply ra|apply rb|apply rc));exact HO_7.out⟩,⟨by (try simp only [hl7_1]);(with_reducible repeat (first|refine blk_drewN ?_ _|refine blk_drew ?_|refine blk_alloc ?_ _));exact BK193.out⟩,⟨uq19⟩⟩
     ·
      rw [if_neg c11] at H
      exact absurd H (by simp)
    ·
     rw [if_neg c10] at H
     exact absurd H (by simp)
   ·
    rw [if_neg c9] at H
    have c9b0 : decide (x17_1 < (t195.length : Int)) = false:=decide_eq_false c9
    (try (have c9b0h:=c9b0;simp only [hl7_1] at c9b0h))
    clear c9
    replace H:=Option.bind_eq_some_iff.mp H
    obtain ⟨t200,A150,H⟩:=H
    replace H : ((codec_Pack.f k1 x7_1 t200).bind fun bt201=>(some (bt201.1,(bt201.2 == 0)))) = some (r1,r2):=H
    have A15:=A_ A150
    clear A150
    replace H:=Option.bind_eq_some_iff.mp H
    obtain ⟨⟨t201,t202⟩,A160,H⟩:=H
    replace H : (some (t201,(t202 == 0))) = some (r1,r2):=H
    have A16:=A_ A160
    clear A160
    simp only [Option.some.injEq,Prod.mk.injEq] at H
    obtain ⟨rfl,rfl⟩:=H
    go_wp2_with (first|((with_reducible refine gate_callee (f:=99) rfl ?_);refine gl (some 31) Try.func99 #[.slice Ao8 x7_1.length co8] ?_;(with_reducible refine (codec_Width.calls k1 _ _ x7_1 t200 _ ?side1 ?side2 A15.out).mono ?_);(case side1=>exact cx ((rd_ HO_7.out).2.2));(case side2=>exact (rd_ HO_7.out).2.1);rintro e w17 ⟨rfl,hb⟩;refine ⟨_,rfl,?_⟩;replace HO_7:=A_ (rw_ (rx HO_7.out) hb);replace BK193:=A_ (blk_below (g:=gb193) (o:=.cells #[] 101 (0,0)) uq26 hb);replace HB:=A_ (below_step uq19 hb);(try clear hb);(try clear hb2);(try clear hk);(try clear hi))|((with_reducible refine gate_callee (f:=101) rfl ?_);refine gl (some 32) Try.func101 #[.slice Ao8 x7_1.length co8,.int .i64 t200] ?_;(with_reducible refine (codec_Pack.calls k1 _ _ x7_1 t200 t201 t202 _ ?side1 ?side2 A16.out).mono ?_);(case side1=>exact cx ((rd_ HO_7.out).2.2));(case side2=>exact (rd_ HO_7.out).2.1);rintro e w18 ⟨v203,rfl,ho0,hb⟩;refine ⟨_,rfl,?_⟩;replace HO_7:=A_ (rw_ (rx HO_7.out) hb);have HO204:=A_ (Kd.R_lower ho0 (below_size uq19));replace BK193:=A_ (blk_below (g:=gb193) (o:=.cells #[] 101 (0,0)) uq26 hb);replace HB:=A_ (below_step uq19 hb);(try clear hb);(try clear hb2);(try clear hk);(try clear hi);(try clear ho0)))
    go_ret2
    exact ⟨_,by first|rfl|(simp [errW_none,errW_some] <;> rfl)|(simp [*,errW_none,errW_some] <;> rfl),rx HO204.out,uq19⟩

/-! ### segment_packed_kind: function 97 -/
def segment_packed_kind.f  : Option (Int):=some 1
set_option maxHeartbeats 8000000 in
set_option maxRecDepth 100000 in
theorem segment_packed_kind.calls  (r : Int) (w : World) (h : segment_packed_kind.f  = some r) :
  Calls Try.prog 97 #[.agg #[]] w fun e w'=>e = .returned (.int .i64 r)∧Below w.heap.size w w':=by
 have hu101:=Try.underlying101
 have HB:=A_ (Below.refl w.heap.size w)
 have H : (some 1) = some r:=h
 clear h
 obtain rfl:=Option.some.inj H
 go_enter Try.func97,Try.ntmps97
 go_wp2_with (first|((with_reducible refine gate_dst (N:=1) rfl ?_);refine box_event ?hg (N:=1) ?hd (cs:=#[]) (t:=101) ?hr ?_;(case hd=>rfl);(case hg=>rfl);(case hr=>first|(go_simp;done)|(go_simp;rfl));intro gb205 hg w2 hbox hb;have n0_:=A_ (below_step uq0 hb);have n1_:=A_ (hbox);have n2_:=A_ ((uq8 : w.heap.size ≤ gb205));have n3_:=A_ ((uq8 : w.heap.size ≤ gb205));clear HB;have HB:=n0_;have BK205:=n1_;have GW205:=n2_;have GE205:=n3_;clear n0_ n1_ n2_ n3_;clear hb hbox hg))
 go_ret
 exact ⟨by first|rfl|(simp [errW_none,errW_some] <;> rfl)|(simp [*,errW_none,errW_some] <;> rfl),by repeat (first|(with_reducible first|exact HB.out|apply ba|apply bb|apply bc|refine below_set ?_ GE205.out)|exact HB.out)⟩

end Go.Proofs.Ytdnhfofmfpgmmaa.PSegmentBack
